-- Written by a program of this session (wip/tools/ext.py, over the kit's printer); not trusted: Lean checks it.
import Derived.Test.YtjdadmjomjhpcaaDoorPLeasex0
namespace Go.Proofs.YtjdadmjomjhpcaaDoor.PLease
open Go.RowKit Go.Proofs.YtjdadmjomjhpcaaDoorW.PrintWords Go.Proofs.YtjdadmjomjhpcaaDoorW.PrintLast Go.Proofs.YtjdadmjomjhpcaaDoorW.PrintMore
attribute [local go_sem] max2_int min2_int max_two min_two max_three min_three max_four min_four
set_option linter.unusedVariables false
set_option linter.unusedSimpArgs false
set_option maxHeartbeats 8000000
set_option maxRecDepth 100000

/-! ### cooperagelaw16_sameTable: function 8 -/
mutual
def cooperagelaw16_sameTable.j0 : Nat → Bool → Int → List (S42) → List (S49) → Int → List (S45) → List (S52) → Option (Bool)
 | 0, _, _, _, _, _, _, _ => none
 | k + 1, x33, x736000, x736001, x736002, x737000, x737001, x737002 => if x33 = true then (some false) else (cooperagelaw16_sameTable.l0 k 0 x736000 x736001 x736002 x737000 x737001 x737002)
def cooperagelaw16_sameTable.l0 : Nat → Int → Int → List (S42) → List (S49) → Int → List (S45) → List (S52) → Option (Bool)
 | 0, _, _, _, _, _, _, _ => none
 | k + 1, x5, x736000, x736001, x736002, x737000, x737001, x737002 => if x5 < (x736001.length : Int) then (if 0 ≤ x5 then (if x5 < (x737001.length : Int) then (if ((rd_T42 x736001 x5).f0) = ((rd_T45 x737001 x5).f0) then (if ((rd_T42 x736001 x5).f1).toList = ((rd_T45 x737001 x5).f1).toList then (if (((rd_T42 x736001 x5).f2) != ((rd_T45 x737001 x5).f2)) = true then (cooperagelaw16_sameTable.j2 k x5 true x736000 x736001 x736002 x737000 x737001 x737002) else (if ((rd_T42 x736001 x5).f3) = ((rd_T45 x737001 x5).f3) then (cooperagelaw16_sameTable.j2 k x5 (((rd_T42 x736001 x5).f4) != ((rd_T45 x737001 x5).f4)) x736000 x736001 x736002 x737000 x737001 x737002) else (cooperagelaw16_sameTable.j2 k x5 true x736000 x736001 x736002 x737000 x737001 x737002))) else (cooperagelaw16_sameTable.j2 k x5 true x736000 x736001 x736002 x737000 x737001 x737002)) else (cooperagelaw16_sameTable.j2 k x5 true x736000 x736001 x736002 x737000 x737001 x737002)) else (none)) else (none)) else (cooperagelaw16_sameTable.l1 k 0 x736000 x736001 x736002 x737000 x737001 x737002)
def cooperagelaw16_sameTable.j2 : Nat → Int → Bool → Int → List (S42) → List (S49) → Int → List (S45) → List (S52) → Option (Bool)
 | 0, _, _, _, _, _, _, _, _ => none
 | k + 1, x5, x83, x736000, x736001, x736002, x737000, x737001, x737002 => if x83 = true then (some false) else (cooperagelaw16_sameTable.l0 k (wrap64 (x5 + 1)) x736000 x736001 x736002 x737000 x737001 x737002)
def cooperagelaw16_sameTable.l1 : Nat → Int → Int → List (S42) → List (S49) → Int → List (S45) → List (S52) → Option (Bool)
 | 0, _, _, _, _, _, _, _ => none
 | k + 1, x8, x736000, x736001, x736002, x737000, x737001, x737002 => if x8 < (x736002.length : Int) then (if 0 ≤ x8 then (if x8 < (x737002.length : Int) then (if ((rd_T49 x736002 x8).f0) = ((rd_T52 x737002 x8).f0) then (if ((rd_T49 x736002 x8).f1).toList = ((rd_T52 x737002 x8).f1).toList then (if (((rd_T49 x736002 x8).f2) != ((rd_T52 x737002 x8).f2)) = true then (cooperagelaw16_sameTable.j4 k x8 true x736000 x736001 x736002 x737000 x737001 x737002) else (cooperagelaw16_sameTable.j4 k x8 (((rd_T49 x736002 x8).f3) != ((rd_T52 x737002 x8).f3)) x736000 x736001 x736002 x737000 x737001 x737002)) else (cooperagelaw16_sameTable.j4 k x8 true x736000 x736001 x736002 x737000 x737001 x737002)) else (cooperagelaw16_sameTable.j4 k x8 true x736000 x736001 x736002 x737000 x737001 x737002)) else (none)) else (none)) else (some true)
def cooperagelaw16_sameTable.j4 : Nat → Int → Bool → Int → List (S42) → List (S49) → Int → List (S45) → List (S52) → Option (Bool)
 | 0, _, _, _, _, _, _, _, _ => none
 | k + 1, x8, x126, x736000, x736001, x736002, x737000, x737001, x737002 => if x126 = true then (some false) else (cooperagelaw16_sameTable.l1 k (wrap64 (x8 + 1)) x736000 x736001 x736002 x737000 x737001 x737002)
end
def cooperagelaw16_sameTable.f (k : Nat) (a0_0 : Int) (l0_1 : List (S42)) (l0_2 : List (S49)) (a1_0 : Int) (l1_1 : List (S45)) (l1_2 : List (S52)) : Option (Bool) := if a0_0 = a1_0 then (if (l0_1.length : Int) = (l1_1.length : Int) then (cooperagelaw16_sameTable.j0 k ((l0_2.length : Int) != (l1_2.length : Int)) a0_0 l0_1 l0_2 a1_0 l1_1 l1_2) else (cooperagelaw16_sameTable.j0 k true a0_0 l0_1 l0_2 a1_0 l1_1 l1_2)) else (cooperagelaw16_sameTable.j0 k true a0_0 l0_1 l0_2 a1_0 l1_1 l1_2)
theorem cooperagelaw16_sameTable.mono_l : ∀ k, (∀ y0 y1 y2 y3 y4 y5 y6, LeO (cooperagelaw16_sameTable.j0 k y0 y1 y2 y3 y4 y5 y6) (cooperagelaw16_sameTable.j0 (k + 1) y0 y1 y2 y3 y4 y5 y6)) ∧ (∀ y0 y1 y2 y3 y4 y5 y6, LeO (cooperagelaw16_sameTable.l0 k y0 y1 y2 y3 y4 y5 y6) (cooperagelaw16_sameTable.l0 (k + 1) y0 y1 y2 y3 y4 y5 y6)) ∧ (∀ y0 y1 y2 y3 y4 y5 y6 y7, LeO (cooperagelaw16_sameTable.j2 k y0 y1 y2 y3 y4 y5 y6 y7) (cooperagelaw16_sameTable.j2 (k + 1) y0 y1 y2 y3 y4 y5 y6 y7)) ∧ (∀ y0 y1 y2 y3 y4 y5 y6, LeO (cooperagelaw16_sameTable.l1 k y0 y1 y2 y3 y4 y5 y6) (cooperagelaw16_sameTable.l1 (k + 1) y0 y1 y2 y3 y4 y5 y6)) ∧ (∀ y0 y1 y2 y3 y4 y5 y6 y7, LeO (cooperagelaw16_sameTable.j4 k y0 y1 y2 y3 y4 y5 y6 y7) (cooperagelaw16_sameTable.j4 (k + 1) y0 y1 y2 y3 y4 y5 y6 y7))
 | 0 => ⟨fun _ _ _ _ _ _ _ r h => by simp [cooperagelaw16_sameTable.j0] at h, fun _ _ _ _ _ _ _ r h => by simp [cooperagelaw16_sameTable.l0] at h, fun _ _ _ _ _ _ _ _ r h => by simp [cooperagelaw16_sameTable.j2] at h, fun _ _ _ _ _ _ _ r h => by simp [cooperagelaw16_sameTable.l1] at h, fun _ _ _ _ _ _ _ _ r h => by simp [cooperagelaw16_sameTable.j4] at h⟩
 | k + 1 => by
  obtain ⟨ih0, ih1, ih2, ih3, ih4⟩ := cooperagelaw16_sameTable.mono_l k
  refine ⟨?_, ?_, ?_, ?_, ?_⟩
  ·intros
   unfold cooperagelaw16_sameTable.j0
   exact zLe
  ·intros
   unfold cooperagelaw16_sameTable.l0
   exact zLe
  ·intros
   unfold cooperagelaw16_sameTable.j2
   exact zLe
  ·intros
   unfold cooperagelaw16_sameTable.l1
   exact zLe
  ·intros
   unfold cooperagelaw16_sameTable.j4
   exact zLe
theorem cooperagelaw16_sameTable.mono : ∀ a0 a1 a2 a3 a4 a5 k, LeO (cooperagelaw16_sameTable.f k a0 a1 a2 a3 a4 a5) (cooperagelaw16_sameTable.f (k + 1) a0 a1 a2 a3 a4 a5) := by
 intro a0 a1 a2 a3 a4 a5 k
 obtain ⟨ih0, ih1, ih2, ih3, ih4⟩ := cooperagelaw16_sameTable.mono_l k
 unfold cooperagelaw16_sameTable.f
 exact zLe
theorem cooperagelaw16_sameTable.calls (k : Nat) (a0_0 : Int) (A0_1 : Option Addr) (c0_1 : Nat) (l0_1 : List (S42)) (A0_2 : Option Addr) (c0_2 : Nat) (l0_2 : List (S49)) (a1_0 : Int) (A1_1 : Option Addr) (c1_1 : Nat) (l1_1 : List (S45)) (A1_2 : Option Addr) (c1_2 : Nat) (l1_2 : List (S52)) (r : Bool) (w : World) (hr0_1 : Kd.C k42 w A0_1 l0_1.length l0_1) (hc0_1 : l0_1.length ≤ c0_1) (hr0_2 : Kd.C k49 w A0_2 l0_2.length l0_2) (hc0_2 : l0_2.length ≤ c0_2) (hr1_1 : Kd.C k45 w A1_1 l1_1.length l1_1) (hc1_1 : l1_1.length ≤ c1_1) (hr1_2 : Kd.C k52 w A1_2 l1_2.length l1_2) (hc1_2 : l1_2.length ≤ c1_2) (h : cooperagelaw16_sameTable.f k a0_0 l0_1 l0_2 a1_0 l1_1 l1_2 = some r) :
  Calls Tryd.prog 8 #[.agg #[.int .i64 a0_0, .slice A0_1 l0_1.length c0_1, .slice A0_2 l0_2.length c0_2], .agg #[.int .i64 a1_0, .slice A1_1 l1_1.length c1_1, .slice A1_2 l1_2.length c1_2]] w fun e w' => e = .returned (.bool r) ∧ Below w.heap.size w w' := by
 have hu28 := Tryd.underlying28
 have hu32 := Tryd.underlying32
 have hu42 := Tryd.underlying42
 have hu45 := Tryd.underlying45
 have hu49 := Tryd.underlying49
 have hu52 := Tryd.underlying52
 have HR0_1 := ka hr0_1
 have HC0_1 := ka hc0_1
 clear hr0_1 hc0_1
 have HR0_2 := ka hr0_2
 have HC0_2 := ka hc0_2
 clear hr0_2 hc0_2
 have HR1_1 := ka hr1_1
 have HC1_1 := ka hc1_1
 clear hr1_1 hc1_1
 have HR1_2 := ka hr1_2
 have HC1_2 := ka hc1_2
 clear hr1_2 hc1_2
 have HB := ka (Below.refl w.heap.size w)
 have H : (if a0_0 = a1_0 then (if (l0_1.length : Int) = (l1_1.length : Int) then (cooperagelaw16_sameTable.j0 k ((l0_2.length : Int) != (l1_2.length : Int)) a0_0 l0_1 l0_2 a1_0 l1_1 l1_2) else (cooperagelaw16_sameTable.j0 k true a0_0 l0_1 l0_2 a1_0 l1_1 l1_2)) else (cooperagelaw16_sameTable.j0 k true a0_0 l0_1 l0_2 a1_0 l1_1 l1_2)) = some r := h
 clear h
 have HC3 := ka H
 clear H
 go_enter Tryd.func8, Tryd.ntmps8
 go_upto_region 1 with (first | ((with_reducible refine gate_dst (N := 2) rfl ?_); (try (refine gate_guard (by rfl) ?_; dsimp only)); refine box_event ?hg (N := 2) ?hd (cs := #[.int .i64 a0_0, .slice A0_1 l0_1.length c0_1, .slice A0_2 l0_2.length c0_2]) (t := 28) ?hr ?_; (case hd => rfl); (case hg => rfl); (case hr => (go_simp; try rfl)); intro gb735 hg w4 hbox hb; have BK735 := ka (hbox); have GW735 := ka (zG hg (zL HB.out)); replace HB := ka (below_step (zL HB.out) hb); clear hb hbox hg) | ((with_reducible refine gate_dst (N := 3) rfl ?_); (try (refine gate_guard (by rfl) ?_; dsimp only)); refine box_event ?hg (N := 3) ?hd (cs := #[.int .i64 a1_0, .slice A1_1 l1_1.length c1_1, .slice A1_2 l1_2.length c1_2]) (t := 32) ?hr ?_; (case hd => rfl); (case hg => rfl); (case hr => (go_simp; try rfl)); intro gb736 hg w5 hbox hb; have BK736 := ka (hbox); have GW736 := ka (zG hg (zL HB.out)); replace HB := ka (below_step (zL HB.out) hb); have NB735_736 := ka (zNK hg BK735.out); have NB736_735 := ka (zOK hg BK735.out); replace BK735 := ka (zB BK735.out hb); clear hb hbox hg))
 (try simp only [Act.put, List.setIfInBounds_toArray, List.set_cons_zero, List.set_cons_succ])
 go_cut [33] (fun v33 wc => ∃ (kq : Nat) (x33_2 : Bool), v33 = .bool x33_2 ∧ Aside0 (cooperagelaw16_sameTable.j0 kq x33_2 a0_0 l0_1 l0_2 a1_0 l1_1 l1_2 = some r) ∧ Aside0 (kq ≤ k) ∧ Aside0 (wc.heap[gb735]? = some (.cells #[.int .i64 a0_0, (.slice A0_1 l0_1.length c0_1), (.slice A0_2 l0_2.length c0_2)] 28 (0, 0))) ∧ Aside0 (wc.heap[gb736]? = some (.cells #[.int .i64 a1_0, (.slice A1_1 l1_1.length c1_1), (.slice A1_2 l1_2.length c1_2)] 32 (0, 0))) ∧ Aside0 (Below w.heap.size w wc))
 case first =>
  have H := HC3.out
  clear HC3
  by_cases c6 : a0_0 = a1_0
  ·rw [if_pos c6] at H
   have c6b0 := zb0 c6
   have c6b1 := zb1 c6
   clear c6
   (first | rw [c6b0] | (simp only [i64_w, i32_w]; rw [c6b0]) | rw [isE_ c6b0] | skip)
   by_cases c7 : (l0_1.length : Int) = (l1_1.length : Int)
   ·rw [if_pos c7] at H
    have c7b0 := zb0 c7
    have c7b1 := zb1 c7
    have c7b2 : (l0_1.length == l1_1.length) = true := by first | simpa using c7 | (simp at c7 ⊢; omega)
    clear c7
    have H' := ka H
    clear H
    have hnb8 := NB735_736.out
    have hnc8 := NB736_735.out
    obtain ⟨z9_0, z9_1, z9_2, y9_0, y9_1, y9_2⟩ := zC3 BK735.out
    obtain ⟨z10_0, z10_1, z10_2, y10_0, y10_1, y10_2⟩ := zC3 BK736.out
    go_wp2
    go_meet
    case rel => exact ⟨_, (((l0_2.length : Int) != (l1_2.length : Int))), zS, H', ⟨by first | omega | exact Nat.le_refl _⟩, ⟨zK BK735.out⟩, ⟨zK BK736.out⟩, ⟨zL HB.out⟩⟩
   rw [if_neg c7] at H
   have c7b0 := zn0 c7
   have c7b1 := zn1 c7
   have c7b2 : (l0_1.length == l1_1.length) = false := by first | simpa using c7 | (simp at c7 ⊢; omega)
   have H' := ka H
   clear H
   have hnb11 := NB735_736.out
   have hnc11 := NB736_735.out
   obtain ⟨z12_0, z12_1, z12_2, y12_0, y12_1, y12_2⟩ := zC3 BK735.out
   obtain ⟨z13_0, z13_1, z13_2, y13_0, y13_1, y13_2⟩ := zC3 BK736.out
   go_wp2
   go_meet
   case rel => exact ⟨_, (true), zS, H', ⟨by first | omega | exact Nat.le_refl _⟩, ⟨zK BK735.out⟩, ⟨zK BK736.out⟩, ⟨zL HB.out⟩⟩
  rw [if_neg c6] at H
  have c6b0 := zn0 c6
  have c6b1 := zn1 c6
  (first | rw [c6b0] | (simp only [i64_w, i32_w]; rw [c6b0]) | rw [isE_ c6b0] | skip)
  have H' := ka H
  clear H
  have hnb14 := NB735_736.out
  have hnc14 := NB736_735.out
  obtain ⟨z15_0, z15_1, z15_2, y15_0, y15_1, y15_2⟩ := zC3 BK735.out
  obtain ⟨z16_0, z16_1, z16_2, y16_0, y16_1, y16_2⟩ := zC3 BK736.out
  go_wp2
  go_meet
  case rel => exact ⟨_, (true), zS, H', ⟨by first | omega | exact Nat.le_refl _⟩, ⟨zK BK735.out⟩, ⟨zK BK736.out⟩, ⟨zL HB.out⟩⟩
 case rest =>
  clear HC3
  obtain ⟨kq, x33_2, rfl, HA, HJ2, BK735, BK736, HB⟩ := hcut
  cases kq with
  | zero => exact absurd HA.out (by simp [cooperagelaw16_sameTable.j0])
  | succ kj2 =>
   have H := HA.out
   clear HA
   simp only [cooperagelaw16_sameTable.j0] at H
   by_cases c17 : x33_2 = true
   ·subst c17
    rw [if_pos rfl] at H
    obtain rfl := Option.some.inj H
    go_wp2
    go_ret
    exact ⟨zE, zL HB.out⟩
   replace c17 := Bool.eq_false_iff.mpr c17
   subst c17
   rw [if_neg (show ¬ (false = true) by decide)] at H
   have H' := ka H
   clear H
   go_wp2
   go_loopg [5] kj2 (fun kq v5 w' => ∃ (x5_2 : Int), v5 = .int .i64 x5_2 ∧ Aside0 (cooperagelaw16_sameTable.l0 kq x5_2 a0_0 l0_1 l0_2 a1_0 l1_1 l1_2 = some r) ∧ Aside0 (kq ≤ kj2) ∧ Aside0 (w'.heap[gb735]? = some (.cells #[.int .i64 a0_0, (.slice A0_1 l0_1.length c0_1), (.slice A0_2 l0_2.length c0_2)] 28 (0, 0))) ∧ Aside0 (w'.heap[gb736]? = some (.cells #[.int .i64 a1_0, (.slice A1_1 l1_1.length c1_1), (.slice A1_2 l1_2.length c1_2)] 32 (0, 0))) ∧ Aside0 (Below w.heap.size w w'))
   case atStart => exact ⟨(0), zS, H', ⟨Nat.le_refl _⟩, ⟨zK BK735.out⟩, ⟨zK BK736.out⟩, ⟨zL HB.out⟩⟩
   case round =>
    clear H'
    try clear c17
    obtain ⟨x5_2, rfl, HA, HK2, BK735, BK736, HB⟩ := hrel
    cases gk with
    | zero => exact absurd HA.out (by simp [cooperagelaw16_sameTable.l0])
    | succ k2 =>
     have H := HA.out
     clear HA
     simp only [cooperagelaw16_sameTable.l0] at H
     by_cases c18 : x5_2 < (l0_1.length : Int)
     ·rw [if_pos c18] at H
      have c18b0 := zdt c18
      clear c18
      replace H := zif H
      obtain ⟨c19, H⟩ := H
      have c19b0 := zdt c19
      clear c19
      replace H := zif H
      obtain ⟨c20, H⟩ := H
      have c20b0 := zdt c20
      clear c20
      have HC21 := ka H
      clear H
      have hnb22 := NB735_736.out
      have hnc22 := NB736_735.out
      obtain ⟨z23_0, z23_1, z23_2, y23_0, y23_1, y23_2⟩ := zC3 BK735.out
      have p737 : 0 ≤ (x5_2 : Int) := zD
      have q737 : x5_2 < (l0_1.length : Int) := zD
      obtain ⟨ad737, e737, hx737_0, hx737_1, hx737_2, hx737_3, hx737_4⟩ := at_T42 HR0_1.out x5_2 p737 q737
      cases e737
      replace hx737_0 := zX HB.out hx737_0
      replace hx737_1 := zX HB.out hx737_1
      replace hx737_2 := zX HB.out hx737_2
      replace hx737_3 := zX HB.out hx737_3
      replace hx737_4 := zX HB.out hx737_4
      replace p737 := eq_true p737
      replace q737 := eq_true q737
      go_upto_region 8 with (first | ((with_reducible refine gate_dst (N := 6) rfl ?_); (try (refine gate_guard (by rfl) ?_; dsimp only)); refine box_event ?hg (N := 6) ?hd (cs := #[.int .i64 0, .string ⟨#[]⟩, .bool false, .int .i64 0, .int .i64 0]) (t := 42) ?hr ?_; (case hd => rfl); (case hg => rfl); (case hr => (go_simp; try rfl)); intro gb738 hg w24 hbox hb; have BK738 := ka (hbox); have GW738 := ka (zG hg (zL HB.out)); replace HB := ka (below_step (zL HB.out) hb); have NB735_738 := ka (zNK hg BK735.out); have NB738_735 := ka (zOK hg BK735.out); replace BK735 := ka (zB BK735.out hb); have NB736_738 := ka (zNK hg BK736.out); have NB738_736 := ka (zOK hg BK736.out); replace BK736 := ka (zB BK736.out hb); clear hb hbox hg; have hnb25 := NB738_735.out; have hnc25 := NB735_738.out; have hnb26 := NB738_736.out; have hnc26 := NB736_738.out; obtain ⟨z27_0, z27_1, z27_2, z27_3, z27_4, y27_0, y27_1, y27_2, y27_3, y27_4⟩ := zC5 BK738.out; obtain ⟨z28_0, z28_1, z28_2, y28_0, y28_1, y28_2⟩ := zC3 BK736.out; have p739 : 0 ≤ (x5_2 : Int) := zD; have q739 : x5_2 < (l1_1.length : Int) := zD; obtain ⟨ad739, e739, hx739_0, hx739_1, hx739_2, hx739_3, hx739_4⟩ := at_T45 HR1_1.out x5_2 p739 q739; cases e739; have hn739_0 : ad739.block ≠ gb738 := Nat.ne_of_lt (Nat.lt_of_lt_of_le (by have := World.block_lt_of_cell? _ _ hx739_0; first | rwa [add_block] at this | exact this) GW738.out); have hn739_1 : ad739.block ≠ gb738 := Nat.ne_of_lt (Nat.lt_of_lt_of_le (by have := World.block_lt_of_cell? _ _ hx739_0; first | rwa [add_block] at this | exact this) GW738.out); have hn739_2 : ad739.block ≠ gb738 := Nat.ne_of_lt (Nat.lt_of_lt_of_le (by have := World.block_lt_of_cell? _ _ hx739_0; first | rwa [add_block] at this | exact this) GW738.out); have hn739_3 : ad739.block ≠ gb738 := Nat.ne_of_lt (Nat.lt_of_lt_of_le (by have := World.block_lt_of_cell? _ _ hx739_0; first | rwa [add_block] at this | exact this) GW738.out); have hn739_4 : ad739.block ≠ gb738 := Nat.ne_of_lt (Nat.lt_of_lt_of_le (by have := World.block_lt_of_cell? _ _ hx739_0; first | rwa [add_block] at this | exact this) GW738.out); replace hx739_0 := zX HB.out hx739_0; replace hx739_1 := zX HB.out hx739_1; replace hx739_2 := zX HB.out hx739_2; replace hx739_3 := zX HB.out hx739_3; replace hx739_4 := zX HB.out hx739_4; replace hx739_0 := zF gb738 0 (.int .i64 ((rd_T42 l0_1 x5_2).f0)) hn739_0 hx739_0; replace hx739_1 := zF gb738 0 (.int .i64 ((rd_T42 l0_1 x5_2).f0)) hn739_0 hx739_1; replace hx739_2 := zF gb738 0 (.int .i64 ((rd_T42 l0_1 x5_2).f0)) hn739_0 hx739_2; replace hx739_3 := zF gb738 0 (.int .i64 ((rd_T42 l0_1 x5_2).f0)) hn739_0 hx739_3; replace hx739_4 := zF gb738 0 (.int .i64 ((rd_T42 l0_1 x5_2).f0)) hn739_0 hx739_4; replace hx739_0 := zF gb738 1 (.string ((rd_T42 l0_1 x5_2).f1)) hn739_1 hx739_0; replace hx739_1 := zF gb738 1 (.string ((rd_T42 l0_1 x5_2).f1)) hn739_1 hx739_1; replace hx739_2 := zF gb738 1 (.string ((rd_T42 l0_1 x5_2).f1)) hn739_1 hx739_2; replace hx739_3 := zF gb738 1 (.string ((rd_T42 l0_1 x5_2).f1)) hn739_1 hx739_3; replace hx739_4 := zF gb738 1 (.string ((rd_T42 l0_1 x5_2).f1)) hn739_1 hx739_4; replace hx739_0 := zF gb738 2 (.bool ((rd_T42 l0_1 x5_2).f2)) hn739_2 hx739_0; replace hx739_1 := zF gb738 2 (.bool ((rd_T42 l0_1 x5_2).f2)) hn739_2 hx739_1; replace hx739_2 := zF gb738 2 (.bool ((rd_T42 l0_1 x5_2).f2)) hn739_2 hx739_2; replace hx739_3 := zF gb738 2 (.bool ((rd_T42 l0_1 x5_2).f2)) hn739_2 hx739_3; replace hx739_4 := zF gb738 2 (.bool ((rd_T42 l0_1 x5_2).f2)) hn739_2 hx739_4; replace hx739_0 := zF gb738 3 (.int .i64 ((rd_T42 l0_1 x5_2).f3)) hn739_3 hx739_0; replace hx739_1 := zF gb738 3 (.int .i64 ((rd_T42 l0_1 x5_2).f3)) hn739_3 hx739_1; replace hx739_2 := zF gb738 3 (.int .i64 ((rd_T42 l0_1 x5_2).f3)) hn739_3 hx739_2; replace hx739_3 := zF gb738 3 (.int .i64 ((rd_T42 l0_1 x5_2).f3)) hn739_3 hx739_3; replace hx739_4 := zF gb738 3 (.int .i64 ((rd_T42 l0_1 x5_2).f3)) hn739_3 hx739_4; replace hx739_0 := zF gb738 4 (.int .i64 ((rd_T42 l0_1 x5_2).f4)) hn739_4 hx739_0; replace hx739_1 := zF gb738 4 (.int .i64 ((rd_T42 l0_1 x5_2).f4)) hn739_4 hx739_1; replace hx739_2 := zF gb738 4 (.int .i64 ((rd_T42 l0_1 x5_2).f4)) hn739_4 hx739_2; replace hx739_3 := zF gb738 4 (.int .i64 ((rd_T42 l0_1 x5_2).f4)) hn739_4 hx739_3; replace hx739_4 := zF gb738 4 (.int .i64 ((rd_T42 l0_1 x5_2).f4)) hn739_4 hx739_4; clear hn739_0; clear hn739_1; clear hn739_2; clear hn739_3; clear hn739_4; replace p739 := eq_true p739; replace q739 := eq_true q739) | ((with_reducible refine gate_dst (N := 7) rfl ?_); (try (refine gate_guard (by rfl) ?_; dsimp only)); refine box_event ?hg (N := 7) ?hd (cs := #[.int .i64 0, .string ⟨#[]⟩, .bool false, .int .i64 0, .int .i64 0]) (t := 45) ?hr ?_; (case hd => rfl); (case hg => rfl); (case hr => (go_simp; try rfl)); intro gb740 hg w29 hbox hb; have BK740 := ka (hbox); have GW740 := ka (zG hg (zL HB.out)); replace HB := ka (below_step (zL HB.out) hb); have NB735_740 := ka (zNK hg BK735.out); have NB740_735 := ka (zOK hg BK735.out); replace BK735 := ka (zB BK735.out hb); have NB736_740 := ka (zNK hg BK736.out); have NB740_736 := ka (zOK hg BK736.out); replace BK736 := ka (zB BK736.out hb); have NB738_740 := ka ((by rw [hg]; exact Nat.ne_of_lt (blk_lt (g := gb738) (o := .cells #[.int .i64 ((rd_T42 l0_1 x5_2).f0), .string ((rd_T42 l0_1 x5_2).f1), .bool ((rd_T42 l0_1 x5_2).f2), .int .i64 ((rd_T42 l0_1 x5_2).f3), .int .i64 ((rd_T42 l0_1 x5_2).f4)] 42 (0, 0)) (zP5 BK738.out)) : gb738 ≠ gb740)); have NB740_738 := ka ((by rw [hg]; exact Nat.ne_of_gt (blk_lt (g := gb738) (o := .cells #[.int .i64 ((rd_T42 l0_1 x5_2).f0), .string ((rd_T42 l0_1 x5_2).f1), .bool ((rd_T42 l0_1 x5_2).f2), .int .i64 ((rd_T42 l0_1 x5_2).f3), .int .i64 ((rd_T42 l0_1 x5_2).f4)] 42 (0, 0)) (zP5 BK738.out)) : gb740 ≠ gb738)); replace BK738 := ka (blk_below (g := gb738) (o := .cells #[.int .i64 ((rd_T42 l0_1 x5_2).f0), .string ((rd_T42 l0_1 x5_2).f1), .bool ((rd_T42 l0_1 x5_2).f2), .int .i64 ((rd_T42 l0_1 x5_2).f3), .int .i64 ((rd_T42 l0_1 x5_2).f4)] 42 (0, 0)) (zP5 BK738.out) hb); clear hb hbox hg; have hnb30 := NB740_735.out; have hnc30 := NB735_740.out; have hnb31 := NB740_736.out; have hnc31 := NB736_740.out; have hnb32 := NB740_738.out; have hnc32 := NB738_740.out; obtain ⟨z33_0, z33_1, z33_2, z33_3, z33_4, y33_0, y33_1, y33_2, y33_3, y33_4⟩ := zC5 BK740.out))
      (try simp only [Act.put, List.setIfInBounds_toArray, List.set_cons_zero, List.set_cons_succ])
      go_cut [83] (fun v83 wc => ∃ (kq : Nat) (x83_20 : Bool), v83 = .bool x83_20 ∧ Aside0 (cooperagelaw16_sameTable.j2 kq x5_2 x83_20 a0_0 l0_1 l0_2 a1_0 l1_1 l1_2 = some r) ∧ Aside0 (kq ≤ k2) ∧ Aside0 (wc.heap[gb735]? = some (.cells #[.int .i64 a0_0, (.slice (some ad737) l0_1.length c0_1), (.slice A0_2 l0_2.length c0_2)] 28 (0, 0))) ∧ Aside0 (wc.heap[gb736]? = some (.cells #[.int .i64 a1_0, (.slice (some ad739) l1_1.length c1_1), (.slice A1_2 l1_2.length c1_2)] 32 (0, 0))) ∧ Aside0 (wc.heap[gb738]? = some (.cells #[.int .i64 ((rd_T42 l0_1 x5_2).f0), .string ((rd_T42 l0_1 x5_2).f1), .bool ((rd_T42 l0_1 x5_2).f2), .int .i64 ((rd_T42 l0_1 x5_2).f3), .int .i64 ((rd_T42 l0_1 x5_2).f4)] 42 (0, 0))) ∧ Aside0 (wc.heap[gb740]? = some (.cells #[.int .i64 ((rd_T45 l1_1 x5_2).f0), .string ((rd_T45 l1_1 x5_2).f1), .bool ((rd_T45 l1_1 x5_2).f2), .int .i64 ((rd_T45 l1_1 x5_2).f3), .int .i64 ((rd_T45 l1_1 x5_2).f4)] 45 (0, 0))) ∧ Aside0 (Below w.heap.size w wc))
      case first =>
       have H := HC21.out
       clear HC21
       by_cases c34 : ((rd_T42 l0_1 x5_2).f0) = ((rd_T45 l1_1 x5_2).f0)
       case neg =>
        rw [if_neg c34] at H
        have c34b0 := zn0 c34
        have c34b1 := zn1 c34
        (first | rw [c34b0] | (simp only [i64_w, i32_w]; rw [c34b0]) | rw [isE_ c34b0] | skip)
        have H' := ka H
        clear H
        have hnb66 := NB738_735.out
        have hnc66 := NB735_738.out
        have hnb67 := NB738_736.out
        have hnc67 := NB736_738.out
        have hnb68 := NB738_740.out
        have hnc68 := NB740_738.out
        obtain ⟨z69_0, z69_1, z69_2, z69_3, z69_4, y69_0, y69_1, y69_2, y69_3, y69_4⟩ := zC5 BK738.out
        have hnb70 := NB740_735.out
        have hnc70 := NB735_740.out
        have hnb71 := NB740_736.out
        have hnc71 := NB736_740.out
        obtain ⟨z72_0, z72_1, z72_2, z72_3, z72_4, y72_0, y72_1, y72_2, y72_3, y72_4⟩ := zC5 BK740.out
        go_wp2
        go_meet
        case rel => exact ⟨_, (true), zS, H', ⟨by have := HJ2.out; have := HK2.out; first | omega | exact Nat.le_refl _⟩, ⟨zK BK735.out⟩, ⟨zK BK736.out⟩, ⟨zK BK738.out⟩, ⟨zP5 BK740.out⟩, ⟨zL HB.out⟩⟩
       case' pos =>
        rw [if_pos c34] at H
        have c34b0 := zb0 c34
        have c34b1 := zb1 c34
        clear c34
        (first | rw [c34b0] | (simp only [i64_w, i32_w]; rw [c34b0]) | rw [isE_ c34b0] | skip)
        by_cases c35 : ((rd_T42 l0_1 x5_2).f1).toList = ((rd_T45 l1_1 x5_2).f1).toList
        case' neg =>
         rw [if_neg c35] at H
         have c35b0 := zn0 c35
         have c35b1 := zn1 c35
        case' pos =>
         rw [if_pos c35] at H
         have c35b0 := zb0 c35
         have c35b1 := zb1 c35
         clear c35
         by_cases c36 : (((rd_T42 l0_1 x5_2).f2) != ((rd_T45 l1_1 x5_2).f2)) = true
         case pos =>
          rw [if_pos c36] at H
          have c36b0 : (((rd_T42 l0_1 x5_2).f2) != ((rd_T45 l1_1 x5_2).f2)) = true := c36
          (try (have c36b1 : decide (((rd_T42 l0_1 x5_2).f2) = ((rd_T45 l1_1 x5_2).f2)) = false := by simpa using c36))
          (try (have c36b2 : (((rd_T42 l0_1 x5_2).f2) == ((rd_T45 l1_1 x5_2).f2)) = false := by simpa using c36))
          (try (have c36b3 : ¬ (((rd_T42 l0_1 x5_2).f2) = ((rd_T45 l1_1 x5_2).f2)) := by simpa using c36))
          clear c36
          have H' := ka H
          clear H
          have hnb37 := NB738_735.out
          have hnc37 := NB735_738.out
          have hnb38 := NB738_736.out
          have hnc38 := NB736_738.out
          have hnb39 := NB738_740.out
          have hnc39 := NB740_738.out
          obtain ⟨z40_0, z40_1, z40_2, z40_3, z40_4, y40_0, y40_1, y40_2, y40_3, y40_4⟩ := zC5 BK738.out
          have hnb41 := NB740_735.out
          have hnc41 := NB735_740.out
          have hnb42 := NB740_736.out
          have hnc42 := NB736_740.out
          obtain ⟨z43_0, z43_1, z43_2, z43_3, z43_4, y43_0, y43_1, y43_2, y43_3, y43_4⟩ := zC5 BK740.out
          go_wp2
          go_meet
          case rel => exact ⟨_, (true), zS, H', ⟨by have := HJ2.out; have := HK2.out; first | omega | exact Nat.le_refl _⟩, ⟨zK BK735.out⟩, ⟨zK BK736.out⟩, ⟨zK BK738.out⟩, ⟨zP5 BK740.out⟩, ⟨zL HB.out⟩⟩
         case' neg =>
          rw [if_neg c36] at H
          have c36b0 : (((rd_T42 l0_1 x5_2).f2) != ((rd_T45 l1_1 x5_2).f2)) = false := by simpa using c36
          (try (have c36b1 : decide (((rd_T42 l0_1 x5_2).f2) = ((rd_T45 l1_1 x5_2).f2)) = true := by simpa using c36))
          (try (have c36b2 : (((rd_T42 l0_1 x5_2).f2) == ((rd_T45 l1_1 x5_2).f2)) = true := by simpa using c36))
          clear c36
          by_cases c44 : ((rd_T42 l0_1 x5_2).f3) = ((rd_T45 l1_1 x5_2).f3)
          case pos =>
           rw [if_pos c44] at H
           have c44b0 := zb0 c44
           have c44b1 := zb1 c44
           clear c44
           have H' := ka H
           clear H
           have hnb45 := NB738_735.out
           have hnc45 := NB735_738.out
           have hnb46 := NB738_736.out
           have hnc46 := NB736_738.out
           have hnb47 := NB738_740.out
           have hnc47 := NB740_738.out
           obtain ⟨z48_0, z48_1, z48_2, z48_3, z48_4, y48_0, y48_1, y48_2, y48_3, y48_4⟩ := zC5 BK738.out
           have hnb49 := NB740_735.out
           have hnc49 := NB735_740.out
           have hnb50 := NB740_736.out
           have hnc50 := NB736_740.out
           obtain ⟨z51_0, z51_1, z51_2, z51_3, z51_4, y51_0, y51_1, y51_2, y51_3, y51_4⟩ := zC5 BK740.out
           go_wp2
           go_meet
           case rel => exact ⟨_, ((((rd_T42 l0_1 x5_2).f4) != ((rd_T45 l1_1 x5_2).f4))), zS, H', ⟨by have := HJ2.out; have := HK2.out; first | omega | exact Nat.le_refl _⟩, ⟨zK BK735.out⟩, ⟨zK BK736.out⟩, ⟨zK BK738.out⟩, ⟨zP5 BK740.out⟩, ⟨zL HB.out⟩⟩
          case' neg =>
           rw [if_neg c44] at H
           have c44b0 := zn0 c44
           have c44b1 := zn1 c44
       all_goals
        have H' := ka H
        clear H
        have hnb52 := NB738_735.out
        have hnc52 := NB735_738.out
        have hnb53 := NB738_736.out
        have hnc53 := NB736_738.out
        have hnb54 := NB738_740.out
        have hnc54 := NB740_738.out
        obtain ⟨z55_0, z55_1, z55_2, z55_3, z55_4, y55_0, y55_1, y55_2, y55_3, y55_4⟩ := zC5 BK738.out
        have hnb56 := NB740_735.out
        have hnc56 := NB735_740.out
        have hnb57 := NB740_736.out
        have hnc57 := NB736_740.out
        obtain ⟨z58_0, z58_1, z58_2, z58_3, z58_4, y58_0, y58_1, y58_2, y58_3, y58_4⟩ := zC5 BK740.out
        go_wp2
        go_meet
        case rel => exact ⟨_, (true), zS, H', ⟨by have := HJ2.out; have := HK2.out; first | omega | exact Nat.le_refl _⟩, ⟨zK BK735.out⟩, ⟨zK BK736.out⟩, ⟨zK BK738.out⟩, ⟨zP5 BK740.out⟩, ⟨zL HB.out⟩⟩
      case rest =>
       clear HC21
       try clear c17
       try clear c18
       try clear c18b0
       try clear c19
       try clear c19b0
       try clear c20
       try clear c20b0
       try clear z23_0 z23_1 z23_2
       try clear z27_0 z27_1 z27_2 z27_3 z27_4
       try clear z28_0 z28_1 z28_2
       try clear z33_0 z33_1 z33_2 z33_3 z33_4
       try clear y23_0 y23_1 y23_2
       try clear y27_0 y27_1 y27_2 y27_3 y27_4
       try clear y28_0 y28_1 y28_2
       try clear y33_0 y33_1 y33_2 y33_3 y33_4
       try clear hx737_0
       try clear hx737_1
       try clear hx737_2
       try clear hx737_3
       try clear hx737_4
       try clear hx739_0
       try clear hx739_1
       try clear hx739_2
       try clear hx739_3
       try clear hx739_4
       try clear p737
       try clear p739
       try clear q737
       try clear q739
       obtain ⟨kq, x83_20, rfl, HA, HJ20, BK735, BK736, BK738, BK740, HB⟩ := hcut
       cases kq with
       | zero => exact absurd HA.out (by simp [cooperagelaw16_sameTable.j2])
       | succ kj20 =>
        have H := HA.out
        clear HA
        simp only [cooperagelaw16_sameTable.j2] at H
        by_cases c73 : x83_20 = true
        ·subst c73
         rw [if_pos rfl] at H
         obtain rfl := Option.some.inj H
         go_wp2
         go_ret
         exact ⟨zE, zL HB.out⟩
        replace c73 := Bool.eq_false_iff.mpr c73
        subst c73
        rw [if_neg (show ¬ (false = true) by decide)] at H
        have H' := ka H
        clear H
        go_wp2
        go_roundg kj20
        case measure => have := HJ2.out; have := HK2.out; have := HJ20.out; omega
        case rel => exact ⟨(wrap64 (x5_2 + 1)), zS, H', ⟨by have := HJ2.out; have := HK2.out; have := HJ20.out; omega⟩, ⟨zK BK735.out⟩, ⟨zK BK736.out⟩, ⟨zL HB.out⟩⟩
     rw [if_neg c18] at H
     have c18b0 := zdf c18
     clear c18
     have H' := ka H
     clear H
     have hnb74 := NB735_736.out
     have hnc74 := NB736_735.out
     obtain ⟨z75_0, z75_1, z75_2, y75_0, y75_1, y75_2⟩ := zC3 BK735.out
     go_wp2
     go_loopg [8] k2 (fun kq v8 w' => ∃ (x8_3 : Int), v8 = .int .i64 x8_3 ∧ Aside0 (cooperagelaw16_sameTable.l1 kq x8_3 a0_0 l0_1 l0_2 a1_0 l1_1 l1_2 = some r) ∧ Aside0 (kq ≤ k2) ∧ Aside0 (w'.heap[gb735]? = some (.cells #[.int .i64 a0_0, (.slice A0_1 l0_1.length c0_1), (.slice A0_2 l0_2.length c0_2)] 28 (0, 0))) ∧ Aside0 (w'.heap[gb736]? = some (.cells #[.int .i64 a1_0, (.slice A1_1 l1_1.length c1_1), (.slice A1_2 l1_2.length c1_2)] 32 (0, 0))) ∧ Aside0 (Below w.heap.size w w'))
     case atStart => exact ⟨(0), zS, H', ⟨Nat.le_refl _⟩, ⟨zK BK735.out⟩, ⟨zK BK736.out⟩, ⟨zL HB.out⟩⟩
     case round =>
      clear H'
      try clear c17
      try clear c18
      try clear c18b0
      try clear z75_0 z75_1 z75_2
      try clear y75_0 y75_1 y75_2
      obtain ⟨x8_3, rfl, HA, HK3, BK735, BK736, HB⟩ := hrel
      cases gk with
      | zero => exact absurd HA.out (by simp [cooperagelaw16_sameTable.l1])
      | succ k3 =>
       have H := HA.out
       clear HA
       simp only [cooperagelaw16_sameTable.l1] at H
       by_cases c76 : x8_3 < (l0_2.length : Int)
       ·rw [if_pos c76] at H
        have c76b0 := zdt c76
        clear c76
        replace H := zif H
        obtain ⟨c77, H⟩ := H
        have c77b0 := zdt c77
        clear c77
        replace H := zif H
        obtain ⟨c78, H⟩ := H
        have c78b0 := zdt c78
        clear c78
        have HC79 := ka H
        clear H
        have hnb80 := NB735_736.out
        have hnc80 := NB736_735.out
        obtain ⟨z81_0, z81_1, z81_2, y81_0, y81_1, y81_2⟩ := zC3 BK735.out
        have p741 : 0 ≤ (x8_3 : Int) := zD
        have q741 : x8_3 < (l0_2.length : Int) := zD
        obtain ⟨ad741, e741, hx741_0, hx741_1, hx741_2, hx741_3⟩ := at_T49 HR0_2.out x8_3 p741 q741
        cases e741
        replace hx741_0 := zX HB.out hx741_0
        replace hx741_1 := zX HB.out hx741_1
        replace hx741_2 := zX HB.out hx741_2
        replace hx741_3 := zX HB.out hx741_3
        replace p741 := eq_true p741
        replace q741 := eq_true q741
        go_upto_region 15 with (first | ((with_reducible refine gate_dst (N := 9) rfl ?_); (try (refine gate_guard (by rfl) ?_; dsimp only)); refine box_event ?hg (N := 9) ?hd (cs := #[.int .i64 0, .string ⟨#[]⟩, .bool false, .int .i64 0]) (t := 49) ?hr ?_; (case hd => rfl); (case hg => rfl); (case hr => (go_simp; try rfl)); intro gb742 hg w82 hbox hb; have BK742 := ka (hbox); have GW742 := ka (zG hg (zL HB.out)); replace HB := ka (below_step (zL HB.out) hb); have NB735_742 := ka (zNK hg BK735.out); have NB742_735 := ka (zOK hg BK735.out); replace BK735 := ka (zB BK735.out hb); have NB736_742 := ka (zNK hg BK736.out); have NB742_736 := ka (zOK hg BK736.out); replace BK736 := ka (zB BK736.out hb); clear hb hbox hg; have hnb83 := NB742_735.out; have hnc83 := NB735_742.out; have hnb84 := NB742_736.out; have hnc84 := NB736_742.out; obtain ⟨z85_0, z85_1, z85_2, z85_3, y85_0, y85_1, y85_2, y85_3⟩ := zC4 BK742.out; obtain ⟨z86_0, z86_1, z86_2, y86_0, y86_1, y86_2⟩ := zC3 BK736.out; have p743 : 0 ≤ (x8_3 : Int) := zD; have q743 : x8_3 < (l1_2.length : Int) := zD; obtain ⟨ad743, e743, hx743_0, hx743_1, hx743_2, hx743_3⟩ := at_T52 HR1_2.out x8_3 p743 q743; cases e743; have hn743_0 : ad743.block ≠ gb742 := Nat.ne_of_lt (Nat.lt_of_lt_of_le (by have := World.block_lt_of_cell? _ _ hx743_0; first | rwa [add_block] at this | exact this) GW742.out); have hn743_1 : ad743.block ≠ gb742 := Nat.ne_of_lt (Nat.lt_of_lt_of_le (by have := World.block_lt_of_cell? _ _ hx743_0; first | rwa [add_block] at this | exact this) GW742.out); have hn743_2 : ad743.block ≠ gb742 := Nat.ne_of_lt (Nat.lt_of_lt_of_le (by have := World.block_lt_of_cell? _ _ hx743_0; first | rwa [add_block] at this | exact this) GW742.out); have hn743_3 : ad743.block ≠ gb742 := Nat.ne_of_lt (Nat.lt_of_lt_of_le (by have := World.block_lt_of_cell? _ _ hx743_0; first | rwa [add_block] at this | exact this) GW742.out); replace hx743_0 := zX HB.out hx743_0; replace hx743_1 := zX HB.out hx743_1; replace hx743_2 := zX HB.out hx743_2; replace hx743_3 := zX HB.out hx743_3; replace hx743_0 := zF gb742 0 (.int .i64 ((rd_T49 l0_2 x8_3).f0)) hn743_0 hx743_0; replace hx743_1 := zF gb742 0 (.int .i64 ((rd_T49 l0_2 x8_3).f0)) hn743_0 hx743_1; replace hx743_2 := zF gb742 0 (.int .i64 ((rd_T49 l0_2 x8_3).f0)) hn743_0 hx743_2; replace hx743_3 := zF gb742 0 (.int .i64 ((rd_T49 l0_2 x8_3).f0)) hn743_0 hx743_3; replace hx743_0 := zF gb742 1 (.string ((rd_T49 l0_2 x8_3).f1)) hn743_1 hx743_0; replace hx743_1 := zF gb742 1 (.string ((rd_T49 l0_2 x8_3).f1)) hn743_1 hx743_1; replace hx743_2 := zF gb742 1 (.string ((rd_T49 l0_2 x8_3).f1)) hn743_1 hx743_2; replace hx743_3 := zF gb742 1 (.string ((rd_T49 l0_2 x8_3).f1)) hn743_1 hx743_3; replace hx743_0 := zF gb742 2 (.bool ((rd_T49 l0_2 x8_3).f2)) hn743_2 hx743_0; replace hx743_1 := zF gb742 2 (.bool ((rd_T49 l0_2 x8_3).f2)) hn743_2 hx743_1; replace hx743_2 := zF gb742 2 (.bool ((rd_T49 l0_2 x8_3).f2)) hn743_2 hx743_2; replace hx743_3 := zF gb742 2 (.bool ((rd_T49 l0_2 x8_3).f2)) hn743_2 hx743_3; replace hx743_0 := zF gb742 3 (.int .i64 ((rd_T49 l0_2 x8_3).f3)) hn743_3 hx743_0; replace hx743_1 := zF gb742 3 (.int .i64 ((rd_T49 l0_2 x8_3).f3)) hn743_3 hx743_1; replace hx743_2 := zF gb742 3 (.int .i64 ((rd_T49 l0_2 x8_3).f3)) hn743_3 hx743_2; replace hx743_3 := zF gb742 3 (.int .i64 ((rd_T49 l0_2 x8_3).f3)) hn743_3 hx743_3; clear hn743_0; clear hn743_1; clear hn743_2; clear hn743_3; replace p743 := eq_true p743; replace q743 := eq_true q743) | ((with_reducible refine gate_dst (N := 10) rfl ?_); (try (refine gate_guard (by rfl) ?_; dsimp only)); refine box_event ?hg (N := 10) ?hd (cs := #[.int .i64 0, .string ⟨#[]⟩, .bool false, .int .i64 0]) (t := 52) ?hr ?_; (case hd => rfl); (case hg => rfl); (case hr => (go_simp; try rfl)); intro gb744 hg w87 hbox hb; have BK744 := ka (hbox); have GW744 := ka (zG hg (zL HB.out)); replace HB := ka (below_step (zL HB.out) hb); have NB735_744 := ka (zNK hg BK735.out); have NB744_735 := ka (zOK hg BK735.out); replace BK735 := ka (zB BK735.out hb); have NB736_744 := ka (zNK hg BK736.out); have NB744_736 := ka (zOK hg BK736.out); replace BK736 := ka (zB BK736.out hb); have NB742_744 := ka ((by rw [hg]; exact Nat.ne_of_lt (blk_lt (g := gb742) (o := .cells #[.int .i64 ((rd_T49 l0_2 x8_3).f0), .string ((rd_T49 l0_2 x8_3).f1), .bool ((rd_T49 l0_2 x8_3).f2), .int .i64 ((rd_T49 l0_2 x8_3).f3)] 49 (0, 0)) (zP4 BK742.out)) : gb742 ≠ gb744)); have NB744_742 := ka ((by rw [hg]; exact Nat.ne_of_gt (blk_lt (g := gb742) (o := .cells #[.int .i64 ((rd_T49 l0_2 x8_3).f0), .string ((rd_T49 l0_2 x8_3).f1), .bool ((rd_T49 l0_2 x8_3).f2), .int .i64 ((rd_T49 l0_2 x8_3).f3)] 49 (0, 0)) (zP4 BK742.out)) : gb744 ≠ gb742)); replace BK742 := ka (blk_below (g := gb742) (o := .cells #[.int .i64 ((rd_T49 l0_2 x8_3).f0), .string ((rd_T49 l0_2 x8_3).f1), .bool ((rd_T49 l0_2 x8_3).f2), .int .i64 ((rd_T49 l0_2 x8_3).f3)] 49 (0, 0)) (zP4 BK742.out) hb); clear hb hbox hg; have hnb88 := NB744_735.out; have hnc88 := NB735_744.out; have hnb89 := NB744_736.out; have hnc89 := NB736_744.out; have hnb90 := NB744_742.out; have hnc90 := NB742_744.out; obtain ⟨z91_0, z91_1, z91_2, z91_3, y91_0, y91_1, y91_2, y91_3⟩ := zC4 BK744.out))
        (try simp only [Act.put, List.setIfInBounds_toArray, List.set_cons_zero, List.set_cons_succ])
        go_cut [126] (fun v126 wc => ∃ (kq : Nat) (x126_78 : Bool), v126 = .bool x126_78 ∧ Aside0 (cooperagelaw16_sameTable.j4 kq x8_3 x126_78 a0_0 l0_1 l0_2 a1_0 l1_1 l1_2 = some r) ∧ Aside0 (kq ≤ k3) ∧ Aside0 (wc.heap[gb735]? = some (.cells #[.int .i64 a0_0, (.slice A0_1 l0_1.length c0_1), (.slice (some ad741) l0_2.length c0_2)] 28 (0, 0))) ∧ Aside0 (wc.heap[gb736]? = some (.cells #[.int .i64 a1_0, (.slice A1_1 l1_1.length c1_1), (.slice (some ad743) l1_2.length c1_2)] 32 (0, 0))) ∧ Aside0 (wc.heap[gb742]? = some (.cells #[.int .i64 ((rd_T49 l0_2 x8_3).f0), .string ((rd_T49 l0_2 x8_3).f1), .bool ((rd_T49 l0_2 x8_3).f2), .int .i64 ((rd_T49 l0_2 x8_3).f3)] 49 (0, 0))) ∧ Aside0 (wc.heap[gb744]? = some (.cells #[.int .i64 ((rd_T52 l1_2 x8_3).f0), .string ((rd_T52 l1_2 x8_3).f1), .bool ((rd_T52 l1_2 x8_3).f2), .int .i64 ((rd_T52 l1_2 x8_3).f3)] 52 (0, 0))) ∧ Aside0 (Below w.heap.size w wc))
        case first =>
         have H := HC79.out
         clear HC79
         by_cases c92 : ((rd_T49 l0_2 x8_3).f0) = ((rd_T52 l1_2 x8_3).f0)
         ·rw [if_pos c92] at H
          have c92b0 := zb0 c92
          have c92b1 := zb1 c92
          clear c92
          (first | rw [c92b0] | (simp only [i64_w, i32_w]; rw [c92b0]) | rw [isE_ c92b0] | skip)
          by_cases c93 : ((rd_T49 l0_2 x8_3).f1).toList = ((rd_T52 l1_2 x8_3).f1).toList
          ·rw [if_pos c93] at H
           have c93b0 := zb0 c93
           have c93b1 := zb1 c93
           clear c93
           by_cases c94 : (((rd_T49 l0_2 x8_3).f2) != ((rd_T52 l1_2 x8_3).f2)) = true
           ·rw [if_pos c94] at H
            have c94b0 : (((rd_T49 l0_2 x8_3).f2) != ((rd_T52 l1_2 x8_3).f2)) = true := c94
            (try (have c94b1 : decide (((rd_T49 l0_2 x8_3).f2) = ((rd_T52 l1_2 x8_3).f2)) = false := by simpa using c94))
            (try (have c94b2 : (((rd_T49 l0_2 x8_3).f2) == ((rd_T52 l1_2 x8_3).f2)) = false := by simpa using c94))
            (try (have c94b3 : ¬ (((rd_T49 l0_2 x8_3).f2) = ((rd_T52 l1_2 x8_3).f2)) := by simpa using c94))
            clear c94
            have H' := ka H
            clear H
            have hnb95 := NB742_735.out
            have hnc95 := NB735_742.out
            have hnb96 := NB742_736.out
            have hnc96 := NB736_742.out
            have hnb97 := NB742_744.out
            have hnc97 := NB744_742.out
            obtain ⟨z98_0, z98_1, z98_2, z98_3, y98_0, y98_1, y98_2, y98_3⟩ := zC4 BK742.out
            have hnb99 := NB744_735.out
            have hnc99 := NB735_744.out
            have hnb100 := NB744_736.out
            have hnc100 := NB736_744.out
            obtain ⟨z101_0, z101_1, z101_2, z101_3, y101_0, y101_1, y101_2, y101_3⟩ := zC4 BK744.out
            go_wp2
            go_meet
            case rel => exact ⟨_, (true), zS, H', ⟨by have := HJ2.out; have := HK2.out; have := HK3.out; first | omega | exact Nat.le_refl _⟩, ⟨zK BK735.out⟩, ⟨zK BK736.out⟩, ⟨zK BK742.out⟩, ⟨zP4 BK744.out⟩, ⟨zL HB.out⟩⟩
           rw [if_neg c94] at H
           have c94b0 : (((rd_T49 l0_2 x8_3).f2) != ((rd_T52 l1_2 x8_3).f2)) = false := by simpa using c94
           (try (have c94b1 : decide (((rd_T49 l0_2 x8_3).f2) = ((rd_T52 l1_2 x8_3).f2)) = true := by simpa using c94))
           (try (have c94b2 : (((rd_T49 l0_2 x8_3).f2) == ((rd_T52 l1_2 x8_3).f2)) = true := by simpa using c94))
           clear c94
           have H' := ka H
           clear H
           have hnb102 := NB742_735.out
           have hnc102 := NB735_742.out
           have hnb103 := NB742_736.out
           have hnc103 := NB736_742.out
           have hnb104 := NB742_744.out
           have hnc104 := NB744_742.out
           obtain ⟨z105_0, z105_1, z105_2, z105_3, y105_0, y105_1, y105_2, y105_3⟩ := zC4 BK742.out
           have hnb106 := NB744_735.out
           have hnc106 := NB735_744.out
           have hnb107 := NB744_736.out
           have hnc107 := NB736_744.out
           obtain ⟨z108_0, z108_1, z108_2, z108_3, y108_0, y108_1, y108_2, y108_3⟩ := zC4 BK744.out
           go_wp2
           go_meet
           case rel => exact ⟨_, ((((rd_T49 l0_2 x8_3).f3) != ((rd_T52 l1_2 x8_3).f3))), zS, H', ⟨by have := HJ2.out; have := HK2.out; have := HK3.out; first | omega | exact Nat.le_refl _⟩, ⟨zK BK735.out⟩, ⟨zK BK736.out⟩, ⟨zK BK742.out⟩, ⟨zP4 BK744.out⟩, ⟨zL HB.out⟩⟩
          rw [if_neg c93] at H
          have c93b0 := zn0 c93
          have c93b1 := zn1 c93
          have H' := ka H
          clear H
          have hnb109 := NB742_735.out
          have hnc109 := NB735_742.out
          have hnb110 := NB742_736.out
          have hnc110 := NB736_742.out
          have hnb111 := NB742_744.out
          have hnc111 := NB744_742.out
          obtain ⟨z112_0, z112_1, z112_2, z112_3, y112_0, y112_1, y112_2, y112_3⟩ := zC4 BK742.out
          have hnb113 := NB744_735.out
          have hnc113 := NB735_744.out
          have hnb114 := NB744_736.out
          have hnc114 := NB736_744.out
          obtain ⟨z115_0, z115_1, z115_2, z115_3, y115_0, y115_1, y115_2, y115_3⟩ := zC4 BK744.out
          go_wp2
          go_meet
          case rel => exact ⟨_, (true), zS, H', ⟨by have := HJ2.out; have := HK2.out; have := HK3.out; first | omega | exact Nat.le_refl _⟩, ⟨zK BK735.out⟩, ⟨zK BK736.out⟩, ⟨zK BK742.out⟩, ⟨zP4 BK744.out⟩, ⟨zL HB.out⟩⟩
         rw [if_neg c92] at H
         have c92b0 := zn0 c92
         have c92b1 := zn1 c92
         (first | rw [c92b0] | (simp only [i64_w, i32_w]; rw [c92b0]) | rw [isE_ c92b0] | skip)
         have H' := ka H
         clear H
         have hnb116 := NB742_735.out
         have hnc116 := NB735_742.out
         have hnb117 := NB742_736.out
         have hnc117 := NB736_742.out
         have hnb118 := NB742_744.out
         have hnc118 := NB744_742.out
         obtain ⟨z119_0, z119_1, z119_2, z119_3, y119_0, y119_1, y119_2, y119_3⟩ := zC4 BK742.out
         have hnb120 := NB744_735.out
         have hnc120 := NB735_744.out
         have hnb121 := NB744_736.out
         have hnc121 := NB736_744.out
         obtain ⟨z122_0, z122_1, z122_2, z122_3, y122_0, y122_1, y122_2, y122_3⟩ := zC4 BK744.out
         go_wp2
         go_meet
         case rel => exact ⟨_, (true), zS, H', ⟨by have := HJ2.out; have := HK2.out; have := HK3.out; first | omega | exact Nat.le_refl _⟩, ⟨zK BK735.out⟩, ⟨zK BK736.out⟩, ⟨zK BK742.out⟩, ⟨zP4 BK744.out⟩, ⟨zL HB.out⟩⟩
        case rest =>
         clear HC79
         try clear c17
         try clear c18
         try clear c18b0
         try clear c76
         try clear c76b0
         try clear c77
         try clear c77b0
         try clear c78
         try clear c78b0
         try clear z75_0 z75_1 z75_2
         try clear z81_0 z81_1 z81_2
         try clear z85_0 z85_1 z85_2 z85_3
         try clear z86_0 z86_1 z86_2
         try clear z91_0 z91_1 z91_2 z91_3
         try clear y75_0 y75_1 y75_2
         try clear y81_0 y81_1 y81_2
         try clear y85_0 y85_1 y85_2 y85_3
         try clear y86_0 y86_1 y86_2
         try clear y91_0 y91_1 y91_2 y91_3
         try clear hx741_0
         try clear hx741_1
         try clear hx741_2
         try clear hx741_3
         try clear hx743_0
         try clear hx743_1
         try clear hx743_2
         try clear hx743_3
         try clear p741
         try clear p743
         try clear q741
         try clear q743
         obtain ⟨kq, x126_78, rfl, HA, HJ78, BK735, BK736, BK742, BK744, HB⟩ := hcut
         cases kq with
         | zero => exact absurd HA.out (by simp [cooperagelaw16_sameTable.j4])
         | succ kj78 =>
          have H := HA.out
          clear HA
          simp only [cooperagelaw16_sameTable.j4] at H
          by_cases c123 : x126_78 = true
          ·subst c123
           rw [if_pos rfl] at H
           obtain rfl := Option.some.inj H
           go_wp2
           go_ret
           exact ⟨zE, zL HB.out⟩
          replace c123 := Bool.eq_false_iff.mpr c123
          subst c123
          rw [if_neg (show ¬ (false = true) by decide)] at H
          have H' := ka H
          clear H
          go_wp2
          go_roundg kj78
          case measure => have := HJ2.out; have := HK2.out; have := HK3.out; have := HJ78.out; omega
          case rel => exact ⟨(wrap64 (x8_3 + 1)), zS, H', ⟨by have := HJ2.out; have := HK2.out; have := HK3.out; have := HJ78.out; omega⟩, ⟨zK BK735.out⟩, ⟨zK BK736.out⟩, ⟨zL HB.out⟩⟩
       rw [if_neg c76] at H
       have c76b0 := zdf c76
       clear c76
       obtain rfl := Option.some.inj H
       have hnb124 := NB735_736.out
       have hnc124 := NB736_735.out
       obtain ⟨z125_0, z125_1, z125_2, y125_0, y125_1, y125_2⟩ := zC3 BK735.out
       go_wp2
       go_ret
       exact ⟨zE, zL HB.out⟩

end Go.Proofs.YtjdadmjomjhpcaaDoor.PLease
