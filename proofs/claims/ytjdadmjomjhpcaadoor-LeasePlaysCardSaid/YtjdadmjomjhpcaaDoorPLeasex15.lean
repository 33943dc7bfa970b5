-- Written by a program of this session (wip/tools/ext.py, over the kit's printer); not trusted: Lean checks it.
import Derived.Test.YtjdadmjomjhpcaaDoorPLeasex11
import Derived.Test.YtjdadmjomjhpcaaDoorPLeasex14
namespace Go.Proofs.YtjdadmjomjhpcaaDoor.PLease
open Go.RowKit Go.Proofs.YtjdadmjomjhpcaaDoorW.PrintWords Go.Proofs.YtjdadmjomjhpcaaDoorW.PrintLast Go.Proofs.YtjdadmjomjhpcaaDoorW.PrintMore
attribute [local go_sem] max2_int min2_int max_two min_two max_three min_three max_four min_four
set_option linter.unusedVariables false
set_option linter.unusedSimpArgs false
set_option maxHeartbeats 8000000
set_option maxRecDepth 100000

/-! ### cooperageref16_Take: function 25 -/
mutual
def cooperageref16_Take.j0 : Nat → Int → Bool → Int → List (S45) → List (S52) → Int → ByteArray → Bool → Int → Option (Int × (List (S45)) × (List (S52)) × Int × Int)
 | 0, _, _, _, _, _, _, _, _, _ => none
 | k + 1, x2, x42, x646000, x646001, x646002, x647000, x647001, x647002, x647003 => if x42 = true then (some (0, ([] : List (S45)), ([] : List (S52)), 0, 1)) else ((cooperageref16_Held.f k x646000 x646001 x646002 x647000 x647001).bind fun bt651 => (if bt651.2.2.2.2.2 = true then (if bt651.2.2.1 = true then (cooperageref16_Take.j1 k x2 bt651.2.2.2.2.2 false x646000 x646001 x646002 x647000 x647001 x647002 x647003) else (cooperageref16_Take.j1 k x2 bt651.2.2.2.2.2 x647002 x646000 x646001 x646002 x647000 x647001 x647002 x647003)) else (cooperageref16_Take.j1 k x2 bt651.2.2.2.2.2 false x646000 x646001 x646002 x647000 x647001 x647002 x647003)))
def cooperageref16_Take.j1 : Nat → Int → Bool → Bool → Int → List (S45) → List (S52) → Int → ByteArray → Bool → Int → Option (Int × (List (S45)) × (List (S52)) × Int × Int)
 | 0, _, _, _, _, _, _, _, _, _, _ => none
 | k + 1, x2, x11, x62, x646000, x646001, x646002, x647000, x647001, x647002, x647003 => if x62 = true then (some (0, ([] : List (S45)), ([] : List (S52)), 0, 7)) else (if x11 = true then (some (0, ([] : List (S45)), ([] : List (S52)), 0, 5)) else ((cooperageref16_Waits.f k x646000 x646001 x646002 x647000).bind fun bt658 => (if bt658.2.2.2.2 = true then (some (0, ([] : List (S45)), ([] : List (S52)), 0, 7)) else (if (x646002.length : Int) ≥ 100 then (some (0, ([] : List (S45)), ([] : List (S52)), 0, 6)) else ((some (([] : List (S52)) : List (S52))).bind fun y664 => (if y664.length + x646002.length < 3518437208883 then ((some (y664 ++ x646002 : List (S52))).bind fun y667 => ((some (([(⟨x647000, x647001, x647002, x647003⟩ : S52)] : List (S52)) : List (S52))).bind fun y670 => (if y667.length + y670.length < 3518437208883 then ((cooperageref16_settle.f k x646000 x646001 (y667 ++ y670) x2).bind fun bt676 => ((cooperageref16_Held.f k bt676.1 bt676.2.1 bt676.2.2 x647000 x647001).bind fun bt684 => (some (bt676.1, bt676.2.1, bt676.2.2, bt684.2.2.2.1, 0)))) else (none)))) else (none)))))))
end
def cooperageref16_Take.f (k : Nat) (a0_0 : Int) (l0_1 : List (S45)) (l0_2 : List (S52)) (a1_0 : Int) (a1_1 : ByteArray) (a1_2 : Bool) (a1_3 : Int) (a2 : Int) : Option (Int × (List (S45)) × (List (S52)) × Int × Int) := (cooperageref1_Path.f k a1_1).bind fun t648 => (if t648 = true then (if a1_0 < 1 then (cooperageref16_Take.j0 k a2 true a0_0 l0_1 l0_2 a1_0 a1_1 a1_2 a1_3) else (if a1_0 > 1000 then (cooperageref16_Take.j0 k a2 true a0_0 l0_1 l0_2 a1_0 a1_1 a1_2 a1_3) else ((cooperageref16_life.f a1_3).bind fun t649 => (if t649 = true then ((cooperageref16_time.f a2).bind fun t650 => (cooperageref16_Take.j0 k a2 (!t650) a0_0 l0_1 l0_2 a1_0 a1_1 a1_2 a1_3)) else (cooperageref16_Take.j0 k a2 true a0_0 l0_1 l0_2 a1_0 a1_1 a1_2 a1_3))))) else (cooperageref16_Take.j0 k a2 true a0_0 l0_1 l0_2 a1_0 a1_1 a1_2 a1_3))
theorem cooperageref16_Take.mono_l : ∀ k, (∀ y0 y1 y2 y3 y4 y5 y6 y7 y8, LeO (cooperageref16_Take.j0 k y0 y1 y2 y3 y4 y5 y6 y7 y8) (cooperageref16_Take.j0 (k + 1) y0 y1 y2 y3 y4 y5 y6 y7 y8)) ∧ (∀ y0 y1 y2 y3 y4 y5 y6 y7 y8 y9, LeO (cooperageref16_Take.j1 k y0 y1 y2 y3 y4 y5 y6 y7 y8 y9) (cooperageref16_Take.j1 (k + 1) y0 y1 y2 y3 y4 y5 y6 y7 y8 y9))
 | 0 => ⟨fun _ _ _ _ _ _ _ _ _ r h => by simp [cooperageref16_Take.j0] at h, fun _ _ _ _ _ _ _ _ _ _ r h => by simp [cooperageref16_Take.j1] at h⟩
 | k + 1 => by
  obtain ⟨ih0, ih1⟩ := cooperageref16_Take.mono_l k
  have m0 := @cooperageref16_Held.mono
  have m1 := @cooperageref16_Waits.mono
  have m2 := @cooperageref16_settle.mono
  have m3 := @cooperageref1_Path.mono
  refine ⟨?_, ?_⟩
  ·intros
   unfold cooperageref16_Take.j0
   exact zLe
  ·intros
   unfold cooperageref16_Take.j1
   exact zLe
theorem cooperageref16_Take.mono : ∀ a0 a1 a2 a3 a4 a5 a6 a7 k, LeO (cooperageref16_Take.f k a0 a1 a2 a3 a4 a5 a6 a7) (cooperageref16_Take.f (k + 1) a0 a1 a2 a3 a4 a5 a6 a7) := by
 intro a0 a1 a2 a3 a4 a5 a6 a7 k
 obtain ⟨ih0, ih1⟩ := cooperageref16_Take.mono_l k
 unfold cooperageref16_Take.f
 have m0 := @cooperageref16_Held.mono
 have m1 := @cooperageref16_Waits.mono
 have m2 := @cooperageref16_settle.mono
 have m3 := @cooperageref1_Path.mono
 exact zLe
def cooperageref16_Take.T14 : Bool × List (List Nat × List Nat) := (true, [([], []), ([], []), ([1], [1]), ([0, 2], [0, 2]), ([], []), ([4], [4]), ([3, 5, 3], [3, 5]), ([0, 1, 2, 3, 4, 5, 6], []), ([7, 6, 6, 0, 1, 2, 3, 4, 5, 6], [6, 7])])
def cooperageref16_Take.B14 : List Nat := [0, 0, 2, 7, 0, 16, 63, 127, 255]
theorem cooperageref16_Take.tab14 : rtab .any (opsOf Tryd.f25 14) = cooperageref16_Take.T14 := by kernel_rfl
theorem cooperageref16_Take.bits14 : waitsOk cooperageref16_Take.T14.2 cooperageref16_Take.B14 = true := by kernel_rfl
theorem cooperageref16_Take.calls (k : Nat) (a0_0 : Int) (A0_1 : Option Addr) (c0_1 : Nat) (l0_1 : List (S45)) (A0_2 : Option Addr) (c0_2 : Nat) (l0_2 : List (S52)) (a1_0 : Int) (a1_1 : ByteArray) (a1_2 : Bool) (a1_3 : Int) (a2 : Int) (r1 : Int) (r2 : List (S45)) (r3 : List (S52)) (r4 : Int) (r5 : Int) (w : World) (hr0_1 : Kd.C k45 w A0_1 l0_1.length l0_1) (hc0_1 : l0_1.length ≤ c0_1) (hr0_2 : Kd.C k52 w A0_2 l0_2.length l0_2) (hc0_2 : l0_2.length ≤ c0_2) (h : cooperageref16_Take.f k a0_0 l0_1 l0_2 a1_0 a1_1 a1_2 a1_3 a2 = some (r1, r2, r3, r4, r5)) :
  Calls Tryd.prog 25 #[.agg #[.int .i64 a0_0, .slice A0_1 l0_1.length c0_1, .slice A0_2 l0_2.length c0_2], .agg #[.int .i64 a1_0, .string a1_1, .bool a1_2, .int .i64 a1_3], .int .i64 a2] w fun e w' => ∃ v1_ v2_ : Value, e = .returned (.tuple #[.agg #[.int .i64 r1, v1_, v2_], .int .i64 r4, .int .i64 r5]) ∧ Kd.R k45 45 w' w.heap.size (fun _ => True) v1_ r2 ∧ Kd.R k52 52 w' w.heap.size (fun _ => True) v2_ r3 ∧ Below w.heap.size w w' := by
 have hu32 := Tryd.underlying32
 have hu52 := Tryd.underlying52
 have hu45 := Tryd.underlying45
 have HR0_1 := ka hr0_1
 have HC0_1 := ka hc0_1
 clear hr0_1 hc0_1
 have HR0_2 := ka hr0_2
 have HC0_2 := ka hc0_2
 clear hr0_2 hc0_2
 have HB := ka (Below.refl w.heap.size w)
 have H : ((cooperageref1_Path.f k a1_1).bind fun t648 => (if t648 = true then (if a1_0 < 1 then (cooperageref16_Take.j0 k a2 true a0_0 l0_1 l0_2 a1_0 a1_1 a1_2 a1_3) else (if a1_0 > 1000 then (cooperageref16_Take.j0 k a2 true a0_0 l0_1 l0_2 a1_0 a1_1 a1_2 a1_3) else ((cooperageref16_life.f a1_3).bind fun t649 => (if t649 = true then ((cooperageref16_time.f a2).bind fun t650 => (cooperageref16_Take.j0 k a2 (!t650) a0_0 l0_1 l0_2 a1_0 a1_1 a1_2 a1_3)) else (cooperageref16_Take.j0 k a2 true a0_0 l0_1 l0_2 a1_0 a1_1 a1_2 a1_3))))) else (cooperageref16_Take.j0 k a2 true a0_0 l0_1 l0_2 a1_0 a1_1 a1_2 a1_3))) = some (r1, r2, r3, r4, r5) := h
 clear h
 replace H := Option.bind_eq_some_iff.mp H
 obtain ⟨t648, A40, H⟩ := H
 try dsimp only at H
 have A4 := ka A40
 clear A40
 have HC5 := ka H
 clear H
 go_enter Tryd.func25, Tryd.ntmps25
 go_upto_region 2 with (first | ((with_reducible refine gate_dst (N := 3) rfl ?_); refine box_event ?hg (N := 3) ?hd (cs := #[.int .i64 a0_0, .slice A0_1 l0_1.length c0_1, .slice A0_2 l0_2.length c0_2]) (t := 32) ?hr ?_; (case hd => rfl); (case hg => rfl); (case hr => (go_simp; try rfl)); intro gb645 hg w6 hbox hb; have BK645 := ka (hbox); have GW645 := ka (zG hg (zL HB.out)); replace HB := ka (below_step (zL HB.out) hb); clear hb hbox hg) | ((with_reducible refine gate_dst (N := 4) rfl ?_); refine box_event ?hg (N := 4) ?hd (cs := #[.int .i64 a1_0, .string a1_1, .bool a1_2, .int .i64 a1_3]) (t := 52) ?hr ?_; (case hd => rfl); (case hg => rfl); (case hr => (go_simp; try rfl)); intro gb646 hg w7 hbox hb; have BK646 := ka (hbox); have GW646 := ka (zG hg (zL HB.out)); replace HB := ka (below_step (zL HB.out) hb); have NB645_646 := ka (zNK hg BK645.out); have NB646_645 := ka (zOK hg BK645.out); replace BK645 := ka (zB BK645.out hb); clear hb hbox hg) | ((with_reducible refine gate_dst (N := 6) rfl ?_); refine box_event ?hg (N := 6) ?hd (cs := #[.int .i64 0, .slice none 0 0, .slice none 0 0]) (t := 32) ?hr ?_; (case hd => rfl); (case hg => rfl); (case hr => (go_simp; try rfl)); intro gb647 hg w8 hbox hb; have BK647 := ka (hbox); have GW647 := ka (zG hg (zL HB.out)); replace HB := ka (below_step (zL HB.out) hb); have NB645_647 := ka (zNK hg BK645.out); have NB647_645 := ka (zOK hg BK645.out); replace BK645 := ka (zB BK645.out hb); have NB646_647 := ka (zNK hg BK646.out); have NB647_646 := ka (zOK hg BK646.out); replace BK646 := ka (zB BK646.out hb); clear hb hbox hg; have hnb9 := NB646_645.out; have hnc9 := NB645_646.out; have hnb10 := NB646_647.out; have hnc10 := NB647_646.out; obtain ⟨z11_0, z11_1, z11_2, z11_3, y11_0, y11_1, y11_2, y11_3⟩ := zC4 BK646.out) | ((with_reducible refine gate_callee (f := 45) rfl ?_); refine goesL_ (some 19) rfl rfl Tryd.func45 (by kernel_rfl) rfl #[.string a1_1] rfl zA ?_; (with_reducible refine (cooperageref1_Path.calls k a1_1 t648 _ A4.out).mono ?_); rintro e w' ⟨rfl, ⟨nd, rfl⟩⟩; refine ⟨_, rfl, ?_⟩))
 (try simp only [Act.put, List.setIfInBounds_toArray, List.set_cons_zero, List.set_cons_succ])
 go_cut [42] (fun v42 wc => ∃ (kq : Nat) (x42_4 : Bool), v42 = .bool x42_4 ∧ Aside0 (cooperageref16_Take.j0 kq a2 x42_4 a0_0 l0_1 l0_2 a1_0 a1_1 a1_2 a1_3 = some (r1, r2, r3, r4, r5)) ∧ Aside0 (kq ≤ k) ∧ Aside0 (wc.heap[gb645]? = some (.cells #[.int .i64 a0_0, (.slice A0_1 l0_1.length c0_1), (.slice A0_2 l0_2.length c0_2)] 32 (0, 0))) ∧ Aside0 (wc.heap[gb646]? = some (.cells #[.int .i64 a1_0, .string a1_1, .bool a1_2, .int .i64 a1_3] 52 (0, 0))) ∧ Aside0 (wc.heap[gb647]? = some (.cells #[.int .i64 0, (.slice none 0 0), (.slice none 0 0)] 32 (0, 0))) ∧ Aside0 (Below w.heap.size w wc))
 case first =>
  have H := HC5.out
  clear HC5
  by_cases c12 : t648 = true
  ·subst c12
   rw [if_pos rfl] at H
   by_cases c13 : a1_0 < 1
   ·rw [if_pos c13] at H
    have c13b0 := zdt c13
    clear c13
    (first | rw [c13b0] | (simp only [i64_w, i32_w]; rw [c13b0]) | rw [isE_ c13b0] | skip)
    have H' := ka H
    clear H
    have hnb14 := NB646_645.out
    have hnc14 := NB645_646.out
    have hnb15 := NB646_647.out
    have hnc15 := NB647_646.out
    obtain ⟨z16_0, z16_1, z16_2, z16_3, y16_0, y16_1, y16_2, y16_3⟩ := zC4 BK646.out
    go_wp2
    go_meet
    case rel => exact ⟨_, (true), zS, H', ⟨by first | omega | exact Nat.le_refl _⟩, ⟨zK BK645.out⟩, ⟨zK BK646.out⟩, ⟨zK BK647.out⟩, ⟨zL HB.out⟩⟩
   rw [if_neg c13] at H
   have c13b0 := zdf c13
   clear c13
   (first | rw [c13b0] | (simp only [i64_w, i32_w]; rw [c13b0]) | rw [isE_ c13b0] | skip)
   by_cases c17 : a1_0 > 1000
   ·rw [if_pos c17] at H
    have c17b0 : decide (1000 < a1_0) = true := zdt c17
    clear c17
    have H' := ka H
    clear H
    have hnb18 := NB646_645.out
    have hnc18 := NB645_646.out
    have hnb19 := NB646_647.out
    have hnc19 := NB647_646.out
    obtain ⟨z20_0, z20_1, z20_2, z20_3, y20_0, y20_1, y20_2, y20_3⟩ := zC4 BK646.out
    go_wp2
    go_meet
    case rel => exact ⟨_, (true), zS, H', ⟨by first | omega | exact Nat.le_refl _⟩, ⟨zK BK645.out⟩, ⟨zK BK646.out⟩, ⟨zK BK647.out⟩, ⟨zL HB.out⟩⟩
   rw [if_neg c17] at H
   have c17b0 : decide (1000 < a1_0) = false := zdf c17
   clear c17
   replace H := Option.bind_eq_some_iff.mp H
   obtain ⟨t649, A210, H⟩ := H
   try dsimp only at H
   have A21 := ka A210
   clear A210
   by_cases c22 : t649 = true
   ·subst c22
    rw [if_pos rfl] at H
    replace H := Option.bind_eq_some_iff.mp H
    obtain ⟨t650, A230, H⟩ := H
    try dsimp only at H
    have A23 := ka A230
    clear A230
    have H' := ka H
    clear H
    have hnb24 := NB646_645.out
    have hnc24 := NB645_646.out
    have hnb25 := NB646_647.out
    have hnc25 := NB647_646.out
    obtain ⟨z26_0, z26_1, z26_2, z26_3, y26_0, y26_1, y26_2, y26_3⟩ := zC4 BK646.out
    go_wp2_with (first | (go_at_call 44; (with_reducible refine (cooperageref16_life.calls a1_3 true _ A21.out).mono ?_); rintro e w' ⟨rfl, ⟨nd, rfl⟩⟩) | (go_at_call 42; (with_reducible refine (cooperageref16_time.calls a2 t650 _ A23.out).mono ?_); rintro e w' ⟨rfl, ⟨nd, rfl⟩⟩))
    go_meet
    case rel => exact ⟨_, (!t650), zS, H', ⟨by first | omega | exact Nat.le_refl _⟩, ⟨zK BK645.out⟩, ⟨zK BK646.out⟩, ⟨zK BK647.out⟩, ⟨zL HB.out⟩⟩
   replace c22 := Bool.eq_false_iff.mpr c22
   subst c22
   rw [if_neg (show ¬ (false = true) by decide)] at H
   have H' := ka H
   clear H
   have hnb27 := NB646_645.out
   have hnc27 := NB645_646.out
   have hnb28 := NB646_647.out
   have hnc28 := NB647_646.out
   obtain ⟨z29_0, z29_1, z29_2, z29_3, y29_0, y29_1, y29_2, y29_3⟩ := zC4 BK646.out
   go_wp2_with (first | (go_at_call 44; (with_reducible refine (cooperageref16_life.calls a1_3 false _ A21.out).mono ?_); rintro e w' ⟨rfl, ⟨nd, rfl⟩⟩))
   go_meet
   case rel => exact ⟨_, (true), zS, H', ⟨by first | omega | exact Nat.le_refl _⟩, ⟨zK BK645.out⟩, ⟨zK BK646.out⟩, ⟨zK BK647.out⟩, ⟨zL HB.out⟩⟩
  replace c12 := Bool.eq_false_iff.mpr c12
  subst c12
  rw [if_neg (show ¬ (false = true) by decide)] at H
  have H' := ka H
  clear H
  go_wp2
  go_meet
  case rel => exact ⟨_, (true), zS, H', ⟨by first | omega | exact Nat.le_refl _⟩, ⟨zK BK645.out⟩, ⟨zK BK646.out⟩, ⟨zK BK647.out⟩, ⟨zL HB.out⟩⟩
 case rest =>
  clear HC5
  try clear z11_0 z11_1 z11_2 z11_3
  try clear y11_0 y11_1 y11_2 y11_3
  obtain ⟨kq, x42_4, rfl, HA, HJ4, BK645, BK646, BK647, HB⟩ := hcut
  cases kq with
  | zero => exact absurd HA.out (by simp [cooperageref16_Take.j0])
  | succ kj4 =>
   have H := HA.out
   clear HA
   simp only [cooperageref16_Take.j0] at H
   by_cases c30 : x42_4 = true
   ·subst c30
    rw [if_pos rfl] at H
    replace H := zs5 H
    obtain ⟨rfl, rfl, rfl, rfl, rfl⟩ := H
    have hnb31 := NB647_645.out
    have hnc31 := NB645_647.out
    have hnb32 := NB647_646.out
    have hnc32 := NB646_647.out
    obtain ⟨z33_0, z33_1, z33_2, y33_0, y33_1, y33_2⟩ := zC3 BK647.out
    go_wp2
    refine bodyPost_ret (results_ctt rfl _ _ gb647 32 #[.int .i64 0, .slice none 0 0, .slice none 0 0] (0, 0) _ rfl (zP3 BK647.out) Tryd.underlying32 rfl (by kernel_rfl)) rfl ?_
    exact ⟨_, _, zE, zNl, zNl, zL HB.out⟩
   replace c30 := Bool.eq_false_iff.mpr c30
   subst c30
   rw [if_neg (show ¬ (false = true) by decide)] at H
   replace H := Option.bind_eq_some_iff.mp H
   obtain ⟨⟨t651, t652, t653, t654, t655, t656⟩, A340, H⟩ := H
   try dsimp only at H
   have A34 := ka A340
   clear A340
   have HC35 := ka H
   clear H
   have hnb36 := NB645_646.out
   have hnc36 := NB646_645.out
   have hnb37 := NB645_647.out
   have hnc37 := NB647_645.out
   obtain ⟨z38_0, z38_1, z38_2, y38_0, y38_1, y38_2⟩ := zC3 BK645.out
   have hnb39 := NB646_647.out
   have hnc39 := NB647_646.out
   obtain ⟨z40_0, z40_1, z40_2, z40_3, y40_0, y40_1, y40_2, y40_3⟩ := zC4 BK646.out
   go_upto_region 5 with (first | ((with_reducible refine gate_callee (f := 10) rfl ?_); refine goesL_ (some 50) rfl rfl Tryd.func10 (by kernel_rfl) rfl #[.agg #[.int .i64 a0_0, .slice A0_1 l0_1.length c0_1, .slice A0_2 l0_2.length c0_2], .int .i64 a1_0, .string a1_1] rfl zA ?_; (with_reducible refine (cooperageref16_Held.calls kj4 a0_0 _ _ l0_1 _ _ l0_2 a1_0 a1_1 t651 t652 t653 t654 t655 t656 _ ?side1 ?side2 ?side3 ?side4 A34.out).mono ?_); (case side1 => exact zCS (Kd.C_below HR0_1.out HB.out)); (case side2 => exact HC0_1.out); (case side3 => exact zCS (Kd.C_below HR0_2.out HB.out)); (case side4 => exact HC0_2.out); rintro e w41 ⟨rfl, hb⟩; refine ⟨_, rfl, ?_⟩; replace BK645 := ka (zB BK645.out hb); replace BK646 := ka (zB BK646.out hb); replace BK647 := ka (zB BK647.out hb); replace HB := ka (below_step (zL HB.out) hb); (try clear hb); (try clear hb2); (try clear hk); (try clear hi)) | ((with_reducible refine gate_dst (N := 10) rfl ?_); refine box_event ?hg (N := 10) ?hd (cs := #[.int .i64 0, .string ⟨#[]⟩, .bool false, .int .i64 0, .int .i64 0]) (t := 45) ?hr ?_; (case hd => rfl); (case hg => rfl); (case hr => (go_simp; try rfl)); intro gb657 hg w42 hbox hb; have BK657 := ka (hbox); have GW657 := ka (zG hg (zL HB.out)); replace HB := ka (below_step (zL HB.out) hb); have NB645_657 := ka (zNK hg BK645.out); have NB657_645 := ka (zOK hg BK645.out); replace BK645 := ka (zB BK645.out hb); have NB646_657 := ka (zNK hg BK646.out); have NB657_646 := ka (zOK hg BK646.out); replace BK646 := ka (zB BK646.out hb); have NB647_657 := ka (zNK hg BK647.out); have NB657_647 := ka (zOK hg BK647.out); replace BK647 := ka (zB BK647.out hb); clear hb hbox hg; have hnb43 := NB657_645.out; have hnc43 := NB645_657.out; have hnb44 := NB657_646.out; have hnc44 := NB646_657.out; have hnb45 := NB657_647.out; have hnc45 := NB647_657.out; obtain ⟨z46_0, z46_1, z46_2, z46_3, z46_4, y46_0, y46_1, y46_2, y46_3, y46_4⟩ := zC5 BK657.out))
   (try simp only [Act.put, List.setIfInBounds_toArray, List.set_cons_zero, List.set_cons_succ])
   go_cut [62] (fun v62 wc => ∃ (kq : Nat) (x62_34 : Bool), v62 = .bool x62_34 ∧ Aside0 (cooperageref16_Take.j1 kq a2 t656 x62_34 a0_0 l0_1 l0_2 a1_0 a1_1 a1_2 a1_3 = some (r1, r2, r3, r4, r5)) ∧ Aside0 (kq ≤ kj4) ∧ Aside0 (wc.heap[gb645]? = some (.cells #[.int .i64 a0_0, (.slice A0_1 l0_1.length c0_1), (.slice A0_2 l0_2.length c0_2)] 32 (0, 0))) ∧ Aside0 (wc.heap[gb646]? = some (.cells #[.int .i64 a1_0, .string a1_1, .bool a1_2, .int .i64 a1_3] 52 (0, 0))) ∧ Aside0 (wc.heap[gb647]? = some (.cells #[.int .i64 0, (.slice none 0 0), (.slice none 0 0)] 32 (0, 0))) ∧ Aside0 (wc.heap[gb657]? = some (.cells #[.int .i64 t651, .string t652, .bool t653, .int .i64 t654, .int .i64 t655] 45 (0, 0))) ∧ Aside0 (Below w.heap.size w wc))
   case first =>
    have H := HC35.out
    clear HC35
    by_cases c47 : t656 = true
    ·subst c47
     rw [if_pos rfl] at H
     by_cases c48 : t653 = true
     ·subst c48
      rw [if_pos rfl] at H
      have H' := ka H
      clear H
      have hnb49 := NB657_645.out
      have hnc49 := NB645_657.out
      have hnb50 := NB657_646.out
      have hnc50 := NB646_657.out
      have hnb51 := NB657_647.out
      have hnc51 := NB647_657.out
      obtain ⟨z52_0, z52_1, z52_2, z52_3, z52_4, y52_0, y52_1, y52_2, y52_3, y52_4⟩ := zC5 BK657.out
      go_wp2
      go_meet
      case rel => exact ⟨_, (false), zS, H', ⟨by have := HJ4.out; first | omega | exact Nat.le_refl _⟩, ⟨zK BK645.out⟩, ⟨zK BK646.out⟩, ⟨zK BK647.out⟩, ⟨zP5 BK657.out⟩, ⟨zL HB.out⟩⟩
     replace c48 := Bool.eq_false_iff.mpr c48
     subst c48
     rw [if_neg (show ¬ (false = true) by decide)] at H
     have H' := ka H
     clear H
     have hnb53 := NB657_645.out
     have hnc53 := NB645_657.out
     have hnb54 := NB657_646.out
     have hnc54 := NB646_657.out
     have hnb55 := NB657_647.out
     have hnc55 := NB647_657.out
     obtain ⟨z56_0, z56_1, z56_2, z56_3, z56_4, y56_0, y56_1, y56_2, y56_3, y56_4⟩ := zC5 BK657.out
     have hnb57 := NB646_645.out
     have hnc57 := NB645_646.out
     have hnb58 := NB646_647.out
     have hnc58 := NB647_646.out
     obtain ⟨z59_0, z59_1, z59_2, z59_3, y59_0, y59_1, y59_2, y59_3⟩ := zC4 BK646.out
     go_wp2
     go_meet
     case rel => exact ⟨_, (a1_2), zS, H', ⟨by have := HJ4.out; first | omega | exact Nat.le_refl _⟩, ⟨zK BK645.out⟩, ⟨zK BK646.out⟩, ⟨zK BK647.out⟩, ⟨zP5 BK657.out⟩, ⟨zL HB.out⟩⟩
    replace c47 := Bool.eq_false_iff.mpr c47
    subst c47
    rw [if_neg (show ¬ (false = true) by decide)] at H
    have H' := ka H
    clear H
    go_wp2
    go_meet
    case rel => exact ⟨_, (false), zS, H', ⟨by have := HJ4.out; first | omega | exact Nat.le_refl _⟩, ⟨zK BK645.out⟩, ⟨zK BK646.out⟩, ⟨zK BK647.out⟩, ⟨zP5 BK657.out⟩, ⟨zL HB.out⟩⟩
   case rest =>
    clear HC35
    try clear c30
    try clear z11_0 z11_1 z11_2 z11_3
    try clear z38_0 z38_1 z38_2
    try clear z40_0 z40_1 z40_2 z40_3
    try clear z46_0 z46_1 z46_2 z46_3 z46_4
    try clear y11_0 y11_1 y11_2 y11_3
    try clear y38_0 y38_1 y38_2
    try clear y40_0 y40_1 y40_2 y40_3
    try clear y46_0 y46_1 y46_2 y46_3 y46_4
    obtain ⟨kq, x62_34, rfl, HA, HJ34, BK645, BK646, BK647, BK657, HB⟩ := hcut
    cases kq with
    | zero => exact absurd HA.out (by simp [cooperageref16_Take.j1])
    | succ kj34 =>
     have H := HA.out
     clear HA
     simp only [cooperageref16_Take.j1] at H
     by_cases c60 : x62_34 = true
     ·subst c60
      rw [if_pos rfl] at H
      replace H := zs5 H
      obtain ⟨rfl, rfl, rfl, rfl, rfl⟩ := H
      have hnb61 := NB647_645.out
      have hnc61 := NB645_647.out
      have hnb62 := NB647_646.out
      have hnc62 := NB646_647.out
      have hnb63 := NB647_657.out
      have hnc63 := NB657_647.out
      obtain ⟨z64_0, z64_1, z64_2, y64_0, y64_1, y64_2⟩ := zC3 BK647.out
      go_wp2
      refine bodyPost_ret (results_ctt rfl _ _ gb647 32 #[.int .i64 0, .slice none 0 0, .slice none 0 0] (0, 0) _ rfl (zP3 BK647.out) Tryd.underlying32 rfl (by kernel_rfl)) rfl ?_
      exact ⟨_, _, zE, zNl, zNl, zL HB.out⟩
     replace c60 := Bool.eq_false_iff.mpr c60
     subst c60
     rw [if_neg (show ¬ (false = true) by decide)] at H
     by_cases c65 : t656 = true
     ·subst c65
      rw [if_pos rfl] at H
      replace H := zs5 H
      obtain ⟨rfl, rfl, rfl, rfl, rfl⟩ := H
      have hnb66 := NB647_645.out
      have hnc66 := NB645_647.out
      have hnb67 := NB647_646.out
      have hnc67 := NB646_647.out
      have hnb68 := NB647_657.out
      have hnc68 := NB657_647.out
      obtain ⟨z69_0, z69_1, z69_2, y69_0, y69_1, y69_2⟩ := zC3 BK647.out
      go_wp2
      refine bodyPost_ret (results_ctt rfl _ _ gb647 32 #[.int .i64 0, .slice none 0 0, .slice none 0 0] (0, 0) _ rfl (zP3 BK647.out) Tryd.underlying32 rfl (by kernel_rfl)) rfl ?_
      exact ⟨_, _, zE, zNl, zNl, zL HB.out⟩
     replace c65 := Bool.eq_false_iff.mpr c65
     subst c65
     rw [if_neg (show ¬ (false = true) by decide)] at H
     replace H := Option.bind_eq_some_iff.mp H
     obtain ⟨⟨t658, t659, t660, t661, t662⟩, A700, H⟩ := H
     try dsimp only at H
     have A70 := ka A700
     clear A700
     by_cases c71 : t662 = true
     ·subst c71
      rw [if_pos rfl] at H
      replace H := zs5 H
      obtain ⟨rfl, rfl, rfl, rfl, rfl⟩ := H
      have hnb72 := NB645_646.out
      have hnc72 := NB646_645.out
      have hnb73 := NB645_647.out
      have hnc73 := NB647_645.out
      have hnb74 := NB645_657.out
      have hnc74 := NB657_645.out
      obtain ⟨z75_0, z75_1, z75_2, y75_0, y75_1, y75_2⟩ := zC3 BK645.out
      have hnb76 := NB646_647.out
      have hnc76 := NB647_646.out
      have hnb77 := NB646_657.out
      have hnc77 := NB657_646.out
      obtain ⟨z78_0, z78_1, z78_2, z78_3, y78_0, y78_1, y78_2, y78_3⟩ := zC4 BK646.out
      go_wp2_with (first | ((with_reducible refine gate_callee (f := 12) rfl ?_); refine goesL_ (some 70) rfl rfl Tryd.func12 (by kernel_rfl) rfl #[.agg #[.int .i64 a0_0, .slice A0_1 l0_1.length c0_1, .slice A0_2 l0_2.length c0_2], .int .i64 a1_0] rfl zA ?_; (with_reducible refine (cooperageref16_Waits.calls kj34 a0_0 _ _ l0_1 _ _ l0_2 a1_0 t658 t659 t660 t661 true _ ?side1 ?side2 ?side3 ?side4 A70.out).mono ?_); (case side1 => exact zCS (Kd.C_below HR0_1.out HB.out)); (case side2 => exact HC0_1.out); (case side3 => exact zCS (Kd.C_below HR0_2.out HB.out)); (case side4 => exact HC0_2.out); rintro e w79 ⟨rfl, hb⟩; refine ⟨_, rfl, ?_⟩; replace BK645 := ka (zB BK645.out hb); replace BK646 := ka (zB BK646.out hb); replace BK647 := ka (zB BK647.out hb); replace BK657 := ka (zB BK657.out hb); replace HB := ka (below_step (zL HB.out) hb); (try clear hb); (try clear hb2); (try clear hk); (try clear hi)) | ((with_reducible refine gate_dst (N := 12) rfl ?_); refine box_event ?hg (N := 12) ?hd (cs := #[.int .i64 0, .string ⟨#[]⟩, .bool false, .int .i64 0]) (t := 52) ?hr ?_; (case hd => rfl); (case hg => rfl); (case hr => (go_simp; try rfl)); intro gb663 hg w80 hbox hb; have BK663 := ka (hbox); have GW663 := ka (zG hg (zL HB.out)); replace HB := ka (below_step (zL HB.out) hb); have NB645_663 := ka (zNK hg BK645.out); have NB663_645 := ka (zOK hg BK645.out); replace BK645 := ka (zB BK645.out hb); have NB646_663 := ka (zNK hg BK646.out); have NB663_646 := ka (zOK hg BK646.out); replace BK646 := ka (zB BK646.out hb); have NB647_663 := ka (zNK hg BK647.out); have NB663_647 := ka (zOK hg BK647.out); replace BK647 := ka (zB BK647.out hb); have NB657_663 := ka (zNK hg BK657.out); have NB663_657 := ka (zOK hg BK657.out); replace BK657 := ka (zB BK657.out hb); clear hb hbox hg; have hnb81 := NB663_645.out; have hnc81 := NB645_663.out; have hnb82 := NB663_646.out; have hnc82 := NB646_663.out; have hnb83 := NB663_647.out; have hnc83 := NB647_663.out; have hnb84 := NB663_657.out; have hnc84 := NB657_663.out; obtain ⟨z85_0, z85_1, z85_2, z85_3, y85_0, y85_1, y85_2, y85_3⟩ := zC4 BK663.out; have hnb86 := NB647_657.out; have hnc86 := NB657_647.out; obtain ⟨z87_0, z87_1, z87_2, y87_0, y87_1, y87_2⟩ := zC3 BK647.out))
      refine bodyPost_ret (results_ctt rfl _ _ gb647 32 #[.int .i64 0, .slice none 0 0, .slice none 0 0] (0, 0) _ rfl (zP3 BK647.out) Tryd.underlying32 rfl (by kernel_rfl)) rfl ?_
      exact ⟨_, _, zE, zNl, zNl, zL HB.out⟩
     replace c71 := Bool.eq_false_iff.mpr c71
     subst c71
     rw [if_neg (show ¬ (false = true) by decide)] at H
     by_cases c88 : (l0_2.length : Int) ≥ 100
     ·rw [if_pos c88] at H
      have c88b0 : decide (100 ≤ (l0_2.length : Int)) = true := zdt c88
      have c88b1 : decide (100 ≤ l0_2.length) = true := decide_eq_true (by omega)
      clear c88
      replace H := zs5 H
      obtain ⟨rfl, rfl, rfl, rfl, rfl⟩ := H
      have hnb89 := NB645_646.out
      have hnc89 := NB646_645.out
      have hnb90 := NB645_647.out
      have hnc90 := NB647_645.out
      have hnb91 := NB645_657.out
      have hnc91 := NB657_645.out
      obtain ⟨z92_0, z92_1, z92_2, y92_0, y92_1, y92_2⟩ := zC3 BK645.out
      have hnb93 := NB646_647.out
      have hnc93 := NB647_646.out
      have hnb94 := NB646_657.out
      have hnc94 := NB657_646.out
      obtain ⟨z95_0, z95_1, z95_2, z95_3, y95_0, y95_1, y95_2, y95_3⟩ := zC4 BK646.out
      go_wp2_with (first | ((with_reducible refine gate_callee (f := 12) rfl ?_); refine goesL_ (some 70) rfl rfl Tryd.func12 (by kernel_rfl) rfl #[.agg #[.int .i64 a0_0, .slice A0_1 l0_1.length c0_1, .slice A0_2 l0_2.length c0_2], .int .i64 a1_0] rfl zA ?_; (with_reducible refine (cooperageref16_Waits.calls kj34 a0_0 _ _ l0_1 _ _ l0_2 a1_0 t658 t659 t660 t661 false _ ?side1 ?side2 ?side3 ?side4 A70.out).mono ?_); (case side1 => exact zCS (Kd.C_below HR0_1.out HB.out)); (case side2 => exact HC0_1.out); (case side3 => exact zCS (Kd.C_below HR0_2.out HB.out)); (case side4 => exact HC0_2.out); rintro e w96 ⟨rfl, hb⟩; refine ⟨_, rfl, ?_⟩; replace BK645 := ka (zB BK645.out hb); replace BK646 := ka (zB BK646.out hb); replace BK647 := ka (zB BK647.out hb); replace BK657 := ka (zB BK657.out hb); replace HB := ka (below_step (zL HB.out) hb); (try clear hb); (try clear hb2); (try clear hk); (try clear hi)) | ((with_reducible refine gate_dst (N := 12) rfl ?_); refine box_event ?hg (N := 12) ?hd (cs := #[.int .i64 0, .string ⟨#[]⟩, .bool false, .int .i64 0]) (t := 52) ?hr ?_; (case hd => rfl); (case hg => rfl); (case hr => (go_simp; try rfl)); intro gb663 hg w97 hbox hb; have BK663 := ka (hbox); have GW663 := ka (zG hg (zL HB.out)); replace HB := ka (below_step (zL HB.out) hb); have NB645_663 := ka (zNK hg BK645.out); have NB663_645 := ka (zOK hg BK645.out); replace BK645 := ka (zB BK645.out hb); have NB646_663 := ka (zNK hg BK646.out); have NB663_646 := ka (zOK hg BK646.out); replace BK646 := ka (zB BK646.out hb); have NB647_663 := ka (zNK hg BK647.out); have NB663_647 := ka (zOK hg BK647.out); replace BK647 := ka (zB BK647.out hb); have NB657_663 := ka (zNK hg BK657.out); have NB663_657 := ka (zOK hg BK657.out); replace BK657 := ka (zB BK657.out hb); clear hb hbox hg; have hnb98 := NB663_645.out; have hnc98 := NB645_663.out; have hnb99 := NB663_646.out; have hnc99 := NB646_663.out; have hnb100 := NB663_647.out; have hnc100 := NB647_663.out; have hnb101 := NB663_657.out; have hnc101 := NB657_663.out; obtain ⟨z102_0, z102_1, z102_2, z102_3, y102_0, y102_1, y102_2, y102_3⟩ := zC4 BK663.out; obtain ⟨z103_0, z103_1, z103_2, y103_0, y103_1, y103_2⟩ := zC3 BK645.out; have hnb104 := NB647_657.out; have hnc104 := NB657_647.out; obtain ⟨z105_0, z105_1, z105_2, y105_0, y105_1, y105_2⟩ := zC3 BK647.out))
      refine bodyPost_ret (results_ctt rfl _ _ gb647 32 #[.int .i64 0, .slice none 0 0, .slice none 0 0] (0, 0) _ rfl (zP3 BK647.out) Tryd.underlying32 rfl (by kernel_rfl)) rfl ?_
      exact ⟨_, _, zE, zNl, zNl, zL HB.out⟩
     rw [if_neg c88] at H
     have c88b0 : decide (100 ≤ (l0_2.length : Int)) = false := zdf c88
     have c88b1 : decide (100 ≤ l0_2.length) = false := decide_eq_false (by omega)
     clear c88
     obtain ⟨y664, hy664⟩ : ∃ y_ : List (S52), y_ = (([] : List (S52))) := ⟨_, rfl⟩
     replace H : (if y664.length + l0_2.length < 3518437208883 then ((some (y664 ++ l0_2 : List (S52))).bind fun y667 => ((some (([(⟨a1_0, a1_1, a1_2, a1_3⟩ : S52)] : List (S52)) : List (S52))).bind fun y670 => (if y667.length + y670.length < 3518437208883 then ((cooperageref16_settle.f kj34 a0_0 l0_1 (y667 ++ y670) a2).bind fun bt676 => ((cooperageref16_Held.f kj34 bt676.1 bt676.2.1 bt676.2.2 a1_0 a1_1).bind fun bt684 => (some (bt676.1, bt676.2.1, bt676.2.2, bt684.2.2.2.1, 0)))) else (none)))) else (none)) = some (r1, r2, r3, r4, r5) := zH hy664 H
     have Ny664 := ka hy664
     clear hy664
     replace H := zif H
     obtain ⟨c106, H⟩ := H
     have LMc106 := ka c106
     clear c106
     obtain ⟨y667, hy667⟩ : ∃ y_ : List (S52), y_ = (y664 ++ l0_2) := ⟨_, rfl⟩
     replace H : ((some (([(⟨a1_0, a1_1, a1_2, a1_3⟩ : S52)] : List (S52)) : List (S52))).bind fun y670 => (if y667.length + y670.length < 3518437208883 then ((cooperageref16_settle.f kj34 a0_0 l0_1 (y667 ++ y670) a2).bind fun bt676 => ((cooperageref16_Held.f kj34 bt676.1 bt676.2.1 bt676.2.2 a1_0 a1_1).bind fun bt684 => (some (bt676.1, bt676.2.1, bt676.2.2, bt684.2.2.2.1, 0)))) else (none))) = some (r1, r2, r3, r4, r5) := zH hy667 H
     have Ny667 := ka hy667
     clear hy667
     obtain ⟨y670, hy670⟩ : ∃ y_ : List (S52), y_ = (([(⟨a1_0, a1_1, a1_2, a1_3⟩ : S52)] : List (S52))) := ⟨_, rfl⟩
     replace H : (if y667.length + y670.length < 3518437208883 then ((cooperageref16_settle.f kj34 a0_0 l0_1 (y667 ++ y670) a2).bind fun bt676 => ((cooperageref16_Held.f kj34 bt676.1 bt676.2.1 bt676.2.2 a1_0 a1_1).bind fun bt684 => (some (bt676.1, bt676.2.1, bt676.2.2, bt684.2.2.2.1, 0)))) else (none)) = some (r1, r2, r3, r4, r5) := zH hy670 H
     have Ny670 := ka hy670
     clear hy670
     replace H := zif H
     obtain ⟨c107, H⟩ := H
     have LMc107 := ka c107
     clear c107
     obtain ⟨y673, hy673⟩ : ∃ y_ : List (S52), y_ = (y667 ++ y670) := ⟨_, rfl⟩
     replace H : ((cooperageref16_settle.f kj34 a0_0 l0_1 y673 a2).bind fun bt676 => ((cooperageref16_Held.f kj34 bt676.1 bt676.2.1 bt676.2.2 a1_0 a1_1).bind fun bt684 => (some (bt676.1, bt676.2.1, bt676.2.2, bt684.2.2.2.1, 0)))) = some (r1, r2, r3, r4, r5) := zH hy673 H
     have Ny673 := ka hy673
     clear hy673
     replace H := Option.bind_eq_some_iff.mp H
     obtain ⟨⟨t676, t677, t680⟩, A1080, H⟩ := H
     try dsimp only at H
     have A108 := ka A1080
     clear A1080
     replace H := Option.bind_eq_some_iff.mp H
     obtain ⟨⟨t684, t685, t686, t687, t688, t689⟩, A1090, H⟩ := H
     try dsimp only at H
     have A109 := ka A1090
     clear A1090
     replace H := zs5 H
     obtain ⟨rfl, rfl, rfl, rfl, rfl⟩ := H
     have hnb110 := NB645_646.out
     have hnc110 := NB646_645.out
     have hnb111 := NB645_647.out
     have hnc111 := NB647_645.out
     have hnb112 := NB645_657.out
     have hnc112 := NB657_645.out
     obtain ⟨z113_0, z113_1, z113_2, y113_0, y113_1, y113_2⟩ := zC3 BK645.out
     have hnb114 := NB646_647.out
     have hnc114 := NB647_646.out
     have hnb115 := NB646_657.out
     have hnc115 := NB657_646.out
     obtain ⟨z116_0, z116_1, z116_2, z116_3, y116_0, y116_1, y116_2, y116_3⟩ := zC4 BK646.out
     try go_wp2_with (first | ((with_reducible refine gate_callee (f := 12) rfl ?_); refine goesL_ (some 70) rfl rfl Tryd.func12 (by kernel_rfl) rfl #[.agg #[.int .i64 a0_0, .slice A0_1 l0_1.length c0_1, .slice A0_2 l0_2.length c0_2], .int .i64 a1_0] rfl zA ?_; (with_reducible refine (cooperageref16_Waits.calls kj34 a0_0 _ _ l0_1 _ _ l0_2 a1_0 t658 t659 t660 t661 false _ ?side1 ?side2 ?side3 ?side4 A70.out).mono ?_); (case side1 => exact zCS (Kd.C_below HR0_1.out HB.out)); (case side2 => exact HC0_1.out); (case side3 => exact zCS (Kd.C_below HR0_2.out HB.out)); (case side4 => exact HC0_2.out); rintro e w117 ⟨rfl, hb⟩; refine ⟨_, rfl, ?_⟩; replace BK645 := ka (zB BK645.out hb); replace BK646 := ka (zB BK646.out hb); replace BK647 := ka (zB BK647.out hb); replace BK657 := ka (zB BK657.out hb); replace HB := ka (below_step (zL HB.out) hb); (try clear hb); (try clear hb2); (try clear hk); (try clear hi)) | ((with_reducible refine gate_dst (N := 12) rfl ?_); refine box_event ?hg (N := 12) ?hd (cs := #[.int .i64 0, .string ⟨#[]⟩, .bool false, .int .i64 0]) (t := 52) ?hr ?_; (case hd => rfl); (case hg => rfl); (case hr => (go_simp; try rfl)); intro gb663 hg w118 hbox hb; have BK663 := ka (hbox); have GW663 := ka (zG hg (zL HB.out)); replace HB := ka (below_step (zL HB.out) hb); have NB645_663 := ka (zNK hg BK645.out); have NB663_645 := ka (zOK hg BK645.out); replace BK645 := ka (zB BK645.out hb); have NB646_663 := ka (zNK hg BK646.out); have NB663_646 := ka (zOK hg BK646.out); replace BK646 := ka (zB BK646.out hb); have NB647_663 := ka (zNK hg BK647.out); have NB663_647 := ka (zOK hg BK647.out); replace BK647 := ka (zB BK647.out hb); have NB657_663 := ka (zNK hg BK657.out); have NB663_657 := ka (zOK hg BK657.out); replace BK657 := ka (zB BK657.out hb); clear hb hbox hg; have hnb119 := NB663_645.out; have hnc119 := NB645_663.out; have hnb120 := NB663_646.out; have hnc120 := NB646_663.out; have hnb121 := NB663_647.out; have hnc121 := NB647_663.out; have hnb122 := NB663_657.out; have hnc122 := NB657_663.out; obtain ⟨z123_0, z123_1, z123_2, z123_3, y123_0, y123_1, y123_2, y123_3⟩ := zC4 BK663.out; obtain ⟨z124_0, z124_1, z124_2, y124_0, y124_1, y124_2⟩ := zC3 BK645.out))
     replace BK645 : Aside0 (((((w118.setCell ⟨gb663, 0, none⟩ (.int .i64 t658)).setCell ⟨gb663, 1, none⟩ (.string t659)).setCell ⟨gb663, 2, none⟩ (.bool t660)).setCell ⟨gb663, 3, none⟩ (.int .i64 t661)).heap[gb645]? = some (.cells #[.int .i64 a0_0, .slice A0_1 l0_1.length c0_1, .slice A0_2 l0_2.length c0_2] 32 (0, 0))) := ⟨zK BK645.out⟩
     replace BK646 : Aside0 (((((w118.setCell ⟨gb663, 0, none⟩ (.int .i64 t658)).setCell ⟨gb663, 1, none⟩ (.string t659)).setCell ⟨gb663, 2, none⟩ (.bool t660)).setCell ⟨gb663, 3, none⟩ (.int .i64 t661)).heap[gb646]? = some (.cells #[.int .i64 a1_0, .string a1_1, .bool a1_2, .int .i64 a1_3] 52 (0, 0))) := ⟨zK BK646.out⟩
     replace BK647 : Aside0 (((((w118.setCell ⟨gb663, 0, none⟩ (.int .i64 t658)).setCell ⟨gb663, 1, none⟩ (.string t659)).setCell ⟨gb663, 2, none⟩ (.bool t660)).setCell ⟨gb663, 3, none⟩ (.int .i64 t661)).heap[gb647]? = some (.cells #[.int .i64 0, .slice none 0 0, .slice none 0 0] 32 (0, 0))) := ⟨zK BK647.out⟩
     replace BK657 : Aside0 (((((w118.setCell ⟨gb663, 0, none⟩ (.int .i64 t658)).setCell ⟨gb663, 1, none⟩ (.string t659)).setCell ⟨gb663, 2, none⟩ (.bool t660)).setCell ⟨gb663, 3, none⟩ (.int .i64 t661)).heap[gb657]? = some (.cells #[.int .i64 t651, .string t652, .bool t653, .int .i64 t654, .int .i64 t655] 45 (0, 0))) := ⟨zK BK657.out⟩
     replace BK663 : Aside0 (((((w118.setCell ⟨gb663, 0, none⟩ (.int .i64 t658)).setCell ⟨gb663, 1, none⟩ (.string t659)).setCell ⟨gb663, 2, none⟩ (.bool t660)).setCell ⟨gb663, 3, none⟩ (.int .i64 t661)).heap[gb663]? = some (.cells #[.int .i64 t658, .string t659, .bool t660, .int .i64 t661] 52 (0, 0))) := ⟨zP4 BK663.out⟩
     replace HB : Aside0 (Below w.heap.size w ((((w118.setCell ⟨gb663, 0, none⟩ (.int .i64 t658)).setCell ⟨gb663, 1, none⟩ (.string t659)).setCell ⟨gb663, 2, none⟩ (.bool t660)).setCell ⟨gb663, 3, none⟩ (.int .i64 t661))) := ⟨zL HB.out⟩
     repeat rw [zDC]
     repeat rw [zDD]
     generalize ((((w118.setCell ⟨gb663, 0, none⟩ (.int .i64 t658)).setCell ⟨gb663, 1, none⟩ (.string t659)).setCell ⟨gb663, 2, none⟩ (.bool t660)).setCell ⟨gb663, 3, none⟩ (.int .i64 t661)) = w125 at BK645 BK646 BK647 BK657 BK663 HB ⊢
     replace BK645 := ka (blk_drew BK645.out)
     replace BK646 := ka (blk_drew BK646.out)
     replace BK647 := ka (blk_drew BK647.out)
     replace BK657 := ka (blk_drew BK657.out)
     replace BK663 := ka (blk_drew BK663.out)
     replace HB := ka (below_drew1 HB.out)
     refine start_ (n := 9) (S := fun w' => w'.cell? ⟨gb645, 0, none⟩ = some (.int .i64 a0_0) ∧ w'.cell? ⟨gb645, 1, none⟩ = some (.slice A0_1 l0_1.length c0_1) ∧ w'.cell? ⟨gb645, 2, none⟩ = some (.slice A0_2 l0_2.length c0_2) ∧ w'.cell? ⟨gb646, 0, none⟩ = some (.int .i64 a1_0) ∧ w'.cell? ⟨gb646, 1, none⟩ = some (.string a1_1) ∧ w'.cell? ⟨gb646, 2, none⟩ = some (.bool a1_2) ∧ w'.cell? ⟨gb646, 3, none⟩ = some (.int .i64 a1_3)) (ds := [8]) #[false, false, false, false, false, false, false, false, false] (by kernel_rfl) rfl rfl ⟨zc BK645.out 0, zc BK645.out 1, zc BK645.out 2, zc BK646.out 0, zc BK646.out 1, zc BK646.out 2, zc BK646.out 3⟩ (fun hHeld => ?_); refine with_tabW cooperageref16_Take.tab14 cooperageref16_Take.bits14 (fun HT_ HW_ => ?_)
     generalize w125.drew = w126 at BK645 BK646 BK647 BK657 BK663 HB hHeld ⊢
     refine zpp 1 (N := some 81) HT_ (h := ?_)
     refine zpt 2 (N := some 82) HT_ HW_ hHeld (h := ?_)
     refine zpt 4 (N := some 84) HT_ HW_ hHeld (h := ?_)
     refine join_ (σ := Value × Value × Value) 3 #[true, true, true, true, true, true, false, false, false] (fun s_ => [(80, s_.1), (83, s_.2.1), (85, s_.2.2)]) (fun s_ w' => (w'.cell? ⟨gb645, 0, none⟩ = some (.int .i64 a0_0) ∧ w'.cell? ⟨gb645, 1, none⟩ = some (.slice A0_1 l0_1.length c0_1) ∧ w'.cell? ⟨gb645, 2, none⟩ = some (.slice A0_2 l0_2.length c0_2) ∧ w'.cell? ⟨gb646, 0, none⟩ = some (.int .i64 a1_0) ∧ w'.cell? ⟨gb646, 1, none⟩ = some (.string a1_1) ∧ w'.cell? ⟨gb646, 2, none⟩ = some (.bool a1_2) ∧ w'.cell? ⟨gb646, 3, none⟩ = some (.int .i64 a1_3)) ∧ (Kd.R k52 52 w' w.heap.size (fun k_ => some k_ ≠ (s_.2.2 : Value).ownBlock ∧ k_ ≠ gb646 ∧ k_ ≠ gb663) s_.2.1 y667) ∧ (Kd.R k52 52 w' w.heap.size (fun k_ => some k_ ≠ (s_.2.1 : Value).ownBlock ∧ k_ ≠ gb646 ∧ k_ ≠ gb663) s_.2.2 y670) ∧ (w'.heap[gb645]? = some (.cells #[.int .i64 a0_0, .slice A0_1 l0_1.length c0_1, .slice A0_2 l0_2.length c0_2] 32 (0, 0))) ∧ (w'.heap[gb646]? = some (.cells #[.int .i64 a1_0, .string a1_1, .bool a1_2, .int .i64 a1_3] 52 (0, 0))) ∧ (w'.heap[gb647]? = some (.cells #[.int .i64 0, .slice none 0 0, .slice none 0 0] 32 (0, 0))) ∧ (w'.heap[gb657]? = some (.cells #[.int .i64 t651, .string t652, .bool t653, .int .i64 t654, .int .i64 t655] 45 (0, 0))) ∧ (w'.heap[gb663]? = some (.cells #[.int .i64 t658, .string t659, .bool t660, .int .i64 t661] 52 (0, 0))) ∧ (Below w.heap.size w w')) ?_ ?_
     rotate_left
     ·intro hCont
      refine two_ (i := 0) (j := 5) (Ni := some 80) (Nj := some 85) #[true, true, true, false, true, false, false, false, false] #[false, true, true, false, true, true, false, false, false] rfl rfl rfl rfl (two_of HT_.out (by kernel_rfl)) (by decide) (by decide) (fun K hK => ?_) (fun K hK => ?_)
      ·skip
       refine Kd.R_lit_step k52 _ 52 ?hg (N := 80) ?hd (xs := ([] : List (S52))) (inner := []) (ok := fun _ => True) (okp := fun _ => True) ?hr ?hp (fun _ hk => hk) trivial (Below.refl _ _) (Nat.le_refl _) (by simp) ?_; (case hd => rfl); (case hg => rfl); (case hr => (go_simp; try rfl)); (case hp => exact (Reps.none _ _))
       intro v665 w127 ho128 hb hg_ hnew_
       clear hg_ hnew_
       (first | rw [← Ny664.out] at ho128 | (simp only [Int.reduceToNat] at ho128; rw [← Ny664.out] at ho128))
       have HO666 := ka (Kd.R_lower (Kd.R_newB (Kd.R_newB ho128 (g := gb646) (o := .cells #[.int .i64 a1_0, .string a1_1, .bool a1_2, .int .i64 a1_3] 52 (0, 0)) (zK BK646.out)) (g := gb663) (o := .cells #[.int .i64 t658, .string t659, .bool t660, .int .i64 t661] 52 (0, 0)) (zK BK663.out)) (below_size (zL HB.out)))
       replace BK645 := ka (zB BK645.out hb)
       replace BK646 := ka (zB BK646.out hb)
       replace BK647 := ka (zB BK647.out hb)
       replace BK657 := ka (zB BK657.out hb)
       replace BK663 := ka (zB BK663.out hb)
       replace HB := ka (below_step (zL HB.out) hb)
       clear hb ho128
       refine hK.out _ _ ⟨zc BK645.out 0, zc BK645.out 1, zc BK645.out 2, zc BK646.out 0, zc BK646.out 1, zc BK646.out 2, zc BK646.out 3⟩ (fun hHeld => ?_)
       clear hK K
       refine znm (N := some 80) (h := ?_)
       refine two_ (i := 3) (j := 5) (Ni := some 83) (Nj := some 85) #[true, true, true, true, true, false, false, false, false] #[true, true, true, false, true, true, false, false, false] rfl rfl rfl rfl (two_of HT_.out (by kernel_rfl)) (by decide) (by decide) (fun K hK => ?_) (fun K hK => ?_)
       ·skip
        refine Kd.R_append_rows_step k52 (w0 := w) w.heap.size (by rfl) (.tmp 80) (.tmp 82) 30 52 (.agg #[(.int .i64 0), (.string ⟨#[]⟩), (.bool false), (.int .i64 0)]) 40 rfl Tryd.underlying30 info52 rfl (by decide) (by omega) v665 y664 l0_2 _ _ _ (fun k_ => k_ ≠ gb646 ∧ k_ ≠ gb663) (fun _ => False) rfl rfl ?aO ?aR (fun _ _ h => h) (fun _ h => h.elim) ?aF ?aB ?aS ?aL ?_
        (case aR => repeat (first | exact (Kd.C_below HR0_2.out HB.out) | (with_reducible refine Kd.C_alloc ?_ _) | (with_reducible refine Kd.C_drewN ?_ _) | (with_reducible refine Kd.C_drew ?_)))
        (case aB => exact (zL HB.out))
        (case aF => exact (fun k_ hk => ⟨Kd.freshB (g := gb646) (o := .cells #[.int .i64 a1_0, .string a1_1, .bool a1_2, .int .i64 a1_3] 52 (0, 0)) (zK BK646.out) k_ hk, Kd.freshB (g := gb663) (o := .cells #[.int .i64 t658, .string t659, .bool t660, .int .i64 t661] 52 (0, 0)) (zK BK663.out) k_ hk⟩))
        (case aO => exact (by (with_reducible repeat (first | apply Kd.R_alloc | apply Kd.R_drewN | apply Kd.R_drew)); exact Kd.R_mono HO666.out (fun _ hk => ⟨hk.1.2, hk.2⟩)))
        (case aS => exact (below_size (zL HB.out)))
        (case aL => have := LMc106.out; omega)
        intro v668 w129 ho hb hg hat
        rw [← Ny667.out] at ho
        replace BK645 := ka (blk_grown (g := gb645) (o := .cells #[.int .i64 a0_0, .slice A0_1 l0_1.length c0_1, .slice A0_2 l0_2.length c0_2] 32 (0, 0)) (zK BK645.out) hg (Kd.R_ne HO666.out BK645.out (by decide)))
        replace BK646 := ka (blk_grown (g := gb646) (o := .cells #[.int .i64 a1_0, .string a1_1, .bool a1_2, .int .i64 a1_3] 52 (0, 0)) (zK BK646.out) hg (Kd.R_away HO666.out (fun _ hk => hk.1.2)))
        replace BK647 := ka (blk_grown (g := gb647) (o := .cells #[.int .i64 0, .slice none 0 0, .slice none 0 0] 32 (0, 0)) (zK BK647.out) hg (Kd.R_ne HO666.out BK647.out (by decide)))
        replace BK657 := ka (blk_grown (g := gb657) (o := .cells #[.int .i64 t651, .string t652, .bool t653, .int .i64 t654, .int .i64 t655] 45 (0, 0)) (zK BK657.out) hg (Kd.R_ne HO666.out BK657.out (by decide)))
        replace BK663 := ka (blk_grown (g := gb663) (o := .cells #[.int .i64 t658, .string t659, .bool t660, .int .i64 t661] 52 (0, 0)) (zK BK663.out) hg (Kd.R_away HO666.out (fun _ hk => hk.2)))
        replace HB := ka (hb)
        have HO669 := ka (ho)
        clear HO666
        clear ho hb hg hat
        refine hK.out _ _ ⟨zc BK645.out 0, zc BK645.out 1, zc BK645.out 2, zc BK646.out 0, zc BK646.out 1, zc BK646.out 2, zc BK646.out 3⟩ (fun hHeld => ?_)
        clear hK K
        refine znm (N := some 83) (h := ?_)
        refine one_ (i := 5) (N := some 85) #[true, true, true, true, true, true, false, false, false] rfl rfl (one_of HT_.out (by kernel_rfl)) (by decide) (fun K hK => ?_)
        refine Kd.R_lit_step k52 _ 52 ?hg (N := 85) ?hd (xs := ([(⟨a1_0, a1_1, a1_2, a1_3⟩ : S52)] : List (S52))) (inner := [.int .i64 a1_0, .string a1_1, .bool a1_2, .int .i64 a1_3]) (ok := fun _ => True) (okp := fun _ => True) ?hr ?hp (fun _ hk => hk) trivial (Below.refl _ _) (Nat.le_refl _) (by simp) ?_; (case hd => rfl); (case hg => rfl); (case hr => (go_simp; try rfl)); (case hp => exact (Reps.c4 (show Kd.M k52 _ _ _ (⟨a1_0, a1_1, a1_2, a1_3⟩ : S52) [.int .i64 a1_0, .string a1_1, .bool a1_2, .int .i64 a1_3] from (k52_mkM _ _ _ (⟨a1_0, a1_1, a1_2, a1_3⟩ : S52) )) (Reps.none _ _)))
        intro v671 w130 ho131 hb hg_ hnew_
        clear hg_ hnew_
        (first | rw [← Ny670.out] at ho131 | (simp only [Int.reduceToNat] at ho131; rw [← Ny670.out] at ho131))
        have HO672 := ka (Kd.R_lower (Kd.R_newB (Kd.R_newB (Kd.R_new' ho131 (Kd.R_lt (zR HO669.out))) (g := gb646) (o := .cells #[.int .i64 a1_0, .string a1_1, .bool a1_2, .int .i64 a1_3] 52 (0, 0)) (zK BK646.out)) (g := gb663) (o := .cells #[.int .i64 t658, .string t659, .bool t660, .int .i64 t661] 52 (0, 0)) (zK BK663.out)) (below_size (zL HB.out)))
        replace HO669 := ka (Kd.R_elder' (zR HO669.out) (Kd.R_base ho131) hb)
        replace BK645 := ka (zB BK645.out hb)
        replace BK646 := ka (zB BK646.out hb)
        replace BK647 := ka (zB BK647.out hb)
        replace BK657 := ka (zB BK657.out hb)
        replace BK663 := ka (zB BK663.out hb)
        replace HB := ka (below_step (zL HB.out) hb)
        clear hb ho131
        refine hK.out _ _ ⟨zc BK645.out 0, zc BK645.out 1, zc BK645.out 2, zc BK646.out 0, zc BK646.out 1, zc BK646.out 2, zc BK646.out 3⟩ (fun hHeld => ?_)
        clear hK K
        refine znm (N := some 85) (h := ?_)
        exact norm_ (by simp only [putAll, Act.put, List.setIfInBounds_toArray, List.set_cons_zero, List.set_cons_succ]) (hCont (v665, v668, v671) _ ⟨hHeld, (by (with_reducible repeat (first | apply Kd.R_alloc | apply Kd.R_drewN | apply Kd.R_drew)); exact Kd.R_mono HO669.out (fun _ hk => ⟨hk.2, ⟨hk.1.1, hk.1.2⟩⟩)), (by (with_reducible repeat (first | apply Kd.R_alloc | apply Kd.R_drewN | apply Kd.R_drew)); exact Kd.R_mono HO672.out (fun _ hk => ⟨hk.1.1.2, ⟨hk.1.2, hk.2⟩⟩)), (zK BK645.out), (zK BK646.out), (zK BK647.out), (zK BK657.out), (zK BK663.out), (zL HB.out)⟩)
       ·skip
        refine Kd.R_lit_step k52 _ 52 ?hg (N := 85) ?hd (xs := ([(⟨a1_0, a1_1, a1_2, a1_3⟩ : S52)] : List (S52))) (inner := [.int .i64 a1_0, .string a1_1, .bool a1_2, .int .i64 a1_3]) (ok := fun _ => True) (okp := fun _ => True) ?hr ?hp (fun _ hk => hk) trivial (Below.refl _ _) (Nat.le_refl _) (by simp) ?_; (case hd => rfl); (case hg => rfl); (case hr => (go_simp; try rfl)); (case hp => exact (Reps.c4 (show Kd.M k52 _ _ _ (⟨a1_0, a1_1, a1_2, a1_3⟩ : S52) [.int .i64 a1_0, .string a1_1, .bool a1_2, .int .i64 a1_3] from (k52_mkM _ _ _ (⟨a1_0, a1_1, a1_2, a1_3⟩ : S52) )) (Reps.none _ _)))
        intro v671 w129 ho130 hb hg_ hnew_
        clear hg_ hnew_
        (first | rw [← Ny670.out] at ho130 | (simp only [Int.reduceToNat] at ho130; rw [← Ny670.out] at ho130))
        have HO672 := ka (Kd.R_lower (Kd.R_newB (Kd.R_newB (Kd.R_new' ho130 (Kd.R_lt (zR HO666.out))) (g := gb646) (o := .cells #[.int .i64 a1_0, .string a1_1, .bool a1_2, .int .i64 a1_3] 52 (0, 0)) (zK BK646.out)) (g := gb663) (o := .cells #[.int .i64 t658, .string t659, .bool t660, .int .i64 t661] 52 (0, 0)) (zK BK663.out)) (below_size (zL HB.out)))
        replace HO666 := ka (Kd.R_elder' (zR HO666.out) (Kd.R_base ho130) hb)
        replace BK645 := ka (zB BK645.out hb)
        replace BK646 := ka (zB BK646.out hb)
        replace BK647 := ka (zB BK647.out hb)
        replace BK657 := ka (zB BK657.out hb)
        replace BK663 := ka (zB BK663.out hb)
        replace HB := ka (below_step (zL HB.out) hb)
        clear hb ho130
        refine hK.out _ _ ⟨zc BK645.out 0, zc BK645.out 1, zc BK645.out 2, zc BK646.out 0, zc BK646.out 1, zc BK646.out 2, zc BK646.out 3⟩ (fun hHeld => ?_)
        clear hK K
        refine znm (N := some 85) (h := ?_)
        refine one_ (i := 3) (N := some 83) #[true, true, true, true, true, true, false, false, false] rfl rfl (one_of HT_.out (by kernel_rfl)) (by decide) (fun K hK => ?_)
        refine Kd.R_append_rows_step k52 (w0 := w) w.heap.size (by rfl) (.tmp 80) (.tmp 82) 30 52 (.agg #[(.int .i64 0), (.string ⟨#[]⟩), (.bool false), (.int .i64 0)]) 40 rfl Tryd.underlying30 info52 rfl (by decide) (by omega) v665 y664 l0_2 _ _ _ (fun k_ => some k_ ≠ (v671 : Value).ownBlock ∧ k_ ≠ gb646 ∧ k_ ≠ gb663) (fun _ => False) rfl rfl ?aO ?aR (fun _ _ h => h) (fun _ h => h.elim) ?aF ?aB ?aS ?aL ?_
        (case aR => repeat (first | exact (Kd.C_below HR0_2.out HB.out) | (with_reducible refine Kd.C_alloc ?_ _) | (with_reducible refine Kd.C_drewN ?_ _) | (with_reducible refine Kd.C_drew ?_)))
        (case aB => exact (zL HB.out))
        (case aF => exact (fun k_ hk => ⟨Kd.fresh' (Kd.R_lt (zR HO672.out)) k_ hk, Kd.freshB (g := gb646) (o := .cells #[.int .i64 a1_0, .string a1_1, .bool a1_2, .int .i64 a1_3] 52 (0, 0)) (zK BK646.out) k_ hk, Kd.freshB (g := gb663) (o := .cells #[.int .i64 t658, .string t659, .bool t660, .int .i64 t661] 52 (0, 0)) (zK BK663.out) k_ hk⟩))
        (case aO => exact (by (with_reducible repeat (first | apply Kd.R_alloc | apply Kd.R_drewN | apply Kd.R_drew)); exact Kd.R_mono HO666.out (fun _ hk => ⟨hk.2, ⟨hk.1.1.2, hk.1.2⟩⟩)))
        (case aS => exact (below_size (zL HB.out)))
        (case aL => have := LMc106.out; omega)
        intro v668 w131 ho hb hg hat
        rw [← Ny667.out] at ho
        replace BK645 := ka (blk_grown (g := gb645) (o := .cells #[.int .i64 a0_0, .slice A0_1 l0_1.length c0_1, .slice A0_2 l0_2.length c0_2] 32 (0, 0)) (zK BK645.out) hg (Kd.R_ne HO666.out BK645.out (by decide)))
        replace BK646 := ka (blk_grown (g := gb646) (o := .cells #[.int .i64 a1_0, .string a1_1, .bool a1_2, .int .i64 a1_3] 52 (0, 0)) (zK BK646.out) hg (Kd.R_away HO666.out (fun _ hk => hk.1.1.2)))
        replace BK647 := ka (blk_grown (g := gb647) (o := .cells #[.int .i64 0, .slice none 0 0, .slice none 0 0] 32 (0, 0)) (zK BK647.out) hg (Kd.R_ne HO666.out BK647.out (by decide)))
        replace BK657 := ka (blk_grown (g := gb657) (o := .cells #[.int .i64 t651, .string t652, .bool t653, .int .i64 t654, .int .i64 t655] 45 (0, 0)) (zK BK657.out) hg (Kd.R_ne HO666.out BK657.out (by decide)))
        replace BK663 := ka (blk_grown (g := gb663) (o := .cells #[.int .i64 t658, .string t659, .bool t660, .int .i64 t661] 52 (0, 0)) (zK BK663.out) hg (Kd.R_away HO666.out (fun _ hk => hk.1.2)))
        replace HO672 := ka (Kd.R_after (ok := (fun k_ => k_ ≠ gb646 ∧ k_ ≠ gb663)) (by (with_reducible repeat (first | apply Kd.R_alloc | apply Kd.R_drewN | apply Kd.R_drew)); exact Kd.R_mono HO672.out (fun _ hk => ⟨⟨hk.1.2, hk.2⟩, hk.1.1.2⟩)) hg hat)
        replace HB := ka (hb)
        have HO669 := ka (ho)
        clear HO666
        clear ho hb hg hat
        refine hK.out _ _ ⟨zc BK645.out 0, zc BK645.out 1, zc BK645.out 2, zc BK646.out 0, zc BK646.out 1, zc BK646.out 2, zc BK646.out 3⟩ (fun hHeld => ?_)
        clear hK K
        refine znm (N := some 83) (h := ?_)
        exact norm_ (by simp only [putAll, Act.put, List.setIfInBounds_toArray, List.set_cons_zero, List.set_cons_succ]) (hCont (v665, v668, v671) _ ⟨hHeld, (zR HO669.out), (by (with_reducible repeat (first | apply Kd.R_alloc | apply Kd.R_drewN | apply Kd.R_drew)); exact Kd.R_mono HO672.out (fun _ hk => ⟨hk.2, ⟨hk.1.1, hk.1.2⟩⟩)), (zK BK645.out), (zK BK646.out), (zK BK647.out), (zK BK657.out), (zK BK663.out), (zL HB.out)⟩)
      ·skip
       refine Kd.R_lit_step k52 _ 52 ?hg (N := 85) ?hd (xs := ([(⟨a1_0, a1_1, a1_2, a1_3⟩ : S52)] : List (S52))) (inner := [.int .i64 a1_0, .string a1_1, .bool a1_2, .int .i64 a1_3]) (ok := fun _ => True) (okp := fun _ => True) ?hr ?hp (fun _ hk => hk) trivial (Below.refl _ _) (Nat.le_refl _) (by simp) ?_; (case hd => rfl); (case hg => rfl); (case hr => (go_simp; try rfl)); (case hp => exact (Reps.c4 (show Kd.M k52 _ _ _ (⟨a1_0, a1_1, a1_2, a1_3⟩ : S52) [.int .i64 a1_0, .string a1_1, .bool a1_2, .int .i64 a1_3] from (k52_mkM _ _ _ (⟨a1_0, a1_1, a1_2, a1_3⟩ : S52) )) (Reps.none _ _)))
       intro v671 w127 ho128 hb hg_ hnew_
       clear hg_ hnew_
       (first | rw [← Ny670.out] at ho128 | (simp only [Int.reduceToNat] at ho128; rw [← Ny670.out] at ho128))
       have HO672 := ka (Kd.R_lower (Kd.R_newB (Kd.R_newB ho128 (g := gb646) (o := .cells #[.int .i64 a1_0, .string a1_1, .bool a1_2, .int .i64 a1_3] 52 (0, 0)) (zK BK646.out)) (g := gb663) (o := .cells #[.int .i64 t658, .string t659, .bool t660, .int .i64 t661] 52 (0, 0)) (zK BK663.out)) (below_size (zL HB.out)))
       replace BK645 := ka (zB BK645.out hb)
       replace BK646 := ka (zB BK646.out hb)
       replace BK647 := ka (zB BK647.out hb)
       replace BK657 := ka (zB BK657.out hb)
       replace BK663 := ka (zB BK663.out hb)
       replace HB := ka (below_step (zL HB.out) hb)
       clear hb ho128
       refine hK.out _ _ ⟨zc BK645.out 0, zc BK645.out 1, zc BK645.out 2, zc BK646.out 0, zc BK646.out 1, zc BK646.out 2, zc BK646.out 3⟩ (fun hHeld => ?_)
       clear hK K
       refine znm (N := some 85) (h := ?_)
       refine one_ (i := 0) (N := some 80) #[true, true, true, false, true, true, false, false, false] rfl rfl (one_of HT_.out (by kernel_rfl)) (by decide) (fun K hK => ?_)
       refine Kd.R_lit_step k52 _ 52 ?hg (N := 80) ?hd (xs := ([] : List (S52))) (inner := []) (ok := fun _ => True) (okp := fun _ => True) ?hr ?hp (fun _ hk => hk) trivial (Below.refl _ _) (Nat.le_refl _) (by simp) ?_; (case hd => rfl); (case hg => rfl); (case hr => (go_simp; try rfl)); (case hp => exact (Reps.none _ _))
       intro v665 w129 ho130 hb hg_ hnew_
       clear hg_ hnew_
       (first | rw [← Ny664.out] at ho130 | (simp only [Int.reduceToNat] at ho130; rw [← Ny664.out] at ho130))
       have HO666 := ka (Kd.R_lower (Kd.R_newB (Kd.R_newB (Kd.R_new' ho130 (Kd.R_lt (zR HO672.out))) (g := gb646) (o := .cells #[.int .i64 a1_0, .string a1_1, .bool a1_2, .int .i64 a1_3] 52 (0, 0)) (zK BK646.out)) (g := gb663) (o := .cells #[.int .i64 t658, .string t659, .bool t660, .int .i64 t661] 52 (0, 0)) (zK BK663.out)) (below_size (zL HB.out)))
       replace HO672 := ka (Kd.R_elder' (zR HO672.out) (Kd.R_base ho130) hb)
       replace BK645 := ka (zB BK645.out hb)
       replace BK646 := ka (zB BK646.out hb)
       replace BK647 := ka (zB BK647.out hb)
       replace BK657 := ka (zB BK657.out hb)
       replace BK663 := ka (zB BK663.out hb)
       replace HB := ka (below_step (zL HB.out) hb)
       clear hb ho130
       refine hK.out _ _ ⟨zc BK645.out 0, zc BK645.out 1, zc BK645.out 2, zc BK646.out 0, zc BK646.out 1, zc BK646.out 2, zc BK646.out 3⟩ (fun hHeld => ?_)
       clear hK K
       refine znm (N := some 80) (h := ?_)
       refine one_ (i := 3) (N := some 83) #[true, true, true, true, true, true, false, false, false] rfl rfl (one_of HT_.out (by kernel_rfl)) (by decide) (fun K hK => ?_)
       refine Kd.R_append_rows_step k52 (w0 := w) w.heap.size (by rfl) (.tmp 80) (.tmp 82) 30 52 (.agg #[(.int .i64 0), (.string ⟨#[]⟩), (.bool false), (.int .i64 0)]) 40 rfl Tryd.underlying30 info52 rfl (by decide) (by omega) v665 y664 l0_2 _ _ _ (fun k_ => some k_ ≠ (v671 : Value).ownBlock ∧ k_ ≠ gb646 ∧ k_ ≠ gb663) (fun _ => False) rfl rfl ?aO ?aR (fun _ _ h => h) (fun _ h => h.elim) ?aF ?aB ?aS ?aL ?_
       (case aR => repeat (first | exact (Kd.C_below HR0_2.out HB.out) | (with_reducible refine Kd.C_alloc ?_ _) | (with_reducible refine Kd.C_drewN ?_ _) | (with_reducible refine Kd.C_drew ?_)))
       (case aB => exact (zL HB.out))
       (case aF => exact (fun k_ hk => ⟨Kd.fresh' (Kd.R_lt (zR HO672.out)) k_ hk, Kd.freshB (g := gb646) (o := .cells #[.int .i64 a1_0, .string a1_1, .bool a1_2, .int .i64 a1_3] 52 (0, 0)) (zK BK646.out) k_ hk, Kd.freshB (g := gb663) (o := .cells #[.int .i64 t658, .string t659, .bool t660, .int .i64 t661] 52 (0, 0)) (zK BK663.out) k_ hk⟩))
       (case aO => exact (by (with_reducible repeat (first | apply Kd.R_alloc | apply Kd.R_drewN | apply Kd.R_drew)); exact Kd.R_mono HO666.out (fun _ hk => ⟨hk.1.1.2, ⟨hk.1.2, hk.2⟩⟩)))
       (case aS => exact (below_size (zL HB.out)))
       (case aL => have := LMc106.out; omega)
       intro v668 w131 ho hb hg hat
       rw [← Ny667.out] at ho
       replace BK645 := ka (blk_grown (g := gb645) (o := .cells #[.int .i64 a0_0, .slice A0_1 l0_1.length c0_1, .slice A0_2 l0_2.length c0_2] 32 (0, 0)) (zK BK645.out) hg (Kd.R_ne HO666.out BK645.out (by decide)))
       replace BK646 := ka (blk_grown (g := gb646) (o := .cells #[.int .i64 a1_0, .string a1_1, .bool a1_2, .int .i64 a1_3] 52 (0, 0)) (zK BK646.out) hg (Kd.R_away HO666.out (fun _ hk => hk.1.2)))
       replace BK647 := ka (blk_grown (g := gb647) (o := .cells #[.int .i64 0, .slice none 0 0, .slice none 0 0] 32 (0, 0)) (zK BK647.out) hg (Kd.R_ne HO666.out BK647.out (by decide)))
       replace BK657 := ka (blk_grown (g := gb657) (o := .cells #[.int .i64 t651, .string t652, .bool t653, .int .i64 t654, .int .i64 t655] 45 (0, 0)) (zK BK657.out) hg (Kd.R_ne HO666.out BK657.out (by decide)))
       replace BK663 := ka (blk_grown (g := gb663) (o := .cells #[.int .i64 t658, .string t659, .bool t660, .int .i64 t661] 52 (0, 0)) (zK BK663.out) hg (Kd.R_away HO666.out (fun _ hk => hk.2)))
       replace HO672 := ka (Kd.R_after (ok := (fun k_ => k_ ≠ gb646 ∧ k_ ≠ gb663)) (by (with_reducible repeat (first | apply Kd.R_alloc | apply Kd.R_drewN | apply Kd.R_drew)); exact Kd.R_mono HO672.out (fun _ hk => ⟨⟨hk.1.1.2, hk.1.2⟩, hk.2⟩)) hg hat)
       replace HB := ka (hb)
       have HO669 := ka (ho)
       clear HO666
       clear ho hb hg hat
       refine hK.out _ _ ⟨zc BK645.out 0, zc BK645.out 1, zc BK645.out 2, zc BK646.out 0, zc BK646.out 1, zc BK646.out 2, zc BK646.out 3⟩ (fun hHeld => ?_)
       clear hK K
       refine znm (N := some 83) (h := ?_)
       exact norm_ (by simp only [putAll, Act.put, List.setIfInBounds_toArray, List.set_cons_zero, List.set_cons_succ]) (hCont (v665, v668, v671) _ ⟨hHeld, (zR HO669.out), (by (with_reducible repeat (first | apply Kd.R_alloc | apply Kd.R_drewN | apply Kd.R_drew)); exact Kd.R_mono HO672.out (fun _ hk => ⟨hk.2, ⟨hk.1.1, hk.1.2⟩⟩)), (zK BK645.out), (zK BK646.out), (zK BK647.out), (zK BK657.out), (zK BK663.out), (zL HB.out)⟩)
     rintro ⟨v665, v668, v671⟩ w132 ⟨hS_, h0_, h1_, h2_, h3_, h4_, h5_, h6_, h7_⟩
     have n0_ : Aside0 (Kd.R k52 52 w132 w.heap.size (fun k_ => some k_ ≠ (v671 : Value).ownBlock ∧ k_ ≠ gb646 ∧ k_ ≠ gb663) v668 y667) := ⟨h0_⟩
     have n1_ : Aside0 (Kd.R k52 52 w132 w.heap.size (fun k_ => some k_ ≠ (v668 : Value).ownBlock ∧ k_ ≠ gb646 ∧ k_ ≠ gb663) v671 y670) := ⟨h1_⟩
     have n2_ : Aside0 (w132.heap[gb645]? = some (.cells #[.int .i64 a0_0, .slice A0_1 l0_1.length c0_1, .slice A0_2 l0_2.length c0_2] 32 (0, 0))) := ⟨h2_⟩
     have n3_ : Aside0 (w132.heap[gb646]? = some (.cells #[.int .i64 a1_0, .string a1_1, .bool a1_2, .int .i64 a1_3] 52 (0, 0))) := ⟨h3_⟩
     have n4_ : Aside0 (w132.heap[gb647]? = some (.cells #[.int .i64 0, .slice none 0 0, .slice none 0 0] 32 (0, 0))) := ⟨h4_⟩
     have n5_ : Aside0 (w132.heap[gb657]? = some (.cells #[.int .i64 t651, .string t652, .bool t653, .int .i64 t654, .int .i64 t655] 45 (0, 0))) := ⟨h5_⟩
     have n6_ : Aside0 (w132.heap[gb663]? = some (.cells #[.int .i64 t658, .string t659, .bool t660, .int .i64 t661] 52 (0, 0))) := ⟨h6_⟩
     have n7_ : Aside0 (Below w.heap.size w w132) := ⟨h7_⟩
     clear BK645
     clear BK646
     clear BK647
     clear BK657
     clear BK663
     clear HB
     clear h0_ h1_ h2_ h3_ h4_ h5_ h6_ h7_
     have HO669 := n0_
     have HO672 := n1_
     have BK645 := n2_
     have BK646 := n3_
     have BK647 := n4_
     have BK657 := n5_
     have BK663 := n6_
     have HB := n7_
     clear n0_ n1_ n2_ n3_ n4_ n5_ n6_ n7_
     have hHeld : w132.cell? ⟨gb645, 0, none⟩ = some (.int .i64 a0_0) ∧ w132.cell? ⟨gb645, 1, none⟩ = some (.slice A0_1 l0_1.length c0_1) ∧ w132.cell? ⟨gb645, 2, none⟩ = some (.slice A0_2 l0_2.length c0_2) ∧ w132.cell? ⟨gb646, 0, none⟩ = some (.int .i64 a1_0) ∧ w132.cell? ⟨gb646, 1, none⟩ = some (.string a1_1) ∧ w132.cell? ⟨gb646, 2, none⟩ = some (.bool a1_2) ∧ w132.cell? ⟨gb646, 3, none⟩ = some (.int .i64 a1_3) := hS_
     obtain ⟨Ao134, co134, eo134⟩ := Kd.R_slice HO672.out
     (first | subst eo134 | (injection eo134 with f1_ f2_ f3_; have f4_ := f1_.symm; have f5_ := f3_.symm; clear f1_ f2_ f3_; subst f4_; subst f5_))
     refine norm_ (a' := ?_) ?_ ?_
     rotate_left
     ·simp only [putAll, Act.put, List.setIfInBounds_toArray, List.set_cons_zero, List.set_cons_succ]
      rfl
     refine one_ (i := 6) (N := some 86) #[true, true, true, true, true, true, true, false, false] rfl rfl (one_of HT_.out (by kernel_rfl)) (by decide) (fun K hK => ?_)
     refine Kd.R_append_rows_step k52 (w0 := w) w.heap.size (by rfl) (.tmp 83) (.tmp 85) 30 52 (.agg #[(.int .i64 0), (.string ⟨#[]⟩), (.bool false), (.int .i64 0)]) 40 rfl Tryd.underlying30 info52 rfl (by decide) (by omega) v668 y667 y670 _ _ _ (fun k_ => some k_ ≠ (.slice Ao134 y670.length co134 : Value).ownBlock ∧ k_ ≠ gb646 ∧ k_ ≠ gb663) (fun _ => False) rfl rfl ?aO ?aR (fun _ _ h => h) (fun _ h => h.elim) ?aF ?aB ?aS ?aL ?_
     (case aR => repeat (first | exact (Kd.R_reads' HO672.out).2.2 | (with_reducible refine Kd.C_alloc ?_ _) | (with_reducible refine Kd.C_drewN ?_ _) | (with_reducible refine Kd.C_drew ?_)))
     (case aB => exact (zL HB.out))
     (case aF => exact (fun k_ hk => ⟨Kd.fresh' (Kd.R_lt (zR HO672.out)) k_ hk, Kd.freshB (g := gb646) (o := .cells #[.int .i64 a1_0, .string a1_1, .bool a1_2, .int .i64 a1_3] 52 (0, 0)) (zK BK646.out) k_ hk, Kd.freshB (g := gb663) (o := .cells #[.int .i64 t658, .string t659, .bool t660, .int .i64 t661] 52 (0, 0)) (zK BK663.out) k_ hk⟩))
     (case aO => exact (zR HO669.out))
     (case aS => exact (below_size (zL HB.out)))
     (case aL => have := LMc107.out; omega)
     intro v674 w133 ho hb hg hat
     rw [← Ny673.out] at ho
     replace BK645 := ka (blk_grown (g := gb645) (o := .cells #[.int .i64 a0_0, .slice A0_1 l0_1.length c0_1, .slice A0_2 l0_2.length c0_2] 32 (0, 0)) (zK BK645.out) hg (Kd.R_ne HO669.out BK645.out (by decide)))
     replace BK646 := ka (blk_grown (g := gb646) (o := .cells #[.int .i64 a1_0, .string a1_1, .bool a1_2, .int .i64 a1_3] 52 (0, 0)) (zK BK646.out) hg (Kd.R_away HO669.out (fun _ hk => hk.2.1)))
     replace BK647 := ka (blk_grown (g := gb647) (o := .cells #[.int .i64 0, .slice none 0 0, .slice none 0 0] 32 (0, 0)) (zK BK647.out) hg (Kd.R_ne HO669.out BK647.out (by decide)))
     replace BK657 := ka (blk_grown (g := gb657) (o := .cells #[.int .i64 t651, .string t652, .bool t653, .int .i64 t654, .int .i64 t655] 45 (0, 0)) (zK BK657.out) hg (Kd.R_ne HO669.out BK657.out (by decide)))
     replace BK663 := ka (blk_grown (g := gb663) (o := .cells #[.int .i64 t658, .string t659, .bool t660, .int .i64 t661] 52 (0, 0)) (zK BK663.out) hg (Kd.R_away HO669.out (fun _ hk => hk.2.2)))
     replace HO672 := ka (Kd.R_after (ok := (fun k_ => k_ ≠ gb646 ∧ k_ ≠ gb663)) (by (with_reducible repeat (first | apply Kd.R_alloc | apply Kd.R_drewN | apply Kd.R_drew)); exact Kd.R_mono HO672.out (fun _ hk => ⟨⟨hk.2.1, hk.2.2⟩, hk.1⟩)) hg hat)
     replace HB := ka (hb)
     have HO675 := ka (ho)
     clear HO669
     clear ho hb hg hat
     obtain ⟨Ao135, co135, eo135⟩ := Kd.R_slice HO675.out
     (first | subst eo135 | (injection eo135 with f1_ f2_ f3_; have f4_ := f1_.symm; have f5_ := f3_.symm; clear f1_ f2_ f3_; subst f4_; subst f5_))
     refine hK.out _ _ ⟨zc BK645.out 0, zc BK645.out 1, zc BK645.out 2, zc BK646.out 0, zc BK646.out 1, zc BK646.out 2, zc BK646.out 3⟩ (fun hHeld => ?_)
     clear hK K
     refine znm (N := some 86) (h := ?_)
     refine zpp 7 (N := some 87) HT_ (h := ?_)
     refine last_ (i := 8) (N := none) #[true, true, true, true, true, true, true, true, true] rfl rfl (one_of HT_.out (by kernel_rfl)) (by decide) (fun K hK => ?_)
     have hs136 : w133.cell? ⟨gb645, 2, none⟩ = some (.slice A0_2 l0_2.length c0_2) := zc BK645.out 2
     have hfs136 := blk_frozen BK645.out 2
     have hns136_1 := NB646_645.out
     have hns136_2 := NB647_645.out
     have hns136_3 := NB657_645.out
     have hns136_4 := NB663_645.out
     have hms136_1 := NB645_646.out
     have hms136_2 := NB645_647.out
     have hms136_3 := NB645_657.out
     have hms136_4 := NB645_663.out
     refine skip_ (w1 := ?_) (by rfl) rfl ?_ ?_
     rotate_left
     ·go_simp
      rfl
     refine hK.out _ _ ?_
     clear hK K
     refine done_ (done_of HT_.out (by kernel_rfl)) ?_
     obtain ⟨z137_0, z137_1, z137_2, y137_0, y137_1, y137_2⟩ := zC3 BK645.out
     try go_wp2_with (first | ((with_reducible refine gate_callee (f := 43) rfl ?_); refine goesL_ (some 90) rfl rfl Tryd.func43 (by kernel_rfl) rfl #[.agg #[.int .i64 a0_0, .slice A0_1 l0_1.length c0_1, .slice Ao135 y673.length co135], .int .i64 a2] rfl zA ?_; (with_reducible refine (cooperageref16_settle.calls kj34 a0_0 _ _ l0_1 _ _ y673 a2 t676 t677 t680 _ ?side1 ?side2 ?side3 ?side4 A108.out).mono ?_); (case side1 => exact Kd.C_below HR0_1.out (zL HB.out)); (case side2 => exact HC0_1.out); (case side3 => refine (Kd.R_reads' (e := 52) (base := w.heap.size) (ok := fun k_ => (some k_ ≠ (.slice Ao134 y670.length co134 : Value).ownBlock ∧ (k_ ≠ gb646 ∧ k_ ≠ gb663))) (n := y673.length) (c := co135) ?_).2.2; exact (zT HO675.out BK645.out)); (case side4 => exact (Kd.R_reads' HO675.out).2.1); rintro e w138 ⟨v678, v681, rfl, ho0, ho1, hb⟩; refine ⟨_, rfl, ?_⟩; have HO679 := ka (Kd.R_lower (Kd.R_newB ho0 (g := gb657) (o := .cells #[.int .i64 t651, .string t652, .bool t653, .int .i64 t654, .int .i64 t655] 45 (0, 0)) (zK BK657.out)) (below_size (zL HB.out))); have HO682 := ka (Kd.R_lower (Kd.R_newB (Kd.R_newB (Kd.R_new' (Kd.R_new' ho1 (Kd.R_lt (zT HO672.out BK645.out))) (Kd.R_lt (zT HO675.out BK645.out))) (g := gb646) (o := .cells #[.int .i64 a1_0, .string a1_1, .bool a1_2, .int .i64 a1_3] 52 (0, 0)) (zK BK646.out)) (g := gb663) (o := .cells #[.int .i64 t658, .string t659, .bool t660, .int .i64 t661] 52 (0, 0)) (zK BK663.out)) (below_size (zL HB.out))); replace HO672 := ka (Kd.R_elder' (zT HO672.out BK645.out) (Kd.R_base ho1) hb); replace HO675 := ka (Kd.R_elder' (zT HO675.out BK645.out) (Kd.R_base ho1) hb); replace BK645 := ka (blk_below (g := gb645) (o := .cells #[.int .i64 a0_0, .slice A0_1 l0_1.length c0_1, .slice Ao135 y673.length co135] 32 (0, 0)) (by (with_reducible repeat (first | refine blk_drewN ?_ _ | refine blk_drew ?_ | refine blk_alloc ?_ _)); refine blk_put (cs := #[.int .i64 a0_0, .slice A0_1 l0_1.length c0_1, .slice A0_2 l0_2.length c0_2]) ?_ 2 _ rfl; (with_reducible repeat (first | refine blk_drewN ?_ _ | refine blk_drew ?_ | refine blk_alloc ?_ _)); exact BK645.out) hb); replace BK646 := ka (zB BK646.out hb); replace BK647 := ka (zB BK647.out hb); replace BK657 := ka (zB BK657.out hb); replace BK663 := ka (zB BK663.out hb); replace HB := ka (below_step (zL HB.out) hb); (try clear hb); (try clear hb2); (try clear hk); (try clear hi); (try clear ho0); (try clear ho1)) | ((with_reducible refine gate_dst (N := 14) rfl ?_); refine box_event ?hg (N := 14) ?hd (cs := #[.int .i64 0, .slice none 0 0, .slice none 0 0]) (t := 32) ?hr ?_; (case hd => rfl); (case hg => rfl); (case hr => (go_simp; try rfl)); intro gb683 hg w139 hbox hb; replace HO672 := ka (Kd.R_below (zR HO672.out) hb); replace HO675 := ka (Kd.R_below (zR HO675.out) hb); replace HO679 := ka (Kd.R_below (zR HO679.out) hb); replace HO682 := ka (Kd.R_below (zR HO682.out) hb); have BK683 := ka (hbox); have GW683 := ka (zG hg (zL HB.out)); replace HB := ka (below_step (zL HB.out) hb); have NB645_683 := ka (zNK hg BK645.out); have NB683_645 := ka (zOK hg BK645.out); replace BK645 := ka (zB BK645.out hb); have NB646_683 := ka (zNK hg BK646.out); have NB683_646 := ka (zOK hg BK646.out); replace BK646 := ka (zB BK646.out hb); have NB647_683 := ka (zNK hg BK647.out); have NB683_647 := ka (zOK hg BK647.out); replace BK647 := ka (zB BK647.out hb); have NB657_683 := ka (zNK hg BK657.out); have NB683_657 := ka (zOK hg BK657.out); replace BK657 := ka (zB BK657.out hb); have NB663_683 := ka (zNK hg BK663.out); have NB683_663 := ka (zOK hg BK663.out); replace BK663 := ka (zB BK663.out hb); clear hb hbox hg; have hnb140 := NB683_645.out; have hnc140 := NB645_683.out; have hnb141 := NB683_646.out; have hnc141 := NB646_683.out; have hnb142 := NB683_647.out; have hnc142 := NB647_683.out; have hnb143 := NB683_657.out; have hnc143 := NB657_683.out; have hnb144 := NB683_663.out; have hnc144 := NB663_683.out; obtain ⟨z145_0, z145_1, z145_2, y145_0, y145_1, y145_2⟩ := zC3 BK683.out; obtain ⟨Ao146, co146, eo146⟩ := Kd.R_slice HO679.out; subst eo146; obtain ⟨Ao147, co147, eo147⟩ := Kd.R_slice HO682.out; subst eo147; obtain ⟨z148_0, z148_1, z148_2, z148_3, y148_0, y148_1, y148_2, y148_3⟩ := zC4 BK646.out) | ((with_reducible refine gate_callee (f := 10) rfl ?_); refine goesL_ (some 97) rfl rfl Tryd.func10 (by kernel_rfl) rfl #[.agg #[.int .i64 t676, .slice Ao146 t677.length co146, .slice Ao147 t680.length co147], .int .i64 a1_0, .string a1_1] rfl zA ?_; (with_reducible refine (cooperageref16_Held.calls kj34 t676 _ _ t677 _ _ t680 a1_0 a1_1 t684 t685 t686 t687 t688 t689 _ ?side1 ?side2 ?side3 ?side4 A109.out).mono ?_); (case side1 => refine (Kd.R_reads' (e := 45) (base := w.heap.size) (ok := fun k_ => (True ∧ k_ ≠ gb657)) (n := t677.length) (c := co146) ?_).2.2; exact (zT HO679.out BK683.out)); (case side2 => exact (Kd.R_reads' HO679.out).2.1); (case side3 => refine (Kd.R_reads' (e := 52) (base := w.heap.size) (ok := fun k_ => ((((True ∧ some k_ ≠ (.slice Ao134 y670.length co134 : Value).ownBlock) ∧ some k_ ≠ (.slice Ao135 y673.length co135 : Value).ownBlock) ∧ k_ ≠ gb646) ∧ k_ ≠ gb663)) (n := t680.length) (c := co147) ?_).2.2; exact (zT HO682.out BK683.out)); (case side4 => exact (Kd.R_reads' HO682.out).2.1); rintro e w149 ⟨rfl, hb⟩; refine ⟨_, rfl, ?_⟩; replace HO672 := ka (Kd.R_below (zT HO672.out BK683.out) hb); replace HO675 := ka (Kd.R_below (zT HO675.out BK683.out) hb); replace HO679 := ka (Kd.R_below (zT HO679.out BK683.out) hb); replace HO682 := ka (Kd.R_below (zT HO682.out BK683.out) hb); replace BK645 := ka (zB BK645.out hb); replace BK646 := ka (zB BK646.out hb); replace BK647 := ka (zB BK647.out hb); replace BK657 := ka (zB BK657.out hb); replace BK663 := ka (zB BK663.out hb); replace BK683 := ka (blk_below (g := gb683) (o := .cells #[.int .i64 t676, .slice Ao146 t677.length co146, .slice Ao147 t680.length co147] 32 (0, 0)) (zP3 BK683.out) hb); replace HB := ka (below_step (zL HB.out) hb); (try clear hb); (try clear hb2); (try clear hk); (try clear hi)) | ((with_reducible refine gate_dst (N := 15) rfl ?_); refine box_event ?hg (N := 15) ?hd (cs := #[.int .i64 0, .string ⟨#[]⟩, .bool false, .int .i64 0, .int .i64 0]) (t := 45) ?hr ?_; (case hd => rfl); (case hg => rfl); (case hr => (go_simp; try rfl)); intro gb690 hg w150 hbox hb; replace HO672 := ka (Kd.R_below (zR HO672.out) hb); replace HO675 := ka (Kd.R_below (zR HO675.out) hb); replace HO679 := ka (Kd.R_below (Kd.R_elderB (zR HO679.out) gb690 (Nat.le_of_eq hg.symm)) hb); replace HO682 := ka (Kd.R_below (zR HO682.out) hb); have BK690 := ka (hbox); have GW690 := ka (zG hg (zL HB.out)); replace HB := ka (below_step (zL HB.out) hb); have NB645_690 := ka (zNK hg BK645.out); have NB690_645 := ka (zOK hg BK645.out); replace BK645 := ka (zB BK645.out hb); have NB646_690 := ka (zNK hg BK646.out); have NB690_646 := ka (zOK hg BK646.out); replace BK646 := ka (zB BK646.out hb); have NB647_690 := ka (zNK hg BK647.out); have NB690_647 := ka (zOK hg BK647.out); replace BK647 := ka (zB BK647.out hb); have NB657_690 := ka (zNK hg BK657.out); have NB690_657 := ka (zOK hg BK657.out); replace BK657 := ka (zB BK657.out hb); have NB663_690 := ka (zNK hg BK663.out); have NB690_663 := ka (zOK hg BK663.out); replace BK663 := ka (zB BK663.out hb); have NB683_690 := ka (zNK hg BK683.out); have NB690_683 := ka (zOK hg BK683.out); replace BK683 := ka (zB BK683.out hb); clear hb hbox hg; have hnb151 := NB690_645.out; have hnc151 := NB645_690.out; have hnb152 := NB690_646.out; have hnc152 := NB646_690.out; have hnb153 := NB690_647.out; have hnc153 := NB647_690.out; have hnb154 := NB690_657.out; have hnc154 := NB657_690.out; have hnb155 := NB690_663.out; have hnc155 := NB663_690.out; have hnb156 := NB690_683.out; have hnc156 := NB683_690.out; obtain ⟨z157_0, z157_1, z157_2, z157_3, z157_4, y157_0, y157_1, y157_2, y157_3, y157_4⟩ := zC5 BK690.out))
     replace HO672 : Aside0 (Kd.R k52 52 (((((w150.setCell ⟨gb690, 0, none⟩ (.int .i64 t684)).setCell ⟨gb690, 1, none⟩ (.string t685)).setCell ⟨gb690, 2, none⟩ (.bool t686)).setCell ⟨gb690, 3, none⟩ (.int .i64 t687)).setCell ⟨gb690, 4, none⟩ (.int .i64 t688)) w.heap.size (fun k_ => some k_ ≠ (.slice Ao135 y673.length co135 : Value).ownBlock ∧ some k_ ≠ (.slice Ao147 t680.length co147 : Value).ownBlock ∧ k_ ≠ gb646 ∧ k_ ≠ gb663) (.slice Ao134 y670.length co134) y670) := ⟨by (with_reducible repeat (first | apply Kd.R_alloc | apply Kd.R_drewN | apply Kd.R_drew)); exact Kd.R_mono (zNT HO672.out BK690.out) (fun _ hk => ⟨hk.1.1.2, ⟨hk.1.2, ⟨hk.1.1.1.1, hk.1.1.1.2⟩⟩⟩)⟩
     replace HO675 : Aside0 (Kd.R k52 52 (((((w150.setCell ⟨gb690, 0, none⟩ (.int .i64 t684)).setCell ⟨gb690, 1, none⟩ (.string t685)).setCell ⟨gb690, 2, none⟩ (.bool t686)).setCell ⟨gb690, 3, none⟩ (.int .i64 t687)).setCell ⟨gb690, 4, none⟩ (.int .i64 t688)) w.heap.size (fun k_ => some k_ ≠ (.slice Ao134 y670.length co134 : Value).ownBlock ∧ some k_ ≠ (.slice Ao147 t680.length co147 : Value).ownBlock ∧ k_ ≠ gb646 ∧ k_ ≠ gb663) (.slice Ao135 y673.length co135) y673) := ⟨by (with_reducible repeat (first | apply Kd.R_alloc | apply Kd.R_drewN | apply Kd.R_drew)); exact Kd.R_mono (zNT HO675.out BK690.out) (fun _ hk => ⟨hk.1.1.1, ⟨hk.1.2, ⟨hk.1.1.2.1, hk.1.1.2.2⟩⟩⟩)⟩
     replace HO679 : Aside0 (Kd.R k45 45 (((((w150.setCell ⟨gb690, 0, none⟩ (.int .i64 t684)).setCell ⟨gb690, 1, none⟩ (.string t685)).setCell ⟨gb690, 2, none⟩ (.bool t686)).setCell ⟨gb690, 3, none⟩ (.int .i64 t687)).setCell ⟨gb690, 4, none⟩ (.int .i64 t688)) w.heap.size (fun k_ => k_ ≠ gb657 ∧ k_ ≠ gb690) (.slice Ao146 t677.length co146) t677) := ⟨by (with_reducible repeat (first | apply Kd.R_alloc | apply Kd.R_drewN | apply Kd.R_drew)); exact Kd.R_mono (zNM HO679.out (g := gb690) (fun _ hk => hk.2)) (fun _ hk => ⟨hk.1.1.2, hk.1.2⟩)⟩
     replace HO682 : Aside0 (Kd.R k52 52 (((((w150.setCell ⟨gb690, 0, none⟩ (.int .i64 t684)).setCell ⟨gb690, 1, none⟩ (.string t685)).setCell ⟨gb690, 2, none⟩ (.bool t686)).setCell ⟨gb690, 3, none⟩ (.int .i64 t687)).setCell ⟨gb690, 4, none⟩ (.int .i64 t688)) w.heap.size (fun k_ => some k_ ≠ (.slice Ao134 y670.length co134 : Value).ownBlock ∧ some k_ ≠ (.slice Ao135 y673.length co135 : Value).ownBlock ∧ k_ ≠ gb646 ∧ k_ ≠ gb663) (.slice Ao147 t680.length co147) t680) := ⟨by (with_reducible repeat (first | apply Kd.R_alloc | apply Kd.R_drewN | apply Kd.R_drew)); exact Kd.R_mono (zNT HO682.out BK690.out) (fun _ hk => ⟨hk.1.1.1.1.2, ⟨hk.1.1.1.2, ⟨hk.1.1.2, hk.1.2⟩⟩⟩)⟩
     replace BK645 : Aside0 ((((((w150.setCell ⟨gb690, 0, none⟩ (.int .i64 t684)).setCell ⟨gb690, 1, none⟩ (.string t685)).setCell ⟨gb690, 2, none⟩ (.bool t686)).setCell ⟨gb690, 3, none⟩ (.int .i64 t687)).setCell ⟨gb690, 4, none⟩ (.int .i64 t688)).heap[gb645]? = some (.cells #[.int .i64 a0_0, .slice A0_1 l0_1.length c0_1, .slice Ao135 y673.length co135] 32 (0, 0))) := ⟨zK BK645.out⟩
     replace BK646 : Aside0 ((((((w150.setCell ⟨gb690, 0, none⟩ (.int .i64 t684)).setCell ⟨gb690, 1, none⟩ (.string t685)).setCell ⟨gb690, 2, none⟩ (.bool t686)).setCell ⟨gb690, 3, none⟩ (.int .i64 t687)).setCell ⟨gb690, 4, none⟩ (.int .i64 t688)).heap[gb646]? = some (.cells #[.int .i64 a1_0, .string a1_1, .bool a1_2, .int .i64 a1_3] 52 (0, 0))) := ⟨zK BK646.out⟩
     replace BK647 : Aside0 ((((((w150.setCell ⟨gb690, 0, none⟩ (.int .i64 t684)).setCell ⟨gb690, 1, none⟩ (.string t685)).setCell ⟨gb690, 2, none⟩ (.bool t686)).setCell ⟨gb690, 3, none⟩ (.int .i64 t687)).setCell ⟨gb690, 4, none⟩ (.int .i64 t688)).heap[gb647]? = some (.cells #[.int .i64 0, .slice none 0 0, .slice none 0 0] 32 (0, 0))) := ⟨zK BK647.out⟩
     replace BK657 : Aside0 ((((((w150.setCell ⟨gb690, 0, none⟩ (.int .i64 t684)).setCell ⟨gb690, 1, none⟩ (.string t685)).setCell ⟨gb690, 2, none⟩ (.bool t686)).setCell ⟨gb690, 3, none⟩ (.int .i64 t687)).setCell ⟨gb690, 4, none⟩ (.int .i64 t688)).heap[gb657]? = some (.cells #[.int .i64 t651, .string t652, .bool t653, .int .i64 t654, .int .i64 t655] 45 (0, 0))) := ⟨zK BK657.out⟩
     replace BK663 : Aside0 ((((((w150.setCell ⟨gb690, 0, none⟩ (.int .i64 t684)).setCell ⟨gb690, 1, none⟩ (.string t685)).setCell ⟨gb690, 2, none⟩ (.bool t686)).setCell ⟨gb690, 3, none⟩ (.int .i64 t687)).setCell ⟨gb690, 4, none⟩ (.int .i64 t688)).heap[gb663]? = some (.cells #[.int .i64 t658, .string t659, .bool t660, .int .i64 t661] 52 (0, 0))) := ⟨zK BK663.out⟩
     replace BK683 : Aside0 ((((((w150.setCell ⟨gb690, 0, none⟩ (.int .i64 t684)).setCell ⟨gb690, 1, none⟩ (.string t685)).setCell ⟨gb690, 2, none⟩ (.bool t686)).setCell ⟨gb690, 3, none⟩ (.int .i64 t687)).setCell ⟨gb690, 4, none⟩ (.int .i64 t688)).heap[gb683]? = some (.cells #[.int .i64 t676, .slice Ao146 t677.length co146, .slice Ao147 t680.length co147] 32 (0, 0))) := ⟨zK BK683.out⟩
     replace BK690 : Aside0 ((((((w150.setCell ⟨gb690, 0, none⟩ (.int .i64 t684)).setCell ⟨gb690, 1, none⟩ (.string t685)).setCell ⟨gb690, 2, none⟩ (.bool t686)).setCell ⟨gb690, 3, none⟩ (.int .i64 t687)).setCell ⟨gb690, 4, none⟩ (.int .i64 t688)).heap[gb690]? = some (.cells #[.int .i64 t684, .string t685, .bool t686, .int .i64 t687, .int .i64 t688] 45 (0, 0))) := ⟨zP5 BK690.out⟩
     replace HB : Aside0 (Below w.heap.size w (((((w150.setCell ⟨gb690, 0, none⟩ (.int .i64 t684)).setCell ⟨gb690, 1, none⟩ (.string t685)).setCell ⟨gb690, 2, none⟩ (.bool t686)).setCell ⟨gb690, 3, none⟩ (.int .i64 t687)).setCell ⟨gb690, 4, none⟩ (.int .i64 t688))) := ⟨zL HB.out⟩
     repeat rw [zDC]
     repeat rw [zDD]
     generalize (((((w150.setCell ⟨gb690, 0, none⟩ (.int .i64 t684)).setCell ⟨gb690, 1, none⟩ (.string t685)).setCell ⟨gb690, 2, none⟩ (.bool t686)).setCell ⟨gb690, 3, none⟩ (.int .i64 t687)).setCell ⟨gb690, 4, none⟩ (.int .i64 t688)) = w158 at HO672 HO675 HO679 HO682 BK645 BK646 BK647 BK657 BK663 BK683 BK690 HB ⊢
     replace HO672 := ka (Kd.R_drew HO672.out)
     replace HO675 := ka (Kd.R_drew HO675.out)
     replace HO679 := ka (Kd.R_drew HO679.out)
     replace HO682 := ka (Kd.R_drew HO682.out)
     replace BK645 := ka (blk_drew BK645.out)
     replace BK646 := ka (blk_drew BK646.out)
     replace BK647 := ka (blk_drew BK647.out)
     replace BK657 := ka (blk_drew BK657.out)
     replace BK663 := ka (blk_drew BK663.out)
     replace BK683 := ka (blk_drew BK683.out)
     replace BK690 := ka (blk_drew BK690.out)
     replace HB := ka (below_drew1 HB.out)
     refine start_ (n := 6) (S := fun w' => w'.cell? ⟨gb683, 0, none⟩ = some (.int .i64 t676) ∧ w'.cell? ⟨gb683, 1, none⟩ = some (.slice Ao146 t677.length co146) ∧ w'.cell? ⟨gb683, 2, none⟩ = some (.slice Ao147 t680.length co147) ∧ w'.cell? ⟨gb690, 0, none⟩ = some (.int .i64 t684) ∧ w'.cell? ⟨gb690, 1, none⟩ = some (.string t685) ∧ w'.cell? ⟨gb690, 2, none⟩ = some (.bool t686) ∧ w'.cell? ⟨gb690, 3, none⟩ = some (.int .i64 t687) ∧ w'.cell? ⟨gb690, 4, none⟩ = some (.int .i64 t688)) (ds := []) #[false, false, false, false, false, false] (by kernel_rfl) rfl rfl ⟨zc BK683.out 0, zc BK683.out 1, zc BK683.out 2, zc BK690.out 0, zc BK690.out 1, zc BK690.out 2, zc BK690.out 3, zc BK690.out 4⟩ (fun hHeld => ?_)
     generalize w158.drew = w159 at HO672 HO675 HO679 HO682 BK645 BK646 BK647 BK657 BK663 BK683 BK690 HB hHeld ⊢
     refine zkp 1 (N := some 101) (h := ?_)
     refine zkt 0 (N := some 100) hHeld (h := ?_)
     refine zkt 2 (N := some 102) hHeld (h := ?_)
     refine one_ (i := 3) (N := none) #[true, true, true, true, false, false] rfl rfl (by kernel_rfl) (by decide) (fun K hK => ?_)
     have hs160 : w159.cell? ⟨gb647, 0, none⟩ = some (.int .i64 0) := zc BK647.out 0
     have hfs160 := blk_frozen BK647.out 0
     have hns160_0 := NB645_647.out
     have hns160_1 := NB646_647.out
     have hns160_3 := NB657_647.out
     have hns160_4 := NB663_647.out
     have hns160_5 := NB683_647.out
     have hns160_6 := NB690_647.out
     have hms160_0 := NB647_645.out
     have hms160_1 := NB647_646.out
     have hms160_3 := NB647_657.out
     have hms160_4 := NB647_663.out
     have hms160_5 := NB647_683.out
     have hms160_6 := NB647_690.out
     have hs161 : w159.cell? ⟨gb647, 1, none⟩ = some (.slice none 0 0) := zc BK647.out 1
     have hfs161 := blk_frozen BK647.out 1
     have hns161_0 := NB645_647.out
     have hns161_1 := NB646_647.out
     have hns161_3 := NB657_647.out
     have hns161_4 := NB663_647.out
     have hns161_5 := NB683_647.out
     have hns161_6 := NB690_647.out
     have hms161_0 := NB647_645.out
     have hms161_1 := NB647_646.out
     have hms161_3 := NB647_657.out
     have hms161_4 := NB647_663.out
     have hms161_5 := NB647_683.out
     have hms161_6 := NB647_690.out
     have hs162 : w159.cell? ⟨gb647, 2, none⟩ = some (.slice none 0 0) := zc BK647.out 2
     have hfs162 := blk_frozen BK647.out 2
     have hns162_0 := NB645_647.out
     have hns162_1 := NB646_647.out
     have hns162_3 := NB657_647.out
     have hns162_4 := NB663_647.out
     have hns162_5 := NB683_647.out
     have hns162_6 := NB690_647.out
     have hms162_0 := NB647_645.out
     have hms162_1 := NB647_646.out
     have hms162_3 := NB647_657.out
     have hms162_4 := NB647_663.out
     have hms162_5 := NB647_683.out
     have hms162_6 := NB647_690.out
     refine skip_ (w1 := ?_) (by rfl) rfl ?_ ?_
     rotate_left
     ·go_simp
      rfl
     refine hK.out _ _ ⟨(zW NB683_647.out hHeld.1), (zW NB683_647.out hHeld.2.1), (zW NB683_647.out hHeld.2.2.1), (zW NB690_647.out hHeld.2.2.2.1), (zW NB690_647.out hHeld.2.2.2.2.1), (zW NB690_647.out hHeld.2.2.2.2.2.1), (zW NB690_647.out hHeld.2.2.2.2.2.2.1), (zW NB690_647.out hHeld.2.2.2.2.2.2.2)⟩ (fun hHeld => ?_)
     clear hK K
     refine zkp 4 (N := some 7) (h := ?_)
     refine zkp 5 (N := some 8) (h := ?_)
     refine done_ (by kernel_rfl) ?_
     try go_wp2
     refine bodyPost_ret (results_ctt rfl _ _ gb647 32 #[.int .i64 t676, .slice Ao146 t677.length co146, .slice Ao147 t680.length co147] (0, 0) _ rfl (zP3 BK647.out) Tryd.underlying32 rfl (by kernel_rfl)) rfl ?_
     exact ⟨_, _, zE, by (with_reducible repeat (first | apply Kd.R_alloc | apply Kd.R_drewN | apply Kd.R_drew)); exact Kd.R_mono (zNT HO679.out BK647.out) (fun _ hk => trivial), by (with_reducible repeat (first | apply Kd.R_alloc | apply Kd.R_drewN | apply Kd.R_drew)); exact Kd.R_mono (zNT HO682.out BK647.out) (fun _ hk => trivial), zL HB.out⟩

end Go.Proofs.YtjdadmjomjhpcaaDoor.PLease
