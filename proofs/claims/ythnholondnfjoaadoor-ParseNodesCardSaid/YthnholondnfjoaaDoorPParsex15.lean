-- Written by a program of this session (wip/tools/ext.py, over the kit's printer); not trusted: Lean checks it.
import Derived.Test.YthnholondnfjoaaDoorPParsex0
import Derived.Test.YthnholondnfjoaaDoorPParsex1
import Derived.Test.YthnholondnfjoaaDoorPParsex2
import Derived.Test.YthnholondnfjoaaDoorPParsex3
import Derived.Test.YthnholondnfjoaaDoorPParsex14
namespace Go.Proofs.YthnholondnfjoaaDoor.PParse
open Go.RowKit Go.Proofs.YthnholondnfjoaaDoorW.PrintWords Go.Proofs.YthnholondnfjoaaDoorW.PrintLast Go.Proofs.YthnholondnfjoaaDoorW.PrintMore
attribute [local go_sem] max2_int min2_int max_two min_two max_three min_three max_four min_four
set_option linter.unusedVariables false
set_option linter.unusedSimpArgs false
set_option maxHeartbeats 8000000
set_option maxRecDepth 100000

/-! ### lex_Lex: function 20 -/
mutual
def lex_Lex.l0 : Nat → List (S43) → List ByteArray → Int → Option ((List (S43)) × Int × Int)
 | 0, _, _, _ => none
 | k + 1, x5, x6, x7 => if x7 < (x6.length : Int) then (if 0 ≤ x7 then ((strings_HasPrefix.f (rdOf ByteArray.empty x6 x7) (⟨#[9]⟩ : ByteArray)).bind fun t435 => ((lex_goes.f (rdOf ByteArray.empty x6 x7)).bind fun bt438 => (lex_Lex.l1 k x5 x6 x7 bt438.1 bt438.2 (wrap64 (x7 + 1)) t435 (⟨#[]⟩ : ByteArray)))) else (none)) else (some (x5, 0, 0))
def lex_Lex.l1 : Nat → List (S43) → List ByteArray → Int → ByteArray → Bool → Int → Bool → ByteArray → Option ((List (S43)) × Int × Int)
 | 0, _, _, _, _, _, _, _, _ => none
 | k + 1, x5, x6, x7, x9, x10, x437000, x437001, x437002 => if x10 = true then (lex_Lex.j2 k x5 x6 x7 x9 (decide ((wrap64 (x7 + 1)) < (x6.length : Int))) x437000 x437001 x437002) else (lex_Lex.j2 k x5 x6 x7 x9 false x437000 x437001 x437002)
def lex_Lex.j2 : Nat → List (S43) → List ByteArray → Int → ByteArray → Bool → Int → Bool → ByteArray → Option ((List (S43)) × Int × Int)
 | 0, _, _, _, _, _, _, _, _ => none
 | k + 1, x5, x6, x7, x9, x43, x437000, x437001, x437002 => if x43 = true then (if 0 ≤ (wrap64 (x7 + 1)) then (if (wrap64 (x7 + 1)) < (x6.length : Int) then ((strings_TrimLeft.f (rdOf ByteArray.empty x6 (wrap64 (x7 + 1))) (⟨#[32, 9]⟩ : ByteArray)).bind fun t441 => ((lex_goes.f t441).bind fun bt442 => ((strings_TrimRight.f x9 (⟨#[32, 9]⟩ : ByteArray)).bind fun t444 => (if t444.size + 1 ≤ 9223372036854775807 then (if (t444 ++ (⟨#[32]⟩ : ByteArray)).size + bt442.1.size ≤ 9223372036854775807 then (lex_Lex.l1 k x5 x6 (wrap64 (x7 + 1)) ((t444 ++ (⟨#[32]⟩ : ByteArray)) ++ bt442.1) bt442.2 x437000 x437001 x437002) else (none)) else (none))))) else (none)) else (none)) else (if x437001 = true then (lex_Lex.j3 k x5 x6 x7 x9 x437000 x437001 x437002) else ((strings_Cut.f x9 (⟨#[35]⟩ : ByteArray)).bind fun bt445 => (lex_Lex.j3 k x5 x6 x7 bt445.1 x437000 x437001 x437002)))
def lex_Lex.j3 : Nat → List (S43) → List ByteArray → Int → ByteArray → Int → Bool → ByteArray → Option ((List (S43)) × Int × Int)
 | 0, _, _, _, _, _, _, _ => none
 | k + 1, x5, x6, x7, x9, x437000, x437001, x437002 => (text_Trim.f x9).bind fun t448 => (if t448.toList = ([] : List UInt8) then (lex_Lex.l0 k x5 x6 (wrap64 (x7 + 1))) else (if (t448.size : Int) > 1000 then (some (([] : List (S43)), 3, x437000)) else (if (x5.length : Int) ≥ 300 then (some (([] : List (S43)), 3, x437000)) else (if x5.length < 4398046511104 then (lex_Lex.l0 k (x5 ++ [(⟨x437000, x437001, t448⟩ : S43)]) x6 (wrap64 (x7 + 1))) else (none)))))
end
def lex_Lex.f (k : Nat) (a0 : ByteArray) : Option ((List (S43)) × Int × Int) := (text_Lines.f a0).bind fun t431 => (lex_Lex.l0 k ([] : List (S43)) t431 0)
theorem lex_Lex.mono_l : ∀ k, (∀ y0 y1 y2, LeO (lex_Lex.l0 k y0 y1 y2) (lex_Lex.l0 (k + 1) y0 y1 y2)) ∧ (∀ y0 y1 y2 y3 y4 y5 y6 y7, LeO (lex_Lex.l1 k y0 y1 y2 y3 y4 y5 y6 y7) (lex_Lex.l1 (k + 1) y0 y1 y2 y3 y4 y5 y6 y7)) ∧ (∀ y0 y1 y2 y3 y4 y5 y6 y7, LeO (lex_Lex.j2 k y0 y1 y2 y3 y4 y5 y6 y7) (lex_Lex.j2 (k + 1) y0 y1 y2 y3 y4 y5 y6 y7)) ∧ (∀ y0 y1 y2 y3 y4 y5 y6, LeO (lex_Lex.j3 k y0 y1 y2 y3 y4 y5 y6) (lex_Lex.j3 (k + 1) y0 y1 y2 y3 y4 y5 y6))
 | 0 => ⟨fun _ _ _ r h => by simp [lex_Lex.l0] at h, fun _ _ _ _ _ _ _ _ r h => by simp [lex_Lex.l1] at h, fun _ _ _ _ _ _ _ _ r h => by simp [lex_Lex.j2] at h, fun _ _ _ _ _ _ _ r h => by simp [lex_Lex.j3] at h⟩
 | k + 1 => by
  obtain ⟨ih0, ih1, ih2, ih3⟩ := lex_Lex.mono_l k
  refine ⟨?_, ?_, ?_, ?_⟩
  ·intros
   unfold lex_Lex.l0
   exact zLe
  ·intros
   unfold lex_Lex.l1
   exact zLe
  ·intros
   unfold lex_Lex.j2
   exact zLe
  ·intros
   unfold lex_Lex.j3
   exact zLe
theorem lex_Lex.mono : ∀ a0 k, LeO (lex_Lex.f k a0) (lex_Lex.f (k + 1) a0) := by
 intro a0 k
 obtain ⟨ih0, ih1, ih2, ih3⟩ := lex_Lex.mono_l k
 unfold lex_Lex.f
 exact zLe
theorem lex_Lex.calls (k : Nat) (a0 : ByteArray) (r1 : List (S43)) (r2 : Int) (r3 : Int) (w : World) (h : lex_Lex.f k a0 = some (r1, r2, r3)) :
  Calls Tryd.prog 20 #[.string a0] w fun e w' => ∃ v0_ : Value, e = .returned (.tuple #[v0_, .int .i64 r2, .int .i64 r3]) ∧ Kd.R k43 43 w' w.heap.size (fun _ => True) v0_ r1 ∧ Below w.heap.size w w' := by
 have hu43 := Tryd.underlying43
 have HB := ka (Below.refl w.heap.size w)
 have H : ((text_Lines.f a0).bind fun t431 => (lex_Lex.l0 k ([] : List (S43)) t431 0)) = some (r1, r2, r3) := h
 clear h
 replace H := Option.bind_eq_some_iff.mp H
 obtain ⟨t431, A20, H⟩ := H
 try dsimp only at H
 have A2 := ka A20
 clear A20
 have H' := ka H
 clear H
 go_enter Tryd.func20, Tryd.ntmps20
 go_wp2
 apply wp_scope_straight
 go_wp2_with (first | (go_at_call 30; (with_reducible refine (text_Lines.calls a0 t431 _ A2.out).mono ?_); rintro e w3 ⟨v432, rfl, ho0, hb⟩; have HO433 := ka (Kd.R_lower ho0 (below_size (zL HB.out))); replace HB := ka (below_step (zL HB.out) hb); (try clear hb); (try clear hb2); (try clear hk); (try clear hi); (try clear ho0)))
 apply wp_label
 go_wp2
 repeat (go_quiet (first | (go_at_call 30; (with_reducible refine (text_Lines.calls a0 t431 _ A2.out).mono ?_); rintro e w3 ⟨v432, rfl, ho0, hb⟩; have HO433 := ka (Kd.R_lower ho0 (below_size (zL HB.out))); replace HB := ka (below_step (zL HB.out) hb); (try clear hb); (try clear hb2); (try clear hk); (try clear hi); (try clear ho0))); try go_wp2_with (first | (go_at_call 30; (with_reducible refine (text_Lines.calls a0 t431 _ A2.out).mono ?_); rintro e w3 ⟨v432, rfl, ho0, hb⟩; have HO433 := ka (Kd.R_lower ho0 (below_size (zL HB.out))); replace HB := ka (below_step (zL HB.out) hb); (try clear hb); (try clear hb2); (try clear hk); (try clear hi); (try clear ho0))))
 go_loopg [5, 7] k (fun kq v5 v7 w' => ∃ (x5_1 : List (S43)) (x7_1 : Int), v7 = .int .i64 x7_1 ∧ Aside0 (lex_Lex.l0 kq x5_1 t431 x7_1 = some (r1, r2, r3)) ∧ Aside0 (kq ≤ k) ∧ Aside0 (Kd.R k43 43 w' w.heap.size (fun _ => True) v5 x5_1) ∧ Aside0 (Kd.R Kd.string 9 w' w.heap.size (fun _ => True) v432 t431) ∧ Aside0 (Below w.heap.size w w'))
 case atStart => exact ⟨(([] : List (S43))), (0), zS, H', ⟨Nat.le_refl _⟩, ⟨zNl⟩, ⟨zR HO433.out⟩, ⟨zL HB.out⟩⟩
 case round =>
  clear H'
  obtain ⟨x5_1, x7_1, rfl, HA, HK1, HO_5, HO_6, HB⟩ := hrel
  cases gk with
  | zero => exact absurd HA.out (by simp [lex_Lex.l0])
  | succ k1 =>
   have H := HA.out
   clear HA
   simp only [lex_Lex.l0] at H
   by_cases c4 : x7_1 < (t431.length : Int)
   ·rw [if_pos c4] at H
    have c4b0 := zdt c4
    clear c4
    replace H := zif H
    obtain ⟨c5, H⟩ := H
    have c5b0 := zdt c5
    clear c5
    replace H := Option.bind_eq_some_iff.mp H
    obtain ⟨t435, A60, H⟩ := H
    try dsimp only at H
    have A6 := ka A60
    clear A60
    replace H := Option.bind_eq_some_iff.mp H
    obtain ⟨⟨t438, t439⟩, A70, H⟩ := H
    try dsimp only at H
    have A7 := ka A70
    clear A70
    have H' := ka H
    clear H
    obtain ⟨Ao8, co8, eo8⟩ := Kd.R_slice HO_6.out
    subst eo8
    have p434 : 0 ≤ (x7_1 : Int) := zD
    have q434 : x7_1 < (t431.length : Int) := zD
    obtain ⟨ad434, e434, hx434_0⟩ := Kd.at_string (Kd.R_reads' HO_6.out).2.2 x7_1 p434 q434
    cases e434
    replace p434 := eq_true p434
    replace q434 := eq_true q434
    have F_ := trivial
    repeat ((first | clear F_ | go_quiet (first | (go_at_call 28; (with_reducible refine (strings_HasPrefix.calls (rdOf ByteArray.empty t431 x7_1) (⟨#[9]⟩ : ByteArray) t435 _ A6.out).mono ?_); rintro e w' ⟨rfl, ⟨nd, rfl⟩⟩; (try exact zDr)) | (go_at_call 31; (with_reducible refine (lex_goes.calls (rdOf ByteArray.empty t431 x7_1) t438 t439 _ A7.out).mono ?_); rintro e w11 ⟨rfl, hb⟩; replace HO_5 := ka (Kd.R_below (zM HO_5.out (g := gb436) (fun _ hk => hk.2)) hb); replace HO_6 := ka (Kd.R_below (zT HO_6.out BK436.out) hb); replace BK436 := ka (blk_below (g := gb436) (o := .cells #[.int .i64 (wrap64 (x7_1 + 1)), .bool t435, .string ⟨#[]⟩] 43 (0, 0)) (zP3 BK436.out) hb); replace HB := ka (below_step (zL HB.out) hb); (try clear hb); (try clear hb2); (try clear hk); (try clear hi)))); try go_wp2_with (first | (go_at_call 28; (with_reducible refine (strings_HasPrefix.calls (rdOf ByteArray.empty t431 x7_1) (⟨#[9]⟩ : ByteArray) t435 _ A6.out).mono ?_); rintro e w' ⟨rfl, ⟨nd, rfl⟩⟩; (try exact zDr)) | ((with_reducible refine gate_dst (N := 8) rfl ?_); (try (refine gate_guard (by rfl) ?_; dsimp only)); refine box_event ?hg (N := 8) ?hd (cs := #[.int .i64 0, .bool false, .string ⟨#[]⟩]) (t := 43) ?hr ?_; (case hd => rfl); (case hg => rfl); (case hr => (go_simp; try rfl)); intro gb436 hg w9 hbox hb; replace HO_5 := ka (Kd.R_below (Kd.R_elderB (zR HO_5.out) gb436 (Nat.le_of_eq hg.symm)) hb); replace HO_6 := ka (Kd.R_below (zR HO_6.out) hb); have BK436 := ka (hbox); have GW436 := ka (zG hg (zL HB.out)); have GE436 := ka (zG hg (zL HB.out)); replace HB := ka (below_step (zL HB.out) hb); clear hb hbox hg; obtain ⟨z10_0, z10_1, z10_2, y10_0, y10_1, y10_2⟩ := zC3 BK436.out; have p437 : 0 ≤ (x7_1 : Int) := zD; have q437 : x7_1 < (t431.length : Int) := zD; obtain ⟨ad437, e437, hx437_0⟩ := Kd.at_string (Kd.R_reads' HO_6.out).2.2 x7_1 p437 q437; obtain rfl : ad434 = ad437 := (by injection e437); have hn437_0 : ad434.block ≠ gb436 := Kd.own_blk (Kd.R_ne HO_6.out BK436.out (by decide)); have hn437_1 : ad434.block ≠ gb436 := Kd.own_blk (Kd.R_ne HO_6.out BK436.out (by decide)); have hn437_2 : ad434.block ≠ gb436 := Kd.own_blk (Kd.R_ne HO_6.out BK436.out (by decide)); replace hx437_0 := zF gb436 0 (.int .i64 (wrap64 (x7_1 + 1))) hn437_0 hx437_0; replace hx437_0 := zF gb436 1 (.bool t435) hn437_1 hx437_0; replace hx437_0 := zF gb436 2 (.string ⟨#[]⟩) hn437_2 hx437_0; (try have hy437_0 := fun (n_ : Nat) => zDY (w2 := (((((w9.drewN n_).setCell ⟨gb436, 0, none⟩ (.int .i64 (wrap64 (x7_1 + 1)))).setCell ⟨gb436, 1, none⟩ (.bool t435)).setCell ⟨gb436, 2, none⟩ (.string ⟨#[]⟩)))) hx437_0); clear hn437_0; clear hn437_1; clear hn437_2; replace p437 := eq_true p437; replace q437 := eq_true q437) | (go_at_call 31; (with_reducible refine (lex_goes.calls (rdOf ByteArray.empty t431 x7_1) t438 t439 _ A7.out).mono ?_); rintro e w11 ⟨rfl, hb⟩; replace HO_5 := ka (Kd.R_below (zM HO_5.out (g := gb436) (fun _ hk => hk.2)) hb); replace HO_6 := ka (Kd.R_below (zT HO_6.out BK436.out) hb); replace BK436 := ka (blk_below (g := gb436) (o := .cells #[.int .i64 (wrap64 (x7_1 + 1)), .bool t435, .string ⟨#[]⟩] 43 (0, 0)) (zP3 BK436.out) hb); replace HB := ka (below_step (zL HB.out) hb); (try clear hb); (try clear hb2); (try clear hk); (try clear hi))))
    go_loopg [7, 9, 10] k1 (fun kq v7 v9 v10 w' => ∃ (x7_2 : Int) (x9_2 : ByteArray) (x10_2 : Bool), v7 = .int .i64 x7_2 ∧ v9 = .string x9_2 ∧ v10 = .bool x10_2 ∧ Aside0 (lex_Lex.l1 kq x5_1 t431 x7_2 x9_2 x10_2 (wrap64 (x7_1 + 1)) t435 (⟨#[]⟩ : ByteArray) = some (r1, r2, r3)) ∧ Aside0 (kq ≤ k1) ∧ Aside0 (Kd.R k43 43 w' w.heap.size (fun k_ => k_ ≠ gb436) u5 x5_1) ∧ Aside0 (Kd.R Kd.string 9 w' w.heap.size (fun _ => True) (.slice (some ad434) t431.length co8) t431) ∧ Aside0 (w'.heap[gb436]? = some (.cells #[.int .i64 (wrap64 (x7_1 + 1)), .bool t435, .string ⟨#[]⟩] 43 (0, 0))) ∧ Aside0 (Below w.heap.size w w'))
    case atStart => exact ⟨(x7_1), (t438), (t439), zS, zS, zS, H', ⟨Nat.le_refl _⟩, ⟨by (with_reducible repeat (first | apply Kd.R_alloc | apply Kd.R_drewN | apply Kd.R_drew)); exact Kd.R_mono HO_5.out (fun _ hk => hk.2)⟩, ⟨zR HO_6.out⟩, ⟨zK BK436.out⟩, ⟨zL HB.out⟩⟩
    case round =>
     clear H'
     try clear c4
     try clear c4b0
     try clear c5
     try clear c5b0
     try clear z10_0 z10_1 z10_2
     try clear y10_0 y10_1 y10_2
     try clear hx434_0
     try clear hx437_0
     try clear p434
     try clear p437
     try clear q434
     try clear q437
     obtain ⟨x7_2, x9_2, x10_2, rfl, rfl, rfl, HA, HK2, HO_5, HO_6, BK436, HB⟩ := hrel
     cases gk with
     | zero => exact absurd HA.out (by simp [lex_Lex.l1])
     | succ k2 =>
      have H := HA.out
      clear HA
      simp only [lex_Lex.l1] at H
      have HC12 := ka H
      clear H
      go_upto_region 8 with (fail)
      repeat (go_quiet (fail); go_upto_region 8 with (fail))
      go_cut [43] (fun v43 wc => ∃ (kq : Nat) (x43_11 : Bool), v43 = .bool x43_11 ∧ Aside0 (lex_Lex.j2 kq x5_1 t431 x7_2 x9_2 x43_11 (wrap64 (x7_1 + 1)) t435 (⟨#[]⟩ : ByteArray) = some (r1, r2, r3)) ∧ Aside0 (kq ≤ k2) ∧ Aside0 (Kd.R k43 43 wc w.heap.size (fun k_ => k_ ≠ gb436) u5 x5_1) ∧ Aside0 (Kd.R Kd.string 9 wc w.heap.size (fun _ => True) (.slice (some ad434) t431.length co8) t431) ∧ Aside0 (wc.heap[gb436]? = some (.cells #[.int .i64 (wrap64 (x7_1 + 1)), .bool t435, .string ⟨#[]⟩] 43 (0, 0))) ∧ Aside0 (Below w.heap.size w wc))
      case first =>
       have H := HC12.out
       clear HC12
       by_cases c13 : x10_2 = true
       ·subst c13
        rw [if_pos rfl] at H
        have H' := ka H
        clear H
        go_wp2
        repeat (go_quiet (fail); try go_wp2)
        go_meet
        case rel => exact ⟨_, (decide ((wrap64 (x7_2 + 1)) < (t431.length : Int))), zS, H', ⟨by have := HK1.out; have := HK2.out; first | omega | exact Nat.le_refl _⟩, ⟨zR HO_5.out⟩, ⟨zR HO_6.out⟩, ⟨zK BK436.out⟩, ⟨zL HB.out⟩⟩
       replace c13 := Bool.eq_false_iff.mpr c13
       subst c13
       rw [if_neg (show ¬ (false = true) by decide)] at H
       have H' := ka H
       clear H
       go_wp2
       repeat (go_quiet (fail); try go_wp2)
       go_meet
       case rel => exact ⟨_, (false), zS, H', ⟨by have := HK1.out; have := HK2.out; first | omega | exact Nat.le_refl _⟩, ⟨zR HO_5.out⟩, ⟨zR HO_6.out⟩, ⟨zK BK436.out⟩, ⟨zL HB.out⟩⟩
      case rest =>
       clear HC12
       try clear c4
       try clear c4b0
       try clear c5
       try clear c5b0
       try clear z10_0 z10_1 z10_2
       try clear y10_0 y10_1 y10_2
       try clear hx434_0
       try clear hx437_0
       try clear p434
       try clear p437
       try clear q434
       try clear q437
       obtain ⟨kq, x43_11, rfl, HA, HJ11, HO_5, HO_6, BK436, HB⟩ := hcut
       cases kq with
       | zero => exact absurd HA.out (by simp [lex_Lex.j2])
       | succ kj11 =>
        have H := HA.out
        clear HA
        simp only [lex_Lex.j2] at H
        by_cases c14 : x43_11 = true
        ·subst c14
         rw [if_pos rfl] at H
         obtain ⟨ji15, hji15⟩ : ∃ j_ : Int, (wrap64 (x7_2 + 1)) = j_ := ⟨_, rfl⟩
         replace H : (if 0 ≤ (ji15) then (if (ji15) < (t431.length : Int) then ((strings_TrimLeft.f (rdOf ByteArray.empty t431 (ji15)) (⟨#[32, 9]⟩ : ByteArray)).bind fun t441 => ((lex_goes.f t441).bind fun bt442 => ((strings_TrimRight.f x9_2 (⟨#[32, 9]⟩ : ByteArray)).bind fun t444 => (if t444.size + 1 ≤ 9223372036854775807 then (if (t444 ++ (⟨#[32]⟩ : ByteArray)).size + bt442.1.size ≤ 9223372036854775807 then (lex_Lex.l1 kj11 x5_1 t431 ji15 ((t444 ++ (⟨#[32]⟩ : ByteArray)) ++ bt442.1) bt442.2 (wrap64 (x7_1 + 1)) t435 (⟨#[]⟩ : ByteArray)) else (none)) else (none))))) else (none)) else (none)) = some (r1, r2, r3) := by first | (rw [hji15] at H; exact H) | (simp only [hji15] at H ⊢; exact H)
         have hji15w : (IntKind.i64.wrap (x7_2 + 1)) = ji15 := (i64_w _).trans hji15
         replace H := zif H
         obtain ⟨c16, H⟩ := H
         have c16b0 := zdt c16
         clear c16
         replace H := zif H
         obtain ⟨c17, H⟩ := H
         have c17b0 := zdt c17
         clear c17
         replace H := Option.bind_eq_some_iff.mp H
         obtain ⟨t441, A180, H⟩ := H
         try dsimp only at H
         have A18 := ka A180
         clear A180
         replace H := Option.bind_eq_some_iff.mp H
         obtain ⟨⟨t442, t443⟩, A190, H⟩ := H
         try dsimp only at H
         have A19 := ka A190
         clear A190
         replace H := Option.bind_eq_some_iff.mp H
         obtain ⟨t444, A200, H⟩ := H
         try dsimp only at H
         have A20 := ka A200
         clear A200
         replace H := zif H
         obtain ⟨c21, H⟩ := H
         have c21b0 := eq_true c21
         have c21b1 := zdt c21
         try have c21b2 : (9223372036854775807 < t444.size + 1) = False := eq_false (Nat.not_lt.2 c21)
         replace H := zif H
         obtain ⟨c22, H⟩ := H
         have c22b0 := eq_true c22
         try (have c22b0s := c22b0; simp only [ByteArray.size_append, Int.natCast_add, Int.toNat_natCast] at c22b0s)
         try (have c22b0l := c22b0; simp only [ByteArray.size_append, Pl.lit_size, List.size_toArray, List.length_cons, List.length_nil, Nat.reduceAdd, Int.natCast_add, Int.toNat_natCast] at c22b0l)
         have c22b1 := zdt c22
         try (have c22b1s := c22b1; simp only [ByteArray.size_append, Int.natCast_add, Int.toNat_natCast] at c22b1s)
         try (have c22b1l := c22b1; simp only [ByteArray.size_append, Pl.lit_size, List.size_toArray, List.length_cons, List.length_nil, Nat.reduceAdd, Int.natCast_add, Int.toNat_natCast] at c22b1l)
         try have c22b2 : (9223372036854775807 < (t444 ++ (⟨#[32]⟩ : ByteArray)).size + t442.size) = False := eq_false (Nat.not_lt.2 c22)
         try (have c22b2s := c22b2; simp only [ByteArray.size_append, Int.natCast_add, Int.toNat_natCast] at c22b2s)
         try (have c22b2l := c22b2; simp only [ByteArray.size_append, Pl.lit_size, List.size_toArray, List.length_cons, List.length_nil, Nat.reduceAdd, Int.natCast_add, Int.toNat_natCast] at c22b2l)
         have H' := ka H
         clear H
         have p440 : 0 ≤ ((ji15) : Int) := zD
         have q440 : (ji15) < (t431.length : Int) := zD
         obtain ⟨ad440, e440, hx440_0⟩ := Kd.at_string (Kd.R_reads' HO_6.out).2.2 (ji15) p440 q440
         obtain rfl : ad434 = ad440 := (by injection e440)
         replace p440 := eq_true p440
         replace q440 := eq_true q440
         have F_ := trivial
         repeat ((first | clear F_ | go_quiet (first | (go_at_call 32; (with_reducible refine (strings_TrimLeft.calls (rdOf ByteArray.empty t431 (ji15)) (⟨#[32, 9]⟩ : ByteArray) t441 _ A18.out).mono ?_); rintro e w23 ⟨rfl, hb⟩; replace HO_5 := ka (Kd.R_below (zR HO_5.out) hb); replace HO_6 := ka (Kd.R_below (zR HO_6.out) hb); replace BK436 := ka (zB BK436.out hb); replace HB := ka (below_step (zL HB.out) hb); (try clear hb); (try clear hb2); (try clear hk); (try clear hi)) | (go_at_call 31; (with_reducible refine (lex_goes.calls t441 t442 t443 _ A19.out).mono ?_); rintro e w24 ⟨rfl, hb⟩; replace HO_5 := ka (Kd.R_below (zR HO_5.out) hb); replace HO_6 := ka (Kd.R_below (zR HO_6.out) hb); replace BK436 := ka (zB BK436.out hb); replace HB := ka (below_step (zL HB.out) hb); (try clear hb); (try clear hb2); (try clear hk); (try clear hi)) | (go_at_call 33; (with_reducible refine (strings_TrimRight.calls x9_2 (⟨#[32, 9]⟩ : ByteArray) t444 _ A20.out).mono ?_); rintro e w25 ⟨rfl, hb⟩; replace HO_5 := ka (Kd.R_below (zR HO_5.out) hb); replace HO_6 := ka (Kd.R_below (zR HO_6.out) hb); replace BK436 := ka (zB BK436.out hb); replace HB := ka (below_step (zL HB.out) hb); (try clear hb); (try clear hb2); (try clear hk); (try clear hi)))); try go_wp2_with (first | (go_at_call 32; (with_reducible refine (strings_TrimLeft.calls (rdOf ByteArray.empty t431 (ji15)) (⟨#[32, 9]⟩ : ByteArray) t441 _ A18.out).mono ?_); rintro e w23 ⟨rfl, hb⟩; replace HO_5 := ka (Kd.R_below (zR HO_5.out) hb); replace HO_6 := ka (Kd.R_below (zR HO_6.out) hb); replace BK436 := ka (zB BK436.out hb); replace HB := ka (below_step (zL HB.out) hb); (try clear hb); (try clear hb2); (try clear hk); (try clear hi)) | (go_at_call 31; (with_reducible refine (lex_goes.calls t441 t442 t443 _ A19.out).mono ?_); rintro e w24 ⟨rfl, hb⟩; replace HO_5 := ka (Kd.R_below (zR HO_5.out) hb); replace HO_6 := ka (Kd.R_below (zR HO_6.out) hb); replace BK436 := ka (zB BK436.out hb); replace HB := ka (below_step (zL HB.out) hb); (try clear hb); (try clear hb2); (try clear hk); (try clear hi)) | (go_at_call 33; (with_reducible refine (strings_TrimRight.calls x9_2 (⟨#[32, 9]⟩ : ByteArray) t444 _ A20.out).mono ?_); rintro e w25 ⟨rfl, hb⟩; replace HO_5 := ka (Kd.R_below (zR HO_5.out) hb); replace HO_6 := ka (Kd.R_below (zR HO_6.out) hb); replace BK436 := ka (zB BK436.out hb); replace HB := ka (below_step (zL HB.out) hb); (try clear hb); (try clear hb2); (try clear hk); (try clear hi))))
         go_roundg kj11
         case measure => have := HK1.out; have := HK2.out; have := HJ11.out; omega
         case rel => exact ⟨(ji15), ((t444 ++ (⟨#[32]⟩ : ByteArray)) ++ t442), (t443), (by first | rfl | (simp; done) | (simp only [← hji15] <;> (first | rfl | simp)) | (simp [*]; done)), zS, zS, H', ⟨by have := HK1.out; have := HK2.out; have := HJ11.out; omega⟩, ⟨zR HO_5.out⟩, ⟨zR HO_6.out⟩, ⟨zK BK436.out⟩, ⟨zL HB.out⟩⟩
        replace c14 := Bool.eq_false_iff.mpr c14
        subst c14
        rw [if_neg (show ¬ (false = true) by decide)] at H
        have HC26 := ka H
        clear H
        obtain ⟨z27_0, z27_1, z27_2, y27_0, y27_1, y27_2⟩ := zC3 BK436.out
        go_upto_if 62 with (fail)
        repeat (go_quiet (fail); go_upto_if 62 with (fail))
        go_cut [9] (fun v9 wc => ∃ (kq : Nat) (x9_25 : ByteArray), v9 = .string x9_25 ∧ Aside0 (lex_Lex.j3 kq x5_1 t431 x7_2 x9_25 (wrap64 (x7_1 + 1)) t435 (⟨#[]⟩ : ByteArray) = some (r1, r2, r3)) ∧ Aside0 (kq ≤ kj11) ∧ Aside0 (Kd.R k43 43 wc w.heap.size (fun k_ => k_ ≠ gb436) u5 x5_1) ∧ Aside0 (Kd.R Kd.string 9 wc w.heap.size (fun _ => True) (.slice (some ad434) t431.length co8) t431) ∧ Aside0 (wc.heap[gb436]? = some (.cells #[.int .i64 (wrap64 (x7_1 + 1)), .bool t435, .string ⟨#[]⟩] 43 (0, 0))) ∧ Aside0 (Below w.heap.size w wc))
        case first =>
         have H := HC26.out
         clear HC26
         by_cases c28 : t435 = true
         ·subst c28
          rw [if_pos rfl] at H
          have H' := ka H
          clear H
          go_wp2
          repeat (go_quiet (fail); try go_wp2)
          go_meet
          case rel => exact ⟨_, (x9_2), zS, H', ⟨by have := HK1.out; have := HK2.out; have := HJ11.out; first | omega | exact Nat.le_refl _⟩, ⟨zR HO_5.out⟩, ⟨zR HO_6.out⟩, ⟨zK BK436.out⟩, ⟨zL HB.out⟩⟩
         replace c28 := Bool.eq_false_iff.mpr c28
         subst c28
         rw [if_neg (show ¬ (false = true) by decide)] at H
         replace H := Option.bind_eq_some_iff.mp H
         obtain ⟨⟨t445, t446, t447⟩, A290, H⟩ := H
         try dsimp only at H
         have A29 := ka A290
         clear A290
         have H' := ka H
         clear H
         have F_ := trivial
         repeat ((first | clear F_ | go_quiet (first | (go_at_call 34; (with_reducible refine (strings_Cut.calls x9_2 (⟨#[35]⟩ : ByteArray) t445 t446 t447 _ A29.out).mono ?_); rintro e w' ⟨rfl, ⟨nd, rfl⟩⟩; (try exact zDr)))); try go_wp2_with (first | (go_at_call 34; (with_reducible refine (strings_Cut.calls x9_2 (⟨#[35]⟩ : ByteArray) t445 t446 t447 _ A29.out).mono ?_); rintro e w' ⟨rfl, ⟨nd, rfl⟩⟩; (try exact zDr))))
         go_meet
         case rel => exact ⟨_, (t445), zS, H', ⟨by have := HK1.out; have := HK2.out; have := HJ11.out; first | omega | exact Nat.le_refl _⟩, ⟨zR HO_5.out⟩, ⟨zR HO_6.out⟩, ⟨zK BK436.out⟩, ⟨zL HB.out⟩⟩
        case rest =>
         clear HC26
         try clear c4
         try clear c4b0
         try clear c5
         try clear c5b0
         try clear c14
         try clear z10_0 z10_1 z10_2
         try clear z27_0 z27_1 z27_2
         try clear y10_0 y10_1 y10_2
         try clear y27_0 y27_1 y27_2
         try clear hx434_0
         try clear hx437_0
         try clear p434
         try clear p437
         try clear q434
         try clear q437
         obtain ⟨kq, x9_25, rfl, HA, HJ25, HO_5, HO_6, BK436, HB⟩ := hcut
         cases kq with
         | zero => exact absurd HA.out (by simp [lex_Lex.j3])
         | succ kj25 =>
          have H := HA.out
          clear HA
          simp only [lex_Lex.j3] at H
          replace H := Option.bind_eq_some_iff.mp H
          obtain ⟨t448, A300, H⟩ := H
          try dsimp only at H
          have A30 := ka A300
          clear A300
          by_cases c31 : t448.toList = ([] : List UInt8)
          ·rw [if_pos c31] at H
           have c31b0 := zb0 c31
           have c31b1 := zb1 c31
           clear c31
           have H' := ka H
           clear H
           have F_ := trivial
           repeat ((first | clear F_ | go_quiet (first | (go_at_call 24; (with_reducible refine (text_Trim.calls x9_25 t448 _ A30.out).mono ?_); rintro e w32 ⟨rfl, hb⟩; replace HO_5 := ka (Kd.R_below (zR HO_5.out) hb); replace HO_6 := ka (Kd.R_below (zR HO_6.out) hb); replace BK436 := ka (zB BK436.out hb); replace HB := ka (below_step (zL HB.out) hb); (try clear hb); (try clear hb2); (try clear hk); (try clear hi); obtain ⟨z33_0, z33_1, z33_2, y33_0, y33_1, y33_2⟩ := zC3 BK436.out))); try go_wp2_with (first | (go_at_call 24; (with_reducible refine (text_Trim.calls x9_25 t448 _ A30.out).mono ?_); rintro e w32 ⟨rfl, hb⟩; replace HO_5 := ka (Kd.R_below (zR HO_5.out) hb); replace HO_6 := ka (Kd.R_below (zR HO_6.out) hb); replace BK436 := ka (zB BK436.out hb); replace HB := ka (below_step (zL HB.out) hb); (try clear hb); (try clear hb2); (try clear hk); (try clear hi); obtain ⟨z33_0, z33_1, z33_2, y33_0, y33_1, y33_2⟩ := zC3 BK436.out)))
           go_roundg kj25
           case measure => have := HK1.out; have := HK2.out; have := HJ11.out; have := HJ25.out; omega
           case rel => exact ⟨(x5_1), (wrap64 (x7_2 + 1)), zS, H', ⟨by have := HK1.out; have := HK2.out; have := HJ11.out; have := HJ25.out; omega⟩, ⟨by (with_reducible repeat (first | apply Kd.R_alloc | apply Kd.R_drewN | apply Kd.R_drew)); exact Kd.R_mono (zNM HO_5.out (g := gb436) (fun _ hk => hk)) (fun _ hk => trivial)⟩, ⟨by (with_reducible repeat (first | apply Kd.R_alloc | apply Kd.R_drewN | apply Kd.R_drew)); exact Kd.R_mono (zNT HO_6.out BK436.out) (fun _ hk => trivial)⟩, ⟨zL HB.out⟩⟩
          rw [if_neg c31] at H
          have c31b0 := zn0 c31
          have c31b1 := zn1 c31
          by_cases c34 : (t448.size : Int) > 1000
          ·rw [if_pos c34] at H
           have c34b0 : decide (1000 < (t448.size : Int)) = true := zdt c34
           have c34b1 : decide (1000 < t448.size) = true := decide_eq_true (by omega)
           clear c34
           replace H := zs3 H
           obtain ⟨rfl, rfl, rfl⟩ := H
           have F_ := trivial
           repeat ((first | clear F_ | go_quiet (first | (go_at_call 24; (with_reducible refine (text_Trim.calls x9_25 t448 _ A30.out).mono ?_); rintro e w35 ⟨rfl, hb⟩; replace HO_5 := ka (Kd.R_below (zR HO_5.out) hb); replace HO_6 := ka (Kd.R_below (zR HO_6.out) hb); replace BK436 := ka (zB BK436.out hb); replace HB := ka (below_step (zL HB.out) hb); (try clear hb); (try clear hb2); (try clear hk); (try clear hi); obtain ⟨z36_0, z36_1, z36_2, y36_0, y36_1, y36_2⟩ := zC3 BK436.out))); try go_wp2_with (first | (go_at_call 24; (with_reducible refine (text_Trim.calls x9_25 t448 _ A30.out).mono ?_); rintro e w35 ⟨rfl, hb⟩; replace HO_5 := ka (Kd.R_below (zR HO_5.out) hb); replace HO_6 := ka (Kd.R_below (zR HO_6.out) hb); replace BK436 := ka (zB BK436.out hb); replace HB := ka (below_step (zL HB.out) hb); (try clear hb); (try clear hb2); (try clear hk); (try clear hi); obtain ⟨z36_0, z36_1, z36_2, y36_0, y36_1, y36_2⟩ := zC3 BK436.out)))
           (try simp only [Exit.noGoto_ret])
           go_ret3
           exact ⟨_, zE, zNl, zL HB.out⟩
          rw [if_neg c34] at H
          have c34b0 : decide (1000 < (t448.size : Int)) = false := zdf c34
          have c34b1 : decide (1000 < t448.size) = false := decide_eq_false (by omega)
          clear c34
          by_cases c37 : (x5_1.length : Int) ≥ 300
          ·rw [if_pos c37] at H
           have c37b0 : decide (300 ≤ (x5_1.length : Int)) = true := zdt c37
           have c37b1 : decide (300 ≤ x5_1.length) = true := decide_eq_true (by omega)
           clear c37
           replace H := zs3 H
           obtain ⟨rfl, rfl, rfl⟩ := H
           have F_ := trivial
           repeat ((first | clear F_ | go_quiet (first | (go_at_call 24; (with_reducible refine (text_Trim.calls x9_25 t448 _ A30.out).mono ?_); rintro e w38 ⟨rfl, hb⟩; replace HO_5 := ka (Kd.R_below (zR HO_5.out) hb); replace HO_6 := ka (Kd.R_below (zR HO_6.out) hb); replace BK436 := ka (zB BK436.out hb); replace HB := ka (below_step (zL HB.out) hb); (try clear hb); (try clear hb2); (try clear hk); (try clear hi); obtain ⟨z39_0, z39_1, z39_2, y39_0, y39_1, y39_2⟩ := zC3 BK436.out; obtain ⟨Ao40, co40, eo40⟩ := Kd.R_slice HO_5.out; subst eo40))); try go_wp2_with (first | (go_at_call 24; (with_reducible refine (text_Trim.calls x9_25 t448 _ A30.out).mono ?_); rintro e w38 ⟨rfl, hb⟩; replace HO_5 := ka (Kd.R_below (zR HO_5.out) hb); replace HO_6 := ka (Kd.R_below (zR HO_6.out) hb); replace BK436 := ka (zB BK436.out hb); replace HB := ka (below_step (zL HB.out) hb); (try clear hb); (try clear hb2); (try clear hk); (try clear hi); obtain ⟨z39_0, z39_1, z39_2, y39_0, y39_1, y39_2⟩ := zC3 BK436.out; obtain ⟨Ao40, co40, eo40⟩ := Kd.R_slice HO_5.out; subst eo40)))
           (try simp only [Exit.noGoto_ret])
           go_ret3
           exact ⟨_, zE, zNl, zL HB.out⟩
          rw [if_neg c37] at H
          have c37b0 : decide (300 ≤ (x5_1.length : Int)) = false := zdf c37
          have c37b1 : decide (300 ≤ x5_1.length) = false := decide_eq_false (by omega)
          clear c37
          replace H := zif H
          obtain ⟨c41, H⟩ := H
          have LMc41 := ka c41
          clear c41
          obtain ⟨y449, hy449⟩ : ∃ y_ : List (S43), y_ = (x5_1 ++ [(⟨(wrap64 (x7_1 + 1)), t435, t448⟩ : S43)]) := ⟨_, rfl⟩
          replace H : (lex_Lex.l0 kj25 y449 t431 (wrap64 (x7_2 + 1))) = some (r1, r2, r3) := zH hy449 H
          have Ny449 := ka hy449
          clear hy449
          have H' := ka H
          clear H
          have F_ := trivial
          repeat ((first | clear F_ | go_quiet (first | (go_at_call 24; (with_reducible refine (text_Trim.calls x9_25 t448 _ A30.out).mono ?_); rintro e w42 ⟨rfl, hb⟩; replace HO_5 := ka (Kd.R_below (zR HO_5.out) hb); replace HO_6 := ka (Kd.R_below (zR HO_6.out) hb); replace BK436 := ka (zB BK436.out hb); replace HB := ka (below_step (zL HB.out) hb); (try clear hb); (try clear hb2); (try clear hk); (try clear hi); obtain ⟨z43_0, z43_1, z43_2, y43_0, y43_1, y43_2⟩ := zC3 BK436.out; obtain ⟨Ao44, co44, eo44⟩ := Kd.R_slice HO_5.out; subst eo44))); try go_wp2_with (first | (go_at_call 24; (with_reducible refine (text_Trim.calls x9_25 t448 _ A30.out).mono ?_); rintro e w42 ⟨rfl, hb⟩; replace HO_5 := ka (Kd.R_below (zR HO_5.out) hb); replace HO_6 := ka (Kd.R_below (zR HO_6.out) hb); replace BK436 := ka (zB BK436.out hb); replace HB := ka (below_step (zL HB.out) hb); (try clear hb); (try clear hb2); (try clear hk); (try clear hi); obtain ⟨z43_0, z43_1, z43_2, y43_0, y43_1, y43_2⟩ := zC3 BK436.out; obtain ⟨Ao44, co44, eo44⟩ := Kd.R_slice HO_5.out; subst eo44) | ((with_reducible refine gate_builtin (b := .append) (xs := #[.tmp 88, .tmp 90]) rfl ?_); (try (refine gate_guard (by rfl) ?_; dsimp only)); at_builtin; refine Kd.R_append k43 (w0 := w) w.heap.size rfl (.tmp 88) (.tmp 90) 22 43 (.agg #[(.int .i64 0), (.bool false), (.string ⟨#[]⟩)]) 32 rfl Tryd.underlying22 info43 rfl (by decide) (by omega) (.slice Ao44 x5_1.length co44) x5_1 (⟨(wrap64 (x7_1 + 1)), t435, t448⟩ : S43) [.int .i64 (wrap64 (x7_1 + 1)), .bool t435, .string t448] (fun k_ => k_ ≠ gb436) (fun _ => False) rfl (by first | (go_simp; done) | (go_simp; rfl)) ?aP (fun _ hk => hk.elim) ?aF ?aO ?aB ?aS ?aL ?_; (case aP => exact k43_mkM _ _ _ (⟨(wrap64 (x7_1 + 1)), t435, t448⟩ : S43)); (case aB => exact (zL HB.out)); (case aF => exact (fun k_ hk => Kd.freshB (g := gb436) (o := .cells #[.int .i64 (wrap64 (x7_1 + 1)), .bool t435, .string t448] 43 (0, 0)) (by (with_reducible repeat (first | refine blk_drewN ?_ _ | refine blk_drew ?_ | refine blk_alloc ?_ _)); refine blk_put (cs := #[.int .i64 (wrap64 (x7_1 + 1)), .bool t435, .string ⟨#[]⟩]) ?_ 2 _ rfl; (with_reducible repeat (first | refine blk_drewN ?_ _ | refine blk_drew ?_ | refine blk_alloc ?_ _)); exact BK436.out) k_ hk)); (case aO => exact (by (with_reducible repeat (first | apply Kd.R_alloc | apply Kd.R_drewN | apply Kd.R_drew)); exact Kd.R_mono (zNM HO_5.out (g := gb436) (fun _ hk => hk)) (fun _ hk => hk.1))); (case aS => exact (below_size (zL HB.out))); (case aL => have := LMc41.out; omega); intro v450 w45 ho hb hg hat; rw [← Ny449.out] at ho; replace HO_6 := ka (Kd.R_over' (zT HO_6.out BK436.out) (Kd.R_typed (zM HO_5.out (g := gb436) (fun _ hk => hk))) (by decide) hg); replace BK436 := ka (blk_grown (g := gb436) (o := .cells #[.int .i64 (wrap64 (x7_1 + 1)), .bool t435, .string t448] 43 (0, 0)) (by (with_reducible repeat (first | refine blk_drewN ?_ _ | refine blk_drew ?_ | refine blk_alloc ?_ _)); refine blk_put (cs := #[.int .i64 (wrap64 (x7_1 + 1)), .bool t435, .string ⟨#[]⟩]) ?_ 2 _ rfl; (with_reducible repeat (first | refine blk_drewN ?_ _ | refine blk_drew ?_ | refine blk_alloc ?_ _)); exact BK436.out) hg (Kd.R_away HO_5.out (fun _ hk => hk))); replace HB := ka (hb); have HO451 := ka (ho); clear HO_5; clear ho hb hg hat)))
          go_roundg kj25
          case measure => have := HK1.out; have := HK2.out; have := HJ11.out; have := HJ25.out; omega
          case rel => exact ⟨(y449), (wrap64 (x7_2 + 1)), zS, H', ⟨by have := HK1.out; have := HK2.out; have := HJ11.out; have := HJ25.out; omega⟩, ⟨by (with_reducible repeat (first | apply Kd.R_alloc | apply Kd.R_drewN | apply Kd.R_drew)); exact Kd.R_mono HO451.out (fun _ hk => trivial)⟩, ⟨zR HO_6.out⟩, ⟨zL HB.out⟩⟩
   rw [if_neg c4] at H
   have c4b0 := zdf c4
   clear c4
   replace H := zs3 H
   obtain ⟨rfl, rfl, rfl⟩ := H
   obtain ⟨Ao46, co46, eo46⟩ := Kd.R_slice HO_6.out
   subst eo46
   go_wp2
   repeat (go_quiet (fail); try go_wp2)
   (try simp only [Exit.noGoto_ret])
   go_ret3
   exact ⟨_, zE, by (with_reducible repeat (first | apply Kd.R_alloc | apply Kd.R_drewN | apply Kd.R_drew)); exact HO_5.out, zL HB.out⟩

/-! ### cooperageref1_Lines: function 35 -/
def cooperageref1_Lines.l0 : Nat → ByteArray → List ByteArray → Int → Int → Option (List ByteArray)
 | 0, _, _, _, _ => none
 | k + 1, x0, x3, x4, x5 => if x5 < (x0.size : Int) then (if 0 ≤ x5 then (if (bt x0 x5) = 10 then (if 0 ≤ x4 then (if x4 ≤ x5 then (if x5 ≤ (x0.size : Int) then (if x3.length < 8796093022208 then (cooperageref1_Lines.l0 k x0 (x3 ++ [x0.extract (x4 : Int).toNat (x5 : Int).toNat]) (wrap64 (x5 + 1)) (wrap64 (x5 + 1))) else (none)) else (none)) else (none)) else (none)) else (cooperageref1_Lines.l0 k x0 x3 x4 (wrap64 (x5 + 1)))) else (none)) else (if x4 < (x0.size : Int) then (if 0 ≤ x4 then (if x4 ≤ (x0.size : Int) then (if x3.length < 8796093022208 then (some (x3 ++ [x0.extract (x4 : Int).toNat x0.size])) else (none)) else (none)) else (none)) else (some x3))
def cooperageref1_Lines.f (k : Nat) (a0 : ByteArray) : Option (List ByteArray) := cooperageref1_Lines.l0 k a0 ([] : List ByteArray) 0 0
theorem cooperageref1_Lines.mono_l : ∀ k, (∀ y0 y1 y2 y3, LeO (cooperageref1_Lines.l0 k y0 y1 y2 y3) (cooperageref1_Lines.l0 (k + 1) y0 y1 y2 y3))
 | 0 => fun _ _ _ _ r h => by simp [cooperageref1_Lines.l0] at h
 | k + 1 => by
  have ih0 := cooperageref1_Lines.mono_l k
  ·intro y0 y1 y2 y3
   unfold cooperageref1_Lines.l0
   exact zLe
theorem cooperageref1_Lines.mono : ∀ a0 k, LeO (cooperageref1_Lines.f k a0) (cooperageref1_Lines.f (k + 1) a0) := by
 intro a0 k
 have ih0 := cooperageref1_Lines.mono_l k
 unfold cooperageref1_Lines.f
 exact zLe
theorem cooperageref1_Lines.calls (k : Nat) (a0 : ByteArray) (r : List ByteArray) (w : World) (h : cooperageref1_Lines.f k a0 = some r) :
  Calls Tryd.prog 35 #[.string a0] w fun e w' => ∃ v0_ : Value, e = .returned (v0_) ∧ Kd.R Kd.string 9 w' w.heap.size (fun _ => True) v0_ r ∧ Below w.heap.size w w' := by
 have HB := ka (Below.refl w.heap.size w)
 have H : (cooperageref1_Lines.l0 k a0 ([] : List ByteArray) 0 0) = some r := h
 clear h
 have H' := ka H
 clear H
 go_enter Tryd.func35, Tryd.ntmps35
 go_wp2
 go_loopg [3, 4, 5] k (fun kq v3 v4 v5 w' => ∃ (x3_1 : List ByteArray) (x4_1 : Int) (x5_1 : Int), v4 = .int .i64 x4_1 ∧ v5 = .int .i64 x5_1 ∧ Aside0 (cooperageref1_Lines.l0 kq a0 x3_1 x4_1 x5_1 = some r) ∧ Aside0 (kq ≤ k) ∧ Aside0 (Kd.R Kd.string 9 w' w.heap.size (fun _ => True) v3 x3_1) ∧ Aside0 (Below w.heap.size w w'))
 case atStart => exact ⟨(([] : List ByteArray)), (0), (0), zS, zS, H', ⟨Nat.le_refl _⟩, ⟨zNl⟩, ⟨zL HB.out⟩⟩
 case round =>
  clear H'
  obtain ⟨x3_1, x4_1, x5_1, rfl, rfl, HA, HK1, HO_3, HB⟩ := hrel
  cases gk with
  | zero => exact absurd HA.out (by simp [cooperageref1_Lines.l0])
  | succ k1 =>
   have H := HA.out
   clear HA
   simp only [cooperageref1_Lines.l0] at H
   by_cases c2 : x5_1 < (a0.size : Int)
   ·rw [if_pos c2] at H
    have c2b0 := zdt c2
    clear c2
    replace H := zif H
    obtain ⟨c3, H⟩ := H
    have c3b0 := zdt c3
    clear c3
    by_cases c5 : (bt a0 x5_1) = 10
    ·rw [if_pos c5] at H
     have c5b0 := zb0 c5
     have c5b1 := zb1 c5
     clear c5
     replace H := zif H
     obtain ⟨c6, H⟩ := H
     have c6b0 := eq_true c6
     have c6b1 := zdt c6
     clear c6
     replace H := zif H
     obtain ⟨c7, H⟩ := H
     have c7b0 := eq_true c7
     have c7b1 := zdt c7
     clear c7
     replace H := zif H
     obtain ⟨c8, H⟩ := H
     have c8b0 := eq_true c8
     have c8b1 := zdt c8
     clear c8
     replace H := zif H
     obtain ⟨c9, H⟩ := H
     have LMc9 := ka c9
     clear c9
     obtain ⟨y452, hy452⟩ : ∃ y_ : List ByteArray, y_ = (x3_1 ++ [a0.extract (x4_1 : Int).toNat (x5_1 : Int).toNat]) := ⟨_, rfl⟩
     replace H : (cooperageref1_Lines.l0 k1 a0 y452 (wrap64 (x5_1 + 1)) (wrap64 (x5_1 + 1))) = some r := zH hy452 H
     have Ny452 := ka hy452
     clear hy452
     have H' := ka H
     clear H
     have p4 : 0 ≤ (x5_1 : Int) := zD
     have q4 : x5_1 < (a0.size : Int) := zD
     have hx4 := bt_at a0 x5_1
     replace p4 := eq_true p4
     replace q4 := eq_true q4
     go_wp2_with (first | ((with_reducible refine gate_builtin (b := .append) (xs := #[.tmp 16, .tmp 21]) rfl ?_); at_builtin; refine Kd.R_append Kd.string (w0 := w) w.heap.size rfl (.tmp 16) (.tmp 21) 37 9 (.string ⟨#[]⟩) 16 rfl Tryd.underlying37 info9 rfl (by decide) (by omega) u3 x3_1 (a0.extract (x4_1 : Int).toNat (x5_1 : Int).toNat) [.string (a0.extract (x4_1 : Int).toNat (x5_1 : Int).toNat)] (fun _ => True) (fun _ => False) rfl rfl ?aP (fun _ hk => hk.elim) ?aF ?aO ?aB ?aS ?aL ?_; (case aP => exact rfl); (case aB => exact (zL HB.out)); (case aF => exact (fun _ _ => trivial)); (case aO => exact (zR HO_3.out)); (case aS => exact (below_size (zL HB.out))); (case aL => have := LMc9.out; omega); intro v453 w10 ho hb hg hat; rw [← Ny452.out] at ho; replace HB := ka (hb); have HO454 := ka (ho); clear HO_3; clear ho hb hg hat))
     go_roundg k1
     case measure => have := HK1.out; omega
     case rel => exact ⟨(y452), (wrap64 (x5_1 + 1)), (wrap64 (x5_1 + 1)), zS, zS, H', ⟨by have := HK1.out; omega⟩, ⟨zR HO454.out⟩, ⟨zL HB.out⟩⟩
    rw [if_neg c5] at H
    have c5b0 := zn0 c5
    have c5b1 := zn1 c5
    have H' := ka H
    clear H
    have p4 : 0 ≤ (x5_1 : Int) := zD
    have q4 : x5_1 < (a0.size : Int) := zD
    have hx4 := bt_at a0 x5_1
    replace p4 := eq_true p4
    replace q4 := eq_true q4
    go_wp2
    go_roundg k1
    case measure => have := HK1.out; omega
    case rel => exact ⟨(x3_1), (x4_1), (wrap64 (x5_1 + 1)), zS, zS, H', ⟨by have := HK1.out; omega⟩, ⟨zR HO_3.out⟩, ⟨zL HB.out⟩⟩
   rw [if_neg c2] at H
   have c2b0 := zdf c2
   clear c2
   by_cases c11 : x4_1 < (a0.size : Int)
   ·rw [if_pos c11] at H
    have c11b0 := zdt c11
    clear c11
    replace H := zif H
    obtain ⟨c12, H⟩ := H
    have c12b0 := eq_true c12
    have c12b1 := zdt c12
    clear c12
    replace H := zif H
    obtain ⟨c13, H⟩ := H
    have c13b0 := eq_true c13
    have c13b1 := zdt c13
    clear c13
    replace H := zif H
    obtain ⟨c14, H⟩ := H
    have LMc14 := ka c14
    clear c14
    obtain ⟨y455, hy455⟩ : ∃ y_ : List ByteArray, y_ = (x3_1 ++ [a0.extract (x4_1 : Int).toNat a0.size]) := ⟨_, rfl⟩
    replace H : (some y455) = some r := zH hy455 H
    have Ny455 := ka hy455
    clear hy455
    obtain rfl := Option.some.inj H
    go_wp2_with (first | ((with_reducible refine gate_builtin (b := .append) (xs := #[.tmp 29, .tmp 33]) rfl ?_); at_builtin; refine Kd.R_append Kd.string (w0 := w) w.heap.size rfl (.tmp 29) (.tmp 33) 37 9 (.string ⟨#[]⟩) 16 rfl Tryd.underlying37 info9 rfl (by decide) (by omega) u3 x3_1 (a0.extract (x4_1 : Int).toNat a0.size) [.string (a0.extract (x4_1 : Int).toNat a0.size)] (fun _ => True) (fun _ => False) rfl rfl ?aP (fun _ hk => hk.elim) ?aF ?aO ?aB ?aS ?aL ?_; (case aP => exact rfl); (case aB => exact (zL HB.out)); (case aF => exact (fun _ _ => trivial)); (case aO => exact (zR HO_3.out)); (case aS => exact (below_size (zL HB.out))); (case aL => have := LMc14.out; omega); intro v456 w15 ho hb hg hat; rw [← Ny455.out] at ho; replace HB := ka (hb); have HO457 := ka (ho); clear HO_3; clear ho hb hg hat))
    go_ret
    exact ⟨_, zE, by (with_reducible repeat (first | apply Kd.R_alloc | apply Kd.R_drewN | apply Kd.R_drew)); exact HO457.out, zL HB.out⟩
   rw [if_neg c11] at H
   have c11b0 := zdf c11
   clear c11
   obtain rfl := Option.some.inj H
   go_wp2
   go_ret
   exact ⟨_, zE, by (with_reducible repeat (first | apply Kd.R_alloc | apply Kd.R_drewN | apply Kd.R_drew)); exact HO_3.out, zL HB.out⟩

/-! ### cooperageref8_odd: function 36 -/
def cooperageref8_odd.l0 : Nat → ByteArray → Int → Option (Bool)
 | 0, _, _ => none
 | k + 1, x0, x3 => if x3 < (x0.size : Int) then (if 0 ≤ (wrap64 ((wrap64 ((x0.size : Int) - 1)) - x3)) then (if (wrap64 ((wrap64 ((x0.size : Int) - 1)) - x3)) < (x0.size : Int) then (if (bt x0 (wrap64 ((wrap64 ((x0.size : Int) - 1)) - x3))) = 92 then (cooperageref8_odd.l0 k x0 (wrap64 (x3 + 1))) else (some ((Int.tmod x3 2) == 1))) else (none)) else (none)) else (some ((Int.tmod x3 2) == 1))
def cooperageref8_odd.f (k : Nat) (a0 : ByteArray) : Option (Bool) := cooperageref8_odd.l0 k a0 0
theorem cooperageref8_odd.mono_l : ∀ k, (∀ y0 y1, LeO (cooperageref8_odd.l0 k y0 y1) (cooperageref8_odd.l0 (k + 1) y0 y1))
 | 0 => fun _ _ r h => by simp [cooperageref8_odd.l0] at h
 | k + 1 => by
  have ih0 := cooperageref8_odd.mono_l k
  ·intro y0 y1
   unfold cooperageref8_odd.l0
   exact zLe
theorem cooperageref8_odd.mono : ∀ a0 k, LeO (cooperageref8_odd.f k a0) (cooperageref8_odd.f (k + 1) a0) := by
 intro a0 k
 have ih0 := cooperageref8_odd.mono_l k
 unfold cooperageref8_odd.f
 exact zLe
theorem cooperageref8_odd.calls (k : Nat) (a0 : ByteArray) (r : Bool) (w : World) (h : cooperageref8_odd.f k a0 = some r) :
  Calls Tryd.prog 36 #[.string a0] w fun e w' => e = .returned (.bool r) ∧ Drawn0 w w' := by
 have H : (cooperageref8_odd.l0 k a0 0) = some r := h
 clear h
 have H' := ka H
 clear H
 go_enter Tryd.func36, Tryd.ntmps36
 go_wp2
 go_loopg [3] k (fun kq v3 w' => ∃ (x3_1 : Int), v3 = .int .i64 x3_1 ∧ Aside0 (cooperageref8_odd.l0 kq a0 x3_1 = some r) ∧ Aside0 (kq ≤ k) ∧ Drawn0 w w')
 case atStart => exact ⟨(0), zS, H', ⟨Nat.le_refl _⟩, zd0⟩
 case round =>
  clear H'
  obtain ⟨x3_1, rfl, HA, HK1, ⟨m1, rfl⟩⟩ := hrel
  cases gk with
  | zero => exact absurd HA.out (by simp [cooperageref8_odd.l0])
  | succ k1 =>
   have H := HA.out
   clear HA
   simp only [cooperageref8_odd.l0] at H
   by_cases c2 : x3_1 < (a0.size : Int)
   ·rw [if_pos c2] at H
    have c2b0 := zdt c2
    clear c2
    obtain ⟨ji3, hji3⟩ : ∃ j_ : Int, (wrap64 ((wrap64 ((a0.size : Int) - 1)) - x3_1)) = j_ := ⟨_, rfl⟩
    replace H : (if 0 ≤ (ji3) then (if (ji3) < (a0.size : Int) then (if (bt a0 (ji3)) = 92 then (cooperageref8_odd.l0 k1 a0 (wrap64 (x3_1 + 1))) else (some ((Int.tmod x3_1 2) == 1))) else (none)) else (none)) = some r := by first | (rw [hji3] at H; exact H) | (simp only [hji3] at H ⊢; exact H)
    have hji3w : (IntKind.i64.wrap ((wrap64 ((a0.size : Int) - 1)) - x3_1)) = ji3 := (i64_w _).trans hji3
    replace H := zif H
    obtain ⟨c4, H⟩ := H
    have c4b0 := zdt c4
    clear c4
    replace H := zif H
    obtain ⟨c5, H⟩ := H
    have c5b0 := zdt c5
    clear c5
    by_cases c7 : (bt a0 (ji3)) = 92
    ·rw [if_pos c7] at H
     have c7b0 := zb0 c7
     have c7b1 := zb1 c7
     clear c7
     have H' := ka H
     clear H
     have p6 : 0 ≤ ((ji3) : Int) := zD
     have q6 : (ji3) < (a0.size : Int) := zD
     have hx6 := bt_at a0 (ji3)
     replace p6 := eq_true p6
     replace q6 := eq_true q6
     go_wp2
     go_roundg k1
     case measure => have := HK1.out; omega
     case rel => exact ⟨(wrap64 (x3_1 + 1)), zS, H', ⟨by have := HK1.out; omega⟩, zd0⟩
    rw [if_neg c7] at H
    have c7b0 := zn0 c7
    have c7b1 := zn1 c7
    obtain rfl := Option.some.inj H
    have p6 : 0 ≤ ((ji3) : Int) := zD
    have q6 : (ji3) < (a0.size : Int) := zD
    have hx6 := bt_at a0 (ji3)
    replace p6 := eq_true p6
    replace q6 := eq_true q6
    go_wp2
    go_ret
    exact ⟨by first | rfl | (simp; done) | (simp only [← hji3] <;> (first | rfl | simp)) | (simp [*]; done), zd0⟩
   rw [if_neg c2] at H
   have c2b0 := zdf c2
   clear c2
   obtain rfl := Option.some.inj H
   go_wp2
   go_ret
   exact ⟨by first | rfl | (simp; done) | (simp [*]; done), zd0⟩

end Go.Proofs.YthnholondnfjoaaDoor.PParse
