-- Written by a program of this session (wip/tools/ext.py, over the kit's printer); not trusted: Lean checks it.
import Derived.Test.YtjbpabpfhkcolaaDoorPLexx0
import Derived.Test.YtjbpabpfhkcolaaDoorPLexx3
namespace Go.Proofs.YtjbpabpfhkcolaaDoor.PLex
open Go.RowKit Go.Proofs.YtjbpabpfhkcolaaDoorW.PrintWords Go.Proofs.YtjbpabpfhkcolaaDoorW.PrintLast Go.Proofs.YtjbpabpfhkcolaaDoorW.PrintMore
attribute [local go_sem] max2_int min2_int max_two min_two max_three min_three max_four min_four   -- for this text's walks alone
set_option linter.unusedVariables false
set_option linter.unusedSimpArgs false

/-! ### cooperagelaw8_LexBare: function 3 -/
mutual
def cooperagelaw8_LexBare.j0 : Nat → ByteArray → Bool → Bool → Option (Bool)
 | 0, _, _, _ => none
 | k + 1, x0, x3, x19 => if x19 = true then (some x3) else ((lex_Lex.f k x0).bind fun bt137 => (if bt137.2.1 = 0 then (cooperagelaw8_LexBare.l0 k x0 bt137.1 1 0) else (if (bt137.1.length : Int) = 0 then (some (decide (bt137.2.2 ≥ 1))) else (some false))))
def cooperagelaw8_LexBare.l0 : Nat → ByteArray → List (S28) → Int → Int → Option (Bool)
 | 0, _, _, _, _ => none
 | k + 1, x0, x4, x7, x8 => if x8 < (x0.size : Int) then (if 0 ≤ x8 then (if (bt x0 x8) = 10 then (cooperagelaw8_LexBare.l0 k x0 x4 (wrap64 (x7 + 1)) (wrap64 (x8 + 1))) else (cooperagelaw8_LexBare.l0 k x0 x4 x7 (wrap64 (x8 + 1)))) else (none)) else (cooperagelaw8_LexBare.l1 k x4 x7 0)
def cooperagelaw8_LexBare.l1 : Nat → List (S28) → Int → Int → Option (Bool)
 | 0, _, _, _ => none
 | k + 1, x4, x7, x9 => if x9 < (x4.length : Int) then (if 0 ≤ x9 then (if ((rd_T28 x4 x9).f2).toList = ([] : List UInt8) then (cooperagelaw8_LexBare.j3 k x4 x7 x9 ((rd_T28 x4 x9).f2) true) else (if (((rd_T28 x4 x9).f2).size : Int) > 1000 then (cooperagelaw8_LexBare.j3 k x4 x7 x9 ((rd_T28 x4 x9).f2) true) else (if ((rd_T28 x4 x9).f0) < 1 then (cooperagelaw8_LexBare.j3 k x4 x7 x9 ((rd_T28 x4 x9).f2) true) else (if ((rd_T28 x4 x9).f0) > x7 then (cooperagelaw8_LexBare.j3 k x4 x7 x9 ((rd_T28 x4 x9).f2) true) else (if x9 > 0 then (if 0 ≤ (wrap64 (x9 - 1)) then (if (wrap64 (x9 - 1)) < (x4.length : Int) then (cooperagelaw8_LexBare.j3 k x4 x7 x9 ((rd_T28 x4 x9).f2) (decide (((rd_T28 x4 x9).f0) ≤ ((rd_T28 x4 (wrap64 (x9 - 1))).f0)))) else (none)) else (none)) else (cooperagelaw8_LexBare.j3 k x4 x7 x9 ((rd_T28 x4 x9).f2) false)))))) else (none)) else (some true)
def cooperagelaw8_LexBare.j3 : Nat → List (S28) → Int → Int → ByteArray → Bool → Option (Bool)
 | 0, _, _, _, _, _ => none
 | k + 1, x4, x7, x9, x10, x100 => if x100 = true then (some false) else (if 0 < (x10.size : Int) then (if (bt x10 0) = 32 then (cooperagelaw8_LexBare.j4 k x4 x7 x9 x10 true) else (if (bt x10 0) = 9 then (cooperagelaw8_LexBare.j4 k x4 x7 x9 x10 true) else (if 0 ≤ (wrap64 ((x10.size : Int) - 1)) then (if (wrap64 ((x10.size : Int) - 1)) < (x10.size : Int) then (if (bt x10 (wrap64 ((x10.size : Int) - 1))) = 32 then (cooperagelaw8_LexBare.j4 k x4 x7 x9 x10 true) else (cooperagelaw8_LexBare.j4 k x4 x7 x9 x10 ((bt x10 (wrap64 ((x10.size : Int) - 1))) == 9))) else (none)) else (none)))) else (none))
def cooperagelaw8_LexBare.j4 : Nat → List (S28) → Int → Int → ByteArray → Bool → Option (Bool)
 | 0, _, _, _, _, _ => none
 | k + 1, x4, x7, x9, x10, x124 => if x124 = true then (some false) else (cooperagelaw8_LexBare.l2 k x4 x7 x9 x10 0)
def cooperagelaw8_LexBare.l2 : Nat → List (S28) → Int → Int → ByteArray → Int → Option (Bool)
 | 0, _, _, _, _, _ => none
 | k + 1, x4, x7, x9, x10, x11 => if x11 < (x10.size : Int) then (if 0 ≤ x11 then (if (bt x10 x11) = 10 then (some false) else (if (bt x10 x11) = 35 then (if 0 ≤ x9 then (if x9 < (x4.length : Int) then (if ((rd_T28 x4 x9).f1 = true) then (cooperagelaw8_LexBare.l2 k x4 x7 x9 x10 (wrap64 (x11 + 1))) else (some false)) else (none)) else (none)) else (cooperagelaw8_LexBare.l2 k x4 x7 x9 x10 (wrap64 (x11 + 1))))) else (none)) else (cooperagelaw8_LexBare.l1 k x4 x7 (wrap64 (x9 + 1)))
end
def cooperagelaw8_LexBare.f (k : Nat) (a0 : ByteArray) : Option (Bool) := (cooperagelaw8_shown.f k).bind fun t136 => (if t136 = true then (cooperagelaw8_LexBare.j0 k a0 t136 (decide ((a0.size : Int) > 3000))) else (cooperagelaw8_LexBare.j0 k a0 t136 true))
theorem cooperagelaw8_LexBare.mono_l : ∀ k, (∀ y0 y1 y2, LeO (cooperagelaw8_LexBare.j0 k y0 y1 y2) (cooperagelaw8_LexBare.j0 (k + 1) y0 y1 y2)) ∧ (∀ y0 y1 y2 y3, LeO (cooperagelaw8_LexBare.l0 k y0 y1 y2 y3) (cooperagelaw8_LexBare.l0 (k + 1) y0 y1 y2 y3)) ∧ (∀ y0 y1 y2, LeO (cooperagelaw8_LexBare.l1 k y0 y1 y2) (cooperagelaw8_LexBare.l1 (k + 1) y0 y1 y2)) ∧ (∀ y0 y1 y2 y3 y4, LeO (cooperagelaw8_LexBare.j3 k y0 y1 y2 y3 y4) (cooperagelaw8_LexBare.j3 (k + 1) y0 y1 y2 y3 y4)) ∧ (∀ y0 y1 y2 y3 y4, LeO (cooperagelaw8_LexBare.j4 k y0 y1 y2 y3 y4) (cooperagelaw8_LexBare.j4 (k + 1) y0 y1 y2 y3 y4)) ∧ (∀ y0 y1 y2 y3 y4, LeO (cooperagelaw8_LexBare.l2 k y0 y1 y2 y3 y4) (cooperagelaw8_LexBare.l2 (k + 1) y0 y1 y2 y3 y4))
 | 0 => ⟨fun _ _ _ r h => by simp [cooperagelaw8_LexBare.j0] at h, fun _ _ _ _ r h => by simp [cooperagelaw8_LexBare.l0] at h, fun _ _ _ r h => by simp [cooperagelaw8_LexBare.l1] at h, fun _ _ _ _ _ r h => by simp [cooperagelaw8_LexBare.j3] at h, fun _ _ _ _ _ r h => by simp [cooperagelaw8_LexBare.j4] at h, fun _ _ _ _ _ r h => by simp [cooperagelaw8_LexBare.l2] at h⟩
 | k + 1 => by
  obtain ⟨ih0, ih1, ih2, ih3, ih4, ih5⟩ := cooperagelaw8_LexBare.mono_l k
  refine ⟨?_, ?_, ?_, ?_, ?_, ?_⟩
  ·intro y0 y1 y2
   unfold cooperagelaw8_LexBare.j0
   repeat' first
   | (with_reducible exact ih0 _ _ _)
   | (with_reducible exact ih1 _ _ _ _)
   | (with_reducible exact ih2 _ _ _)
   | (with_reducible exact ih3 _ _ _ _ _)
   | (with_reducible exact ih4 _ _ _ _ _)
   | (with_reducible exact ih5 _ _ _ _ _)
   | (with_reducible exact cooperagelaw8_shown.mono _)
   | (with_reducible exact lex_Lex.mono _ _)
   | (with_reducible exact LeO.refl _)
   | (with_reducible exact LeO.none _)
   | (with_reducible refine LeO.ite ?_ ?_)
   | (with_reducible refine LeO.bind ?_ (fun _ => ?_))
   | exact ih0 _ _ _
   | exact ih1 _ _ _ _
   | exact ih2 _ _ _
   | exact ih3 _ _ _ _ _
   | exact ih4 _ _ _ _ _
   | exact ih5 _ _ _ _ _
   | exact cooperagelaw8_shown.mono _
   | exact lex_Lex.mono _ _
   | exact LeO.none _
   | refine LeO.ite ?_ ?_
   | refine LeO.bind ?_ (fun _ => ?_)
  ·intro y0 y1 y2 y3
   unfold cooperagelaw8_LexBare.l0
   repeat' first
   | (with_reducible exact ih0 _ _ _)
   | (with_reducible exact ih1 _ _ _ _)
   | (with_reducible exact ih2 _ _ _)
   | (with_reducible exact ih3 _ _ _ _ _)
   | (with_reducible exact ih4 _ _ _ _ _)
   | (with_reducible exact ih5 _ _ _ _ _)
   | (with_reducible exact cooperagelaw8_shown.mono _)
   | (with_reducible exact lex_Lex.mono _ _)
   | (with_reducible exact LeO.refl _)
   | (with_reducible exact LeO.none _)
   | (with_reducible refine LeO.ite ?_ ?_)
   | (with_reducible refine LeO.bind ?_ (fun _ => ?_))
   | exact ih0 _ _ _
   | exact ih1 _ _ _ _
   | exact ih2 _ _ _
   | exact ih3 _ _ _ _ _
   | exact ih4 _ _ _ _ _
   | exact ih5 _ _ _ _ _
   | exact cooperagelaw8_shown.mono _
   | exact lex_Lex.mono _ _
   | exact LeO.none _
   | refine LeO.ite ?_ ?_
   | refine LeO.bind ?_ (fun _ => ?_)
  ·intro y0 y1 y2
   unfold cooperagelaw8_LexBare.l1
   repeat' first
   | (with_reducible exact ih0 _ _ _)
   | (with_reducible exact ih1 _ _ _ _)
   | (with_reducible exact ih2 _ _ _)
   | (with_reducible exact ih3 _ _ _ _ _)
   | (with_reducible exact ih4 _ _ _ _ _)
   | (with_reducible exact ih5 _ _ _ _ _)
   | (with_reducible exact cooperagelaw8_shown.mono _)
   | (with_reducible exact lex_Lex.mono _ _)
   | (with_reducible exact LeO.refl _)
   | (with_reducible exact LeO.none _)
   | (with_reducible refine LeO.ite ?_ ?_)
   | (with_reducible refine LeO.bind ?_ (fun _ => ?_))
   | exact ih0 _ _ _
   | exact ih1 _ _ _ _
   | exact ih2 _ _ _
   | exact ih3 _ _ _ _ _
   | exact ih4 _ _ _ _ _
   | exact ih5 _ _ _ _ _
   | exact cooperagelaw8_shown.mono _
   | exact lex_Lex.mono _ _
   | exact LeO.none _
   | refine LeO.ite ?_ ?_
   | refine LeO.bind ?_ (fun _ => ?_)
  ·intro y0 y1 y2 y3 y4
   unfold cooperagelaw8_LexBare.j3
   repeat' first
   | (with_reducible exact ih0 _ _ _)
   | (with_reducible exact ih1 _ _ _ _)
   | (with_reducible exact ih2 _ _ _)
   | (with_reducible exact ih3 _ _ _ _ _)
   | (with_reducible exact ih4 _ _ _ _ _)
   | (with_reducible exact ih5 _ _ _ _ _)
   | (with_reducible exact cooperagelaw8_shown.mono _)
   | (with_reducible exact lex_Lex.mono _ _)
   | (with_reducible exact LeO.refl _)
   | (with_reducible exact LeO.none _)
   | (with_reducible refine LeO.ite ?_ ?_)
   | (with_reducible refine LeO.bind ?_ (fun _ => ?_))
   | exact ih0 _ _ _
   | exact ih1 _ _ _ _
   | exact ih2 _ _ _
   | exact ih3 _ _ _ _ _
   | exact ih4 _ _ _ _ _
   | exact ih5 _ _ _ _ _
   | exact cooperagelaw8_shown.mono _
   | exact lex_Lex.mono _ _
   | exact LeO.none _
   | refine LeO.ite ?_ ?_
   | refine LeO.bind ?_ (fun _ => ?_)
  ·intro y0 y1 y2 y3 y4
   unfold cooperagelaw8_LexBare.j4
   repeat' first
   | (with_reducible exact ih0 _ _ _)
   | (with_reducible exact ih1 _ _ _ _)
   | (with_reducible exact ih2 _ _ _)
   | (with_reducible exact ih3 _ _ _ _ _)
   | (with_reducible exact ih4 _ _ _ _ _)
   | (with_reducible exact ih5 _ _ _ _ _)
   | (with_reducible exact cooperagelaw8_shown.mono _)
   | (with_reducible exact lex_Lex.mono _ _)
   | (with_reducible exact LeO.refl _)
   | (with_reducible exact LeO.none _)
   | (with_reducible refine LeO.ite ?_ ?_)
   | (with_reducible refine LeO.bind ?_ (fun _ => ?_))
   | exact ih0 _ _ _
   | exact ih1 _ _ _ _
   | exact ih2 _ _ _
   | exact ih3 _ _ _ _ _
   | exact ih4 _ _ _ _ _
   | exact ih5 _ _ _ _ _
   | exact cooperagelaw8_shown.mono _
   | exact lex_Lex.mono _ _
   | exact LeO.none _
   | refine LeO.ite ?_ ?_
   | refine LeO.bind ?_ (fun _ => ?_)
  ·intro y0 y1 y2 y3 y4
   unfold cooperagelaw8_LexBare.l2
   repeat' first
   | (with_reducible exact ih0 _ _ _)
   | (with_reducible exact ih1 _ _ _ _)
   | (with_reducible exact ih2 _ _ _)
   | (with_reducible exact ih3 _ _ _ _ _)
   | (with_reducible exact ih4 _ _ _ _ _)
   | (with_reducible exact ih5 _ _ _ _ _)
   | (with_reducible exact cooperagelaw8_shown.mono _)
   | (with_reducible exact lex_Lex.mono _ _)
   | (with_reducible exact LeO.refl _)
   | (with_reducible exact LeO.none _)
   | (with_reducible refine LeO.ite ?_ ?_)
   | (with_reducible refine LeO.bind ?_ (fun _ => ?_))
   | exact ih0 _ _ _
   | exact ih1 _ _ _ _
   | exact ih2 _ _ _
   | exact ih3 _ _ _ _ _
   | exact ih4 _ _ _ _ _
   | exact ih5 _ _ _ _ _
   | exact cooperagelaw8_shown.mono _
   | exact lex_Lex.mono _ _
   | exact LeO.none _
   | refine LeO.ite ?_ ?_
   | refine LeO.bind ?_ (fun _ => ?_)
theorem cooperagelaw8_LexBare.mono : ∀ a0 k, LeO (cooperagelaw8_LexBare.f k a0) (cooperagelaw8_LexBare.f (k + 1) a0) := by
 intro a0 k
 obtain ⟨ih0, ih1, ih2, ih3, ih4, ih5⟩ := cooperagelaw8_LexBare.mono_l k
 unfold cooperagelaw8_LexBare.f
 repeat' first
   | (with_reducible exact ih0 _ _ _)
   | (with_reducible exact ih1 _ _ _ _)
   | (with_reducible exact ih2 _ _ _)
   | (with_reducible exact ih3 _ _ _ _ _)
   | (with_reducible exact ih4 _ _ _ _ _)
   | (with_reducible exact ih5 _ _ _ _ _)
   | (with_reducible exact cooperagelaw8_shown.mono _)
   | (with_reducible exact lex_Lex.mono _ _)
   | (with_reducible exact LeO.refl _)
   | (with_reducible exact LeO.none _)
   | (with_reducible refine LeO.ite ?_ ?_)
   | (with_reducible refine LeO.bind ?_ (fun _ => ?_))
   | exact ih0 _ _ _
   | exact ih1 _ _ _ _
   | exact ih2 _ _ _
   | exact ih3 _ _ _ _ _
   | exact ih4 _ _ _ _ _
   | exact ih5 _ _ _ _ _
   | exact cooperagelaw8_shown.mono _
   | exact lex_Lex.mono _ _
   | exact LeO.none _
   | refine LeO.ite ?_ ?_
   | refine LeO.bind ?_ (fun _ => ?_)
set_option maxHeartbeats 8000000 in
set_option maxRecDepth 100000 in
theorem cooperagelaw8_LexBare.calls (k : Nat) (a0 : ByteArray) (r : Bool) (w : World) (h : cooperagelaw8_LexBare.f k a0 = some r) :
  Calls Tryd.prog 3 #[.string a0] w fun e w' => e = .returned (.bool r) ∧ Below w.heap.size w w' := by
 have HB := Aside0.mk (Below.refl w.heap.size w)
 have H : ((cooperagelaw8_shown.f k).bind fun t136 => (if t136 = true then (cooperagelaw8_LexBare.j0 k a0 t136 (decide ((a0.size : Int) > 3000))) else (cooperagelaw8_LexBare.j0 k a0 t136 true))) = some r := h
 clear h
 replace H := Option.bind_eq_some_iff.mp H
 obtain ⟨t136, A20, H⟩ := H
 replace H : (if t136 = true then (cooperagelaw8_LexBare.j0 k a0 t136 (decide ((a0.size : Int) > 3000))) else (cooperagelaw8_LexBare.j0 k a0 t136 true)) = some r := H
 have A2 := Aside0.mk A20
 clear A20
 have HC3 := Aside0.mk H
 clear H
 go_enter Tryd.func3, Tryd.ntmps3
 go_upto_region 2 with (first | (go_at_call 8; (with_reducible refine (cooperagelaw8_shown.calls k  t136 _ A2.out).mono ?_); rintro e w4 ⟨rfl, hb⟩; have n0_ := Aside0.mk (below_step (zL HB.out) hb); revert n0_; clear HB; intro HB; (try clear hb); (try clear hb2); (try clear hk); (try clear hi)))
 repeat (go_quiet (first | (go_at_call 8; (with_reducible refine (cooperagelaw8_shown.calls k  t136 _ A2.out).mono ?_); rintro e w4 ⟨rfl, hb⟩; have n0_ := Aside0.mk (below_step (zL HB.out) hb); revert n0_; clear HB; intro HB; (try clear hb); (try clear hb2); (try clear hk); (try clear hi))); go_upto_region 2 with (first | (go_at_call 8; (with_reducible refine (cooperagelaw8_shown.calls k  t136 _ A2.out).mono ?_); rintro e w4 ⟨rfl, hb⟩; have n0_ := Aside0.mk (below_step (zL HB.out) hb); revert n0_; clear HB; intro HB; (try clear hb); (try clear hb2); (try clear hk); (try clear hi))))
 (try simp only [Act.put, List.setIfInBounds_toArray, List.set_cons_zero, List.set_cons_succ])
 go_cut [19] (fun v19 wc => ∃ (kq : Nat) (x19_2 : Bool), v19 = .bool x19_2 ∧ Aside0 (cooperagelaw8_LexBare.j0 kq a0 t136 x19_2 = some r) ∧ Aside0 (kq ≤ k) ∧ Aside0 (Below w.heap.size w wc))
 case first =>
  have H := HC3.out
  clear HC3
  by_cases c5 : t136 = true
  ·subst c5
   have H1 : (cooperagelaw8_LexBare.j0 k a0 true (decide ((a0.size : Int) > 3000))) = some r := by rw [if_pos rfl] at H; exact H
   clear H
   have H := H1
   clear H1
   have H' := Aside0.mk H
   clear H
   go_wp2
   repeat (go_quiet (fail); try go_wp2)
   go_meet
   case rel => exact ⟨_, (decide ((a0.size : Int) > 3000)), zS, H', ⟨by first | omega | exact Nat.le_refl _⟩, ⟨zL HB.out⟩⟩
  ·replace c5 := Bool.eq_false_iff.mpr c5
   subst c5
   have H1 : (cooperagelaw8_LexBare.j0 k a0 false true) = some r := by rw [if_neg (show ¬ (false = true) by decide)] at H; exact H
   clear H
   have H := H1
   clear H1
   have H' := Aside0.mk H
   clear H
   go_wp2
   repeat (go_quiet (fail); try go_wp2)
   go_meet
   case rel => exact ⟨_, (true), zS, H', ⟨by first | omega | exact Nat.le_refl _⟩, ⟨zL HB.out⟩⟩
 case rest =>
  clear HC3
  try clear p2
  try clear c3
  try clear c5
  obtain ⟨kq, x19_2, rfl, HA, HJ2, HB⟩ := hcut
  cases kq with
  | zero => exact absurd HA.out (by simp [cooperagelaw8_LexBare.j0])
  | succ kj2 =>
   have H := HA.out
   clear HA
   simp only [cooperagelaw8_LexBare.j0] at H
   by_cases c6 : x19_2 = true
   ·subst c6
    have H1 : (some t136) = some r := by rw [if_pos rfl] at H; exact H
    clear H
    have H := H1
    clear H1
    obtain rfl := Option.some.inj H
    go_wp2
    repeat (go_quiet (fail); try go_wp2)
    go_ret
    exact ⟨zE, zL HB.out⟩
   ·replace c6 := Bool.eq_false_iff.mpr c6
    subst c6
    have H1 : ((lex_Lex.f kj2 a0).bind fun bt137 => (if bt137.2.1 = 0 then (cooperagelaw8_LexBare.l0 kj2 a0 bt137.1 1 0) else (if (bt137.1.length : Int) = 0 then (some (decide (bt137.2.2 ≥ 1))) else (some false)))) = some r := by rw [if_neg (show ¬ (false = true) by decide)] at H; exact H
    clear H
    have H := H1
    clear H1
    replace H := Option.bind_eq_some_iff.mp H
    obtain ⟨⟨t137, t138, t139⟩, A70, H⟩ := H
    replace H : (if t138 = 0 then (cooperagelaw8_LexBare.l0 kj2 a0 t137 1 0) else (if (t137.length : Int) = 0 then (some (decide (t139 ≥ 1))) else (some false))) = some r := H
    have A7 := Aside0.mk A70
    clear A70
    by_cases c8 : t138 = 0
    ·rw [if_pos c8] at H
     have c8b0 : (t138 == 0) = true := beq_iff_eq.mpr c8
     have c8b1 : (t138 != 0) = false := bne_eq_false_iff_eq.mpr c8
     clear c8
     have H' := Aside0.mk H
     clear H
     go_wp2_with (first | (go_at_call 9; (with_reducible refine (lex_Lex.calls kj2 a0 t137 t138 t139 _ A7.out).mono ?_); rintro e w9 ⟨v140, rfl, ho0, hb⟩; have n0_ := Aside0.mk (Kd.R_lower ho0 (below_size (zL HB.out))); have n1_ := Aside0.mk (below_step (zL HB.out) hb); revert n0_ n1_; clear HB; intro HO141 HB; (try clear hb); (try clear hb2); (try clear hk); (try clear hi); (try clear ho0)))
     repeat (go_quiet (first | (go_at_call 9; (with_reducible refine (lex_Lex.calls kj2 a0 t137 t138 t139 _ A7.out).mono ?_); rintro e w9 ⟨v140, rfl, ho0, hb⟩; have n0_ := Aside0.mk (Kd.R_lower ho0 (below_size (zL HB.out))); have n1_ := Aside0.mk (below_step (zL HB.out) hb); revert n0_ n1_; clear HB; intro HO141 HB; (try clear hb); (try clear hb2); (try clear hk); (try clear hi); (try clear ho0))); try go_wp2_with (first | (go_at_call 9; (with_reducible refine (lex_Lex.calls kj2 a0 t137 t138 t139 _ A7.out).mono ?_); rintro e w9 ⟨v140, rfl, ho0, hb⟩; have n0_ := Aside0.mk (Kd.R_lower ho0 (below_size (zL HB.out))); have n1_ := Aside0.mk (below_step (zL HB.out) hb); revert n0_ n1_; clear HB; intro HO141 HB; (try clear hb); (try clear hb2); (try clear hk); (try clear hi); (try clear ho0))))
     go_loopg [7, 8] kj2 (fun kq v7 v8 w' => ∃ (x7_2 : Int) (x8_2 : Int), v7 = .int .i64 x7_2 ∧ v8 = .int .i64 x8_2 ∧ Aside0 (cooperagelaw8_LexBare.l0 kq a0 t137 x7_2 x8_2 = some r) ∧ Aside0 (kq ≤ kj2) ∧ Aside0 (Kd.R k28 28 w' w.heap.size (fun _ => True) v140 t137) ∧ Aside0 (Below w.heap.size w w'))
     case atStart => exact ⟨(1), (0), zS, zS, H', ⟨Nat.le_refl _⟩, ⟨by (with_reducible repeat (first | apply Kd.R_alloc | apply Kd.R_drewN | apply Kd.R_drew)); exact HO141.out⟩, ⟨zL HB.out⟩⟩
     case round =>
      clear H'
      try clear p2
      try clear c3
      try clear c5
      try clear c6
      try clear c8
      try clear c8b0
      try clear c8b1
      try clear p2
      obtain ⟨x7_2, x8_2, rfl, rfl, HA, HK2, HO_4, HB⟩ := hrel
      cases gk with
      | zero => exact absurd HA.out (by simp [cooperagelaw8_LexBare.l0])
      | succ k2 =>
       have H := HA.out
       clear HA
       simp only [cooperagelaw8_LexBare.l0] at H
       by_cases c10 : x8_2 < (a0.size : Int)
       ·rw [if_pos c10] at H
        have c10b0 : decide (x8_2 < (a0.size : Int)) = true := decide_eq_true c10
        clear c10
        by_cases c11 : 0 ≤ x8_2
        ·rw [if_pos c11] at H
         have c11b0 : decide (0 ≤ x8_2) = true := decide_eq_true c11
         clear c11
         by_cases c13 : (bt a0 x8_2) = 10
         ·rw [if_pos c13] at H
          have c13b0 : ((bt a0 x8_2) == 10) = true := beq_iff_eq.mpr c13
          have c13b1 : ((bt a0 x8_2) != 10) = false := bne_eq_false_iff_eq.mpr c13
          clear c13
          have H' := Aside0.mk H
          clear H
          have p12 : 0 ≤ (x8_2 : Int) := zD
          have q12 : x8_2 < (a0.size : Int) := zD
          have hx12 := bt_at a0 x8_2
          replace p12 := eq_true p12
          replace q12 := eq_true q12
          go_wp2
          repeat (go_quiet (fail); try go_wp2)
          go_roundg k2
          case measure => have := HJ2.out; have := HK2.out; omega
          case rel => exact ⟨(wrap64 (x7_2 + 1)), (wrap64 (x8_2 + 1)), zS, zS, H', ⟨by have := HJ2.out; have := HK2.out; omega⟩, ⟨by (with_reducible repeat (first | apply Kd.R_alloc | apply Kd.R_drewN | apply Kd.R_drew)); exact HO_4.out⟩, ⟨zL HB.out⟩⟩
         ·rw [if_neg c13] at H
          have c13b0 : ((bt a0 x8_2) == 10) = false := beq_eq_false_iff_ne.mpr c13
          have c13b1 : ((bt a0 x8_2) != 10) = true := bne_iff_ne.mpr c13
          have H' := Aside0.mk H
          clear H
          have p12 : 0 ≤ (x8_2 : Int) := zD
          have q12 : x8_2 < (a0.size : Int) := zD
          have hx12 := bt_at a0 x8_2
          replace p12 := eq_true p12
          replace q12 := eq_true q12
          go_wp2
          repeat (go_quiet (fail); try go_wp2)
          go_roundg k2
          case measure => have := HJ2.out; have := HK2.out; omega
          case rel => exact ⟨(x7_2), (wrap64 (x8_2 + 1)), zS, zS, H', ⟨by have := HJ2.out; have := HK2.out; omega⟩, ⟨by (with_reducible repeat (first | apply Kd.R_alloc | apply Kd.R_drewN | apply Kd.R_drew)); exact HO_4.out⟩, ⟨zL HB.out⟩⟩
        ·rw [if_neg c11] at H
         exact absurd H (by simp)
       ·rw [if_neg c10] at H
        have c10b0 : decide (x8_2 < (a0.size : Int)) = false := decide_eq_false c10
        clear c10
        have H' := Aside0.mk H
        clear H
        go_wp2
        repeat (go_quiet (fail); try go_wp2)
        go_loopg [9] k2 (fun kq v9 w' => ∃ (x9_3 : Int), v9 = .int .i64 x9_3 ∧ Aside0 (cooperagelaw8_LexBare.l1 kq t137 x7_2 x9_3 = some r) ∧ Aside0 (kq ≤ k2) ∧ Aside0 (Kd.R k28 28 w' w.heap.size (fun _ => True) v140 t137) ∧ Aside0 (Below w.heap.size w w'))
        case atStart => exact ⟨(0), zS, H', ⟨Nat.le_refl _⟩, ⟨by (with_reducible repeat (first | apply Kd.R_alloc | apply Kd.R_drewN | apply Kd.R_drew)); exact HO_4.out⟩, ⟨zL HB.out⟩⟩
        case round =>
         clear H'
         try clear c1
         try clear p1
         try clear q1
         try clear hx1
         try clear p2
         try clear c3
         try clear c5
         try clear c6
         try clear p6
         try clear c8
         try clear c8b0
         try clear c8b1
         try clear c10
         try clear c10b0
         try clear c11
         try clear c11b0
         try clear p12
         try clear q12
         try clear hx12
         try clear c13
         try clear c13b0
         try clear c13b1
         try clear p12
         try clear p2
         try clear q12
         obtain ⟨x9_3, rfl, HA, HK3, HO_4, HB⟩ := hrel
         cases gk with
         | zero => exact absurd HA.out (by simp [cooperagelaw8_LexBare.l1])
         | succ k3 =>
          have H := HA.out
          clear HA
          simp only [cooperagelaw8_LexBare.l1] at H
          by_cases c14 : x9_3 < (t137.length : Int)
          ·rw [if_pos c14] at H
           have c14b0 : decide (x9_3 < (t137.length : Int)) = true := decide_eq_true c14
           clear c14
           by_cases c15 : 0 ≤ x9_3
           ·rw [if_pos c15] at H
            have c15b0 : decide (0 ≤ x9_3) = true := decide_eq_true c15
            clear c15
            have HC16 := Aside0.mk H
            clear H
            obtain ⟨Ao17, co17, eo17⟩ := Kd.R_slice HO_4.out
            subst eo17
            have p142 : 0 ≤ (x9_3 : Int) := zD
            have q142 : x9_3 < (t137.length : Int) := zD
            obtain ⟨ad142, e142, hx142_0, hx142_1, hx142_2⟩ := at_T28 (Kd.R_reads' HO_4.out).2.2 x9_3 p142 q142
            cases e142
            replace p142 := eq_true p142
            replace q142 := eq_true q142
            go_upto_region 17 with (fail)
            repeat (go_quiet (fail); go_upto_region 17 with (fail))
            go_cut [100] (fun v100 wc => ∃ (kq : Nat) (x100_15 : Bool), v100 = .bool x100_15 ∧ Aside0 (cooperagelaw8_LexBare.j3 kq t137 x7_2 x9_3 ((rd_T28 t137 x9_3).f2) x100_15 = some r) ∧ Aside0 (kq ≤ k3) ∧ Aside0 (Kd.R k28 28 wc w.heap.size (fun _ => True) (.slice (some ad142) t137.length co17) t137) ∧ Aside0 (Below w.heap.size w wc))
            case first =>
             have H := HC16.out
             clear HC16
             by_cases c18 : ((rd_T28 t137 x9_3).f2).toList = ([] : List UInt8)
             ·rw [if_pos c18] at H
              have c18b0 : (((rd_T28 t137 x9_3).f2).toList == ([] : List UInt8)) = true := beq_iff_eq.mpr c18
              have c18b1 : (((rd_T28 t137 x9_3).f2).toList != ([] : List UInt8)) = false := bne_eq_false_iff_eq.mpr c18
              clear c18
              (first | rw [c18b0] | (simp only [i64_w, i32_w]; rw [c18b0]) | skip)
              have H' := Aside0.mk H
              clear H
              go_wp2
              repeat (go_quiet (fail); try go_wp2)
              go_meet
              case rel => exact ⟨_, (true), zS, H', ⟨by have := HJ2.out; have := HK2.out; have := HK3.out; first | omega | exact Nat.le_refl _⟩, ⟨by (with_reducible repeat (first | apply Kd.R_alloc | apply Kd.R_drewN | apply Kd.R_drew)); exact HO_4.out⟩, ⟨zL HB.out⟩⟩
             ·rw [if_neg c18] at H
              have c18b0 : (((rd_T28 t137 x9_3).f2).toList == ([] : List UInt8)) = false := beq_eq_false_iff_ne.mpr c18
              have c18b1 : (((rd_T28 t137 x9_3).f2).toList != ([] : List UInt8)) = true := bne_iff_ne.mpr c18
              (first | rw [c18b0] | (simp only [i64_w, i32_w]; rw [c18b0]) | skip)
              by_cases c19 : (((rd_T28 t137 x9_3).f2).size : Int) > 1000
              ·rw [if_pos c19] at H
               have c19b0 : decide (1000 < (((rd_T28 t137 x9_3).f2).size : Int)) = true := decide_eq_true c19
               have c19b1 : decide (1000 < ((rd_T28 t137 x9_3).f2).size) = true := decide_eq_true (by omega)
               clear c19
               have H' := Aside0.mk H
               clear H
               go_wp2
               repeat (go_quiet (fail); try go_wp2)
               go_meet
               case rel => exact ⟨_, (true), zS, H', ⟨by have := HJ2.out; have := HK2.out; have := HK3.out; first | omega | exact Nat.le_refl _⟩, ⟨by (with_reducible repeat (first | apply Kd.R_alloc | apply Kd.R_drewN | apply Kd.R_drew)); exact HO_4.out⟩, ⟨zL HB.out⟩⟩
              ·rw [if_neg c19] at H
               have c19b0 : decide (1000 < (((rd_T28 t137 x9_3).f2).size : Int)) = false := decide_eq_false c19
               have c19b1 : decide (1000 < ((rd_T28 t137 x9_3).f2).size) = false := decide_eq_false (by omega)
               clear c19
               by_cases c20 : ((rd_T28 t137 x9_3).f0) < 1
               ·rw [if_pos c20] at H
                have c20b0 : decide (((rd_T28 t137 x9_3).f0) < 1) = true := decide_eq_true c20
                clear c20
                have H' := Aside0.mk H
                clear H
                have p143 : 0 ≤ (x9_3 : Int) := zD
                have q143 : x9_3 < (t137.length : Int) := zD
                obtain ⟨ad143, e143, hx143_0, hx143_1, hx143_2⟩ := at_T28 (Kd.R_reads' HO_4.out).2.2 x9_3 p143 q143
                obtain rfl : ad142 = ad143 := (by injection e143)
                replace p143 := eq_true p143
                replace q143 := eq_true q143
                go_wp2
                repeat (go_quiet (fail); try go_wp2)
                go_meet
                case rel => exact ⟨_, (true), zS, H', ⟨by have := HJ2.out; have := HK2.out; have := HK3.out; first | omega | exact Nat.le_refl _⟩, ⟨by (with_reducible repeat (first | apply Kd.R_alloc | apply Kd.R_drewN | apply Kd.R_drew)); exact HO_4.out⟩, ⟨zL HB.out⟩⟩
               ·rw [if_neg c20] at H
                have c20b0 : decide (((rd_T28 t137 x9_3).f0) < 1) = false := decide_eq_false c20
                clear c20
                by_cases c21 : ((rd_T28 t137 x9_3).f0) > x7_2
                ·rw [if_pos c21] at H
                 have c21b0 : decide (x7_2 < ((rd_T28 t137 x9_3).f0)) = true := decide_eq_true c21
                 clear c21
                 have H' := Aside0.mk H
                 clear H
                 have p143 : 0 ≤ (x9_3 : Int) := zD
                 have q143 : x9_3 < (t137.length : Int) := zD
                 obtain ⟨ad143, e143, hx143_0, hx143_1, hx143_2⟩ := at_T28 (Kd.R_reads' HO_4.out).2.2 x9_3 p143 q143
                 obtain rfl : ad142 = ad143 := (by injection e143)
                 replace p143 := eq_true p143
                 replace q143 := eq_true q143
                 have p144 : 0 ≤ (x9_3 : Int) := zD
                 have q144 : x9_3 < (t137.length : Int) := zD
                 obtain ⟨ad144, e144, hx144_0, hx144_1, hx144_2⟩ := at_T28 (Kd.R_reads' HO_4.out).2.2 x9_3 p144 q144
                 obtain rfl : ad142 = ad144 := (by injection e144)
                 replace p144 := eq_true p144
                 replace q144 := eq_true q144
                 go_wp2
                 repeat (go_quiet (fail); try go_wp2)
                 go_meet
                 case rel => exact ⟨_, (true), zS, H', ⟨by have := HJ2.out; have := HK2.out; have := HK3.out; first | omega | exact Nat.le_refl _⟩, ⟨by (with_reducible repeat (first | apply Kd.R_alloc | apply Kd.R_drewN | apply Kd.R_drew)); exact HO_4.out⟩, ⟨zL HB.out⟩⟩
                ·rw [if_neg c21] at H
                 have c21b0 : decide (x7_2 < ((rd_T28 t137 x9_3).f0)) = false := decide_eq_false c21
                 clear c21
                 by_cases c22 : x9_3 > 0
                 ·rw [if_pos c22] at H
                  have c22b0 : decide (0 < x9_3) = true := decide_eq_true c22
                  clear c22
                  obtain ⟨ji23, hji23⟩ : ∃ j_ : Int, (wrap64 (x9_3 - 1)) = j_ := ⟨_, rfl⟩
                  replace H : (if 0 ≤ (ji23) then (if (ji23) < (t137.length : Int) then (cooperagelaw8_LexBare.j3 k3 t137 x7_2 x9_3 ((rd_T28 t137 x9_3).f2) (decide (((rd_T28 t137 x9_3).f0) ≤ ((rd_T28 t137 (ji23)).f0)))) else (none)) else (none)) = some r := by first | (rw [hji23] at H; exact H) | (simp only [hji23] at H ⊢; exact H)
                  have hji23w : (IntKind.i64.wrap (x9_3 - 1)) = ji23 := (i64_w _).trans hji23
                  by_cases c24 : 0 ≤ (ji23)
                  ·rw [if_pos c24] at H
                   have c24b0 : decide (0 ≤ (ji23)) = true := decide_eq_true c24
                   clear c24
                   by_cases c25 : (ji23) < (t137.length : Int)
                   ·rw [if_pos c25] at H
                    have c25b0 : decide ((ji23) < (t137.length : Int)) = true := decide_eq_true c25
                    clear c25
                    have H' := Aside0.mk H
                    clear H
                    have p143 : 0 ≤ (x9_3 : Int) := zD
                    have q143 : x9_3 < (t137.length : Int) := zD
                    obtain ⟨ad143, e143, hx143_0, hx143_1, hx143_2⟩ := at_T28 (Kd.R_reads' HO_4.out).2.2 x9_3 p143 q143
                    obtain rfl : ad142 = ad143 := (by injection e143)
                    replace p143 := eq_true p143
                    replace q143 := eq_true q143
                    have p144 : 0 ≤ (x9_3 : Int) := zD
                    have q144 : x9_3 < (t137.length : Int) := zD
                    obtain ⟨ad144, e144, hx144_0, hx144_1, hx144_2⟩ := at_T28 (Kd.R_reads' HO_4.out).2.2 x9_3 p144 q144
                    obtain rfl : ad142 = ad144 := (by injection e144)
                    replace p144 := eq_true p144
                    replace q144 := eq_true q144
                    have p145 : 0 ≤ (x9_3 : Int) := zD
                    have q145 : x9_3 < (t137.length : Int) := zD
                    obtain ⟨ad145, e145, hx145_0, hx145_1, hx145_2⟩ := at_T28 (Kd.R_reads' HO_4.out).2.2 x9_3 p145 q145
                    obtain rfl : ad142 = ad145 := (by injection e145)
                    replace p145 := eq_true p145
                    replace q145 := eq_true q145
                    have p146 : 0 ≤ ((ji23) : Int) := zD
                    have q146 : (ji23) < (t137.length : Int) := zD
                    obtain ⟨ad146, e146, hx146_0, hx146_1, hx146_2⟩ := at_T28 (Kd.R_reads' HO_4.out).2.2 (ji23) p146 q146
                    obtain rfl : ad142 = ad146 := (by injection e146)
                    replace p146 := eq_true p146
                    replace q146 := eq_true q146
                    go_wp2
                    repeat (go_quiet (fail); try go_wp2)
                    go_meet
                    case rel => exact ⟨_, (decide (((rd_T28 t137 x9_3).f0) ≤ ((rd_T28 t137 (ji23)).f0))), (by first | rfl | (simp; done) | (simp only [← hji23] <;> (first | rfl | simp)) | (simp [*]; done)), H', ⟨by have := HJ2.out; have := HK2.out; have := HK3.out; first | omega | exact Nat.le_refl _⟩, ⟨by (with_reducible repeat (first | apply Kd.R_alloc | apply Kd.R_drewN | apply Kd.R_drew)); exact HO_4.out⟩, ⟨zL HB.out⟩⟩
                   ·rw [if_neg c25] at H
                    exact absurd H (by simp)
                  ·rw [if_neg c24] at H
                   exact absurd H (by simp)
                 ·rw [if_neg c22] at H
                  have c22b0 : decide (0 < x9_3) = false := decide_eq_false c22
                  clear c22
                  have H' := Aside0.mk H
                  clear H
                  have p143 : 0 ≤ (x9_3 : Int) := zD
                  have q143 : x9_3 < (t137.length : Int) := zD
                  obtain ⟨ad143, e143, hx143_0, hx143_1, hx143_2⟩ := at_T28 (Kd.R_reads' HO_4.out).2.2 x9_3 p143 q143
                  obtain rfl : ad142 = ad143 := (by injection e143)
                  replace p143 := eq_true p143
                  replace q143 := eq_true q143
                  have p144 : 0 ≤ (x9_3 : Int) := zD
                  have q144 : x9_3 < (t137.length : Int) := zD
                  obtain ⟨ad144, e144, hx144_0, hx144_1, hx144_2⟩ := at_T28 (Kd.R_reads' HO_4.out).2.2 x9_3 p144 q144
                  obtain rfl : ad142 = ad144 := (by injection e144)
                  replace p144 := eq_true p144
                  replace q144 := eq_true q144
                  go_wp2
                  repeat (go_quiet (fail); try go_wp2)
                  go_meet
                  case rel => exact ⟨_, (false), zS, H', ⟨by have := HJ2.out; have := HK2.out; have := HK3.out; first | omega | exact Nat.le_refl _⟩, ⟨by (with_reducible repeat (first | apply Kd.R_alloc | apply Kd.R_drewN | apply Kd.R_drew)); exact HO_4.out⟩, ⟨zL HB.out⟩⟩
            case rest =>
             clear HC16
             try clear c1
             try clear p1
             try clear q1
             try clear hx1
             try clear c2
             try clear p2
             try clear c3
             try clear c5
             try clear c6
             try clear p6
             try clear c8
             try clear c8b0
             try clear c8b1
             try clear c10
             try clear c10b0
             try clear c11
             try clear c11b0
             try clear p12
             try clear q12
             try clear hx12
             try clear c13
             try clear c13b0
             try clear c13b1
             try clear c14
             try clear c14b0
             try clear p14
             try clear q14
             try clear hx14
             try clear c15
             try clear c15b0
             try clear c18
             try clear c18b0
             try clear c18b1
             try clear c19
             try clear c19b0
             try clear c19b1
             try clear c20
             try clear c20b0
             try clear c21
             try clear c21b0
             try clear c22
             try clear c22b0
             try clear c24
             try clear c24b0
             try clear c25
             try clear c25b0
             try clear hx142_0
             try clear hx142_1
             try clear hx142_2
             try clear hx143_0
             try clear hx143_1
             try clear hx143_2
             try clear hx144_0
             try clear hx144_1
             try clear hx144_2
             try clear hx145_0
             try clear hx145_1
             try clear hx145_2
             try clear hx146_0
             try clear hx146_1
             try clear hx146_2
             try clear p1
             try clear p12
             try clear p142
             try clear p143
             try clear p144
             try clear p145
             try clear p146
             try clear p2
             try clear p6
             try clear q1
             try clear q12
             try clear q142
             try clear q143
             try clear q144
             try clear q145
             try clear q146
             obtain ⟨kq, x100_15, rfl, HA, HJ15, HO_4, HB⟩ := hcut
             cases kq with
             | zero => exact absurd HA.out (by simp [cooperagelaw8_LexBare.j3])
             | succ kj15 =>
              have H := HA.out
              clear HA
              simp only [cooperagelaw8_LexBare.j3] at H
              by_cases c26 : x100_15 = true
              ·subst c26
               have H1 : (some false) = some r := by rw [if_pos rfl] at H; exact H
               clear H
               have H := H1
               clear H1
               obtain rfl := Option.some.inj H
               go_wp2
               repeat (go_quiet (fail); try go_wp2)
               go_ret
               exact ⟨zE, zL HB.out⟩
              ·replace c26 := Bool.eq_false_iff.mpr c26
               subst c26
               have H1 : (if 0 < (((rd_T28 t137 x9_3).f2).size : Int) then (if (bt ((rd_T28 t137 x9_3).f2) 0) = 32 then (cooperagelaw8_LexBare.j4 kj15 t137 x7_2 x9_3 ((rd_T28 t137 x9_3).f2) true) else (if (bt ((rd_T28 t137 x9_3).f2) 0) = 9 then (cooperagelaw8_LexBare.j4 kj15 t137 x7_2 x9_3 ((rd_T28 t137 x9_3).f2) true) else (if 0 ≤ (wrap64 ((((rd_T28 t137 x9_3).f2).size : Int) - 1)) then (if (wrap64 ((((rd_T28 t137 x9_3).f2).size : Int) - 1)) < (((rd_T28 t137 x9_3).f2).size : Int) then (if (bt ((rd_T28 t137 x9_3).f2) (wrap64 ((((rd_T28 t137 x9_3).f2).size : Int) - 1))) = 32 then (cooperagelaw8_LexBare.j4 kj15 t137 x7_2 x9_3 ((rd_T28 t137 x9_3).f2) true) else (cooperagelaw8_LexBare.j4 kj15 t137 x7_2 x9_3 ((rd_T28 t137 x9_3).f2) ((bt ((rd_T28 t137 x9_3).f2) (wrap64 ((((rd_T28 t137 x9_3).f2).size : Int) - 1))) == 9))) else (none)) else (none)))) else (none)) = some r := by rw [if_neg (show ¬ (false = true) by decide)] at H; exact H
               clear H
               have H := H1
               clear H1
               have HC27 := Aside0.mk H
               clear H
               go_upto_region 19 with (fail)
               repeat (go_quiet (fail); go_upto_region 19 with (fail))
               go_cut [124] (fun v124 wc => ∃ (kq : Nat) (x124_26 : Bool), v124 = .bool x124_26 ∧ Aside0 (cooperagelaw8_LexBare.j4 kq t137 x7_2 x9_3 ((rd_T28 t137 x9_3).f2) x124_26 = some r) ∧ Aside0 (kq ≤ kj15) ∧ Aside0 (Kd.R k28 28 wc w.heap.size (fun _ => True) (.slice (some ad142) t137.length co17) t137) ∧ Aside0 (Below w.heap.size w wc))
               case first =>
                have H := HC27.out
                clear HC27
                by_cases c28 : 0 < (((rd_T28 t137 x9_3).f2).size : Int)
                ·rw [if_pos c28] at H
                 have c28b0 : decide (0 < (((rd_T28 t137 x9_3).f2).size : Int)) = true := decide_eq_true c28
                 have c28b1 : decide (0 < ((rd_T28 t137 x9_3).f2).size) = true := decide_eq_true (by omega)
                 clear c28
                 (first | rw [c28b0] | (simp only [i64_w, i32_w]; rw [c28b0]) | skip)
                 by_cases c30 : (bt ((rd_T28 t137 x9_3).f2) 0) = 32
                 ·rw [if_pos c30] at H
                  have c30b0 : ((bt ((rd_T28 t137 x9_3).f2) 0) == 32) = true := beq_iff_eq.mpr c30
                  have c30b1 : ((bt ((rd_T28 t137 x9_3).f2) 0) != 32) = false := bne_eq_false_iff_eq.mpr c30
                  clear c30
                  have H' := Aside0.mk H
                  clear H
                  have p29 : 0 ≤ (0 : Int) := (by omega)
                  have q29 : 0 < ((rd_T28 t137 x9_3).f2).size := (by have : (0 : Int) < (((rd_T28 t137 x9_3).f2).size : Int) := zD; omega)
                  have hx29 : ∀ h : 0 < ((rd_T28 t137 x9_3).f2).size, ((((rd_T28 t137 x9_3).f2)[0]'h).toNat : Int) = bt ((rd_T28 t137 x9_3).f2) 0 := bt_at ((rd_T28 t137 x9_3).f2) 0
                  clear p29
                  have qi29 : (0 < (((rd_T28 t137 x9_3).f2).size : Int)) = True := eq_true zD
                  replace q29 := eq_true q29
                  go_wp2
                  repeat (go_quiet (fail); try go_wp2)
                  go_meet
                  case rel => exact ⟨_, (true), zS, H', ⟨by have := HJ2.out; have := HK2.out; have := HK3.out; have := HJ15.out; first | omega | exact Nat.le_refl _⟩, ⟨by (with_reducible repeat (first | apply Kd.R_alloc | apply Kd.R_drewN | apply Kd.R_drew)); exact HO_4.out⟩, ⟨zL HB.out⟩⟩
                 ·rw [if_neg c30] at H
                  have c30b0 : ((bt ((rd_T28 t137 x9_3).f2) 0) == 32) = false := beq_eq_false_iff_ne.mpr c30
                  have c30b1 : ((bt ((rd_T28 t137 x9_3).f2) 0) != 32) = true := bne_iff_ne.mpr c30
                  by_cases c32 : (bt ((rd_T28 t137 x9_3).f2) 0) = 9
                  ·rw [if_pos c32] at H
                   have c32b0 : ((bt ((rd_T28 t137 x9_3).f2) 0) == 9) = true := beq_iff_eq.mpr c32
                   have c32b1 : ((bt ((rd_T28 t137 x9_3).f2) 0) != 9) = false := bne_eq_false_iff_eq.mpr c32
                   clear c32
                   have H' := Aside0.mk H
                   clear H
                   have p29 : 0 ≤ (0 : Int) := (by omega)
                   have q29 : 0 < ((rd_T28 t137 x9_3).f2).size := (by have : (0 : Int) < (((rd_T28 t137 x9_3).f2).size : Int) := zD; omega)
                   have hx29 : ∀ h : 0 < ((rd_T28 t137 x9_3).f2).size, ((((rd_T28 t137 x9_3).f2)[0]'h).toNat : Int) = bt ((rd_T28 t137 x9_3).f2) 0 := bt_at ((rd_T28 t137 x9_3).f2) 0
                   clear p29
                   have qi29 : (0 < (((rd_T28 t137 x9_3).f2).size : Int)) = True := eq_true zD
                   replace q29 := eq_true q29
                   have p31 : 0 ≤ (0 : Int) := (by omega)
                   have q31 : 0 < ((rd_T28 t137 x9_3).f2).size := (by have : (0 : Int) < (((rd_T28 t137 x9_3).f2).size : Int) := zD; omega)
                   have hx31 : ∀ h : 0 < ((rd_T28 t137 x9_3).f2).size, ((((rd_T28 t137 x9_3).f2)[0]'h).toNat : Int) = bt ((rd_T28 t137 x9_3).f2) 0 := bt_at ((rd_T28 t137 x9_3).f2) 0
                   clear p31
                   have qi31 : (0 < (((rd_T28 t137 x9_3).f2).size : Int)) = True := eq_true zD
                   replace q31 := eq_true q31
                   go_wp2
                   repeat (go_quiet (fail); try go_wp2)
                   go_meet
                   case rel => exact ⟨_, (true), zS, H', ⟨by have := HJ2.out; have := HK2.out; have := HK3.out; have := HJ15.out; first | omega | exact Nat.le_refl _⟩, ⟨by (with_reducible repeat (first | apply Kd.R_alloc | apply Kd.R_drewN | apply Kd.R_drew)); exact HO_4.out⟩, ⟨zL HB.out⟩⟩
                  ·rw [if_neg c32] at H
                   have c32b0 : ((bt ((rd_T28 t137 x9_3).f2) 0) == 9) = false := beq_eq_false_iff_ne.mpr c32
                   have c32b1 : ((bt ((rd_T28 t137 x9_3).f2) 0) != 9) = true := bne_iff_ne.mpr c32
                   obtain ⟨ji33, hji33⟩ : ∃ j_ : Int, (wrap64 ((((rd_T28 t137 x9_3).f2).size : Int) - 1)) = j_ := ⟨_, rfl⟩
                   replace H : (if 0 ≤ (ji33) then (if (ji33) < (((rd_T28 t137 x9_3).f2).size : Int) then (if (bt ((rd_T28 t137 x9_3).f2) (ji33)) = 32 then (cooperagelaw8_LexBare.j4 kj15 t137 x7_2 x9_3 ((rd_T28 t137 x9_3).f2) true) else (cooperagelaw8_LexBare.j4 kj15 t137 x7_2 x9_3 ((rd_T28 t137 x9_3).f2) ((bt ((rd_T28 t137 x9_3).f2) (ji33)) == 9))) else (none)) else (none)) = some r := by first | (rw [hji33] at H; exact H) | (simp only [hji33] at H ⊢; exact H)
                   have hji33w : (IntKind.i64.wrap ((((rd_T28 t137 x9_3).f2).size : Int) - 1)) = ji33 := (i64_w _).trans hji33
                   by_cases c34 : 0 ≤ (ji33)
                   ·rw [if_pos c34] at H
                    have c34b0 : decide (0 ≤ (ji33)) = true := decide_eq_true c34
                    clear c34
                    by_cases c35 : (ji33) < (((rd_T28 t137 x9_3).f2).size : Int)
                    ·rw [if_pos c35] at H
                     have c35b0 : decide ((ji33) < (((rd_T28 t137 x9_3).f2).size : Int)) = true := decide_eq_true c35
                     clear c35
                     by_cases c37 : (bt ((rd_T28 t137 x9_3).f2) (ji33)) = 32
                     ·rw [if_pos c37] at H
                      have c37b0 : ((bt ((rd_T28 t137 x9_3).f2) (ji33)) == 32) = true := beq_iff_eq.mpr c37
                      have c37b1 : ((bt ((rd_T28 t137 x9_3).f2) (ji33)) != 32) = false := bne_eq_false_iff_eq.mpr c37
                      clear c37
                      have H' := Aside0.mk H
                      clear H
                      have p29 : 0 ≤ (0 : Int) := (by omega)
                      have q29 : 0 < ((rd_T28 t137 x9_3).f2).size := (by have : (0 : Int) < (((rd_T28 t137 x9_3).f2).size : Int) := zD; omega)
                      have hx29 : ∀ h : 0 < ((rd_T28 t137 x9_3).f2).size, ((((rd_T28 t137 x9_3).f2)[0]'h).toNat : Int) = bt ((rd_T28 t137 x9_3).f2) 0 := bt_at ((rd_T28 t137 x9_3).f2) 0
                      clear p29
                      have qi29 : (0 < (((rd_T28 t137 x9_3).f2).size : Int)) = True := eq_true zD
                      replace q29 := eq_true q29
                      have p31 : 0 ≤ (0 : Int) := (by omega)
                      have q31 : 0 < ((rd_T28 t137 x9_3).f2).size := (by have : (0 : Int) < (((rd_T28 t137 x9_3).f2).size : Int) := zD; omega)
                      have hx31 : ∀ h : 0 < ((rd_T28 t137 x9_3).f2).size, ((((rd_T28 t137 x9_3).f2)[0]'h).toNat : Int) = bt ((rd_T28 t137 x9_3).f2) 0 := bt_at ((rd_T28 t137 x9_3).f2) 0
                      clear p31
                      have qi31 : (0 < (((rd_T28 t137 x9_3).f2).size : Int)) = True := eq_true zD
                      replace q31 := eq_true q31
                      have p36 : 0 ≤ ((ji33) : Int) := zD
                      have q36 : (ji33) < (((rd_T28 t137 x9_3).f2).size : Int) := zD
                      have hx36 := bt_at ((rd_T28 t137 x9_3).f2) (ji33)
                      replace p36 := eq_true p36
                      replace q36 := eq_true q36
                      go_wp2
                      repeat (go_quiet (fail); try go_wp2)
                      go_meet
                      case rel => exact ⟨_, (true), zS, H', ⟨by have := HJ2.out; have := HK2.out; have := HK3.out; have := HJ15.out; first | omega | exact Nat.le_refl _⟩, ⟨by (with_reducible repeat (first | apply Kd.R_alloc | apply Kd.R_drewN | apply Kd.R_drew)); exact HO_4.out⟩, ⟨zL HB.out⟩⟩
                     ·rw [if_neg c37] at H
                      have c37b0 : ((bt ((rd_T28 t137 x9_3).f2) (ji33)) == 32) = false := beq_eq_false_iff_ne.mpr c37
                      have c37b1 : ((bt ((rd_T28 t137 x9_3).f2) (ji33)) != 32) = true := bne_iff_ne.mpr c37
                      have H' := Aside0.mk H
                      clear H
                      have p29 : 0 ≤ (0 : Int) := (by omega)
                      have q29 : 0 < ((rd_T28 t137 x9_3).f2).size := (by have : (0 : Int) < (((rd_T28 t137 x9_3).f2).size : Int) := zD; omega)
                      have hx29 : ∀ h : 0 < ((rd_T28 t137 x9_3).f2).size, ((((rd_T28 t137 x9_3).f2)[0]'h).toNat : Int) = bt ((rd_T28 t137 x9_3).f2) 0 := bt_at ((rd_T28 t137 x9_3).f2) 0
                      clear p29
                      have qi29 : (0 < (((rd_T28 t137 x9_3).f2).size : Int)) = True := eq_true zD
                      replace q29 := eq_true q29
                      have p31 : 0 ≤ (0 : Int) := (by omega)
                      have q31 : 0 < ((rd_T28 t137 x9_3).f2).size := (by have : (0 : Int) < (((rd_T28 t137 x9_3).f2).size : Int) := zD; omega)
                      have hx31 : ∀ h : 0 < ((rd_T28 t137 x9_3).f2).size, ((((rd_T28 t137 x9_3).f2)[0]'h).toNat : Int) = bt ((rd_T28 t137 x9_3).f2) 0 := bt_at ((rd_T28 t137 x9_3).f2) 0
                      clear p31
                      have qi31 : (0 < (((rd_T28 t137 x9_3).f2).size : Int)) = True := eq_true zD
                      replace q31 := eq_true q31
                      have p36 : 0 ≤ ((ji33) : Int) := zD
                      have q36 : (ji33) < (((rd_T28 t137 x9_3).f2).size : Int) := zD
                      have hx36 := bt_at ((rd_T28 t137 x9_3).f2) (ji33)
                      replace p36 := eq_true p36
                      replace q36 := eq_true q36
                      have p38 : 0 ≤ ((ji33) : Int) := zD
                      have q38 : (ji33) < (((rd_T28 t137 x9_3).f2).size : Int) := zD
                      have hx38 := bt_at ((rd_T28 t137 x9_3).f2) (ji33)
                      replace p38 := eq_true p38
                      replace q38 := eq_true q38
                      go_wp2
                      repeat (go_quiet (fail); try go_wp2)
                      go_meet
                      case rel => exact ⟨_, (((bt ((rd_T28 t137 x9_3).f2) (ji33)) == 9)), (by first | rfl | (simp; done) | (simp only [← hji33] <;> (first | rfl | simp)) | (simp [*]; done)), H', ⟨by have := HJ2.out; have := HK2.out; have := HK3.out; have := HJ15.out; first | omega | exact Nat.le_refl _⟩, ⟨by (with_reducible repeat (first | apply Kd.R_alloc | apply Kd.R_drewN | apply Kd.R_drew)); exact HO_4.out⟩, ⟨zL HB.out⟩⟩
                    ·rw [if_neg c35] at H
                     exact absurd H (by simp)
                   ·rw [if_neg c34] at H
                    exact absurd H (by simp)
                ·rw [if_neg c28] at H
                 exact absurd H (by simp)
               case rest =>
                clear HC27
                try clear c1
                try clear p1
                try clear q1
                try clear hx1
                try clear c2
                try clear p2
                try clear q2
                try clear hx2
                try clear qi2
                try clear c3
                try clear p3
                try clear q3
                try clear hx3
                try clear qi3
                try clear c5
                try clear c6
                try clear p6
                try clear c8
                try clear c8b0
                try clear c8b1
                try clear c10
                try clear c10b0
                try clear c11
                try clear c11b0
                try clear p12
                try clear q12
                try clear hx12
                try clear c13
                try clear c13b0
                try clear c13b1
                try clear c14
                try clear c14b0
                try clear p14
                try clear q14
                try clear hx14
                try clear c15
                try clear c15b0
                try clear c18
                try clear c18b0
                try clear c18b1
                try clear c19
                try clear c19b0
                try clear c19b1
                try clear c20
                try clear c20b0
                try clear c21
                try clear c21b0
                try clear c22
                try clear c22b0
                try clear c24
                try clear c24b0
                try clear c25
                try clear c25b0
                try clear c26
                try clear c28
                try clear c28b0
                try clear c28b1
                try clear p29
                try clear q29
                try clear hx29
                try clear qi29
                try clear c30
                try clear c30b0
                try clear c30b1
                try clear p31
                try clear q31
                try clear hx31
                try clear qi31
                try clear c32
                try clear c32b0
                try clear c32b1
                try clear c34
                try clear c34b0
                try clear c35
                try clear c35b0
                try clear p36
                try clear q36
                try clear hx36
                try clear c37
                try clear c37b0
                try clear c37b1
                try clear p38
                try clear q38
                try clear hx38
                try clear hx142_0
                try clear hx142_1
                try clear hx142_2
                try clear hx143_0
                try clear hx143_1
                try clear hx143_2
                try clear hx144_0
                try clear hx144_1
                try clear hx144_2
                try clear hx145_0
                try clear hx145_1
                try clear hx145_2
                try clear hx146_0
                try clear hx146_1
                try clear hx146_2
                try clear p1
                try clear p12
                try clear p14
                try clear p142
                try clear p143
                try clear p144
                try clear p145
                try clear p146
                try clear p2
                try clear p29
                try clear p31
                try clear p36
                try clear p38
                try clear p6
                try clear q1
                try clear q12
                try clear q14
                try clear q142
                try clear q143
                try clear q144
                try clear q145
                try clear q146
                try clear q29
                try clear q31
                try clear q36
                try clear q38
                obtain ⟨kq, x124_26, rfl, HA, HJ26, HO_4, HB⟩ := hcut
                cases kq with
                | zero => exact absurd HA.out (by simp [cooperagelaw8_LexBare.j4])
                | succ kj26 =>
                 have H := HA.out
                 clear HA
                 simp only [cooperagelaw8_LexBare.j4] at H
                 by_cases c39 : x124_26 = true
                 ·subst c39
                  have H1 : (some false) = some r := by rw [if_pos rfl] at H; exact H
                  clear H
                  have H := H1
                  clear H1
                  obtain rfl := Option.some.inj H
                  go_wp2
                  repeat (go_quiet (fail); try go_wp2)
                  go_ret
                  exact ⟨zE, zL HB.out⟩
                 ·replace c39 := Bool.eq_false_iff.mpr c39
                  subst c39
                  have H1 : (cooperagelaw8_LexBare.l2 kj26 t137 x7_2 x9_3 ((rd_T28 t137 x9_3).f2) 0) = some r := by rw [if_neg (show ¬ (false = true) by decide)] at H; exact H
                  clear H
                  have H := H1
                  clear H1
                  have H' := Aside0.mk H
                  clear H
                  go_wp2
                  repeat (go_quiet (fail); try go_wp2)
                  go_loopg [11] kj26 (fun kq v11 w' => ∃ (x11_6 : Int), v11 = .int .i64 x11_6 ∧ Aside0 (cooperagelaw8_LexBare.l2 kq t137 x7_2 x9_3 ((rd_T28 t137 x9_3).f2) x11_6 = some r) ∧ Aside0 (kq ≤ kj26) ∧ Aside0 (Kd.R k28 28 w' w.heap.size (fun _ => True) (.slice (some ad142) t137.length co17) t137) ∧ Aside0 (Below w.heap.size w w'))
                  case atStart => exact ⟨(0), zS, H', ⟨Nat.le_refl _⟩, ⟨by (with_reducible repeat (first | apply Kd.R_alloc | apply Kd.R_drewN | apply Kd.R_drew)); exact HO_4.out⟩, ⟨zL HB.out⟩⟩
                  case round =>
                   clear H'
                   try clear c1
                   try clear p1
                   try clear q1
                   try clear hx1
                   try clear c2
                   try clear p2
                   try clear q2
                   try clear hx2
                   try clear qi2
                   try clear c3
                   try clear p3
                   try clear q3
                   try clear hx3
                   try clear qi3
                   try clear c5
                   try clear c6
                   try clear p6
                   try clear c8
                   try clear c8b0
                   try clear c8b1
                   try clear c10
                   try clear c10b0
                   try clear c11
                   try clear c11b0
                   try clear p12
                   try clear q12
                   try clear hx12
                   try clear c13
                   try clear c13b0
                   try clear c13b1
                   try clear c14
                   try clear c14b0
                   try clear p14
                   try clear q14
                   try clear hx14
                   try clear c15
                   try clear c15b0
                   try clear c18
                   try clear c18b0
                   try clear c18b1
                   try clear c19
                   try clear c19b0
                   try clear c19b1
                   try clear c20
                   try clear c20b0
                   try clear c21
                   try clear c21b0
                   try clear c22
                   try clear c22b0
                   try clear c24
                   try clear c24b0
                   try clear c25
                   try clear c25b0
                   try clear c26
                   try clear c28
                   try clear c28b0
                   try clear c28b1
                   try clear p29
                   try clear q29
                   try clear hx29
                   try clear qi29
                   try clear c30
                   try clear c30b0
                   try clear c30b1
                   try clear p31
                   try clear q31
                   try clear hx31
                   try clear qi31
                   try clear c32
                   try clear c32b0
                   try clear c32b1
                   try clear c34
                   try clear c34b0
                   try clear c35
                   try clear c35b0
                   try clear p36
                   try clear q36
                   try clear hx36
                   try clear c37
                   try clear c37b0
                   try clear c37b1
                   try clear p38
                   try clear q38
                   try clear hx38
                   try clear c39
                   try clear hx142_0
                   try clear hx142_1
                   try clear hx142_2
                   try clear hx143_0
                   try clear hx143_1
                   try clear hx143_2
                   try clear hx144_0
                   try clear hx144_1
                   try clear hx144_2
                   try clear hx145_0
                   try clear hx145_1
                   try clear hx145_2
                   try clear hx146_0
                   try clear hx146_1
                   try clear hx146_2
                   try clear p1
                   try clear p12
                   try clear p14
                   try clear p142
                   try clear p143
                   try clear p144
                   try clear p145
                   try clear p146
                   try clear p2
                   try clear p29
                   try clear p3
                   try clear p31
                   try clear p36
                   try clear p38
                   try clear p6
                   try clear q1
                   try clear q12
                   try clear q14
                   try clear q142
                   try clear q143
                   try clear q144
                   try clear q145
                   try clear q146
                   try clear q2
                   try clear q29
                   try clear q3
                   try clear q31
                   try clear q36
                   try clear q38
                   obtain ⟨x11_6, rfl, HA, HK6, HO_4, HB⟩ := hrel
                   cases gk with
                   | zero => exact absurd HA.out (by simp [cooperagelaw8_LexBare.l2])
                   | succ k6 =>
                    have H := HA.out
                    clear HA
                    simp only [cooperagelaw8_LexBare.l2] at H
                    by_cases c40 : x11_6 < (((rd_T28 t137 x9_3).f2).size : Int)
                    ·rw [if_pos c40] at H
                     have c40b0 : decide (x11_6 < (((rd_T28 t137 x9_3).f2).size : Int)) = true := decide_eq_true c40
                     clear c40
                     by_cases c41 : 0 ≤ x11_6
                     ·rw [if_pos c41] at H
                      have c41b0 : decide (0 ≤ x11_6) = true := decide_eq_true c41
                      clear c41
                      by_cases c43 : (bt ((rd_T28 t137 x9_3).f2) x11_6) = 10
                      ·rw [if_pos c43] at H
                       have c43b0 : ((bt ((rd_T28 t137 x9_3).f2) x11_6) == 10) = true := beq_iff_eq.mpr c43
                       have c43b1 : ((bt ((rd_T28 t137 x9_3).f2) x11_6) != 10) = false := bne_eq_false_iff_eq.mpr c43
                       clear c43
                       obtain rfl := Option.some.inj H
                       have p42 : 0 ≤ (x11_6 : Int) := zD
                       have q42 : x11_6 < (((rd_T28 t137 x9_3).f2).size : Int) := zD
                       have hx42 := bt_at ((rd_T28 t137 x9_3).f2) x11_6
                       replace p42 := eq_true p42
                       replace q42 := eq_true q42
                       go_wp2
                       repeat (go_quiet (fail); try go_wp2)
                       go_ret
                       exact ⟨zE, zL HB.out⟩
                      ·rw [if_neg c43] at H
                       have c43b0 : ((bt ((rd_T28 t137 x9_3).f2) x11_6) == 10) = false := beq_eq_false_iff_ne.mpr c43
                       have c43b1 : ((bt ((rd_T28 t137 x9_3).f2) x11_6) != 10) = true := bne_iff_ne.mpr c43
                       by_cases c45 : (bt ((rd_T28 t137 x9_3).f2) x11_6) = 35
                       ·rw [if_pos c45] at H
                        have c45b0 : ((bt ((rd_T28 t137 x9_3).f2) x11_6) == 35) = true := beq_iff_eq.mpr c45
                        have c45b1 : ((bt ((rd_T28 t137 x9_3).f2) x11_6) != 35) = false := bne_eq_false_iff_eq.mpr c45
                        clear c45
                        by_cases c46 : 0 ≤ x9_3
                        ·rw [if_pos c46] at H
                         have c46b0 : decide (0 ≤ x9_3) = true := decide_eq_true c46
                         clear c46
                         by_cases c47 : x9_3 < (t137.length : Int)
                         ·rw [if_pos c47] at H
                          have c47b0 : decide (x9_3 < (t137.length : Int)) = true := decide_eq_true c47
                          clear c47
                          obtain ⟨bq48, hbq48⟩ : ∃ b_ : Bool, b_ = ((rd_T28 t137 x9_3).f1) := ⟨_, rfl⟩
                          replace H : (if (bq48 = true) then (cooperagelaw8_LexBare.l2 k6 t137 x7_2 x9_3 ((rd_T28 t137 x9_3).f2) (wrap64 (x11_6 + 1))) else (some false)) = some r := by rw [← hbq48] at H; exact H
                          have Nbq48 := Aside0.mk hbq48
                          clear hbq48
                          by_cases c49 : (bq48 = true)
                          ·subst c49
                           have H1 : (cooperagelaw8_LexBare.l2 k6 t137 x7_2 x9_3 ((rd_T28 t137 x9_3).f2) (wrap64 (x11_6 + 1))) = some r := by rw [if_pos rfl] at H; exact H
                           clear H
                           have H := H1
                           clear H1
                           have H' := Aside0.mk H
                           clear H
                           have p42 : 0 ≤ (x11_6 : Int) := zD
                           have q42 : x11_6 < (((rd_T28 t137 x9_3).f2).size : Int) := zD
                           have hx42 := bt_at ((rd_T28 t137 x9_3).f2) x11_6
                           replace p42 := eq_true p42
                           replace q42 := eq_true q42
                           have p44 : 0 ≤ (x11_6 : Int) := zD
                           have q44 : x11_6 < (((rd_T28 t137 x9_3).f2).size : Int) := zD
                           have hx44 := bt_at ((rd_T28 t137 x9_3).f2) x11_6
                           replace p44 := eq_true p44
                           replace q44 := eq_true q44
                           have p147 : 0 ≤ (x9_3 : Int) := zD
                           have q147 : x9_3 < (t137.length : Int) := zD
                           obtain ⟨ad147, e147, hx147_0, hx147_1, hx147_2⟩ := at_T28 (Kd.R_reads' HO_4.out).2.2 x9_3 p147 q147
                           (try rw [← Nbq48.out] at hx147_1)
                           obtain rfl : ad142 = ad147 := (by injection e147)
                           replace p147 := eq_true p147
                           replace q147 := eq_true q147
                           go_wp2
                           repeat (go_quiet (fail); try go_wp2)
                           go_roundg k6
                           case measure => have := HJ2.out; have := HK2.out; have := HK3.out; have := HJ15.out; have := HJ26.out; have := HK6.out; omega
                           case rel => exact ⟨(wrap64 (x11_6 + 1)), zS, H', ⟨by have := HJ2.out; have := HK2.out; have := HK3.out; have := HJ15.out; have := HJ26.out; have := HK6.out; omega⟩, ⟨by (with_reducible repeat (first | apply Kd.R_alloc | apply Kd.R_drewN | apply Kd.R_drew)); exact HO_4.out⟩, ⟨zL HB.out⟩⟩
                          ·replace c49 := Bool.eq_false_iff.mpr c49
                           subst c49
                           have H1 : (some false) = some r := by rw [if_neg (show ¬ (false = true) by decide)] at H; exact H
                           clear H
                           have H := H1
                           clear H1
                           obtain rfl := Option.some.inj H
                           have p42 : 0 ≤ (x11_6 : Int) := zD
                           have q42 : x11_6 < (((rd_T28 t137 x9_3).f2).size : Int) := zD
                           have hx42 := bt_at ((rd_T28 t137 x9_3).f2) x11_6
                           replace p42 := eq_true p42
                           replace q42 := eq_true q42
                           have p44 : 0 ≤ (x11_6 : Int) := zD
                           have q44 : x11_6 < (((rd_T28 t137 x9_3).f2).size : Int) := zD
                           have hx44 := bt_at ((rd_T28 t137 x9_3).f2) x11_6
                           replace p44 := eq_true p44
                           replace q44 := eq_true q44
                           have p147 : 0 ≤ (x9_3 : Int) := zD
                           have q147 : x9_3 < (t137.length : Int) := zD
                           obtain ⟨ad147, e147, hx147_0, hx147_1, hx147_2⟩ := at_T28 (Kd.R_reads' HO_4.out).2.2 x9_3 p147 q147
                           (try rw [← Nbq48.out] at hx147_1)
                           obtain rfl : ad142 = ad147 := (by injection e147)
                           replace p147 := eq_true p147
                           replace q147 := eq_true q147
                           go_wp2
                           repeat (go_quiet (fail); try go_wp2)
                           go_ret
                           exact ⟨zE, zL HB.out⟩
                         ·rw [if_neg c47] at H
                          exact absurd H (by simp)
                        ·rw [if_neg c46] at H
                         exact absurd H (by simp)
                       ·rw [if_neg c45] at H
                        have c45b0 : ((bt ((rd_T28 t137 x9_3).f2) x11_6) == 35) = false := beq_eq_false_iff_ne.mpr c45
                        have c45b1 : ((bt ((rd_T28 t137 x9_3).f2) x11_6) != 35) = true := bne_iff_ne.mpr c45
                        have H' := Aside0.mk H
                        clear H
                        have p42 : 0 ≤ (x11_6 : Int) := zD
                        have q42 : x11_6 < (((rd_T28 t137 x9_3).f2).size : Int) := zD
                        have hx42 := bt_at ((rd_T28 t137 x9_3).f2) x11_6
                        replace p42 := eq_true p42
                        replace q42 := eq_true q42
                        have p44 : 0 ≤ (x11_6 : Int) := zD
                        have q44 : x11_6 < (((rd_T28 t137 x9_3).f2).size : Int) := zD
                        have hx44 := bt_at ((rd_T28 t137 x9_3).f2) x11_6
                        replace p44 := eq_true p44
                        replace q44 := eq_true q44
                        go_wp2
                        repeat (go_quiet (fail); try go_wp2)
                        go_roundg k6
                        case measure => have := HJ2.out; have := HK2.out; have := HK3.out; have := HJ15.out; have := HJ26.out; have := HK6.out; omega
                        case rel => exact ⟨(wrap64 (x11_6 + 1)), zS, H', ⟨by have := HJ2.out; have := HK2.out; have := HK3.out; have := HJ15.out; have := HJ26.out; have := HK6.out; omega⟩, ⟨by (with_reducible repeat (first | apply Kd.R_alloc | apply Kd.R_drewN | apply Kd.R_drew)); exact HO_4.out⟩, ⟨zL HB.out⟩⟩
                     ·rw [if_neg c41] at H
                      exact absurd H (by simp)
                    ·rw [if_neg c40] at H
                     have c40b0 : decide (x11_6 < (((rd_T28 t137 x9_3).f2).size : Int)) = false := decide_eq_false c40
                     clear c40
                     have H' := Aside0.mk H
                     clear H
                     go_wp2
                     repeat (go_quiet (fail); try go_wp2)
                     go_roundg k6
                     case measure => have := HJ2.out; have := HK2.out; have := HK3.out; have := HJ15.out; have := HJ26.out; have := HK6.out; omega
                     case rel => exact ⟨(wrap64 (x9_3 + 1)), zS, H', ⟨by have := HJ2.out; have := HK2.out; have := HK3.out; have := HJ15.out; have := HJ26.out; have := HK6.out; omega⟩, ⟨by (with_reducible repeat (first | apply Kd.R_alloc | apply Kd.R_drewN | apply Kd.R_drew)); exact HO_4.out⟩, ⟨zL HB.out⟩⟩
           ·rw [if_neg c15] at H
            exact absurd H (by simp)
          ·rw [if_neg c14] at H
           have c14b0 : decide (x9_3 < (t137.length : Int)) = false := decide_eq_false c14
           clear c14
           obtain rfl := Option.some.inj H
           obtain ⟨Ao50, co50, eo50⟩ := Kd.R_slice HO_4.out
           subst eo50
           go_wp2
           repeat (go_quiet (fail); try go_wp2)
           go_ret
           exact ⟨zE, zL HB.out⟩
    ·rw [if_neg c8] at H
     have c8b0 : (t138 == 0) = false := beq_eq_false_iff_ne.mpr c8
     have c8b1 : (t138 != 0) = true := bne_iff_ne.mpr c8
     by_cases c51 : (t137.length : Int) = 0
     ·rw [if_pos c51] at H
      have c51b0 : ((t137.length : Int) == 0) = true := beq_iff_eq.mpr c51
      have c51b1 : ((t137.length : Int) != 0) = false := bne_eq_false_iff_eq.mpr c51
      clear c51
      obtain rfl := Option.some.inj H
      go_wp2_with (first | (go_at_call 9; (with_reducible refine (lex_Lex.calls kj2 a0 t137 t138 t139 _ A7.out).mono ?_); rintro e w52 ⟨v140, rfl, ho0, hb⟩; have n0_ := Aside0.mk (Kd.R_lower ho0 (below_size (zL HB.out))); have n1_ := Aside0.mk (below_step (zL HB.out) hb); revert n0_ n1_; clear HB; intro HO141 HB; (try clear hb); (try clear hb2); (try clear hk); (try clear hi); (try clear ho0); obtain ⟨Ao53, co53, eo53⟩ := Kd.R_slice HO141.out; subst eo53))
      repeat (go_quiet (first | (go_at_call 9; (with_reducible refine (lex_Lex.calls kj2 a0 t137 t138 t139 _ A7.out).mono ?_); rintro e w52 ⟨v140, rfl, ho0, hb⟩; have n0_ := Aside0.mk (Kd.R_lower ho0 (below_size (zL HB.out))); have n1_ := Aside0.mk (below_step (zL HB.out) hb); revert n0_ n1_; clear HB; intro HO141 HB; (try clear hb); (try clear hb2); (try clear hk); (try clear hi); (try clear ho0); obtain ⟨Ao53, co53, eo53⟩ := Kd.R_slice HO141.out; subst eo53)); try go_wp2_with (first | (go_at_call 9; (with_reducible refine (lex_Lex.calls kj2 a0 t137 t138 t139 _ A7.out).mono ?_); rintro e w52 ⟨v140, rfl, ho0, hb⟩; have n0_ := Aside0.mk (Kd.R_lower ho0 (below_size (zL HB.out))); have n1_ := Aside0.mk (below_step (zL HB.out) hb); revert n0_ n1_; clear HB; intro HO141 HB; (try clear hb); (try clear hb2); (try clear hk); (try clear hi); (try clear ho0); obtain ⟨Ao53, co53, eo53⟩ := Kd.R_slice HO141.out; subst eo53)))
      go_ret
      exact ⟨zE, zL HB.out⟩
     ·rw [if_neg c51] at H
      have c51b0 : ((t137.length : Int) == 0) = false := beq_eq_false_iff_ne.mpr c51
      have c51b1 : ((t137.length : Int) != 0) = true := bne_iff_ne.mpr c51
      have c51b2 : ¬ (t137 = []) := fun h_ => c51 (by rw [h_]; rfl)
      obtain rfl := Option.some.inj H
      go_wp2_with (first | (go_at_call 9; (with_reducible refine (lex_Lex.calls kj2 a0 t137 t138 t139 _ A7.out).mono ?_); rintro e w54 ⟨v140, rfl, ho0, hb⟩; have n0_ := Aside0.mk (Kd.R_lower ho0 (below_size (zL HB.out))); have n1_ := Aside0.mk (below_step (zL HB.out) hb); revert n0_ n1_; clear HB; intro HO141 HB; (try clear hb); (try clear hb2); (try clear hk); (try clear hi); (try clear ho0); obtain ⟨Ao55, co55, eo55⟩ := Kd.R_slice HO141.out; subst eo55))
      repeat (go_quiet (first | (go_at_call 9; (with_reducible refine (lex_Lex.calls kj2 a0 t137 t138 t139 _ A7.out).mono ?_); rintro e w54 ⟨v140, rfl, ho0, hb⟩; have n0_ := Aside0.mk (Kd.R_lower ho0 (below_size (zL HB.out))); have n1_ := Aside0.mk (below_step (zL HB.out) hb); revert n0_ n1_; clear HB; intro HO141 HB; (try clear hb); (try clear hb2); (try clear hk); (try clear hi); (try clear ho0); obtain ⟨Ao55, co55, eo55⟩ := Kd.R_slice HO141.out; subst eo55)); try go_wp2_with (first | (go_at_call 9; (with_reducible refine (lex_Lex.calls kj2 a0 t137 t138 t139 _ A7.out).mono ?_); rintro e w54 ⟨v140, rfl, ho0, hb⟩; have n0_ := Aside0.mk (Kd.R_lower ho0 (below_size (zL HB.out))); have n1_ := Aside0.mk (below_step (zL HB.out) hb); revert n0_ n1_; clear HB; intro HO141 HB; (try clear hb); (try clear hb2); (try clear hk); (try clear hi); (try clear ho0); obtain ⟨Ao55, co55, eo55⟩ := Kd.R_slice HO141.out; subst eo55)))
      go_ret
      exact ⟨zE, zL HB.out⟩

/-- THE ONE PURE STATEMENT of cooperagelaw8_LexBare. -/
def cooperagelaw8_LexBare.Pure : Prop := ∀ (a0 : ByteArray), a0.size ≤ 140737488351232 → ∃ k, cooperagelaw8_LexBare.f k a0 = some true
theorem cooperagelaw8_LexBare.walk (P : cooperagelaw8_LexBare.Pure) (a0 : ByteArray) (w : World) (w0 : a0.size ≤ 140737488351232) :
  Calls Tryd.prog 3 #[.string a0] w fun e w' => e = .returned (.bool true) ∧ Below w.heap.size w w' := by
 obtain ⟨k, h⟩ := P a0 w0
 refine (cooperagelaw8_LexBare.calls k a0 true w h).mono ?_
 rintro e w' ⟨rfl, hd⟩
 exact ⟨rfl, hd⟩

end Go.Proofs.YtjbpabpfhkcolaaDoor.PLex
