-- Written by a program of this session (wip/tools/ext.py, over the kit's printer); not trusted: Lean checks it.
import Derived.Test.YtjbpabpfhkcolaaDoorPLexx0
import Derived.Test.YtjbpabpfhkcolaaDoorPLexx1
import Derived.Test.YtjbpabpfhkcolaaDoorPLexx3
namespace Go.Proofs.YtjbpabpfhkcolaaDoor.PLex
open Go.RowKit Go.Proofs.YtjbpabpfhkcolaaDoorW.PrintWords Go.Proofs.YtjbpabpfhkcolaaDoorW.PrintLast Go.Proofs.YtjbpabpfhkcolaaDoorW.PrintMore
attribute [local go_sem] max2_int min2_int max_two min_two max_three min_three max_four min_four   -- for this text's walks alone
set_option linter.unusedVariables false
set_option linter.unusedSimpArgs false

attribute [local go_sem high] eqA28
/-! ### cooperagelaw8_LexTabs: function 6 -/
mutual
def cooperagelaw8_LexTabs.j0 : Nat → ByteArray → ByteArray → Bool → Bool → Option (Bool)
 | 0, _, _, _, _ => none
 | k + 1, x0, x1, x5, x24 => if x24 = true then (some x5) else (if x0.size + x1.size ≤ 9223372036854775807 then (cooperagelaw8_LexTabs.l0 k x0 x1 (x0 ++ x1) 0) else (none))
def cooperagelaw8_LexTabs.l0 : Nat → ByteArray → ByteArray → ByteArray → Int → Option (Bool)
 | 0, _, _, _, _ => none
 | k + 1, x0, x1, x6, x7 => if x7 < (x6.size : Int) then (if 0 ≤ x7 then (if (bt x6 x7) = 10 then (some true) else (if (bt x6 x7) = 92 then (some true) else (if x7 < (x0.size : Int) then (if (bt x6 x7) = 35 then (some true) else (cooperagelaw8_LexTabs.l0 k x0 x1 x6 (wrap64 (x7 + 1)))) else (cooperagelaw8_LexTabs.l0 k x0 x1 x6 (wrap64 (x7 + 1)))))) else (none)) else (if x0.toList = ([] : List UInt8) then (cooperagelaw8_LexTabs.j2 k x0 x1 true) else (if 0 < (x0.size : Int) then (if (bt x0 0) = 32 then (cooperagelaw8_LexTabs.j2 k x0 x1 true) else (if (bt x0 0) = 9 then (cooperagelaw8_LexTabs.j2 k x0 x1 true) else (if 0 ≤ (wrap64 ((x0.size : Int) - 1)) then (if (wrap64 ((x0.size : Int) - 1)) < (x0.size : Int) then (if (bt x0 (wrap64 ((x0.size : Int) - 1))) = 32 then (cooperagelaw8_LexTabs.j2 k x0 x1 true) else (cooperagelaw8_LexTabs.j2 k x0 x1 ((bt x0 (wrap64 ((x0.size : Int) - 1))) == 9))) else (none)) else (none)))) else (none)))
def cooperagelaw8_LexTabs.j2 : Nat → ByteArray → ByteArray → Bool → Option (Bool)
 | 0, _, _, _ => none
 | k + 1, x0, x1, x84 => if x84 = true then (some true) else (cooperagelaw8_LexTabs.l1 k x0 x1 x1)
def cooperagelaw8_LexTabs.l1 : Nat → ByteArray → ByteArray → ByteArray → Option (Bool)
 | 0, _, _, _ => none
 | k + 1, x0, x1, x8 => if x8.toList = ([] : List UInt8) then (if 1 + x0.size ≤ 9223372036854775807 then (if ((⟨#[9]⟩ : ByteArray) ++ x0).size + 2 ≤ 9223372036854775807 then (if (((⟨#[9]⟩ : ByteArray) ++ x0) ++ (⟨#[32, 35]⟩ : ByteArray)).size + x1.size ≤ 9223372036854775807 then (if ((((⟨#[9]⟩ : ByteArray) ++ x0) ++ (⟨#[32, 35]⟩ : ByteArray)) ++ x1).size + 1 ≤ 9223372036854775807 then (if (((((⟨#[9]⟩ : ByteArray) ++ x0) ++ (⟨#[32, 35]⟩ : ByteArray)) ++ x1) ++ (⟨#[10]⟩ : ByteArray)).size + x0.size ≤ 9223372036854775807 then (if ((((((⟨#[9]⟩ : ByteArray) ++ x0) ++ (⟨#[32, 35]⟩ : ByteArray)) ++ x1) ++ (⟨#[10]⟩ : ByteArray)) ++ x0).size + 2 ≤ 9223372036854775807 then (if (((((((⟨#[9]⟩ : ByteArray) ++ x0) ++ (⟨#[32, 35]⟩ : ByteArray)) ++ x1) ++ (⟨#[10]⟩ : ByteArray)) ++ x0) ++ (⟨#[32, 35]⟩ : ByteArray)).size + x1.size ≤ 9223372036854775807 then (if ((((((((⟨#[9]⟩ : ByteArray) ++ x0) ++ (⟨#[32, 35]⟩ : ByteArray)) ++ x1) ++ (⟨#[10]⟩ : ByteArray)) ++ x0) ++ (⟨#[32, 35]⟩ : ByteArray)) ++ x1).size + 1 ≤ 9223372036854775807 then ((lex_Lex.f k (((((((((⟨#[9]⟩ : ByteArray) ++ x0) ++ (⟨#[32, 35]⟩ : ByteArray)) ++ x1) ++ (⟨#[10]⟩ : ByteArray)) ++ x0) ++ (⟨#[32, 35]⟩ : ByteArray)) ++ x1) ++ (⟨#[10]⟩ : ByteArray))).bind fun bt177 => (if bt177.2.1 = 0 then (if bt177.2.2 = 0 then (if (bt177.1.length : Int) = 2 then (if 0 < (bt177.1.length : Int) then (if x0.size + 2 ≤ 9223372036854775807 then (if (x0 ++ (⟨#[32, 35]⟩ : ByteArray)).size + x8.size ≤ 9223372036854775807 then (if (((rd_T28 bt177.1 0).f0) == 1 && (((rd_T28 bt177.1 0).f1) && ((((rd_T28 bt177.1 0).f2).toList) == (((x0 ++ (⟨#[32, 35]⟩ : ByteArray)) ++ x8).toList)))) = true then (if 1 < (bt177.1.length : Int) then (some (((rd_T28 bt177.1 1).f0) == 2 && (!((rd_T28 bt177.1 1).f1) && ((((rd_T28 bt177.1 1).f2).toList) == x0.toList)))) else (none)) else (some false)) else (none)) else (none)) else (none)) else (some false)) else (some false)) else (some false))) else (none)) else (none)) else (none)) else (none)) else (none)) else (none)) else (none)) else (none)) else (if 0 ≤ (wrap64 ((x8.size : Int) - 1)) then (if (wrap64 ((x8.size : Int) - 1)) < (x8.size : Int) then (if (bt x8 (wrap64 ((x8.size : Int) - 1))) = 32 then (if (wrap64 ((x8.size : Int) - 1)) ≤ (x8.size : Int) then (cooperagelaw8_LexTabs.l1 k x0 x1 (x8.extract 0 ((wrap64 ((x8.size : Int) - 1)) : Int).toNat)) else (none)) else (if (bt x8 (wrap64 ((x8.size : Int) - 1))) = 9 then (if (wrap64 ((x8.size : Int) - 1)) ≤ (x8.size : Int) then (cooperagelaw8_LexTabs.l1 k x0 x1 (x8.extract 0 ((wrap64 ((x8.size : Int) - 1)) : Int).toNat)) else (none)) else (if 1 + x0.size ≤ 9223372036854775807 then (if ((⟨#[9]⟩ : ByteArray) ++ x0).size + 2 ≤ 9223372036854775807 then (if (((⟨#[9]⟩ : ByteArray) ++ x0) ++ (⟨#[32, 35]⟩ : ByteArray)).size + x1.size ≤ 9223372036854775807 then (if ((((⟨#[9]⟩ : ByteArray) ++ x0) ++ (⟨#[32, 35]⟩ : ByteArray)) ++ x1).size + 1 ≤ 9223372036854775807 then (if (((((⟨#[9]⟩ : ByteArray) ++ x0) ++ (⟨#[32, 35]⟩ : ByteArray)) ++ x1) ++ (⟨#[10]⟩ : ByteArray)).size + x0.size ≤ 9223372036854775807 then (if ((((((⟨#[9]⟩ : ByteArray) ++ x0) ++ (⟨#[32, 35]⟩ : ByteArray)) ++ x1) ++ (⟨#[10]⟩ : ByteArray)) ++ x0).size + 2 ≤ 9223372036854775807 then (if (((((((⟨#[9]⟩ : ByteArray) ++ x0) ++ (⟨#[32, 35]⟩ : ByteArray)) ++ x1) ++ (⟨#[10]⟩ : ByteArray)) ++ x0) ++ (⟨#[32, 35]⟩ : ByteArray)).size + x1.size ≤ 9223372036854775807 then (if ((((((((⟨#[9]⟩ : ByteArray) ++ x0) ++ (⟨#[32, 35]⟩ : ByteArray)) ++ x1) ++ (⟨#[10]⟩ : ByteArray)) ++ x0) ++ (⟨#[32, 35]⟩ : ByteArray)) ++ x1).size + 1 ≤ 9223372036854775807 then ((lex_Lex.f k (((((((((⟨#[9]⟩ : ByteArray) ++ x0) ++ (⟨#[32, 35]⟩ : ByteArray)) ++ x1) ++ (⟨#[10]⟩ : ByteArray)) ++ x0) ++ (⟨#[32, 35]⟩ : ByteArray)) ++ x1) ++ (⟨#[10]⟩ : ByteArray))).bind fun bt184 => (if bt184.2.1 = 0 then (if bt184.2.2 = 0 then (if (bt184.1.length : Int) = 2 then (if 0 < (bt184.1.length : Int) then (if x0.size + 2 ≤ 9223372036854775807 then (if (x0 ++ (⟨#[32, 35]⟩ : ByteArray)).size + x8.size ≤ 9223372036854775807 then (if (((rd_T28 bt184.1 0).f0) == 1 && (((rd_T28 bt184.1 0).f1) && ((((rd_T28 bt184.1 0).f2).toList) == (((x0 ++ (⟨#[32, 35]⟩ : ByteArray)) ++ x8).toList)))) = true then (if 1 < (bt184.1.length : Int) then (some (((rd_T28 bt184.1 1).f0) == 2 && (!((rd_T28 bt184.1 1).f1) && ((((rd_T28 bt184.1 1).f2).toList) == x0.toList)))) else (none)) else (some false)) else (none)) else (none)) else (none)) else (some false)) else (some false)) else (some false))) else (none)) else (none)) else (none)) else (none)) else (none)) else (none)) else (none)) else (none)))) else (none)) else (none))
end
def cooperagelaw8_LexTabs.f (k : Nat) (a0 : ByteArray) (a1 : ByteArray) : Option (Bool) := (cooperagelaw8_shown.f k).bind fun t176 => (if t176 = true then (if (a0.size : Int) > 300 then (cooperagelaw8_LexTabs.j0 k a0 a1 t176 true) else (cooperagelaw8_LexTabs.j0 k a0 a1 t176 (decide ((a1.size : Int) > 300)))) else (cooperagelaw8_LexTabs.j0 k a0 a1 t176 true))
theorem cooperagelaw8_LexTabs.mono_l : ∀ k, (∀ y0 y1 y2 y3, LeO (cooperagelaw8_LexTabs.j0 k y0 y1 y2 y3) (cooperagelaw8_LexTabs.j0 (k + 1) y0 y1 y2 y3)) ∧ (∀ y0 y1 y2 y3, LeO (cooperagelaw8_LexTabs.l0 k y0 y1 y2 y3) (cooperagelaw8_LexTabs.l0 (k + 1) y0 y1 y2 y3)) ∧ (∀ y0 y1 y2, LeO (cooperagelaw8_LexTabs.j2 k y0 y1 y2) (cooperagelaw8_LexTabs.j2 (k + 1) y0 y1 y2)) ∧ (∀ y0 y1 y2, LeO (cooperagelaw8_LexTabs.l1 k y0 y1 y2) (cooperagelaw8_LexTabs.l1 (k + 1) y0 y1 y2))
 | 0 => ⟨fun _ _ _ _ r h => by simp [cooperagelaw8_LexTabs.j0] at h, fun _ _ _ _ r h => by simp [cooperagelaw8_LexTabs.l0] at h, fun _ _ _ r h => by simp [cooperagelaw8_LexTabs.j2] at h, fun _ _ _ r h => by simp [cooperagelaw8_LexTabs.l1] at h⟩
 | k + 1 => by
  obtain ⟨ih0, ih1, ih2, ih3⟩ := cooperagelaw8_LexTabs.mono_l k
  refine ⟨?_, ?_, ?_, ?_⟩
  ·intro y0 y1 y2 y3
   unfold cooperagelaw8_LexTabs.j0
   repeat' first
   | (with_reducible exact ih0 _ _ _ _)
   | (with_reducible exact ih1 _ _ _ _)
   | (with_reducible exact ih2 _ _ _)
   | (with_reducible exact ih3 _ _ _)
   | (with_reducible exact cooperagelaw8_shown.mono _)
   | (with_reducible exact lex_Lex.mono _ _)
   | (with_reducible exact LeO.refl _)
   | (with_reducible exact LeO.none _)
   | (with_reducible refine LeO.ite ?_ ?_)
   | (with_reducible refine LeO.bind ?_ (fun _ => ?_))
   | exact ih0 _ _ _ _
   | exact ih1 _ _ _ _
   | exact ih2 _ _ _
   | exact ih3 _ _ _
   | exact cooperagelaw8_shown.mono _
   | exact lex_Lex.mono _ _
   | exact LeO.none _
   | refine LeO.ite ?_ ?_
   | refine LeO.bind ?_ (fun _ => ?_)
  ·intro y0 y1 y2 y3
   unfold cooperagelaw8_LexTabs.l0
   repeat' first
   | (with_reducible exact ih0 _ _ _ _)
   | (with_reducible exact ih1 _ _ _ _)
   | (with_reducible exact ih2 _ _ _)
   | (with_reducible exact ih3 _ _ _)
   | (with_reducible exact cooperagelaw8_shown.mono _)
   | (with_reducible exact lex_Lex.mono _ _)
   | (with_reducible exact LeO.refl _)
   | (with_reducible exact LeO.none _)
   | (with_reducible refine LeO.ite ?_ ?_)
   | (with_reducible refine LeO.bind ?_ (fun _ => ?_))
   | exact ih0 _ _ _ _
   | exact ih1 _ _ _ _
   | exact ih2 _ _ _
   | exact ih3 _ _ _
   | exact cooperagelaw8_shown.mono _
   | exact lex_Lex.mono _ _
   | exact LeO.none _
   | refine LeO.ite ?_ ?_
   | refine LeO.bind ?_ (fun _ => ?_)
  ·intro y0 y1 y2
   unfold cooperagelaw8_LexTabs.j2
   repeat' first
   | (with_reducible exact ih0 _ _ _ _)
   | (with_reducible exact ih1 _ _ _ _)
   | (with_reducible exact ih2 _ _ _)
   | (with_reducible exact ih3 _ _ _)
   | (with_reducible exact cooperagelaw8_shown.mono _)
   | (with_reducible exact lex_Lex.mono _ _)
   | (with_reducible exact LeO.refl _)
   | (with_reducible exact LeO.none _)
   | (with_reducible refine LeO.ite ?_ ?_)
   | (with_reducible refine LeO.bind ?_ (fun _ => ?_))
   | exact ih0 _ _ _ _
   | exact ih1 _ _ _ _
   | exact ih2 _ _ _
   | exact ih3 _ _ _
   | exact cooperagelaw8_shown.mono _
   | exact lex_Lex.mono _ _
   | exact LeO.none _
   | refine LeO.ite ?_ ?_
   | refine LeO.bind ?_ (fun _ => ?_)
  ·intro y0 y1 y2
   unfold cooperagelaw8_LexTabs.l1
   repeat' first
   | (with_reducible exact ih0 _ _ _ _)
   | (with_reducible exact ih1 _ _ _ _)
   | (with_reducible exact ih2 _ _ _)
   | (with_reducible exact ih3 _ _ _)
   | (with_reducible exact cooperagelaw8_shown.mono _)
   | (with_reducible exact lex_Lex.mono _ _)
   | (with_reducible exact LeO.refl _)
   | (with_reducible exact LeO.none _)
   | (with_reducible refine LeO.ite ?_ ?_)
   | (with_reducible refine LeO.bind ?_ (fun _ => ?_))
   | exact ih0 _ _ _ _
   | exact ih1 _ _ _ _
   | exact ih2 _ _ _
   | exact ih3 _ _ _
   | exact cooperagelaw8_shown.mono _
   | exact lex_Lex.mono _ _
   | exact LeO.none _
   | refine LeO.ite ?_ ?_
   | refine LeO.bind ?_ (fun _ => ?_)
theorem cooperagelaw8_LexTabs.mono : ∀ a0 a1 k, LeO (cooperagelaw8_LexTabs.f k a0 a1) (cooperagelaw8_LexTabs.f (k + 1) a0 a1) := by
 intro a0 a1 k
 obtain ⟨ih0, ih1, ih2, ih3⟩ := cooperagelaw8_LexTabs.mono_l k
 unfold cooperagelaw8_LexTabs.f
 repeat' first
   | (with_reducible exact ih0 _ _ _ _)
   | (with_reducible exact ih1 _ _ _ _)
   | (with_reducible exact ih2 _ _ _)
   | (with_reducible exact ih3 _ _ _)
   | (with_reducible exact cooperagelaw8_shown.mono _)
   | (with_reducible exact lex_Lex.mono _ _)
   | (with_reducible exact LeO.refl _)
   | (with_reducible exact LeO.none _)
   | (with_reducible refine LeO.ite ?_ ?_)
   | (with_reducible refine LeO.bind ?_ (fun _ => ?_))
   | exact ih0 _ _ _ _
   | exact ih1 _ _ _ _
   | exact ih2 _ _ _
   | exact ih3 _ _ _
   | exact cooperagelaw8_shown.mono _
   | exact lex_Lex.mono _ _
   | exact LeO.none _
   | refine LeO.ite ?_ ?_
   | refine LeO.bind ?_ (fun _ => ?_)
set_option maxHeartbeats 8000000 in
set_option maxRecDepth 100000 in
theorem cooperagelaw8_LexTabs.calls (k : Nat) (a0 : ByteArray) (a1 : ByteArray) (r : Bool) (w : World) (h : cooperagelaw8_LexTabs.f k a0 a1 = some r) :
  Calls Tryd.prog 6 #[.string a0, .string a1] w fun e w' => e = .returned (.bool r) ∧ Below w.heap.size w w' := by
 have hu28 := Tryd.underlying28
 have HB := Aside0.mk (Below.refl w.heap.size w)
 have H : ((cooperagelaw8_shown.f k).bind fun t176 => (if t176 = true then (if (a0.size : Int) > 300 then (cooperagelaw8_LexTabs.j0 k a0 a1 t176 true) else (cooperagelaw8_LexTabs.j0 k a0 a1 t176 (decide ((a1.size : Int) > 300)))) else (cooperagelaw8_LexTabs.j0 k a0 a1 t176 true))) = some r := h
 clear h
 replace H := Option.bind_eq_some_iff.mp H
 obtain ⟨t176, A30, H⟩ := H
 replace H : (if t176 = true then (if (a0.size : Int) > 300 then (cooperagelaw8_LexTabs.j0 k a0 a1 t176 true) else (cooperagelaw8_LexTabs.j0 k a0 a1 t176 (decide ((a1.size : Int) > 300)))) else (cooperagelaw8_LexTabs.j0 k a0 a1 t176 true)) = some r := H
 have A3 := Aside0.mk A30
 clear A30
 have HC4 := Aside0.mk H
 clear H
 go_enter Tryd.func6, Tryd.ntmps6
 go_upto_region 2 with (first | ((with_reducible refine gate_callee (f := 8) rfl ?_); refine goesL_ (some 12) rfl rfl Tryd.func8 (by kernel_rfl) rfl #[] rfl zA ?_; (with_reducible refine (cooperagelaw8_shown.calls k  t176 _ A3.out).mono ?_); rintro e w5 ⟨rfl, hb⟩; refine ⟨_, rfl, ?_⟩; have n0_ := Aside0.mk (below_step (zL HB.out) hb); revert n0_; clear HB; intro HB; (try clear hb); (try clear hb2); (try clear hk); (try clear hi)))
 (try simp only [Act.put, List.setIfInBounds_toArray, List.set_cons_zero, List.set_cons_succ])
 go_cut [24] (fun v24 wc => ∃ (kq : Nat) (x24_3 : Bool), v24 = .bool x24_3 ∧ Aside0 (cooperagelaw8_LexTabs.j0 kq a0 a1 t176 x24_3 = some r) ∧ Aside0 (kq ≤ k) ∧ Aside0 (Below w.heap.size w wc))
 case first =>
  have H := HC4.out
  clear HC4
  by_cases c6 : t176 = true
  ·subst c6
   have H1 : (if (a0.size : Int) > 300 then (cooperagelaw8_LexTabs.j0 k a0 a1 true true) else (cooperagelaw8_LexTabs.j0 k a0 a1 true (decide ((a1.size : Int) > 300)))) = some r := by rw [if_pos rfl] at H; exact H
   clear H
   have H := H1
   clear H1
   by_cases c7 : (a0.size : Int) > 300
   ·rw [if_pos c7] at H
    have c7b0 : decide (300 < (a0.size : Int)) = true := decide_eq_true c7
    have c7b1 : decide (300 < a0.size) = true := decide_eq_true (by omega)
    clear c7
    (first | rw [c7b0] | (simp only [i64_w, i32_w]; rw [c7b0]) | skip)
    have H' := Aside0.mk H
    clear H
    go_wp2
    go_meet
    case rel => exact ⟨_, (true), zS, H', ⟨by first | omega | exact Nat.le_refl _⟩, ⟨zL HB.out⟩⟩
   ·rw [if_neg c7] at H
    have c7b0 : decide (300 < (a0.size : Int)) = false := decide_eq_false c7
    have c7b1 : decide (300 < a0.size) = false := decide_eq_false (by omega)
    clear c7
    (first | rw [c7b0] | (simp only [i64_w, i32_w]; rw [c7b0]) | skip)
    have H' := Aside0.mk H
    clear H
    go_wp2
    go_meet
    case rel => exact ⟨_, (decide ((a1.size : Int) > 300)), zS, H', ⟨by first | omega | exact Nat.le_refl _⟩, ⟨zL HB.out⟩⟩
  ·replace c6 := Bool.eq_false_iff.mpr c6
   subst c6
   have H1 : (cooperagelaw8_LexTabs.j0 k a0 a1 false true) = some r := by rw [if_neg (show ¬ (false = true) by decide)] at H; exact H
   clear H
   have H := H1
   clear H1
   have H' := Aside0.mk H
   clear H
   go_wp2
   go_meet
   case rel => exact ⟨_, (true), zS, H', ⟨by first | omega | exact Nat.le_refl _⟩, ⟨zL HB.out⟩⟩
 case rest =>
  clear HC4
  try clear p2
  try clear c6
  try clear c7
  try clear c7b0
  try clear c7b1
  obtain ⟨kq, x24_3, rfl, HA, HJ3, HB⟩ := hcut
  cases kq with
  | zero => exact absurd HA.out (by simp [cooperagelaw8_LexTabs.j0])
  | succ kj3 =>
   have H := HA.out
   clear HA
   simp only [cooperagelaw8_LexTabs.j0] at H
   by_cases c8 : x24_3 = true
   ·subst c8
    have H1 : (some t176) = some r := by rw [if_pos rfl] at H; exact H
    clear H
    have H := H1
    clear H1
    obtain rfl := Option.some.inj H
    go_wp2
    go_ret
    exact ⟨zE, zL HB.out⟩
   ·replace c8 := Bool.eq_false_iff.mpr c8
    subst c8
    have H1 : (if a0.size + a1.size ≤ 9223372036854775807 then (cooperagelaw8_LexTabs.l0 kj3 a0 a1 (a0 ++ a1) 0) else (none)) = some r := by rw [if_neg (show ¬ (false = true) by decide)] at H; exact H
    clear H
    have H := H1
    clear H1
    by_cases c9 : a0.size + a1.size ≤ 9223372036854775807
    ·rw [if_pos c9] at H
     have c9b0 := eq_true c9
     have c9b1 : decide (a0.size + a1.size ≤ 9223372036854775807) = true := decide_eq_true c9
     try have c9b2 : (9223372036854775807 < a0.size + a1.size) = False := eq_false (Nat.not_lt.2 c9)
     have H' := Aside0.mk H
     clear H
     go_wp2
     go_loopg [7] kj3 (fun kq v7 w' => ∃ (x7_2 : Int), v7 = .int .i64 x7_2 ∧ Aside0 (cooperagelaw8_LexTabs.l0 kq a0 a1 (a0 ++ a1) x7_2 = some r) ∧ Aside0 (kq ≤ kj3) ∧ Aside0 (Below w.heap.size w w'))
     case atStart => exact ⟨(0), zS, H', ⟨Nat.le_refl _⟩, ⟨zL HB.out⟩⟩
     case round =>
      clear H'
      try clear p2
      try clear c6
      try clear c7
      try clear c7b0
      try clear c7b1
      try clear c8
      try clear c9
      try clear c9b0
      try clear c9b1
      try clear c9b2
      try clear p2
      obtain ⟨x7_2, rfl, HA, HK2, HB⟩ := hrel
      cases gk with
      | zero => exact absurd HA.out (by simp [cooperagelaw8_LexTabs.l0])
      | succ k2 =>
       have H := HA.out
       clear HA
       simp only [cooperagelaw8_LexTabs.l0] at H
       by_cases c10 : x7_2 < ((a0 ++ a1).size : Int)
       ·rw [if_pos c10] at H
        have c10b0 : decide (x7_2 < ((a0 ++ a1).size : Int)) = true := decide_eq_true c10
        try (have c10b0s := c10b0; simp only [ByteArray.size_append, Int.natCast_add, Int.toNat_natCast] at c10b0s)
        clear c10
        by_cases c11 : 0 ≤ x7_2
        ·rw [if_pos c11] at H
         have c11b0 : decide (0 ≤ x7_2) = true := decide_eq_true c11
         clear c11
         by_cases c13 : (bt (a0 ++ a1) x7_2) = 10
         ·rw [if_pos c13] at H
          have c13b0 : ((bt (a0 ++ a1) x7_2) == 10) = true := beq_iff_eq.mpr c13
          have c13b1 : ((bt (a0 ++ a1) x7_2) != 10) = false := bne_eq_false_iff_eq.mpr c13
          clear c13
          obtain rfl := Option.some.inj H
          have p12 : 0 ≤ (x7_2 : Int) := zD
          have q12 : x7_2 < ((a0 ++ a1).size : Int) := zD
          try (have q12s := q12; simp only [ByteArray.size_append, Int.natCast_add, Int.toNat_natCast] at q12s)
          have hx12 := bt_at (a0 ++ a1) x7_2
          replace p12 := eq_true p12
          replace q12 := eq_true q12
          try (have q12s := q12; simp only [ByteArray.size_append, Int.natCast_add, Int.toNat_natCast] at q12s)
          go_wp2
          go_ret
          exact ⟨zE, zL HB.out⟩
         ·rw [if_neg c13] at H
          have c13b0 : ((bt (a0 ++ a1) x7_2) == 10) = false := beq_eq_false_iff_ne.mpr c13
          have c13b1 : ((bt (a0 ++ a1) x7_2) != 10) = true := bne_iff_ne.mpr c13
          by_cases c15 : (bt (a0 ++ a1) x7_2) = 92
          ·rw [if_pos c15] at H
           have c15b0 : ((bt (a0 ++ a1) x7_2) == 92) = true := beq_iff_eq.mpr c15
           have c15b1 : ((bt (a0 ++ a1) x7_2) != 92) = false := bne_eq_false_iff_eq.mpr c15
           clear c15
           obtain rfl := Option.some.inj H
           have p12 : 0 ≤ (x7_2 : Int) := zD
           have q12 : x7_2 < ((a0 ++ a1).size : Int) := zD
           try (have q12s := q12; simp only [ByteArray.size_append, Int.natCast_add, Int.toNat_natCast] at q12s)
           have hx12 := bt_at (a0 ++ a1) x7_2
           replace p12 := eq_true p12
           replace q12 := eq_true q12
           try (have q12s := q12; simp only [ByteArray.size_append, Int.natCast_add, Int.toNat_natCast] at q12s)
           have p14 : 0 ≤ (x7_2 : Int) := zD
           have q14 : x7_2 < ((a0 ++ a1).size : Int) := zD
           try (have q14s := q14; simp only [ByteArray.size_append, Int.natCast_add, Int.toNat_natCast] at q14s)
           have hx14 := bt_at (a0 ++ a1) x7_2
           replace p14 := eq_true p14
           replace q14 := eq_true q14
           try (have q14s := q14; simp only [ByteArray.size_append, Int.natCast_add, Int.toNat_natCast] at q14s)
           go_wp2
           go_ret
           exact ⟨zE, zL HB.out⟩
          ·rw [if_neg c15] at H
           have c15b0 : ((bt (a0 ++ a1) x7_2) == 92) = false := beq_eq_false_iff_ne.mpr c15
           have c15b1 : ((bt (a0 ++ a1) x7_2) != 92) = true := bne_iff_ne.mpr c15
           by_cases c16 : x7_2 < (a0.size : Int)
           ·rw [if_pos c16] at H
            have c16b0 : decide (x7_2 < (a0.size : Int)) = true := decide_eq_true c16
            clear c16
            by_cases c18 : (bt (a0 ++ a1) x7_2) = 35
            ·rw [if_pos c18] at H
             have c18b0 : ((bt (a0 ++ a1) x7_2) == 35) = true := beq_iff_eq.mpr c18
             have c18b1 : ((bt (a0 ++ a1) x7_2) != 35) = false := bne_eq_false_iff_eq.mpr c18
             clear c18
             obtain rfl := Option.some.inj H
             have p12 : 0 ≤ (x7_2 : Int) := zD
             have q12 : x7_2 < ((a0 ++ a1).size : Int) := zD
             try (have q12s := q12; simp only [ByteArray.size_append, Int.natCast_add, Int.toNat_natCast] at q12s)
             have hx12 := bt_at (a0 ++ a1) x7_2
             replace p12 := eq_true p12
             replace q12 := eq_true q12
             try (have q12s := q12; simp only [ByteArray.size_append, Int.natCast_add, Int.toNat_natCast] at q12s)
             have p14 : 0 ≤ (x7_2 : Int) := zD
             have q14 : x7_2 < ((a0 ++ a1).size : Int) := zD
             try (have q14s := q14; simp only [ByteArray.size_append, Int.natCast_add, Int.toNat_natCast] at q14s)
             have hx14 := bt_at (a0 ++ a1) x7_2
             replace p14 := eq_true p14
             replace q14 := eq_true q14
             try (have q14s := q14; simp only [ByteArray.size_append, Int.natCast_add, Int.toNat_natCast] at q14s)
             have p17 : 0 ≤ (x7_2 : Int) := zD
             have q17 : x7_2 < ((a0 ++ a1).size : Int) := zD
             try (have q17s := q17; simp only [ByteArray.size_append, Int.natCast_add, Int.toNat_natCast] at q17s)
             have hx17 := bt_at (a0 ++ a1) x7_2
             replace p17 := eq_true p17
             replace q17 := eq_true q17
             try (have q17s := q17; simp only [ByteArray.size_append, Int.natCast_add, Int.toNat_natCast] at q17s)
             go_wp2
             go_ret
             exact ⟨zE, zL HB.out⟩
            ·rw [if_neg c18] at H
             have c18b0 : ((bt (a0 ++ a1) x7_2) == 35) = false := beq_eq_false_iff_ne.mpr c18
             have c18b1 : ((bt (a0 ++ a1) x7_2) != 35) = true := bne_iff_ne.mpr c18
             have H' := Aside0.mk H
             clear H
             have p12 : 0 ≤ (x7_2 : Int) := zD
             have q12 : x7_2 < ((a0 ++ a1).size : Int) := zD
             try (have q12s := q12; simp only [ByteArray.size_append, Int.natCast_add, Int.toNat_natCast] at q12s)
             have hx12 := bt_at (a0 ++ a1) x7_2
             replace p12 := eq_true p12
             replace q12 := eq_true q12
             try (have q12s := q12; simp only [ByteArray.size_append, Int.natCast_add, Int.toNat_natCast] at q12s)
             have p14 : 0 ≤ (x7_2 : Int) := zD
             have q14 : x7_2 < ((a0 ++ a1).size : Int) := zD
             try (have q14s := q14; simp only [ByteArray.size_append, Int.natCast_add, Int.toNat_natCast] at q14s)
             have hx14 := bt_at (a0 ++ a1) x7_2
             replace p14 := eq_true p14
             replace q14 := eq_true q14
             try (have q14s := q14; simp only [ByteArray.size_append, Int.natCast_add, Int.toNat_natCast] at q14s)
             have p17 : 0 ≤ (x7_2 : Int) := zD
             have q17 : x7_2 < ((a0 ++ a1).size : Int) := zD
             try (have q17s := q17; simp only [ByteArray.size_append, Int.natCast_add, Int.toNat_natCast] at q17s)
             have hx17 := bt_at (a0 ++ a1) x7_2
             replace p17 := eq_true p17
             replace q17 := eq_true q17
             try (have q17s := q17; simp only [ByteArray.size_append, Int.natCast_add, Int.toNat_natCast] at q17s)
             go_wp2
             go_roundg k2
             case measure => have := HJ3.out; have := HK2.out; omega
             case rel => exact ⟨(wrap64 (x7_2 + 1)), zS, H', ⟨by have := HJ3.out; have := HK2.out; omega⟩, ⟨zL HB.out⟩⟩
           ·rw [if_neg c16] at H
            have c16b0 : decide (x7_2 < (a0.size : Int)) = false := decide_eq_false c16
            clear c16
            have H' := Aside0.mk H
            clear H
            have p12 : 0 ≤ (x7_2 : Int) := zD
            have q12 : x7_2 < ((a0 ++ a1).size : Int) := zD
            try (have q12s := q12; simp only [ByteArray.size_append, Int.natCast_add, Int.toNat_natCast] at q12s)
            have hx12 := bt_at (a0 ++ a1) x7_2
            replace p12 := eq_true p12
            replace q12 := eq_true q12
            try (have q12s := q12; simp only [ByteArray.size_append, Int.natCast_add, Int.toNat_natCast] at q12s)
            have p14 : 0 ≤ (x7_2 : Int) := zD
            have q14 : x7_2 < ((a0 ++ a1).size : Int) := zD
            try (have q14s := q14; simp only [ByteArray.size_append, Int.natCast_add, Int.toNat_natCast] at q14s)
            have hx14 := bt_at (a0 ++ a1) x7_2
            replace p14 := eq_true p14
            replace q14 := eq_true q14
            try (have q14s := q14; simp only [ByteArray.size_append, Int.natCast_add, Int.toNat_natCast] at q14s)
            go_wp2
            go_roundg k2
            case measure => have := HJ3.out; have := HK2.out; omega
            case rel => exact ⟨(wrap64 (x7_2 + 1)), zS, H', ⟨by have := HJ3.out; have := HK2.out; omega⟩, ⟨zL HB.out⟩⟩
        ·rw [if_neg c11] at H
         exact absurd H (by simp)
       ·rw [if_neg c10] at H
        have c10b0 : decide (x7_2 < ((a0 ++ a1).size : Int)) = false := decide_eq_false c10
        try (have c10b0s := c10b0; simp only [ByteArray.size_append, Int.natCast_add, Int.toNat_natCast] at c10b0s)
        clear c10
        have HC19 := Aside0.mk H
        clear H
        go_upto_region 10 with (fail)
        go_cut [84] (fun v84 wc => ∃ (kq : Nat) (x84_18 : Bool), v84 = .bool x84_18 ∧ Aside0 (cooperagelaw8_LexTabs.j2 kq a0 a1 x84_18 = some r) ∧ Aside0 (kq ≤ k2) ∧ Aside0 (Below w.heap.size w wc))
        case first =>
         have H := HC19.out
         clear HC19
         by_cases c20 : a0.toList = ([] : List UInt8)
         ·rw [if_pos c20] at H
          have c20b0 : (a0.toList == ([] : List UInt8)) = true := beq_iff_eq.mpr c20
          have c20b1 : (a0.toList != ([] : List UInt8)) = false := bne_eq_false_iff_eq.mpr c20
          clear c20
          (first | rw [c20b0] | (simp only [i64_w, i32_w]; rw [c20b0]) | skip)
          have H' := Aside0.mk H
          clear H
          go_wp2
          go_meet
          case rel => exact ⟨_, (true), zS, H', ⟨by have := HJ3.out; have := HK2.out; first | omega | exact Nat.le_refl _⟩, ⟨zL HB.out⟩⟩
         ·rw [if_neg c20] at H
          have c20b0 : (a0.toList == ([] : List UInt8)) = false := beq_eq_false_iff_ne.mpr c20
          have c20b1 : (a0.toList != ([] : List UInt8)) = true := bne_iff_ne.mpr c20
          (first | rw [c20b0] | (simp only [i64_w, i32_w]; rw [c20b0]) | skip)
          by_cases c21 : 0 < (a0.size : Int)
          ·rw [if_pos c21] at H
           have c21b0 : decide (0 < (a0.size : Int)) = true := decide_eq_true c21
           have c21b1 : decide (0 < a0.size) = true := decide_eq_true (by omega)
           clear c21
           by_cases c23 : (bt a0 0) = 32
           ·rw [if_pos c23] at H
            have c23b0 : ((bt a0 0) == 32) = true := beq_iff_eq.mpr c23
            have c23b1 : ((bt a0 0) != 32) = false := bne_eq_false_iff_eq.mpr c23
            clear c23
            have H' := Aside0.mk H
            clear H
            have p22 : 0 ≤ (0 : Int) := (by omega)
            have q22 : 0 < a0.size := (by have : (0 : Int) < (a0.size : Int) := zD; omega)
            have hx22 : ∀ h : 0 < a0.size, ((a0[0]'h).toNat : Int) = bt a0 0 := bt_at a0 0
            clear p22
            have qi22 : (0 < (a0.size : Int)) = True := eq_true zD
            replace q22 := eq_true q22
            go_wp2
            go_meet
            case rel => exact ⟨_, (true), zS, H', ⟨by have := HJ3.out; have := HK2.out; first | omega | exact Nat.le_refl _⟩, ⟨zL HB.out⟩⟩
           ·rw [if_neg c23] at H
            have c23b0 : ((bt a0 0) == 32) = false := beq_eq_false_iff_ne.mpr c23
            have c23b1 : ((bt a0 0) != 32) = true := bne_iff_ne.mpr c23
            by_cases c25 : (bt a0 0) = 9
            ·rw [if_pos c25] at H
             have c25b0 : ((bt a0 0) == 9) = true := beq_iff_eq.mpr c25
             have c25b1 : ((bt a0 0) != 9) = false := bne_eq_false_iff_eq.mpr c25
             clear c25
             have H' := Aside0.mk H
             clear H
             have p22 : 0 ≤ (0 : Int) := (by omega)
             have q22 : 0 < a0.size := (by have : (0 : Int) < (a0.size : Int) := zD; omega)
             have hx22 : ∀ h : 0 < a0.size, ((a0[0]'h).toNat : Int) = bt a0 0 := bt_at a0 0
             clear p22
             have qi22 : (0 < (a0.size : Int)) = True := eq_true zD
             replace q22 := eq_true q22
             have p24 : 0 ≤ (0 : Int) := (by omega)
             have q24 : 0 < a0.size := (by have : (0 : Int) < (a0.size : Int) := zD; omega)
             have hx24 : ∀ h : 0 < a0.size, ((a0[0]'h).toNat : Int) = bt a0 0 := bt_at a0 0
             clear p24
             have qi24 : (0 < (a0.size : Int)) = True := eq_true zD
             replace q24 := eq_true q24
             go_wp2
             go_meet
             case rel => exact ⟨_, (true), zS, H', ⟨by have := HJ3.out; have := HK2.out; first | omega | exact Nat.le_refl _⟩, ⟨zL HB.out⟩⟩
            ·rw [if_neg c25] at H
             have c25b0 : ((bt a0 0) == 9) = false := beq_eq_false_iff_ne.mpr c25
             have c25b1 : ((bt a0 0) != 9) = true := bne_iff_ne.mpr c25
             obtain ⟨ji26, hji26⟩ : ∃ j_ : Int, (wrap64 ((a0.size : Int) - 1)) = j_ := ⟨_, rfl⟩
             replace H : (if 0 ≤ (ji26) then (if (ji26) < (a0.size : Int) then (if (bt a0 (ji26)) = 32 then (cooperagelaw8_LexTabs.j2 k2 a0 a1 true) else (cooperagelaw8_LexTabs.j2 k2 a0 a1 ((bt a0 (ji26)) == 9))) else (none)) else (none)) = some r := by first | (rw [hji26] at H; exact H) | (simp only [hji26] at H ⊢; exact H)
             have hji26w : (IntKind.i64.wrap ((a0.size : Int) - 1)) = ji26 := (i64_w _).trans hji26
             by_cases c27 : 0 ≤ (ji26)
             ·rw [if_pos c27] at H
              have c27b0 : decide (0 ≤ (ji26)) = true := decide_eq_true c27
              clear c27
              by_cases c28 : (ji26) < (a0.size : Int)
              ·rw [if_pos c28] at H
               have c28b0 : decide ((ji26) < (a0.size : Int)) = true := decide_eq_true c28
               clear c28
               by_cases c30 : (bt a0 (ji26)) = 32
               ·rw [if_pos c30] at H
                have c30b0 : ((bt a0 (ji26)) == 32) = true := beq_iff_eq.mpr c30
                have c30b1 : ((bt a0 (ji26)) != 32) = false := bne_eq_false_iff_eq.mpr c30
                clear c30
                have H' := Aside0.mk H
                clear H
                have p22 : 0 ≤ (0 : Int) := (by omega)
                have q22 : 0 < a0.size := (by have : (0 : Int) < (a0.size : Int) := zD; omega)
                have hx22 : ∀ h : 0 < a0.size, ((a0[0]'h).toNat : Int) = bt a0 0 := bt_at a0 0
                clear p22
                have qi22 : (0 < (a0.size : Int)) = True := eq_true zD
                replace q22 := eq_true q22
                have p24 : 0 ≤ (0 : Int) := (by omega)
                have q24 : 0 < a0.size := (by have : (0 : Int) < (a0.size : Int) := zD; omega)
                have hx24 : ∀ h : 0 < a0.size, ((a0[0]'h).toNat : Int) = bt a0 0 := bt_at a0 0
                clear p24
                have qi24 : (0 < (a0.size : Int)) = True := eq_true zD
                replace q24 := eq_true q24
                have p29 : 0 ≤ ((ji26) : Int) := zD
                have q29 : (ji26) < (a0.size : Int) := zD
                have hx29 := bt_at a0 (ji26)
                replace p29 := eq_true p29
                replace q29 := eq_true q29
                go_wp2
                go_meet
                case rel => exact ⟨_, (true), zS, H', ⟨by have := HJ3.out; have := HK2.out; first | omega | exact Nat.le_refl _⟩, ⟨zL HB.out⟩⟩
               ·rw [if_neg c30] at H
                have c30b0 : ((bt a0 (ji26)) == 32) = false := beq_eq_false_iff_ne.mpr c30
                have c30b1 : ((bt a0 (ji26)) != 32) = true := bne_iff_ne.mpr c30
                have H' := Aside0.mk H
                clear H
                have p22 : 0 ≤ (0 : Int) := (by omega)
                have q22 : 0 < a0.size := (by have : (0 : Int) < (a0.size : Int) := zD; omega)
                have hx22 : ∀ h : 0 < a0.size, ((a0[0]'h).toNat : Int) = bt a0 0 := bt_at a0 0
                clear p22
                have qi22 : (0 < (a0.size : Int)) = True := eq_true zD
                replace q22 := eq_true q22
                have p24 : 0 ≤ (0 : Int) := (by omega)
                have q24 : 0 < a0.size := (by have : (0 : Int) < (a0.size : Int) := zD; omega)
                have hx24 : ∀ h : 0 < a0.size, ((a0[0]'h).toNat : Int) = bt a0 0 := bt_at a0 0
                clear p24
                have qi24 : (0 < (a0.size : Int)) = True := eq_true zD
                replace q24 := eq_true q24
                have p29 : 0 ≤ ((ji26) : Int) := zD
                have q29 : (ji26) < (a0.size : Int) := zD
                have hx29 := bt_at a0 (ji26)
                replace p29 := eq_true p29
                replace q29 := eq_true q29
                have p31 : 0 ≤ ((ji26) : Int) := zD
                have q31 : (ji26) < (a0.size : Int) := zD
                have hx31 := bt_at a0 (ji26)
                replace p31 := eq_true p31
                replace q31 := eq_true q31
                go_wp2
                go_meet
                case rel => exact ⟨_, (((bt a0 (ji26)) == 9)), (by first | rfl | (simp; done) | (simp only [← hji26] <;> (first | rfl | simp)) | (simp [*]; done)), H', ⟨by have := HJ3.out; have := HK2.out; first | omega | exact Nat.le_refl _⟩, ⟨zL HB.out⟩⟩
              ·rw [if_neg c28] at H
               exact absurd H (by simp)
             ·rw [if_neg c27] at H
              exact absurd H (by simp)
          ·rw [if_neg c21] at H
           exact absurd H (by simp)
        case rest =>
         clear HC19
         try clear c1
         try clear p1
         try clear q1
         try clear hx1
         try clear c2
         try clear p2
         try clear q2
         try clear hx2
         try clear qi2
         try clear c3
         try clear p3
         try clear q3
         try clear hx3
         try clear c6
         try clear p6
         try clear c7
         try clear c7b0
         try clear c7b1
         try clear c8
         try clear c9
         try clear c9b0
         try clear c9b1
         try clear c9b2
         try clear c10
         try clear c10b0
         try clear c11
         try clear c11b0
         try clear p12
         try clear q12
         try clear hx12
         try clear c13
         try clear c13b0
         try clear c13b1
         try clear p14
         try clear q14
         try clear hx14
         try clear c15
         try clear c15b0
         try clear c15b1
         try clear c16
         try clear c16b0
         try clear p17
         try clear q17
         try clear hx17
         try clear c18
         try clear c18b0
         try clear c18b1
         try clear c20
         try clear c20b0
         try clear c20b1
         try clear c21
         try clear c21b0
         try clear c21b1
         try clear p22
         try clear q22
         try clear hx22
         try clear qi22
         try clear c23
         try clear c23b0
         try clear c23b1
         try clear p24
         try clear q24
         try clear hx24
         try clear qi24
         try clear c25
         try clear c25b0
         try clear c25b1
         try clear c27
         try clear c27b0
         try clear c28
         try clear c28b0
         try clear p29
         try clear q29
         try clear hx29
         try clear c30
         try clear c30b0
         try clear c30b1
         try clear p31
         try clear q31
         try clear hx31
         try clear p12
         try clear p14
         try clear p17
         try clear p2
         try clear p22
         try clear p24
         try clear p29
         try clear p31
         try clear q12
         try clear q14
         try clear q17
         try clear q22
         try clear q24
         try clear q29
         try clear q31
         obtain ⟨kq, x84_18, rfl, HA, HJ18, HB⟩ := hcut
         cases kq with
         | zero => exact absurd HA.out (by simp [cooperagelaw8_LexTabs.j2])
         | succ kj18 =>
          have H := HA.out
          clear HA
          simp only [cooperagelaw8_LexTabs.j2] at H
          by_cases c32 : x84_18 = true
          ·subst c32
           have H1 : (some true) = some r := by rw [if_pos rfl] at H; exact H
           clear H
           have H := H1
           clear H1
           obtain rfl := Option.some.inj H
           go_wp2
           go_ret
           exact ⟨zE, zL HB.out⟩
          ·replace c32 := Bool.eq_false_iff.mpr c32
           subst c32
           have H1 : (cooperagelaw8_LexTabs.l1 kj18 a0 a1 a1) = some r := by rw [if_neg (show ¬ (false = true) by decide)] at H; exact H
           clear H
           have H := H1
           clear H1
           have H' := Aside0.mk H
           clear H
           go_wp2
           go_loopg [8] kj18 (fun kq v8 w' => ∃ (x8_4 : ByteArray), v8 = .string x8_4 ∧ Aside0 (cooperagelaw8_LexTabs.l1 kq a0 a1 x8_4 = some r) ∧ Aside0 (kq ≤ kj18) ∧ Aside0 (Below w.heap.size w w'))
           case atStart => exact ⟨(a1), zS, H', ⟨Nat.le_refl _⟩, ⟨zL HB.out⟩⟩
           case round =>
            clear H'
            try clear c1
            try clear p1
            try clear q1
            try clear hx1
            try clear c2
            try clear p2
            try clear q2
            try clear hx2
            try clear qi2
            try clear c3
            try clear p3
            try clear q3
            try clear hx3
            try clear c6
            try clear p6
            try clear c7
            try clear c7b0
            try clear c7b1
            try clear c8
            try clear c9
            try clear c9b0
            try clear c9b1
            try clear c9b2
            try clear c10
            try clear c10b0
            try clear c11
            try clear c11b0
            try clear p12
            try clear q12
            try clear hx12
            try clear c13
            try clear c13b0
            try clear c13b1
            try clear p14
            try clear q14
            try clear hx14
            try clear c15
            try clear c15b0
            try clear c15b1
            try clear c16
            try clear c16b0
            try clear p17
            try clear q17
            try clear hx17
            try clear c18
            try clear c18b0
            try clear c18b1
            try clear c20
            try clear c20b0
            try clear c20b1
            try clear c21
            try clear c21b0
            try clear c21b1
            try clear p22
            try clear q22
            try clear hx22
            try clear qi22
            try clear c23
            try clear c23b0
            try clear c23b1
            try clear p24
            try clear q24
            try clear hx24
            try clear qi24
            try clear c25
            try clear c25b0
            try clear c25b1
            try clear c27
            try clear c27b0
            try clear c28
            try clear c28b0
            try clear p29
            try clear q29
            try clear hx29
            try clear c30
            try clear c30b0
            try clear c30b1
            try clear p31
            try clear q31
            try clear hx31
            try clear c32
            try clear p1
            try clear p12
            try clear p14
            try clear p17
            try clear p2
            try clear p22
            try clear p24
            try clear p29
            try clear p3
            try clear p31
            try clear p6
            try clear q1
            try clear q12
            try clear q14
            try clear q17
            try clear q2
            try clear q22
            try clear q24
            try clear q29
            try clear q3
            try clear q31
            obtain ⟨x8_4, rfl, HA, HK4, HB⟩ := hrel
            cases gk with
            | zero => exact absurd HA.out (by simp [cooperagelaw8_LexTabs.l1])
            | succ k4 =>
             have H := HA.out
             clear HA
             simp only [cooperagelaw8_LexTabs.l1] at H
             by_cases c33 : x8_4.toList = ([] : List UInt8)
             ·rw [if_pos c33] at H
              have c33b0 : (x8_4.toList == ([] : List UInt8)) = true := beq_iff_eq.mpr c33
              have c33b1 : (x8_4.toList != ([] : List UInt8)) = false := bne_eq_false_iff_eq.mpr c33
              clear c33
              by_cases c34 : 1 + a0.size ≤ 9223372036854775807
              ·rw [if_pos c34] at H
               have c34b0 := eq_true c34
               have c34b1 : decide (1 + a0.size ≤ 9223372036854775807) = true := decide_eq_true c34
               try have c34b2 : (9223372036854775807 < 1 + a0.size) = False := eq_false (Nat.not_lt.2 c34)
               by_cases c35 : ((⟨#[9]⟩ : ByteArray) ++ a0).size + 2 ≤ 9223372036854775807
               ·rw [if_pos c35] at H
                have c35b0 := eq_true c35
                try (have c35b0s := c35b0; simp only [ByteArray.size_append, Int.natCast_add, Int.toNat_natCast] at c35b0s)
                try (have c35b0l := c35b0; simp only [ByteArray.size_append, Pl.lit_size, List.size_toArray, List.length_cons, List.length_nil, Nat.reduceAdd, Int.natCast_add, Int.toNat_natCast] at c35b0l)
                have c35b1 : decide (((⟨#[9]⟩ : ByteArray) ++ a0).size + 2 ≤ 9223372036854775807) = true := decide_eq_true c35
                try (have c35b1s := c35b1; simp only [ByteArray.size_append, Int.natCast_add, Int.toNat_natCast] at c35b1s)
                try (have c35b1l := c35b1; simp only [ByteArray.size_append, Pl.lit_size, List.size_toArray, List.length_cons, List.length_nil, Nat.reduceAdd, Int.natCast_add, Int.toNat_natCast] at c35b1l)
                try have c35b2 : (9223372036854775807 < ((⟨#[9]⟩ : ByteArray) ++ a0).size + 2) = False := eq_false (Nat.not_lt.2 c35)
                try (have c35b2s := c35b2; simp only [ByteArray.size_append, Int.natCast_add, Int.toNat_natCast] at c35b2s)
                try (have c35b2l := c35b2; simp only [ByteArray.size_append, Pl.lit_size, List.size_toArray, List.length_cons, List.length_nil, Nat.reduceAdd, Int.natCast_add, Int.toNat_natCast] at c35b2l)
                by_cases c36 : (((⟨#[9]⟩ : ByteArray) ++ a0) ++ (⟨#[32, 35]⟩ : ByteArray)).size + a1.size ≤ 9223372036854775807
                ·rw [if_pos c36] at H
                 have c36b0 := eq_true c36
                 try (have c36b0s := c36b0; simp only [ByteArray.size_append, Int.natCast_add, Int.toNat_natCast] at c36b0s)
                 try (have c36b0l := c36b0; simp only [ByteArray.size_append, Pl.lit_size, List.size_toArray, List.length_cons, List.length_nil, Nat.reduceAdd, Int.natCast_add, Int.toNat_natCast] at c36b0l)
                 have c36b1 : decide ((((⟨#[9]⟩ : ByteArray) ++ a0) ++ (⟨#[32, 35]⟩ : ByteArray)).size + a1.size ≤ 9223372036854775807) = true := decide_eq_true c36
                 try (have c36b1s := c36b1; simp only [ByteArray.size_append, Int.natCast_add, Int.toNat_natCast] at c36b1s)
                 try (have c36b1l := c36b1; simp only [ByteArray.size_append, Pl.lit_size, List.size_toArray, List.length_cons, List.length_nil, Nat.reduceAdd, Int.natCast_add, Int.toNat_natCast] at c36b1l)
                 try have c36b2 : (9223372036854775807 < (((⟨#[9]⟩ : ByteArray) ++ a0) ++ (⟨#[32, 35]⟩ : ByteArray)).size + a1.size) = False := eq_false (Nat.not_lt.2 c36)
                 try (have c36b2s := c36b2; simp only [ByteArray.size_append, Int.natCast_add, Int.toNat_natCast] at c36b2s)
                 try (have c36b2l := c36b2; simp only [ByteArray.size_append, Pl.lit_size, List.size_toArray, List.length_cons, List.length_nil, Nat.reduceAdd, Int.natCast_add, Int.toNat_natCast] at c36b2l)
                 by_cases c37 : ((((⟨#[9]⟩ : ByteArray) ++ a0) ++ (⟨#[32, 35]⟩ : ByteArray)) ++ a1).size + 1 ≤ 9223372036854775807
                 ·rw [if_pos c37] at H
                  have c37b0 := eq_true c37
                  try (have c37b0s := c37b0; simp only [ByteArray.size_append, Int.natCast_add, Int.toNat_natCast] at c37b0s)
                  try (have c37b0l := c37b0; simp only [ByteArray.size_append, Pl.lit_size, List.size_toArray, List.length_cons, List.length_nil, Nat.reduceAdd, Int.natCast_add, Int.toNat_natCast] at c37b0l)
                  have c37b1 : decide (((((⟨#[9]⟩ : ByteArray) ++ a0) ++ (⟨#[32, 35]⟩ : ByteArray)) ++ a1).size + 1 ≤ 9223372036854775807) = true := decide_eq_true c37
                  try (have c37b1s := c37b1; simp only [ByteArray.size_append, Int.natCast_add, Int.toNat_natCast] at c37b1s)
                  try (have c37b1l := c37b1; simp only [ByteArray.size_append, Pl.lit_size, List.size_toArray, List.length_cons, List.length_nil, Nat.reduceAdd, Int.natCast_add, Int.toNat_natCast] at c37b1l)
                  try have c37b2 : (9223372036854775807 < ((((⟨#[9]⟩ : ByteArray) ++ a0) ++ (⟨#[32, 35]⟩ : ByteArray)) ++ a1).size + 1) = False := eq_false (Nat.not_lt.2 c37)
                  try (have c37b2s := c37b2; simp only [ByteArray.size_append, Int.natCast_add, Int.toNat_natCast] at c37b2s)
                  try (have c37b2l := c37b2; simp only [ByteArray.size_append, Pl.lit_size, List.size_toArray, List.length_cons, List.length_nil, Nat.reduceAdd, Int.natCast_add, Int.toNat_natCast] at c37b2l)
                  by_cases c38 : (((((⟨#[9]⟩ : ByteArray) ++ a0) ++ (⟨#[32, 35]⟩ : ByteArray)) ++ a1) ++ (⟨#[10]⟩ : ByteArray)).size + a0.size ≤ 9223372036854775807
                  ·rw [if_pos c38] at H
                   have c38b0 := eq_true c38
                   try (have c38b0s := c38b0; simp only [ByteArray.size_append, Int.natCast_add, Int.toNat_natCast] at c38b0s)
                   try (have c38b0l := c38b0; simp only [ByteArray.size_append, Pl.lit_size, List.size_toArray, List.length_cons, List.length_nil, Nat.reduceAdd, Int.natCast_add, Int.toNat_natCast] at c38b0l)
                   have c38b1 : decide ((((((⟨#[9]⟩ : ByteArray) ++ a0) ++ (⟨#[32, 35]⟩ : ByteArray)) ++ a1) ++ (⟨#[10]⟩ : ByteArray)).size + a0.size ≤ 9223372036854775807) = true := decide_eq_true c38
                   try (have c38b1s := c38b1; simp only [ByteArray.size_append, Int.natCast_add, Int.toNat_natCast] at c38b1s)
                   try (have c38b1l := c38b1; simp only [ByteArray.size_append, Pl.lit_size, List.size_toArray, List.length_cons, List.length_nil, Nat.reduceAdd, Int.natCast_add, Int.toNat_natCast] at c38b1l)
                   try have c38b2 : (9223372036854775807 < (((((⟨#[9]⟩ : ByteArray) ++ a0) ++ (⟨#[32, 35]⟩ : ByteArray)) ++ a1) ++ (⟨#[10]⟩ : ByteArray)).size + a0.size) = False := eq_false (Nat.not_lt.2 c38)
                   try (have c38b2s := c38b2; simp only [ByteArray.size_append, Int.natCast_add, Int.toNat_natCast] at c38b2s)
                   try (have c38b2l := c38b2; simp only [ByteArray.size_append, Pl.lit_size, List.size_toArray, List.length_cons, List.length_nil, Nat.reduceAdd, Int.natCast_add, Int.toNat_natCast] at c38b2l)
                   by_cases c39 : ((((((⟨#[9]⟩ : ByteArray) ++ a0) ++ (⟨#[32, 35]⟩ : ByteArray)) ++ a1) ++ (⟨#[10]⟩ : ByteArray)) ++ a0).size + 2 ≤ 9223372036854775807
                   ·rw [if_pos c39] at H
                    have c39b0 := eq_true c39
                    try (have c39b0s := c39b0; simp only [ByteArray.size_append, Int.natCast_add, Int.toNat_natCast] at c39b0s)
                    try (have c39b0l := c39b0; simp only [ByteArray.size_append, Pl.lit_size, List.size_toArray, List.length_cons, List.length_nil, Nat.reduceAdd, Int.natCast_add, Int.toNat_natCast] at c39b0l)
                    have c39b1 : decide (((((((⟨#[9]⟩ : ByteArray) ++ a0) ++ (⟨#[32, 35]⟩ : ByteArray)) ++ a1) ++ (⟨#[10]⟩ : ByteArray)) ++ a0).size + 2 ≤ 9223372036854775807) = true := decide_eq_true c39
                    try (have c39b1s := c39b1; simp only [ByteArray.size_append, Int.natCast_add, Int.toNat_natCast] at c39b1s)
                    try (have c39b1l := c39b1; simp only [ByteArray.size_append, Pl.lit_size, List.size_toArray, List.length_cons, List.length_nil, Nat.reduceAdd, Int.natCast_add, Int.toNat_natCast] at c39b1l)
                    try have c39b2 : (9223372036854775807 < ((((((⟨#[9]⟩ : ByteArray) ++ a0) ++ (⟨#[32, 35]⟩ : ByteArray)) ++ a1) ++ (⟨#[10]⟩ : ByteArray)) ++ a0).size + 2) = False := eq_false (Nat.not_lt.2 c39)
                    try (have c39b2s := c39b2; simp only [ByteArray.size_append, Int.natCast_add, Int.toNat_natCast] at c39b2s)
                    try (have c39b2l := c39b2; simp only [ByteArray.size_append, Pl.lit_size, List.size_toArray, List.length_cons, List.length_nil, Nat.reduceAdd, Int.natCast_add, Int.toNat_natCast] at c39b2l)
                    by_cases c40 : (((((((⟨#[9]⟩ : ByteArray) ++ a0) ++ (⟨#[32, 35]⟩ : ByteArray)) ++ a1) ++ (⟨#[10]⟩ : ByteArray)) ++ a0) ++ (⟨#[32, 35]⟩ : ByteArray)).size + a1.size ≤ 9223372036854775807
                    ·rw [if_pos c40] at H
                     have c40b0 := eq_true c40
                     try (have c40b0s := c40b0; simp only [ByteArray.size_append, Int.natCast_add, Int.toNat_natCast] at c40b0s)
                     try (have c40b0l := c40b0; simp only [ByteArray.size_append, Pl.lit_size, List.size_toArray, List.length_cons, List.length_nil, Nat.reduceAdd, Int.natCast_add, Int.toNat_natCast] at c40b0l)
                     have c40b1 : decide ((((((((⟨#[9]⟩ : ByteArray) ++ a0) ++ (⟨#[32, 35]⟩ : ByteArray)) ++ a1) ++ (⟨#[10]⟩ : ByteArray)) ++ a0) ++ (⟨#[32, 35]⟩ : ByteArray)).size + a1.size ≤ 9223372036854775807) = true := decide_eq_true c40
                     try (have c40b1s := c40b1; simp only [ByteArray.size_append, Int.natCast_add, Int.toNat_natCast] at c40b1s)
                     try (have c40b1l := c40b1; simp only [ByteArray.size_append, Pl.lit_size, List.size_toArray, List.length_cons, List.length_nil, Nat.reduceAdd, Int.natCast_add, Int.toNat_natCast] at c40b1l)
                     try have c40b2 : (9223372036854775807 < (((((((⟨#[9]⟩ : ByteArray) ++ a0) ++ (⟨#[32, 35]⟩ : ByteArray)) ++ a1) ++ (⟨#[10]⟩ : ByteArray)) ++ a0) ++ (⟨#[32, 35]⟩ : ByteArray)).size + a1.size) = False := eq_false (Nat.not_lt.2 c40)
                     try (have c40b2s := c40b2; simp only [ByteArray.size_append, Int.natCast_add, Int.toNat_natCast] at c40b2s)
                     try (have c40b2l := c40b2; simp only [ByteArray.size_append, Pl.lit_size, List.size_toArray, List.length_cons, List.length_nil, Nat.reduceAdd, Int.natCast_add, Int.toNat_natCast] at c40b2l)
                     by_cases c41 : ((((((((⟨#[9]⟩ : ByteArray) ++ a0) ++ (⟨#[32, 35]⟩ : ByteArray)) ++ a1) ++ (⟨#[10]⟩ : ByteArray)) ++ a0) ++ (⟨#[32, 35]⟩ : ByteArray)) ++ a1).size + 1 ≤ 9223372036854775807
                     ·rw [if_pos c41] at H
                      have c41b0 := eq_true c41
                      try (have c41b0s := c41b0; simp only [ByteArray.size_append, Int.natCast_add, Int.toNat_natCast] at c41b0s)
                      try (have c41b0l := c41b0; simp only [ByteArray.size_append, Pl.lit_size, List.size_toArray, List.length_cons, List.length_nil, Nat.reduceAdd, Int.natCast_add, Int.toNat_natCast] at c41b0l)
                      have c41b1 : decide (((((((((⟨#[9]⟩ : ByteArray) ++ a0) ++ (⟨#[32, 35]⟩ : ByteArray)) ++ a1) ++ (⟨#[10]⟩ : ByteArray)) ++ a0) ++ (⟨#[32, 35]⟩ : ByteArray)) ++ a1).size + 1 ≤ 9223372036854775807) = true := decide_eq_true c41
                      try (have c41b1s := c41b1; simp only [ByteArray.size_append, Int.natCast_add, Int.toNat_natCast] at c41b1s)
                      try (have c41b1l := c41b1; simp only [ByteArray.size_append, Pl.lit_size, List.size_toArray, List.length_cons, List.length_nil, Nat.reduceAdd, Int.natCast_add, Int.toNat_natCast] at c41b1l)
                      try have c41b2 : (9223372036854775807 < ((((((((⟨#[9]⟩ : ByteArray) ++ a0) ++ (⟨#[32, 35]⟩ : ByteArray)) ++ a1) ++ (⟨#[10]⟩ : ByteArray)) ++ a0) ++ (⟨#[32, 35]⟩ : ByteArray)) ++ a1).size + 1) = False := eq_false (Nat.not_lt.2 c41)
                      try (have c41b2s := c41b2; simp only [ByteArray.size_append, Int.natCast_add, Int.toNat_natCast] at c41b2s)
                      try (have c41b2l := c41b2; simp only [ByteArray.size_append, Pl.lit_size, List.size_toArray, List.length_cons, List.length_nil, Nat.reduceAdd, Int.natCast_add, Int.toNat_natCast] at c41b2l)
                      replace H := Option.bind_eq_some_iff.mp H
                      obtain ⟨⟨t177, t178, t179⟩, A420, H⟩ := H
                      replace H : (if t178 = 0 then (if t179 = 0 then (if (t177.length : Int) = 2 then (if 0 < (t177.length : Int) then (if a0.size + 2 ≤ 9223372036854775807 then (if (a0 ++ (⟨#[32, 35]⟩ : ByteArray)).size + x8_4.size ≤ 9223372036854775807 then (if (((rd_T28 t177 0).f0) == 1 && (((rd_T28 t177 0).f1) && ((((rd_T28 t177 0).f2).toList) == (((a0 ++ (⟨#[32, 35]⟩ : ByteArray)) ++ x8_4).toList)))) = true then (if 1 < (t177.length : Int) then (some (((rd_T28 t177 1).f0) == 2 && (!((rd_T28 t177 1).f1) && ((((rd_T28 t177 1).f2).toList) == a0.toList)))) else (none)) else (some false)) else (none)) else (none)) else (none)) else (some false)) else (some false)) else (some false)) = some r := H
                      have A42 := Aside0.mk A420
                      clear A420
                      by_cases c43 : t178 = 0
                      ·rw [if_pos c43] at H
                       have c43b0 : (t178 == 0) = true := beq_iff_eq.mpr c43
                       have c43b1 : (t178 != 0) = false := bne_eq_false_iff_eq.mpr c43
                       clear c43
                       by_cases c44 : t179 = 0
                       ·rw [if_pos c44] at H
                        have c44b0 : (t179 == 0) = true := beq_iff_eq.mpr c44
                        have c44b1 : (t179 != 0) = false := bne_eq_false_iff_eq.mpr c44
                        clear c44
                        by_cases c45 : (t177.length : Int) = 2
                        ·rw [if_pos c45] at H
                         have c45b0 : ((t177.length : Int) == 2) = true := beq_iff_eq.mpr c45
                         have c45b1 : ((t177.length : Int) != 2) = false := bne_eq_false_iff_eq.mpr c45
                         clear c45
                         by_cases c46 : 0 < (t177.length : Int)
                         ·rw [if_pos c46] at H
                          have c46b0 : decide (0 < (t177.length : Int)) = true := decide_eq_true c46
                          have c46b1 : decide (0 < t177.length) = true := decide_eq_true (by omega)
                          clear c46
                          by_cases c47 : a0.size + 2 ≤ 9223372036854775807
                          ·rw [if_pos c47] at H
                           have c47b0 := eq_true c47
                           have c47b1 : decide (a0.size + 2 ≤ 9223372036854775807) = true := decide_eq_true c47
                           try have c47b2 : (9223372036854775807 < a0.size + 2) = False := eq_false (Nat.not_lt.2 c47)
                           by_cases c48 : (a0 ++ (⟨#[32, 35]⟩ : ByteArray)).size + x8_4.size ≤ 9223372036854775807
                           ·rw [if_pos c48] at H
                            have c48b0 := eq_true c48
                            try (have c48b0s := c48b0; simp only [ByteArray.size_append, Int.natCast_add, Int.toNat_natCast] at c48b0s)
                            try (have c48b0l := c48b0; simp only [ByteArray.size_append, Pl.lit_size, List.size_toArray, List.length_cons, List.length_nil, Nat.reduceAdd, Int.natCast_add, Int.toNat_natCast] at c48b0l)
                            have c48b1 : decide ((a0 ++ (⟨#[32, 35]⟩ : ByteArray)).size + x8_4.size ≤ 9223372036854775807) = true := decide_eq_true c48
                            try (have c48b1s := c48b1; simp only [ByteArray.size_append, Int.natCast_add, Int.toNat_natCast] at c48b1s)
                            try (have c48b1l := c48b1; simp only [ByteArray.size_append, Pl.lit_size, List.size_toArray, List.length_cons, List.length_nil, Nat.reduceAdd, Int.natCast_add, Int.toNat_natCast] at c48b1l)
                            try have c48b2 : (9223372036854775807 < (a0 ++ (⟨#[32, 35]⟩ : ByteArray)).size + x8_4.size) = False := eq_false (Nat.not_lt.2 c48)
                            try (have c48b2s := c48b2; simp only [ByteArray.size_append, Int.natCast_add, Int.toNat_natCast] at c48b2s)
                            try (have c48b2l := c48b2; simp only [ByteArray.size_append, Pl.lit_size, List.size_toArray, List.length_cons, List.length_nil, Nat.reduceAdd, Int.natCast_add, Int.toNat_natCast] at c48b2l)
                            by_cases c49 : (((rd_T28 t177 0).f0) == 1 && (((rd_T28 t177 0).f1) && ((((rd_T28 t177 0).f2).toList) == (((a0 ++ (⟨#[32, 35]⟩ : ByteArray)) ++ x8_4).toList)))) = true
                            ·rw [if_pos c49] at H
                             have c49b0 : (((rd_T28 t177 0).f0) == 1 && (((rd_T28 t177 0).f1) && ((((rd_T28 t177 0).f2).toList) == (((a0 ++ (⟨#[32, 35]⟩ : ByteArray)) ++ x8_4).toList)))) = true := c49
                             (try (have c49b1 : decide (((rd_T28 t177 0).f0) = 1 && (((rd_T28 t177 0).f1) && ((((rd_T28 t177 0).f2).toList) == (((a0 ++ (⟨#[32, 35]⟩ : ByteArray)) ++ x8_4).toList)))) = true := by simpa using c49))
                             (try (have c49b2 : (((rd_T28 t177 0).f0) == 1 && (((rd_T28 t177 0).f1) && ((((rd_T28 t177 0).f2).toList) == (((a0 ++ (⟨#[32, 35]⟩ : ByteArray)) ++ x8_4).toList)))) = true := by simpa using c49))
                             clear c49
                             by_cases c50 : 1 < (t177.length : Int)
                             ·rw [if_pos c50] at H
                              have c50b0 : decide (1 < (t177.length : Int)) = true := decide_eq_true c50
                              have c50b1 : decide (1 < t177.length) = true := decide_eq_true (by omega)
                              clear c50
                              obtain rfl := Option.some.inj H
                              go_wp2_with (first | ((with_reducible refine gate_callee (f := 9) rfl ?_); refine goesL_ (some 122) rfl rfl Tryd.func9 (by kernel_rfl) rfl #[.string (((((((((⟨#[9]⟩ : ByteArray) ++ a0) ++ (⟨#[32, 35]⟩ : ByteArray)) ++ a1) ++ (⟨#[10]⟩ : ByteArray)) ++ a0) ++ (⟨#[32, 35]⟩ : ByteArray)) ++ a1) ++ (⟨#[10]⟩ : ByteArray))] rfl zA ?_; (with_reducible refine (lex_Lex.calls k4 (((((((((⟨#[9]⟩ : ByteArray) ++ a0) ++ (⟨#[32, 35]⟩ : ByteArray)) ++ a1) ++ (⟨#[10]⟩ : ByteArray)) ++ a0) ++ (⟨#[32, 35]⟩ : ByteArray)) ++ a1) ++ (⟨#[10]⟩ : ByteArray)) t177 t178 t179 _ A42.out).mono ?_); rintro e w51 ⟨v180, rfl, ho0, hb⟩; refine ⟨_, rfl, ?_⟩; have n0_ := Aside0.mk (Kd.R_lower ho0 (below_size (zL HB.out))); have n1_ := Aside0.mk (below_step (zL HB.out) hb); revert n0_ n1_; clear HB; intro HO181 HB; (try clear hb); (try clear hb2); (try clear hk); (try clear hi); (try clear ho0); obtain ⟨Ao52, co52, eo52⟩ := Kd.R_slice HO181.out; subst eo52; have p182 : 0 ≤ (0 : Int) := (by omega); have q182 : 0 < (t177.length : Int) := zD; obtain ⟨ad182, e182, hx182_0, hx182_1, hx182_2⟩ := at_T28 (Kd.R_reads' HO181.out).2.2 0 p182 q182; cases e182; have qi182 : (0 < t177.length) = True := eq_true (by omega); (try rw [show ((0 : Int)).toNat = 0 from rfl] at hx182_0); (try rw [show 0 * 3 = 0 from rfl] at hx182_0); (try rw [Addr.add_zero'] at hx182_0); (try rw [show ((0 : Int)).toNat = 0 from rfl] at hx182_1); (try rw [show 0 * 3 = 0 from rfl] at hx182_1); (try rw [Addr.add_zero'] at hx182_1); (try rw [show ((0 : Int)).toNat = 0 from rfl] at hx182_2); (try rw [show 0 * 3 = 0 from rfl] at hx182_2); (try rw [Addr.add_zero'] at hx182_2); replace p182 := eq_true p182; replace q182 := eq_true q182; have p183 : 0 ≤ (1 : Int) := (by omega); have q183 : 1 < (t177.length : Int) := zD; obtain ⟨ad183, e183, hx183_0, hx183_1, hx183_2⟩ := at_T28 (Kd.R_reads' HO181.out).2.2 1 p183 q183; obtain rfl : ad182 = ad183 := (by injection e183); (try simp only [show (1 : Int).toNat = 1 from rfl, Nat.reduceMul, Nat.reduceEqDiff, Go.Addr.add, ↓reduceIte] at hx183_0); (try simp only [show (1 : Int).toNat = 1 from rfl, Nat.reduceMul, Nat.reduceEqDiff, Go.Addr.add, ↓reduceIte] at hx183_1); (try simp only [show (1 : Int).toNat = 1 from rfl, Nat.reduceMul, Nat.reduceEqDiff, Go.Addr.add, ↓reduceIte] at hx183_2); have qi183 : (1 < t177.length) = True := eq_true (by omega); (try rw [show ((1 : Int)).toNat = 1 from rfl] at hx183_0); (try rw [show 1 * 3 = 3 from rfl] at hx183_0); (try rw [show ((1 : Int)).toNat = 1 from rfl] at hx183_1); (try rw [show 1 * 3 = 3 from rfl] at hx183_1); (try rw [show ((1 : Int)).toNat = 1 from rfl] at hx183_2); (try rw [show 1 * 3 = 3 from rfl] at hx183_2); replace p183 := eq_true p183; replace q183 := eq_true q183))
                              go_ret
                              exact ⟨zE, zL HB.out⟩
                             ·rw [if_neg c50] at H
                              exact absurd H (by simp)
                            ·rw [if_neg c49] at H
                             have c49b0 : (((rd_T28 t177 0).f0) == 1 && (((rd_T28 t177 0).f1) && ((((rd_T28 t177 0).f2).toList) == (((a0 ++ (⟨#[32, 35]⟩ : ByteArray)) ++ x8_4).toList)))) = false := by simpa using c49
                             (try (have c49b1 : decide (((rd_T28 t177 0).f0) = 1 && (((rd_T28 t177 0).f1) && ((((rd_T28 t177 0).f2).toList) == (((a0 ++ (⟨#[32, 35]⟩ : ByteArray)) ++ x8_4).toList)))) = false := by simpa using c49))
                             (try (have c49b2 : (((rd_T28 t177 0).f0) == 1 && (((rd_T28 t177 0).f1) && ((((rd_T28 t177 0).f2).toList) == (((a0 ++ (⟨#[32, 35]⟩ : ByteArray)) ++ x8_4).toList)))) = false := by simpa using c49))
                             (try (have c49b3 : ¬ (((rd_T28 t177 0).f0) = 1 && (((rd_T28 t177 0).f1) && ((((rd_T28 t177 0).f2).toList) == (((a0 ++ (⟨#[32, 35]⟩ : ByteArray)) ++ x8_4).toList)))) := by simpa using c49))
                             clear c49
                             obtain rfl := Option.some.inj H
                             go_wp2_with (first | ((with_reducible refine gate_callee (f := 9) rfl ?_); refine goesL_ (some 122) rfl rfl Tryd.func9 (by kernel_rfl) rfl #[.string (((((((((⟨#[9]⟩ : ByteArray) ++ a0) ++ (⟨#[32, 35]⟩ : ByteArray)) ++ a1) ++ (⟨#[10]⟩ : ByteArray)) ++ a0) ++ (⟨#[32, 35]⟩ : ByteArray)) ++ a1) ++ (⟨#[10]⟩ : ByteArray))] rfl zA ?_; (with_reducible refine (lex_Lex.calls k4 (((((((((⟨#[9]⟩ : ByteArray) ++ a0) ++ (⟨#[32, 35]⟩ : ByteArray)) ++ a1) ++ (⟨#[10]⟩ : ByteArray)) ++ a0) ++ (⟨#[32, 35]⟩ : ByteArray)) ++ a1) ++ (⟨#[10]⟩ : ByteArray)) t177 t178 t179 _ A42.out).mono ?_); rintro e w53 ⟨v180, rfl, ho0, hb⟩; refine ⟨_, rfl, ?_⟩; have n0_ := Aside0.mk (Kd.R_lower ho0 (below_size (zL HB.out))); have n1_ := Aside0.mk (below_step (zL HB.out) hb); revert n0_ n1_; clear HB; intro HO181 HB; (try clear hb); (try clear hb2); (try clear hk); (try clear hi); (try clear ho0); obtain ⟨Ao54, co54, eo54⟩ := Kd.R_slice HO181.out; subst eo54; have p182 : 0 ≤ (0 : Int) := (by omega); have q182 : 0 < (t177.length : Int) := zD; obtain ⟨ad182, e182, hx182_0, hx182_1, hx182_2⟩ := at_T28 (Kd.R_reads' HO181.out).2.2 0 p182 q182; cases e182; have qi182 : (0 < t177.length) = True := eq_true (by omega); (try rw [show ((0 : Int)).toNat = 0 from rfl] at hx182_0); (try rw [show 0 * 3 = 0 from rfl] at hx182_0); (try rw [Addr.add_zero'] at hx182_0); (try rw [show ((0 : Int)).toNat = 0 from rfl] at hx182_1); (try rw [show 0 * 3 = 0 from rfl] at hx182_1); (try rw [Addr.add_zero'] at hx182_1); (try rw [show ((0 : Int)).toNat = 0 from rfl] at hx182_2); (try rw [show 0 * 3 = 0 from rfl] at hx182_2); (try rw [Addr.add_zero'] at hx182_2); replace p182 := eq_true p182; replace q182 := eq_true q182))
                             go_ret
                             exact ⟨zE, zL HB.out⟩
                           ·rw [if_neg c48] at H
                            exact absurd H (by simp)
                          ·rw [if_neg c47] at H
                           exact absurd H (by simp)
                         ·rw [if_neg c46] at H
                          exact absurd H (by simp)
                        ·rw [if_neg c45] at H
                         have c45b0 : ((t177.length : Int) == 2) = false := beq_eq_false_iff_ne.mpr c45
                         have c45b1 : ((t177.length : Int) != 2) = true := bne_iff_ne.mpr c45
                         obtain rfl := Option.some.inj H
                         go_wp2_with (first | ((with_reducible refine gate_callee (f := 9) rfl ?_); refine goesL_ (some 122) rfl rfl Tryd.func9 (by kernel_rfl) rfl #[.string (((((((((⟨#[9]⟩ : ByteArray) ++ a0) ++ (⟨#[32, 35]⟩ : ByteArray)) ++ a1) ++ (⟨#[10]⟩ : ByteArray)) ++ a0) ++ (⟨#[32, 35]⟩ : ByteArray)) ++ a1) ++ (⟨#[10]⟩ : ByteArray))] rfl zA ?_; (with_reducible refine (lex_Lex.calls k4 (((((((((⟨#[9]⟩ : ByteArray) ++ a0) ++ (⟨#[32, 35]⟩ : ByteArray)) ++ a1) ++ (⟨#[10]⟩ : ByteArray)) ++ a0) ++ (⟨#[32, 35]⟩ : ByteArray)) ++ a1) ++ (⟨#[10]⟩ : ByteArray)) t177 t178 t179 _ A42.out).mono ?_); rintro e w55 ⟨v180, rfl, ho0, hb⟩; refine ⟨_, rfl, ?_⟩; have n0_ := Aside0.mk (Kd.R_lower ho0 (below_size (zL HB.out))); have n1_ := Aside0.mk (below_step (zL HB.out) hb); revert n0_ n1_; clear HB; intro HO181 HB; (try clear hb); (try clear hb2); (try clear hk); (try clear hi); (try clear ho0); obtain ⟨Ao56, co56, eo56⟩ := Kd.R_slice HO181.out; subst eo56))
                         go_ret
                         exact ⟨zE, zL HB.out⟩
                       ·rw [if_neg c44] at H
                        have c44b0 : (t179 == 0) = false := beq_eq_false_iff_ne.mpr c44
                        have c44b1 : (t179 != 0) = true := bne_iff_ne.mpr c44
                        obtain rfl := Option.some.inj H
                        go_wp2_with (first | ((with_reducible refine gate_callee (f := 9) rfl ?_); refine goesL_ (some 122) rfl rfl Tryd.func9 (by kernel_rfl) rfl #[.string (((((((((⟨#[9]⟩ : ByteArray) ++ a0) ++ (⟨#[32, 35]⟩ : ByteArray)) ++ a1) ++ (⟨#[10]⟩ : ByteArray)) ++ a0) ++ (⟨#[32, 35]⟩ : ByteArray)) ++ a1) ++ (⟨#[10]⟩ : ByteArray))] rfl zA ?_; (with_reducible refine (lex_Lex.calls k4 (((((((((⟨#[9]⟩ : ByteArray) ++ a0) ++ (⟨#[32, 35]⟩ : ByteArray)) ++ a1) ++ (⟨#[10]⟩ : ByteArray)) ++ a0) ++ (⟨#[32, 35]⟩ : ByteArray)) ++ a1) ++ (⟨#[10]⟩ : ByteArray)) t177 t178 t179 _ A42.out).mono ?_); rintro e w57 ⟨v180, rfl, ho0, hb⟩; refine ⟨_, rfl, ?_⟩; have n0_ := Aside0.mk (Kd.R_lower ho0 (below_size (zL HB.out))); have n1_ := Aside0.mk (below_step (zL HB.out) hb); revert n0_ n1_; clear HB; intro HO181 HB; (try clear hb); (try clear hb2); (try clear hk); (try clear hi); (try clear ho0)))
                        go_ret
                        exact ⟨zE, zL HB.out⟩
                      ·rw [if_neg c43] at H
                       have c43b0 : (t178 == 0) = false := beq_eq_false_iff_ne.mpr c43
                       have c43b1 : (t178 != 0) = true := bne_iff_ne.mpr c43
                       obtain rfl := Option.some.inj H
                       go_wp2_with (first | ((with_reducible refine gate_callee (f := 9) rfl ?_); refine goesL_ (some 122) rfl rfl Tryd.func9 (by kernel_rfl) rfl #[.string (((((((((⟨#[9]⟩ : ByteArray) ++ a0) ++ (⟨#[32, 35]⟩ : ByteArray)) ++ a1) ++ (⟨#[10]⟩ : ByteArray)) ++ a0) ++ (⟨#[32, 35]⟩ : ByteArray)) ++ a1) ++ (⟨#[10]⟩ : ByteArray))] rfl zA ?_; (with_reducible refine (lex_Lex.calls k4 (((((((((⟨#[9]⟩ : ByteArray) ++ a0) ++ (⟨#[32, 35]⟩ : ByteArray)) ++ a1) ++ (⟨#[10]⟩ : ByteArray)) ++ a0) ++ (⟨#[32, 35]⟩ : ByteArray)) ++ a1) ++ (⟨#[10]⟩ : ByteArray)) t177 t178 t179 _ A42.out).mono ?_); rintro e w58 ⟨v180, rfl, ho0, hb⟩; refine ⟨_, rfl, ?_⟩; have n0_ := Aside0.mk (Kd.R_lower ho0 (below_size (zL HB.out))); have n1_ := Aside0.mk (below_step (zL HB.out) hb); revert n0_ n1_; clear HB; intro HO181 HB; (try clear hb); (try clear hb2); (try clear hk); (try clear hi); (try clear ho0)))
                       go_ret
                       exact ⟨zE, zL HB.out⟩
                     ·rw [if_neg c41] at H
                      exact absurd H (by simp)
                    ·rw [if_neg c40] at H
                     exact absurd H (by simp)
                   ·rw [if_neg c39] at H
                    exact absurd H (by simp)
                  ·rw [if_neg c38] at H
                   exact absurd H (by simp)
                 ·rw [if_neg c37] at H
                  exact absurd H (by simp)
                ·rw [if_neg c36] at H
                 exact absurd H (by simp)
               ·rw [if_neg c35] at H
                exact absurd H (by simp)
              ·rw [if_neg c34] at H
               exact absurd H (by simp)
             ·rw [if_neg c33] at H
              have c33b0 : (x8_4.toList == ([] : List UInt8)) = false := beq_eq_false_iff_ne.mpr c33
              have c33b1 : (x8_4.toList != ([] : List UInt8)) = true := bne_iff_ne.mpr c33
              obtain ⟨ji59, hji59⟩ : ∃ j_ : Int, (wrap64 ((x8_4.size : Int) - 1)) = j_ := ⟨_, rfl⟩
              replace H : (if 0 ≤ (ji59) then (if (ji59) < (x8_4.size : Int) then (if (bt x8_4 (ji59)) = 32 then (if (ji59) ≤ (x8_4.size : Int) then (cooperagelaw8_LexTabs.l1 k4 a0 a1 (x8_4.extract 0 ((ji59) : Int).toNat)) else (none)) else (if (bt x8_4 (ji59)) = 9 then (if (ji59) ≤ (x8_4.size : Int) then (cooperagelaw8_LexTabs.l1 k4 a0 a1 (x8_4.extract 0 ((ji59) : Int).toNat)) else (none)) else (if 1 + a0.size ≤ 9223372036854775807 then (if ((⟨#[9]⟩ : ByteArray) ++ a0).size + 2 ≤ 9223372036854775807 then (if (((⟨#[9]⟩ : ByteArray) ++ a0) ++ (⟨#[32, 35]⟩ : ByteArray)).size + a1.size ≤ 9223372036854775807 then (if ((((⟨#[9]⟩ : ByteArray) ++ a0) ++ (⟨#[32, 35]⟩ : ByteArray)) ++ a1).size + 1 ≤ 9223372036854775807 then (if (((((⟨#[9]⟩ : ByteArray) ++ a0) ++ (⟨#[32, 35]⟩ : ByteArray)) ++ a1) ++ (⟨#[10]⟩ : ByteArray)).size + a0.size ≤ 9223372036854775807 then (if ((((((⟨#[9]⟩ : ByteArray) ++ a0) ++ (⟨#[32, 35]⟩ : ByteArray)) ++ a1) ++ (⟨#[10]⟩ : ByteArray)) ++ a0).size + 2 ≤ 9223372036854775807 then (if (((((((⟨#[9]⟩ : ByteArray) ++ a0) ++ (⟨#[32, 35]⟩ : ByteArray)) ++ a1) ++ (⟨#[10]⟩ : ByteArray)) ++ a0) ++ (⟨#[32, 35]⟩ : ByteArray)).size + a1.size ≤ 9223372036854775807 then (if ((((((((⟨#[9]⟩ : ByteArray) ++ a0) ++ (⟨#[32, 35]⟩ : ByteArray)) ++ a1) ++ (⟨#[10]⟩ : ByteArray)) ++ a0) ++ (⟨#[32, 35]⟩ : ByteArray)) ++ a1).size + 1 ≤ 9223372036854775807 then ((lex_Lex.f k4 (((((((((⟨#[9]⟩ : ByteArray) ++ a0) ++ (⟨#[32, 35]⟩ : ByteArray)) ++ a1) ++ (⟨#[10]⟩ : ByteArray)) ++ a0) ++ (⟨#[32, 35]⟩ : ByteArray)) ++ a1) ++ (⟨#[10]⟩ : ByteArray))).bind fun bt184 => (if bt184.2.1 = 0 then (if bt184.2.2 = 0 then (if (bt184.1.length : Int) = 2 then (if 0 < (bt184.1.length : Int) then (if a0.size + 2 ≤ 9223372036854775807 then (if (a0 ++ (⟨#[32, 35]⟩ : ByteArray)).size + x8_4.size ≤ 9223372036854775807 then (if (((rd_T28 bt184.1 0).f0) == 1 && (((rd_T28 bt184.1 0).f1) && ((((rd_T28 bt184.1 0).f2).toList) == (((a0 ++ (⟨#[32, 35]⟩ : ByteArray)) ++ x8_4).toList)))) = true then (if 1 < (bt184.1.length : Int) then (some (((rd_T28 bt184.1 1).f0) == 2 && (!((rd_T28 bt184.1 1).f1) && ((((rd_T28 bt184.1 1).f2).toList) == a0.toList)))) else (none)) else (some false)) else (none)) else (none)) else (none)) else (some false)) else (some false)) else (some false))) else (none)) else (none)) else (none)) else (none)) else (none)) else (none)) else (none)) else (none)))) else (none)) else (none)) = some r := by first | (rw [hji59] at H; exact H) | (simp only [hji59] at H ⊢; exact H)
              have hji59w : (IntKind.i64.wrap ((x8_4.size : Int) - 1)) = ji59 := (i64_w _).trans hji59
              by_cases c60 : 0 ≤ (ji59)
              ·rw [if_pos c60] at H
               have c60b0 : decide (0 ≤ (ji59)) = true := decide_eq_true c60
               clear c60
               by_cases c61 : (ji59) < (x8_4.size : Int)
               ·rw [if_pos c61] at H
                have c61b0 : decide ((ji59) < (x8_4.size : Int)) = true := decide_eq_true c61
                clear c61
                by_cases c63 : (bt x8_4 (ji59)) = 32
                ·rw [if_pos c63] at H
                 have c63b0 : ((bt x8_4 (ji59)) == 32) = true := beq_iff_eq.mpr c63
                 have c63b1 : ((bt x8_4 (ji59)) != 32) = false := bne_eq_false_iff_eq.mpr c63
                 clear c63
                 have c64b0 := eq_true (zD : 0 ≤ (ji59))
                 by_cases c65 : (ji59) ≤ (x8_4.size : Int)
                 ·rw [if_pos c65] at H
                  have c65b0 := eq_true c65
                  have c65b1 : decide ((ji59) ≤ (x8_4.size : Int)) = true := decide_eq_true c65
                  clear c65
                  have H' := Aside0.mk H
                  clear H
                  have p62 : 0 ≤ ((ji59) : Int) := zD
                  have q62 : (ji59) < (x8_4.size : Int) := zD
                  have hx62 := bt_at x8_4 (ji59)
                  replace p62 := eq_true p62
                  replace q62 := eq_true q62
                  go_wp2
                  go_roundg k4
                  case measure => have := HJ3.out; have := HK2.out; have := HJ18.out; have := HK4.out; omega
                  case rel => exact ⟨(x8_4.extract 0 ((ji59) : Int).toNat), (by first | rfl | (simp; done) | (simp only [← hji59] <;> (first | rfl | simp)) | (simp [*]; done)), H', ⟨by have := HJ3.out; have := HK2.out; have := HJ18.out; have := HK4.out; omega⟩, ⟨zL HB.out⟩⟩
                 ·rw [if_neg c65] at H
                  exact absurd H (by simp)
                ·rw [if_neg c63] at H
                 have c63b0 : ((bt x8_4 (ji59)) == 32) = false := beq_eq_false_iff_ne.mpr c63
                 have c63b1 : ((bt x8_4 (ji59)) != 32) = true := bne_iff_ne.mpr c63
                 by_cases c67 : (bt x8_4 (ji59)) = 9
                 ·rw [if_pos c67] at H
                  have c67b0 : ((bt x8_4 (ji59)) == 9) = true := beq_iff_eq.mpr c67
                  have c67b1 : ((bt x8_4 (ji59)) != 9) = false := bne_eq_false_iff_eq.mpr c67
                  clear c67
                  have c68b0 := eq_true (zD : 0 ≤ (ji59))
                  by_cases c69 : (ji59) ≤ (x8_4.size : Int)
                  ·rw [if_pos c69] at H
                   have c69b0 := eq_true c69
                   have c69b1 : decide ((ji59) ≤ (x8_4.size : Int)) = true := decide_eq_true c69
                   clear c69
                   have H' := Aside0.mk H
                   clear H
                   have p62 : 0 ≤ ((ji59) : Int) := zD
                   have q62 : (ji59) < (x8_4.size : Int) := zD
                   have hx62 := bt_at x8_4 (ji59)
                   replace p62 := eq_true p62
                   replace q62 := eq_true q62
                   have p66 : 0 ≤ ((ji59) : Int) := zD
                   have q66 : (ji59) < (x8_4.size : Int) := zD
                   have hx66 := bt_at x8_4 (ji59)
                   replace p66 := eq_true p66
                   replace q66 := eq_true q66
                   go_wp2
                   go_roundg k4
                   case measure => have := HJ3.out; have := HK2.out; have := HJ18.out; have := HK4.out; omega
                   case rel => exact ⟨(x8_4.extract 0 ((ji59) : Int).toNat), (by first | rfl | (simp; done) | (simp only [← hji59] <;> (first | rfl | simp)) | (simp [*]; done)), H', ⟨by have := HJ3.out; have := HK2.out; have := HJ18.out; have := HK4.out; omega⟩, ⟨zL HB.out⟩⟩
                  ·rw [if_neg c69] at H
                   exact absurd H (by simp)
                 ·rw [if_neg c67] at H
                  have c67b0 : ((bt x8_4 (ji59)) == 9) = false := beq_eq_false_iff_ne.mpr c67
                  have c67b1 : ((bt x8_4 (ji59)) != 9) = true := bne_iff_ne.mpr c67
                  by_cases c70 : 1 + a0.size ≤ 9223372036854775807
                  ·rw [if_pos c70] at H
                   have c70b0 := eq_true c70
                   have c70b1 : decide (1 + a0.size ≤ 9223372036854775807) = true := decide_eq_true c70
                   try have c70b2 : (9223372036854775807 < 1 + a0.size) = False := eq_false (Nat.not_lt.2 c70)
                   by_cases c71 : ((⟨#[9]⟩ : ByteArray) ++ a0).size + 2 ≤ 9223372036854775807
                   ·rw [if_pos c71] at H
                    have c71b0 := eq_true c71
                    try (have c71b0s := c71b0; simp only [ByteArray.size_append, Int.natCast_add, Int.toNat_natCast] at c71b0s)
                    try (have c71b0l := c71b0; simp only [ByteArray.size_append, Pl.lit_size, List.size_toArray, List.length_cons, List.length_nil, Nat.reduceAdd, Int.natCast_add, Int.toNat_natCast] at c71b0l)
                    have c71b1 : decide (((⟨#[9]⟩ : ByteArray) ++ a0).size + 2 ≤ 9223372036854775807) = true := decide_eq_true c71
                    try (have c71b1s := c71b1; simp only [ByteArray.size_append, Int.natCast_add, Int.toNat_natCast] at c71b1s)
                    try (have c71b1l := c71b1; simp only [ByteArray.size_append, Pl.lit_size, List.size_toArray, List.length_cons, List.length_nil, Nat.reduceAdd, Int.natCast_add, Int.toNat_natCast] at c71b1l)
                    try have c71b2 : (9223372036854775807 < ((⟨#[9]⟩ : ByteArray) ++ a0).size + 2) = False := eq_false (Nat.not_lt.2 c71)
                    try (have c71b2s := c71b2; simp only [ByteArray.size_append, Int.natCast_add, Int.toNat_natCast] at c71b2s)
                    try (have c71b2l := c71b2; simp only [ByteArray.size_append, Pl.lit_size, List.size_toArray, List.length_cons, List.length_nil, Nat.reduceAdd, Int.natCast_add, Int.toNat_natCast] at c71b2l)
                    by_cases c72 : (((⟨#[9]⟩ : ByteArray) ++ a0) ++ (⟨#[32, 35]⟩ : ByteArray)).size + a1.size ≤ 9223372036854775807
                    ·rw [if_pos c72] at H
                     have c72b0 := eq_true c72
                     try (have c72b0s := c72b0; simp only [ByteArray.size_append, Int.natCast_add, Int.toNat_natCast] at c72b0s)
                     try (have c72b0l := c72b0; simp only [ByteArray.size_append, Pl.lit_size, List.size_toArray, List.length_cons, List.length_nil, Nat.reduceAdd, Int.natCast_add, Int.toNat_natCast] at c72b0l)
                     have c72b1 : decide ((((⟨#[9]⟩ : ByteArray) ++ a0) ++ (⟨#[32, 35]⟩ : ByteArray)).size + a1.size ≤ 9223372036854775807) = true := decide_eq_true c72
                     try (have c72b1s := c72b1; simp only [ByteArray.size_append, Int.natCast_add, Int.toNat_natCast] at c72b1s)
                     try (have c72b1l := c72b1; simp only [ByteArray.size_append, Pl.lit_size, List.size_toArray, List.length_cons, List.length_nil, Nat.reduceAdd, Int.natCast_add, Int.toNat_natCast] at c72b1l)
                     try have c72b2 : (9223372036854775807 < (((⟨#[9]⟩ : ByteArray) ++ a0) ++ (⟨#[32, 35]⟩ : ByteArray)).size + a1.size) = False := eq_false (Nat.not_lt.2 c72)
                     try (have c72b2s := c72b2; simp only [ByteArray.size_append, Int.natCast_add, Int.toNat_natCast] at c72b2s)
                     try (have c72b2l := c72b2; simp only [ByteArray.size_append, Pl.lit_size, List.size_toArray, List.length_cons, List.length_nil, Nat.reduceAdd, Int.natCast_add, Int.toNat_natCast] at c72b2l)
                     by_cases c73 : ((((⟨#[9]⟩ : ByteArray) ++ a0) ++ (⟨#[32, 35]⟩ : ByteArray)) ++ a1).size + 1 ≤ 9223372036854775807
                     ·rw [if_pos c73] at H
                      have c73b0 := eq_true c73
                      try (have c73b0s := c73b0; simp only [ByteArray.size_append, Int.natCast_add, Int.toNat_natCast] at c73b0s)
                      try (have c73b0l := c73b0; simp only [ByteArray.size_append, Pl.lit_size, List.size_toArray, List.length_cons, List.length_nil, Nat.reduceAdd, Int.natCast_add, Int.toNat_natCast] at c73b0l)
                      have c73b1 : decide (((((⟨#[9]⟩ : ByteArray) ++ a0) ++ (⟨#[32, 35]⟩ : ByteArray)) ++ a1).size + 1 ≤ 9223372036854775807) = true := decide_eq_true c73
                      try (have c73b1s := c73b1; simp only [ByteArray.size_append, Int.natCast_add, Int.toNat_natCast] at c73b1s)
                      try (have c73b1l := c73b1; simp only [ByteArray.size_append, Pl.lit_size, List.size_toArray, List.length_cons, List.length_nil, Nat.reduceAdd, Int.natCast_add, Int.toNat_natCast] at c73b1l)
                      try have c73b2 : (9223372036854775807 < ((((⟨#[9]⟩ : ByteArray) ++ a0) ++ (⟨#[32, 35]⟩ : ByteArray)) ++ a1).size + 1) = False := eq_false (Nat.not_lt.2 c73)
                      try (have c73b2s := c73b2; simp only [ByteArray.size_append, Int.natCast_add, Int.toNat_natCast] at c73b2s)
                      try (have c73b2l := c73b2; simp only [ByteArray.size_append, Pl.lit_size, List.size_toArray, List.length_cons, List.length_nil, Nat.reduceAdd, Int.natCast_add, Int.toNat_natCast] at c73b2l)
                      by_cases c74 : (((((⟨#[9]⟩ : ByteArray) ++ a0) ++ (⟨#[32, 35]⟩ : ByteArray)) ++ a1) ++ (⟨#[10]⟩ : ByteArray)).size + a0.size ≤ 9223372036854775807
                      ·rw [if_pos c74] at H
                       have c74b0 := eq_true c74
                       try (have c74b0s := c74b0; simp only [ByteArray.size_append, Int.natCast_add, Int.toNat_natCast] at c74b0s)
                       try (have c74b0l := c74b0; simp only [ByteArray.size_append, Pl.lit_size, List.size_toArray, List.length_cons, List.length_nil, Nat.reduceAdd, Int.natCast_add, Int.toNat_natCast] at c74b0l)
                       have c74b1 : decide ((((((⟨#[9]⟩ : ByteArray) ++ a0) ++ (⟨#[32, 35]⟩ : ByteArray)) ++ a1) ++ (⟨#[10]⟩ : ByteArray)).size + a0.size ≤ 9223372036854775807) = true := decide_eq_true c74
                       try (have c74b1s := c74b1; simp only [ByteArray.size_append, Int.natCast_add, Int.toNat_natCast] at c74b1s)
                       try (have c74b1l := c74b1; simp only [ByteArray.size_append, Pl.lit_size, List.size_toArray, List.length_cons, List.length_nil, Nat.reduceAdd, Int.natCast_add, Int.toNat_natCast] at c74b1l)
                       try have c74b2 : (9223372036854775807 < (((((⟨#[9]⟩ : ByteArray) ++ a0) ++ (⟨#[32, 35]⟩ : ByteArray)) ++ a1) ++ (⟨#[10]⟩ : ByteArray)).size + a0.size) = False := eq_false (Nat.not_lt.2 c74)
                       try (have c74b2s := c74b2; simp only [ByteArray.size_append, Int.natCast_add, Int.toNat_natCast] at c74b2s)
                       try (have c74b2l := c74b2; simp only [ByteArray.size_append, Pl.lit_size, List.size_toArray, List.length_cons, List.length_nil, Nat.reduceAdd, Int.natCast_add, Int.toNat_natCast] at c74b2l)
                       by_cases c75 : ((((((⟨#[9]⟩ : ByteArray) ++ a0) ++ (⟨#[32, 35]⟩ : ByteArray)) ++ a1) ++ (⟨#[10]⟩ : ByteArray)) ++ a0).size + 2 ≤ 9223372036854775807
                       ·rw [if_pos c75] at H
                        have c75b0 := eq_true c75
                        try (have c75b0s := c75b0; simp only [ByteArray.size_append, Int.natCast_add, Int.toNat_natCast] at c75b0s)
                        try (have c75b0l := c75b0; simp only [ByteArray.size_append, Pl.lit_size, List.size_toArray, List.length_cons, List.length_nil, Nat.reduceAdd, Int.natCast_add, Int.toNat_natCast] at c75b0l)
                        have c75b1 : decide (((((((⟨#[9]⟩ : ByteArray) ++ a0) ++ (⟨#[32, 35]⟩ : ByteArray)) ++ a1) ++ (⟨#[10]⟩ : ByteArray)) ++ a0).size + 2 ≤ 9223372036854775807) = true := decide_eq_true c75
                        try (have c75b1s := c75b1; simp only [ByteArray.size_append, Int.natCast_add, Int.toNat_natCast] at c75b1s)
                        try (have c75b1l := c75b1; simp only [ByteArray.size_append, Pl.lit_size, List.size_toArray, List.length_cons, List.length_nil, Nat.reduceAdd, Int.natCast_add, Int.toNat_natCast] at c75b1l)
                        try have c75b2 : (9223372036854775807 < ((((((⟨#[9]⟩ : ByteArray) ++ a0) ++ (⟨#[32, 35]⟩ : ByteArray)) ++ a1) ++ (⟨#[10]⟩ : ByteArray)) ++ a0).size + 2) = False := eq_false (Nat.not_lt.2 c75)
                        try (have c75b2s := c75b2; simp only [ByteArray.size_append, Int.natCast_add, Int.toNat_natCast] at c75b2s)
                        try (have c75b2l := c75b2; simp only [ByteArray.size_append, Pl.lit_size, List.size_toArray, List.length_cons, List.length_nil, Nat.reduceAdd, Int.natCast_add, Int.toNat_natCast] at c75b2l)
                        by_cases c76 : (((((((⟨#[9]⟩ : ByteArray) ++ a0) ++ (⟨#[32, 35]⟩ : ByteArray)) ++ a1) ++ (⟨#[10]⟩ : ByteArray)) ++ a0) ++ (⟨#[32, 35]⟩ : ByteArray)).size + a1.size ≤ 9223372036854775807
                        ·rw [if_pos c76] at H
                         have c76b0 := eq_true c76
                         try (have c76b0s := c76b0; simp only [ByteArray.size_append, Int.natCast_add, Int.toNat_natCast] at c76b0s)
                         try (have c76b0l := c76b0; simp only [ByteArray.size_append, Pl.lit_size, List.size_toArray, List.length_cons, List.length_nil, Nat.reduceAdd, Int.natCast_add, Int.toNat_natCast] at c76b0l)
                         have c76b1 : decide ((((((((⟨#[9]⟩ : ByteArray) ++ a0) ++ (⟨#[32, 35]⟩ : ByteArray)) ++ a1) ++ (⟨#[10]⟩ : ByteArray)) ++ a0) ++ (⟨#[32, 35]⟩ : ByteArray)).size + a1.size ≤ 9223372036854775807) = true := decide_eq_true c76
                         try (have c76b1s := c76b1; simp only [ByteArray.size_append, Int.natCast_add, Int.toNat_natCast] at c76b1s)
                         try (have c76b1l := c76b1; simp only [ByteArray.size_append, Pl.lit_size, List.size_toArray, List.length_cons, List.length_nil, Nat.reduceAdd, Int.natCast_add, Int.toNat_natCast] at c76b1l)
                         try have c76b2 : (9223372036854775807 < (((((((⟨#[9]⟩ : ByteArray) ++ a0) ++ (⟨#[32, 35]⟩ : ByteArray)) ++ a1) ++ (⟨#[10]⟩ : ByteArray)) ++ a0) ++ (⟨#[32, 35]⟩ : ByteArray)).size + a1.size) = False := eq_false (Nat.not_lt.2 c76)
                         try (have c76b2s := c76b2; simp only [ByteArray.size_append, Int.natCast_add, Int.toNat_natCast] at c76b2s)
                         try (have c76b2l := c76b2; simp only [ByteArray.size_append, Pl.lit_size, List.size_toArray, List.length_cons, List.length_nil, Nat.reduceAdd, Int.natCast_add, Int.toNat_natCast] at c76b2l)
                         by_cases c77 : ((((((((⟨#[9]⟩ : ByteArray) ++ a0) ++ (⟨#[32, 35]⟩ : ByteArray)) ++ a1) ++ (⟨#[10]⟩ : ByteArray)) ++ a0) ++ (⟨#[32, 35]⟩ : ByteArray)) ++ a1).size + 1 ≤ 9223372036854775807
                         ·rw [if_pos c77] at H
                          have c77b0 := eq_true c77
                          try (have c77b0s := c77b0; simp only [ByteArray.size_append, Int.natCast_add, Int.toNat_natCast] at c77b0s)
                          try (have c77b0l := c77b0; simp only [ByteArray.size_append, Pl.lit_size, List.size_toArray, List.length_cons, List.length_nil, Nat.reduceAdd, Int.natCast_add, Int.toNat_natCast] at c77b0l)
                          have c77b1 : decide (((((((((⟨#[9]⟩ : ByteArray) ++ a0) ++ (⟨#[32, 35]⟩ : ByteArray)) ++ a1) ++ (⟨#[10]⟩ : ByteArray)) ++ a0) ++ (⟨#[32, 35]⟩ : ByteArray)) ++ a1).size + 1 ≤ 9223372036854775807) = true := decide_eq_true c77
                          try (have c77b1s := c77b1; simp only [ByteArray.size_append, Int.natCast_add, Int.toNat_natCast] at c77b1s)
                          try (have c77b1l := c77b1; simp only [ByteArray.size_append, Pl.lit_size, List.size_toArray, List.length_cons, List.length_nil, Nat.reduceAdd, Int.natCast_add, Int.toNat_natCast] at c77b1l)
                          try have c77b2 : (9223372036854775807 < ((((((((⟨#[9]⟩ : ByteArray) ++ a0) ++ (⟨#[32, 35]⟩ : ByteArray)) ++ a1) ++ (⟨#[10]⟩ : ByteArray)) ++ a0) ++ (⟨#[32, 35]⟩ : ByteArray)) ++ a1).size + 1) = False := eq_false (Nat.not_lt.2 c77)
                          try (have c77b2s := c77b2; simp only [ByteArray.size_append, Int.natCast_add, Int.toNat_natCast] at c77b2s)
                          try (have c77b2l := c77b2; simp only [ByteArray.size_append, Pl.lit_size, List.size_toArray, List.length_cons, List.length_nil, Nat.reduceAdd, Int.natCast_add, Int.toNat_natCast] at c77b2l)
                          replace H := Option.bind_eq_some_iff.mp H
                          obtain ⟨⟨t184, t185, t186⟩, A780, H⟩ := H
                          replace H : (if t185 = 0 then (if t186 = 0 then (if (t184.length : Int) = 2 then (if 0 < (t184.length : Int) then (if a0.size + 2 ≤ 9223372036854775807 then (if (a0 ++ (⟨#[32, 35]⟩ : ByteArray)).size + x8_4.size ≤ 9223372036854775807 then (if (((rd_T28 t184 0).f0) == 1 && (((rd_T28 t184 0).f1) && ((((rd_T28 t184 0).f2).toList) == (((a0 ++ (⟨#[32, 35]⟩ : ByteArray)) ++ x8_4).toList)))) = true then (if 1 < (t184.length : Int) then (some (((rd_T28 t184 1).f0) == 2 && (!((rd_T28 t184 1).f1) && ((((rd_T28 t184 1).f2).toList) == a0.toList)))) else (none)) else (some false)) else (none)) else (none)) else (none)) else (some false)) else (some false)) else (some false)) = some r := H
                          have A78 := Aside0.mk A780
                          clear A780
                          by_cases c79 : t185 = 0
                          ·rw [if_pos c79] at H
                           have c79b0 : (t185 == 0) = true := beq_iff_eq.mpr c79
                           have c79b1 : (t185 != 0) = false := bne_eq_false_iff_eq.mpr c79
                           clear c79
                           by_cases c80 : t186 = 0
                           ·rw [if_pos c80] at H
                            have c80b0 : (t186 == 0) = true := beq_iff_eq.mpr c80
                            have c80b1 : (t186 != 0) = false := bne_eq_false_iff_eq.mpr c80
                            clear c80
                            by_cases c81 : (t184.length : Int) = 2
                            ·rw [if_pos c81] at H
                             have c81b0 : ((t184.length : Int) == 2) = true := beq_iff_eq.mpr c81
                             have c81b1 : ((t184.length : Int) != 2) = false := bne_eq_false_iff_eq.mpr c81
                             clear c81
                             by_cases c82 : 0 < (t184.length : Int)
                             ·rw [if_pos c82] at H
                              have c82b0 : decide (0 < (t184.length : Int)) = true := decide_eq_true c82
                              have c82b1 : decide (0 < t184.length) = true := decide_eq_true (by omega)
                              clear c82
                              by_cases c83 : a0.size + 2 ≤ 9223372036854775807
                              ·rw [if_pos c83] at H
                               have c83b0 := eq_true c83
                               have c83b1 : decide (a0.size + 2 ≤ 9223372036854775807) = true := decide_eq_true c83
                               try have c83b2 : (9223372036854775807 < a0.size + 2) = False := eq_false (Nat.not_lt.2 c83)
                               by_cases c84 : (a0 ++ (⟨#[32, 35]⟩ : ByteArray)).size + x8_4.size ≤ 9223372036854775807
                               ·rw [if_pos c84] at H
                                have c84b0 := eq_true c84
                                try (have c84b0s := c84b0; simp only [ByteArray.size_append, Int.natCast_add, Int.toNat_natCast] at c84b0s)
                                try (have c84b0l := c84b0; simp only [ByteArray.size_append, Pl.lit_size, List.size_toArray, List.length_cons, List.length_nil, Nat.reduceAdd, Int.natCast_add, Int.toNat_natCast] at c84b0l)
                                have c84b1 : decide ((a0 ++ (⟨#[32, 35]⟩ : ByteArray)).size + x8_4.size ≤ 9223372036854775807) = true := decide_eq_true c84
                                try (have c84b1s := c84b1; simp only [ByteArray.size_append, Int.natCast_add, Int.toNat_natCast] at c84b1s)
                                try (have c84b1l := c84b1; simp only [ByteArray.size_append, Pl.lit_size, List.size_toArray, List.length_cons, List.length_nil, Nat.reduceAdd, Int.natCast_add, Int.toNat_natCast] at c84b1l)
                                try have c84b2 : (9223372036854775807 < (a0 ++ (⟨#[32, 35]⟩ : ByteArray)).size + x8_4.size) = False := eq_false (Nat.not_lt.2 c84)
                                try (have c84b2s := c84b2; simp only [ByteArray.size_append, Int.natCast_add, Int.toNat_natCast] at c84b2s)
                                try (have c84b2l := c84b2; simp only [ByteArray.size_append, Pl.lit_size, List.size_toArray, List.length_cons, List.length_nil, Nat.reduceAdd, Int.natCast_add, Int.toNat_natCast] at c84b2l)
                                by_cases c85 : (((rd_T28 t184 0).f0) == 1 && (((rd_T28 t184 0).f1) && ((((rd_T28 t184 0).f2).toList) == (((a0 ++ (⟨#[32, 35]⟩ : ByteArray)) ++ x8_4).toList)))) = true
                                ·rw [if_pos c85] at H
                                 have c85b0 : (((rd_T28 t184 0).f0) == 1 && (((rd_T28 t184 0).f1) && ((((rd_T28 t184 0).f2).toList) == (((a0 ++ (⟨#[32, 35]⟩ : ByteArray)) ++ x8_4).toList)))) = true := c85
                                 (try (have c85b1 : decide (((rd_T28 t184 0).f0) = 1 && (((rd_T28 t184 0).f1) && ((((rd_T28 t184 0).f2).toList) == (((a0 ++ (⟨#[32, 35]⟩ : ByteArray)) ++ x8_4).toList)))) = true := by simpa using c85))
                                 (try (have c85b2 : (((rd_T28 t184 0).f0) == 1 && (((rd_T28 t184 0).f1) && ((((rd_T28 t184 0).f2).toList) == (((a0 ++ (⟨#[32, 35]⟩ : ByteArray)) ++ x8_4).toList)))) = true := by simpa using c85))
                                 clear c85
                                 by_cases c86 : 1 < (t184.length : Int)
                                 ·rw [if_pos c86] at H
                                  have c86b0 : decide (1 < (t184.length : Int)) = true := decide_eq_true c86
                                  have c86b1 : decide (1 < t184.length) = true := decide_eq_true (by omega)
                                  clear c86
                                  obtain rfl := Option.some.inj H
                                  have p62 : 0 ≤ ((ji59) : Int) := zD
                                  have q62 : (ji59) < (x8_4.size : Int) := zD
                                  have hx62 := bt_at x8_4 (ji59)
                                  replace p62 := eq_true p62
                                  replace q62 := eq_true q62
                                  have p66 : 0 ≤ ((ji59) : Int) := zD
                                  have q66 : (ji59) < (x8_4.size : Int) := zD
                                  have hx66 := bt_at x8_4 (ji59)
                                  replace p66 := eq_true p66
                                  replace q66 := eq_true q66
                                  go_wp2_with (first | ((with_reducible refine gate_callee (f := 9) rfl ?_); refine goesL_ (some 122) rfl rfl Tryd.func9 (by kernel_rfl) rfl #[.string (((((((((⟨#[9]⟩ : ByteArray) ++ a0) ++ (⟨#[32, 35]⟩ : ByteArray)) ++ a1) ++ (⟨#[10]⟩ : ByteArray)) ++ a0) ++ (⟨#[32, 35]⟩ : ByteArray)) ++ a1) ++ (⟨#[10]⟩ : ByteArray))] rfl zA ?_; (with_reducible refine (lex_Lex.calls k4 (((((((((⟨#[9]⟩ : ByteArray) ++ a0) ++ (⟨#[32, 35]⟩ : ByteArray)) ++ a1) ++ (⟨#[10]⟩ : ByteArray)) ++ a0) ++ (⟨#[32, 35]⟩ : ByteArray)) ++ a1) ++ (⟨#[10]⟩ : ByteArray)) t184 t185 t186 _ A78.out).mono ?_); rintro e w87 ⟨v187, rfl, ho0, hb⟩; refine ⟨_, rfl, ?_⟩; have n0_ := Aside0.mk (Kd.R_lower ho0 (below_size (zL HB.out))); have n1_ := Aside0.mk (below_step (zL HB.out) hb); revert n0_ n1_; clear HB; intro HO188 HB; (try clear hb); (try clear hb2); (try clear hk); (try clear hi); (try clear ho0); obtain ⟨Ao88, co88, eo88⟩ := Kd.R_slice HO188.out; subst eo88; have p189 : 0 ≤ (0 : Int) := (by omega); have q189 : 0 < (t184.length : Int) := zD; obtain ⟨ad189, e189, hx189_0, hx189_1, hx189_2⟩ := at_T28 (Kd.R_reads' HO188.out).2.2 0 p189 q189; cases e189; have qi189 : (0 < t184.length) = True := eq_true (by omega); (try rw [show ((0 : Int)).toNat = 0 from rfl] at hx189_0); (try rw [show 0 * 3 = 0 from rfl] at hx189_0); (try rw [Addr.add_zero'] at hx189_0); (try rw [show ((0 : Int)).toNat = 0 from rfl] at hx189_1); (try rw [show 0 * 3 = 0 from rfl] at hx189_1); (try rw [Addr.add_zero'] at hx189_1); (try rw [show ((0 : Int)).toNat = 0 from rfl] at hx189_2); (try rw [show 0 * 3 = 0 from rfl] at hx189_2); (try rw [Addr.add_zero'] at hx189_2); replace p189 := eq_true p189; replace q189 := eq_true q189; have p190 : 0 ≤ (1 : Int) := (by omega); have q190 : 1 < (t184.length : Int) := zD; obtain ⟨ad190, e190, hx190_0, hx190_1, hx190_2⟩ := at_T28 (Kd.R_reads' HO188.out).2.2 1 p190 q190; obtain rfl : ad189 = ad190 := (by injection e190); (try simp only [show (1 : Int).toNat = 1 from rfl, Nat.reduceMul, Nat.reduceEqDiff, Go.Addr.add, ↓reduceIte] at hx190_0); (try simp only [show (1 : Int).toNat = 1 from rfl, Nat.reduceMul, Nat.reduceEqDiff, Go.Addr.add, ↓reduceIte] at hx190_1); (try simp only [show (1 : Int).toNat = 1 from rfl, Nat.reduceMul, Nat.reduceEqDiff, Go.Addr.add, ↓reduceIte] at hx190_2); have qi190 : (1 < t184.length) = True := eq_true (by omega); (try rw [show ((1 : Int)).toNat = 1 from rfl] at hx190_0); (try rw [show 1 * 3 = 3 from rfl] at hx190_0); (try rw [show ((1 : Int)).toNat = 1 from rfl] at hx190_1); (try rw [show 1 * 3 = 3 from rfl] at hx190_1); (try rw [show ((1 : Int)).toNat = 1 from rfl] at hx190_2); (try rw [show 1 * 3 = 3 from rfl] at hx190_2); replace p190 := eq_true p190; replace q190 := eq_true q190))
                                  go_ret
                                  exact ⟨by first | rfl | (simp [errW_none, errW_some] <;> rfl) | (simp only [← hji59]; first | rfl | (simp [errW_none, errW_some] <;> rfl)) | (simp [*, errW_none, errW_some] <;> rfl), zL HB.out⟩
                                 ·rw [if_neg c86] at H
                                  exact absurd H (by simp)
                                ·rw [if_neg c85] at H
                                 have c85b0 : (((rd_T28 t184 0).f0) == 1 && (((rd_T28 t184 0).f1) && ((((rd_T28 t184 0).f2).toList) == (((a0 ++ (⟨#[32, 35]⟩ : ByteArray)) ++ x8_4).toList)))) = false := by simpa using c85
                                 (try (have c85b1 : decide (((rd_T28 t184 0).f0) = 1 && (((rd_T28 t184 0).f1) && ((((rd_T28 t184 0).f2).toList) == (((a0 ++ (⟨#[32, 35]⟩ : ByteArray)) ++ x8_4).toList)))) = false := by simpa using c85))
                                 (try (have c85b2 : (((rd_T28 t184 0).f0) == 1 && (((rd_T28 t184 0).f1) && ((((rd_T28 t184 0).f2).toList) == (((a0 ++ (⟨#[32, 35]⟩ : ByteArray)) ++ x8_4).toList)))) = false := by simpa using c85))
                                 (try (have c85b3 : ¬ (((rd_T28 t184 0).f0) = 1 && (((rd_T28 t184 0).f1) && ((((rd_T28 t184 0).f2).toList) == (((a0 ++ (⟨#[32, 35]⟩ : ByteArray)) ++ x8_4).toList)))) := by simpa using c85))
                                 clear c85
                                 obtain rfl := Option.some.inj H
                                 have p62 : 0 ≤ ((ji59) : Int) := zD
                                 have q62 : (ji59) < (x8_4.size : Int) := zD
                                 have hx62 := bt_at x8_4 (ji59)
                                 replace p62 := eq_true p62
                                 replace q62 := eq_true q62
                                 have p66 : 0 ≤ ((ji59) : Int) := zD
                                 have q66 : (ji59) < (x8_4.size : Int) := zD
                                 have hx66 := bt_at x8_4 (ji59)
                                 replace p66 := eq_true p66
                                 replace q66 := eq_true q66
                                 go_wp2_with (first | ((with_reducible refine gate_callee (f := 9) rfl ?_); refine goesL_ (some 122) rfl rfl Tryd.func9 (by kernel_rfl) rfl #[.string (((((((((⟨#[9]⟩ : ByteArray) ++ a0) ++ (⟨#[32, 35]⟩ : ByteArray)) ++ a1) ++ (⟨#[10]⟩ : ByteArray)) ++ a0) ++ (⟨#[32, 35]⟩ : ByteArray)) ++ a1) ++ (⟨#[10]⟩ : ByteArray))] rfl zA ?_; (with_reducible refine (lex_Lex.calls k4 (((((((((⟨#[9]⟩ : ByteArray) ++ a0) ++ (⟨#[32, 35]⟩ : ByteArray)) ++ a1) ++ (⟨#[10]⟩ : ByteArray)) ++ a0) ++ (⟨#[32, 35]⟩ : ByteArray)) ++ a1) ++ (⟨#[10]⟩ : ByteArray)) t184 t185 t186 _ A78.out).mono ?_); rintro e w89 ⟨v187, rfl, ho0, hb⟩; refine ⟨_, rfl, ?_⟩; have n0_ := Aside0.mk (Kd.R_lower ho0 (below_size (zL HB.out))); have n1_ := Aside0.mk (below_step (zL HB.out) hb); revert n0_ n1_; clear HB; intro HO188 HB; (try clear hb); (try clear hb2); (try clear hk); (try clear hi); (try clear ho0); obtain ⟨Ao90, co90, eo90⟩ := Kd.R_slice HO188.out; subst eo90; have p189 : 0 ≤ (0 : Int) := (by omega); have q189 : 0 < (t184.length : Int) := zD; obtain ⟨ad189, e189, hx189_0, hx189_1, hx189_2⟩ := at_T28 (Kd.R_reads' HO188.out).2.2 0 p189 q189; cases e189; have qi189 : (0 < t184.length) = True := eq_true (by omega); (try rw [show ((0 : Int)).toNat = 0 from rfl] at hx189_0); (try rw [show 0 * 3 = 0 from rfl] at hx189_0); (try rw [Addr.add_zero'] at hx189_0); (try rw [show ((0 : Int)).toNat = 0 from rfl] at hx189_1); (try rw [show 0 * 3 = 0 from rfl] at hx189_1); (try rw [Addr.add_zero'] at hx189_1); (try rw [show ((0 : Int)).toNat = 0 from rfl] at hx189_2); (try rw [show 0 * 3 = 0 from rfl] at hx189_2); (try rw [Addr.add_zero'] at hx189_2); replace p189 := eq_true p189; replace q189 := eq_true q189))
                                 go_ret
                                 exact ⟨by first | rfl | (simp [errW_none, errW_some] <;> rfl) | (simp only [← hji59]; first | rfl | (simp [errW_none, errW_some] <;> rfl)) | (simp [*, errW_none, errW_some] <;> rfl), zL HB.out⟩
                               ·rw [if_neg c84] at H
                                exact absurd H (by simp)
                              ·rw [if_neg c83] at H
                               exact absurd H (by simp)
                             ·rw [if_neg c82] at H
                              exact absurd H (by simp)
                            ·rw [if_neg c81] at H
                             have c81b0 : ((t184.length : Int) == 2) = false := beq_eq_false_iff_ne.mpr c81
                             have c81b1 : ((t184.length : Int) != 2) = true := bne_iff_ne.mpr c81
                             obtain rfl := Option.some.inj H
                             have p62 : 0 ≤ ((ji59) : Int) := zD
                             have q62 : (ji59) < (x8_4.size : Int) := zD
                             have hx62 := bt_at x8_4 (ji59)
                             replace p62 := eq_true p62
                             replace q62 := eq_true q62
                             have p66 : 0 ≤ ((ji59) : Int) := zD
                             have q66 : (ji59) < (x8_4.size : Int) := zD
                             have hx66 := bt_at x8_4 (ji59)
                             replace p66 := eq_true p66
                             replace q66 := eq_true q66
                             go_wp2_with (first | ((with_reducible refine gate_callee (f := 9) rfl ?_); refine goesL_ (some 122) rfl rfl Tryd.func9 (by kernel_rfl) rfl #[.string (((((((((⟨#[9]⟩ : ByteArray) ++ a0) ++ (⟨#[32, 35]⟩ : ByteArray)) ++ a1) ++ (⟨#[10]⟩ : ByteArray)) ++ a0) ++ (⟨#[32, 35]⟩ : ByteArray)) ++ a1) ++ (⟨#[10]⟩ : ByteArray))] rfl zA ?_; (with_reducible refine (lex_Lex.calls k4 (((((((((⟨#[9]⟩ : ByteArray) ++ a0) ++ (⟨#[32, 35]⟩ : ByteArray)) ++ a1) ++ (⟨#[10]⟩ : ByteArray)) ++ a0) ++ (⟨#[32, 35]⟩ : ByteArray)) ++ a1) ++ (⟨#[10]⟩ : ByteArray)) t184 t185 t186 _ A78.out).mono ?_); rintro e w91 ⟨v187, rfl, ho0, hb⟩; refine ⟨_, rfl, ?_⟩; have n0_ := Aside0.mk (Kd.R_lower ho0 (below_size (zL HB.out))); have n1_ := Aside0.mk (below_step (zL HB.out) hb); revert n0_ n1_; clear HB; intro HO188 HB; (try clear hb); (try clear hb2); (try clear hk); (try clear hi); (try clear ho0); obtain ⟨Ao92, co92, eo92⟩ := Kd.R_slice HO188.out; subst eo92))
                             go_ret
                             exact ⟨by first | rfl | (simp [errW_none, errW_some] <;> rfl) | (simp only [← hji59]; first | rfl | (simp [errW_none, errW_some] <;> rfl)) | (simp [*, errW_none, errW_some] <;> rfl), zL HB.out⟩
                           ·rw [if_neg c80] at H
                            have c80b0 : (t186 == 0) = false := beq_eq_false_iff_ne.mpr c80
                            have c80b1 : (t186 != 0) = true := bne_iff_ne.mpr c80
                            obtain rfl := Option.some.inj H
                            have p62 : 0 ≤ ((ji59) : Int) := zD
                            have q62 : (ji59) < (x8_4.size : Int) := zD
                            have hx62 := bt_at x8_4 (ji59)
                            replace p62 := eq_true p62
                            replace q62 := eq_true q62
                            have p66 : 0 ≤ ((ji59) : Int) := zD
                            have q66 : (ji59) < (x8_4.size : Int) := zD
                            have hx66 := bt_at x8_4 (ji59)
                            replace p66 := eq_true p66
                            replace q66 := eq_true q66
                            go_wp2_with (first | ((with_reducible refine gate_callee (f := 9) rfl ?_); refine goesL_ (some 122) rfl rfl Tryd.func9 (by kernel_rfl) rfl #[.string (((((((((⟨#[9]⟩ : ByteArray) ++ a0) ++ (⟨#[32, 35]⟩ : ByteArray)) ++ a1) ++ (⟨#[10]⟩ : ByteArray)) ++ a0) ++ (⟨#[32, 35]⟩ : ByteArray)) ++ a1) ++ (⟨#[10]⟩ : ByteArray))] rfl zA ?_; (with_reducible refine (lex_Lex.calls k4 (((((((((⟨#[9]⟩ : ByteArray) ++ a0) ++ (⟨#[32, 35]⟩ : ByteArray)) ++ a1) ++ (⟨#[10]⟩ : ByteArray)) ++ a0) ++ (⟨#[32, 35]⟩ : ByteArray)) ++ a1) ++ (⟨#[10]⟩ : ByteArray)) t184 t185 t186 _ A78.out).mono ?_); rintro e w93 ⟨v187, rfl, ho0, hb⟩; refine ⟨_, rfl, ?_⟩; have n0_ := Aside0.mk (Kd.R_lower ho0 (below_size (zL HB.out))); have n1_ := Aside0.mk (below_step (zL HB.out) hb); revert n0_ n1_; clear HB; intro HO188 HB; (try clear hb); (try clear hb2); (try clear hk); (try clear hi); (try clear ho0)))
                            go_ret
                            exact ⟨by first | rfl | (simp [errW_none, errW_some] <;> rfl) | (simp only [← hji59]; first | rfl | (simp [errW_none, errW_some] <;> rfl)) | (simp [*, errW_none, errW_some] <;> rfl), zL HB.out⟩
                          ·rw [if_neg c79] at H
                           have c79b0 : (t185 == 0) = false := beq_eq_false_iff_ne.mpr c79
                           have c79b1 : (t185 != 0) = true := bne_iff_ne.mpr c79
                           obtain rfl := Option.some.inj H
                           have p62 : 0 ≤ ((ji59) : Int) := zD
                           have q62 : (ji59) < (x8_4.size : Int) := zD
                           have hx62 := bt_at x8_4 (ji59)
                           replace p62 := eq_true p62
                           replace q62 := eq_true q62
                           have p66 : 0 ≤ ((ji59) : Int) := zD
                           have q66 : (ji59) < (x8_4.size : Int) := zD
                           have hx66 := bt_at x8_4 (ji59)
                           replace p66 := eq_true p66
                           replace q66 := eq_true q66
                           go_wp2_with (first | ((with_reducible refine gate_callee (f := 9) rfl ?_); refine goesL_ (some 122) rfl rfl Tryd.func9 (by kernel_rfl) rfl #[.string (((((((((⟨#[9]⟩ : ByteArray) ++ a0) ++ (⟨#[32, 35]⟩ : ByteArray)) ++ a1) ++ (⟨#[10]⟩ : ByteArray)) ++ a0) ++ (⟨#[32, 35]⟩ : ByteArray)) ++ a1) ++ (⟨#[10]⟩ : ByteArray))] rfl zA ?_; (with_reducible refine (lex_Lex.calls k4 (((((((((⟨#[9]⟩ : ByteArray) ++ a0) ++ (⟨#[32, 35]⟩ : ByteArray)) ++ a1) ++ (⟨#[10]⟩ : ByteArray)) ++ a0) ++ (⟨#[32, 35]⟩ : ByteArray)) ++ a1) ++ (⟨#[10]⟩ : ByteArray)) t184 t185 t186 _ A78.out).mono ?_); rintro e w94 ⟨v187, rfl, ho0, hb⟩; refine ⟨_, rfl, ?_⟩; have n0_ := Aside0.mk (Kd.R_lower ho0 (below_size (zL HB.out))); have n1_ := Aside0.mk (below_step (zL HB.out) hb); revert n0_ n1_; clear HB; intro HO188 HB; (try clear hb); (try clear hb2); (try clear hk); (try clear hi); (try clear ho0)))
                           go_ret
                           exact ⟨by first | rfl | (simp [errW_none, errW_some] <;> rfl) | (simp only [← hji59]; first | rfl | (simp [errW_none, errW_some] <;> rfl)) | (simp [*, errW_none, errW_some] <;> rfl), zL HB.out⟩
                         ·rw [if_neg c77] at H
                          exact absurd H (by simp)
                        ·rw [if_neg c76] at H
                         exact absurd H (by simp)
                       ·rw [if_neg c75] at H
                        exact absurd H (by simp)
                      ·rw [if_neg c74] at H
                       exact absurd H (by simp)
                     ·rw [if_neg c73] at H
                      exact absurd H (by simp)
                    ·rw [if_neg c72] at H
                     exact absurd H (by simp)
                   ·rw [if_neg c71] at H
                    exact absurd H (by simp)
                  ·rw [if_neg c70] at H
                   exact absurd H (by simp)
               ·rw [if_neg c61] at H
                exact absurd H (by simp)
              ·rw [if_neg c60] at H
               exact absurd H (by simp)
    ·rw [if_neg c9] at H
     exact absurd H (by simp)

/-- THE ONE PURE STATEMENT of cooperagelaw8_LexTabs. -/
def cooperagelaw8_LexTabs.Pure : Prop := ∀ (a0 : ByteArray) (a1 : ByteArray), a0.size ≤ 140737488351232 → a1.size ≤ 140737488351232 → ∃ k, cooperagelaw8_LexTabs.f k a0 a1 = some true
theorem cooperagelaw8_LexTabs.walk (P : cooperagelaw8_LexTabs.Pure) (a0 : ByteArray) (a1 : ByteArray) (w : World) (w0 : a0.size ≤ 140737488351232) (w1 : a1.size ≤ 140737488351232) :
  Calls Tryd.prog 6 #[.string a0, .string a1] w fun e w' => e = .returned (.bool true) ∧ Below w.heap.size w w' := by
 obtain ⟨k, h⟩ := P a0 a1 w0 w1
 refine (cooperagelaw8_LexTabs.calls k a0 a1 true w h).mono ?_
 rintro e w' ⟨rfl, hd⟩
 exact ⟨rfl, hd⟩

end Go.Proofs.YtjbpabpfhkcolaaDoor.PLex
