-- Written by a program of this session (wip/tools/ext.py, over the kit's printer); not trusted: Lean checks it.
import Derived.Test.YtjbpabpfhkcolaaDoorPLexx0
import Derived.Test.YtjbpabpfhkcolaaDoorPLexx3
namespace Go.Proofs.YtjbpabpfhkcolaaDoor.PLex
open Go.RowKit Go.Proofs.YtjbpabpfhkcolaaDoorW.PrintWords Go.Proofs.YtjbpabpfhkcolaaDoorW.PrintLast Go.Proofs.YtjbpabpfhkcolaaDoorW.PrintMore
attribute [local go_sem] max2_int min2_int max_two min_two max_three min_three max_four min_four   -- for this text's walks alone
set_option linter.unusedVariables false
set_option linter.unusedSimpArgs false

/-! ### cooperagelaw8_texts: function 10 -/
def cooperagelaw8_texts.l0 : Nat → List (S28) → List (S28) → Int → Option (Bool)
 | 0, _, _, _ => none
 | k + 1, x0, x1, x5 => if x5 < (x0.length : Int) then (if 0 ≤ x5 then (if x5 < (x1.length : Int) then (if (((rd_T28 x0 x5).f1) != ((rd_T28 x1 x5).f1)) = true then (some false) else (if ((rd_T28 x0 x5).f2).toList = ((rd_T28 x1 x5).f2).toList then (cooperagelaw8_texts.l0 k x0 x1 (wrap64 (x5 + 1))) else (some false))) else (none)) else (none)) else (some true)
def cooperagelaw8_texts.f (k : Nat) (l0 : List (S28)) (l1 : List (S28)) : Option (Bool) := if (l0.length : Int) = (l1.length : Int) then (cooperagelaw8_texts.l0 k l0 l1 0) else (some false)
theorem cooperagelaw8_texts.mono_l : ∀ k, (∀ y0 y1 y2, LeO (cooperagelaw8_texts.l0 k y0 y1 y2) (cooperagelaw8_texts.l0 (k + 1) y0 y1 y2))
 | 0 => fun _ _ _ r h => by simp [cooperagelaw8_texts.l0] at h
 | k + 1 => by
  have ih0 := cooperagelaw8_texts.mono_l k
  ·intro y0 y1 y2
   unfold cooperagelaw8_texts.l0
   repeat' first
   | (with_reducible exact ih0 _ _ _)
   | (with_reducible exact LeO.refl _)
   | (with_reducible exact LeO.none _)
   | (with_reducible refine LeO.ite ?_ ?_)
   | (with_reducible refine LeO.bind ?_ (fun _ => ?_))
   | exact ih0 _ _ _
   | exact LeO.none _
   | refine LeO.ite ?_ ?_
   | refine LeO.bind ?_ (fun _ => ?_)
theorem cooperagelaw8_texts.mono : ∀ a0 a1 k, LeO (cooperagelaw8_texts.f k a0 a1) (cooperagelaw8_texts.f (k + 1) a0 a1) := by
 intro a0 a1 k
 have ih0 := cooperagelaw8_texts.mono_l k
 unfold cooperagelaw8_texts.f
 repeat' first
   | (with_reducible exact ih0 _ _ _)
   | (with_reducible exact LeO.refl _)
   | (with_reducible exact LeO.none _)
   | (with_reducible refine LeO.ite ?_ ?_)
   | (with_reducible refine LeO.bind ?_ (fun _ => ?_))
   | exact ih0 _ _ _
   | exact LeO.none _
   | refine LeO.ite ?_ ?_
   | refine LeO.bind ?_ (fun _ => ?_)
set_option maxHeartbeats 8000000 in
set_option maxRecDepth 100000 in
theorem cooperagelaw8_texts.calls (k : Nat) (A0 : Option Addr) (c0 : Nat) (l0 : List (S28)) (A1 : Option Addr) (c1 : Nat) (l1 : List (S28)) (r : Bool) (w : World) (hr0 : Kd.C k28 w A0 l0.length l0) (hc0 : l0.length ≤ c0) (hr1 : Kd.C k28 w A1 l1.length l1) (hc1 : l1.length ≤ c1) (h : cooperagelaw8_texts.f k l0 l1 = some r) :
  Calls Tryd.prog 10 #[.slice A0 l0.length c0, .slice A1 l1.length c1] w fun e w' => e = .returned (.bool r) ∧ Drawn0 w w' := by
 have HR0 := Aside0.mk hr0
 have HC0 := Aside0.mk hc0
 clear hr0 hc0
 have HR1 := Aside0.mk hr1
 have HC1 := Aside0.mk hc1
 clear hr1 hc1
 have H : (if (l0.length : Int) = (l1.length : Int) then (cooperagelaw8_texts.l0 k l0 l1 0) else (some false)) = some r := h
 clear h
 by_cases c3 : (l0.length : Int) = (l1.length : Int)
 ·rw [if_pos c3] at H
  have c3b0 : ((l0.length : Int) == (l1.length : Int)) = true := beq_iff_eq.mpr c3
  have c3b1 : ((l0.length : Int) != (l1.length : Int)) = false := bne_eq_false_iff_eq.mpr c3
  have c3b2 : (l0.length == l1.length) = true := by first | simpa using c3 | (simp at c3 ⊢; omega)
  clear c3
  have H' := Aside0.mk H
  clear H
  go_enter Tryd.func10, Tryd.ntmps10
  go_wp2
  repeat (go_quiet (fail); try go_wp2)
  go_loopg [5] k (fun kq v5 w' => ∃ (x5_1 : Int), v5 = .int .i64 x5_1 ∧ Aside0 (cooperagelaw8_texts.l0 kq l0 l1 x5_1 = some r) ∧ Aside0 (kq ≤ k) ∧ Drawn0 w w')
  case atStart => exact ⟨(0), zS, H', ⟨Nat.le_refl _⟩, by repeat (first | exact Drawn0.refl _ | apply Drawn0.step)⟩
  case round =>
   clear H'
   try clear c1
   try clear p2
   try clear c3
   try clear c3b0
   try clear c3b1
   try clear c3b2
   obtain ⟨x5_1, rfl, HA, HK1, ⟨m1, rfl⟩⟩ := hrel
   cases gk with
   | zero => exact absurd HA.out (by simp [cooperagelaw8_texts.l0])
   | succ k1 =>
    have H := HA.out
    clear HA
    simp only [cooperagelaw8_texts.l0] at H
    by_cases c4 : x5_1 < (l0.length : Int)
    ·rw [if_pos c4] at H
     have c4b0 : decide (x5_1 < (l0.length : Int)) = true := decide_eq_true c4
     clear c4
     by_cases c5 : 0 ≤ x5_1
     ·rw [if_pos c5] at H
      have c5b0 : decide (0 ≤ x5_1) = true := decide_eq_true c5
      clear c5
      by_cases c6 : x5_1 < (l1.length : Int)
      ·rw [if_pos c6] at H
       have c6b0 : decide (x5_1 < (l1.length : Int)) = true := decide_eq_true c6
       clear c6
       by_cases c7 : (((rd_T28 l0 x5_1).f1) != ((rd_T28 l1 x5_1).f1)) = true
       ·rw [if_pos c7] at H
        have c7b0 : (((rd_T28 l0 x5_1).f1) != ((rd_T28 l1 x5_1).f1)) = true := c7
        (try (have c7b1 : decide (((rd_T28 l0 x5_1).f1) = ((rd_T28 l1 x5_1).f1)) = false := by simpa using c7))
        (try (have c7b2 : (((rd_T28 l0 x5_1).f1) == ((rd_T28 l1 x5_1).f1)) = false := by simpa using c7))
        (try (have c7b3 : ¬ (((rd_T28 l0 x5_1).f1) = ((rd_T28 l1 x5_1).f1)) := by simpa using c7))
        clear c7
        obtain rfl := Option.some.inj H
        have p148 : 0 ≤ (x5_1 : Int) := zD
        have q148 : x5_1 < (l0.length : Int) := zD
        obtain ⟨ad148, e148, hx148_0, hx148_1, hx148_2⟩ := at_T28 HR0.out x5_1 p148 q148
        cases e148
        replace p148 := eq_true p148
        replace q148 := eq_true q148
        have p149 : 0 ≤ (x5_1 : Int) := zD
        have q149 : x5_1 < (l1.length : Int) := zD
        obtain ⟨ad149, e149, hx149_0, hx149_1, hx149_2⟩ := at_T28 HR1.out x5_1 p149 q149
        cases e149
        replace p149 := eq_true p149
        replace q149 := eq_true q149
        go_wp2
        repeat (go_quiet (fail); try go_wp2)
        go_ret
        exact ⟨by first | rfl | (simp; done) | (simp [*]; done), by repeat (first | exact Drawn0.refl _ | apply Drawn0.step)⟩
       ·rw [if_neg c7] at H
        have c7b0 : (((rd_T28 l0 x5_1).f1) != ((rd_T28 l1 x5_1).f1)) = false := by simpa using c7
        (try (have c7b1 : decide (((rd_T28 l0 x5_1).f1) = ((rd_T28 l1 x5_1).f1)) = true := by simpa using c7))
        (try (have c7b2 : (((rd_T28 l0 x5_1).f1) == ((rd_T28 l1 x5_1).f1)) = true := by simpa using c7))
        clear c7
        by_cases c8 : ((rd_T28 l0 x5_1).f2).toList = ((rd_T28 l1 x5_1).f2).toList
        ·rw [if_pos c8] at H
         have c8b0 : (((rd_T28 l0 x5_1).f2).toList == ((rd_T28 l1 x5_1).f2).toList) = true := beq_iff_eq.mpr c8
         have c8b1 : (((rd_T28 l0 x5_1).f2).toList != ((rd_T28 l1 x5_1).f2).toList) = false := bne_eq_false_iff_eq.mpr c8
         clear c8
         have H' := Aside0.mk H
         clear H
         have p148 : 0 ≤ (x5_1 : Int) := zD
         have q148 : x5_1 < (l0.length : Int) := zD
         obtain ⟨ad148, e148, hx148_0, hx148_1, hx148_2⟩ := at_T28 HR0.out x5_1 p148 q148
         cases e148
         replace p148 := eq_true p148
         replace q148 := eq_true q148
         have p149 : 0 ≤ (x5_1 : Int) := zD
         have q149 : x5_1 < (l1.length : Int) := zD
         obtain ⟨ad149, e149, hx149_0, hx149_1, hx149_2⟩ := at_T28 HR1.out x5_1 p149 q149
         cases e149
         replace p149 := eq_true p149
         replace q149 := eq_true q149
         have p150 : 0 ≤ (x5_1 : Int) := zD
         have q150 : x5_1 < (l0.length : Int) := zD
         obtain ⟨ad150, e150, hx150_0, hx150_1, hx150_2⟩ := at_T28 HR0.out x5_1 p150 q150
         obtain rfl : ad148 = ad150 := (by injection e150)
         replace p150 := eq_true p150
         replace q150 := eq_true q150
         have p151 : 0 ≤ (x5_1 : Int) := zD
         have q151 : x5_1 < (l1.length : Int) := zD
         obtain ⟨ad151, e151, hx151_0, hx151_1, hx151_2⟩ := at_T28 HR1.out x5_1 p151 q151
         obtain rfl : ad149 = ad151 := (by injection e151)
         replace p151 := eq_true p151
         replace q151 := eq_true q151
         go_wp2
         repeat (go_quiet (fail); try go_wp2)
         go_roundg k1
         case measure => have := HK1.out; omega
         case rel => exact ⟨(wrap64 (x5_1 + 1)), zS, H', ⟨by have := HK1.out; omega⟩, by repeat (first | exact Drawn0.refl _ | apply Drawn0.step)⟩
        ·rw [if_neg c8] at H
         have c8b0 : (((rd_T28 l0 x5_1).f2).toList == ((rd_T28 l1 x5_1).f2).toList) = false := beq_eq_false_iff_ne.mpr c8
         have c8b1 : (((rd_T28 l0 x5_1).f2).toList != ((rd_T28 l1 x5_1).f2).toList) = true := bne_iff_ne.mpr c8
         obtain rfl := Option.some.inj H
         have p148 : 0 ≤ (x5_1 : Int) := zD
         have q148 : x5_1 < (l0.length : Int) := zD
         obtain ⟨ad148, e148, hx148_0, hx148_1, hx148_2⟩ := at_T28 HR0.out x5_1 p148 q148
         cases e148
         replace p148 := eq_true p148
         replace q148 := eq_true q148
         have p149 : 0 ≤ (x5_1 : Int) := zD
         have q149 : x5_1 < (l1.length : Int) := zD
         obtain ⟨ad149, e149, hx149_0, hx149_1, hx149_2⟩ := at_T28 HR1.out x5_1 p149 q149
         cases e149
         replace p149 := eq_true p149
         replace q149 := eq_true q149
         have p150 : 0 ≤ (x5_1 : Int) := zD
         have q150 : x5_1 < (l0.length : Int) := zD
         obtain ⟨ad150, e150, hx150_0, hx150_1, hx150_2⟩ := at_T28 HR0.out x5_1 p150 q150
         obtain rfl : ad148 = ad150 := (by injection e150)
         replace p150 := eq_true p150
         replace q150 := eq_true q150
         have p151 : 0 ≤ (x5_1 : Int) := zD
         have q151 : x5_1 < (l1.length : Int) := zD
         obtain ⟨ad151, e151, hx151_0, hx151_1, hx151_2⟩ := at_T28 HR1.out x5_1 p151 q151
         obtain rfl : ad149 = ad151 := (by injection e151)
         replace p151 := eq_true p151
         replace q151 := eq_true q151
         go_wp2
         repeat (go_quiet (fail); try go_wp2)
         go_ret
         exact ⟨by first | rfl | (simp; done) | (simp [*]; done), by repeat (first | exact Drawn0.refl _ | apply Drawn0.step)⟩
      ·rw [if_neg c6] at H
       exact absurd H (by simp)
     ·rw [if_neg c5] at H
      exact absurd H (by simp)
    ·rw [if_neg c4] at H
     have c4b0 : decide (x5_1 < (l0.length : Int)) = false := decide_eq_false c4
     clear c4
     obtain rfl := Option.some.inj H
     go_wp2
     repeat (go_quiet (fail); try go_wp2)
     go_ret
     exact ⟨by first | rfl | (simp; done) | (simp [*]; done), by repeat (first | exact Drawn0.refl _ | apply Drawn0.step)⟩
 ·rw [if_neg c3] at H
  have c3b0 : ((l0.length : Int) == (l1.length : Int)) = false := beq_eq_false_iff_ne.mpr c3
  have c3b1 : ((l0.length : Int) != (l1.length : Int)) = true := bne_iff_ne.mpr c3
  have c3b2 : (l0.length == l1.length) = false := by first | simpa using c3 | (simp at c3 ⊢; omega)
  obtain rfl := Option.some.inj H
  go_enter Tryd.func10, Tryd.ntmps10
  go_wp2
  repeat (go_quiet (fail); try go_wp2)
  go_ret
  exact ⟨by first | rfl | (simp; done) | (simp [*]; done), by repeat (first | exact Drawn0.refl _ | apply Drawn0.step)⟩

/-! ### cooperagelaw8_LexBetween: function 4 -/
mutual
def cooperagelaw8_LexBetween.j0 : Nat → ByteArray → ByteArray → ByteArray → Bool → Bool → Option (Bool)
 | 0, _, _, _, _, _ => none
 | k + 1, x0, x1, x2, x7, x33 => if x33 = true then (some x7) else (cooperagelaw8_LexBetween.l0 k x0 x1 x2 0)
def cooperagelaw8_LexBetween.l0 : Nat → ByteArray → ByteArray → ByteArray → Int → Option (Bool)
 | 0, _, _, _, _ => none
 | k + 1, x0, x1, x2, x8 => if x8 < (x2.size : Int) then (if 0 ≤ x8 then (if (bt x2 x8) = 10 then (some true) else (if (bt x2 x8) = 92 then (some true) else (cooperagelaw8_LexBetween.l0 k x0 x1 x2 (wrap64 (x8 + 1))))) else (none)) else (cooperagelaw8_LexBetween.l1 k x0 x1 x2 0)
def cooperagelaw8_LexBetween.l1 : Nat → ByteArray → ByteArray → ByteArray → Int → Option (Bool)
 | 0, _, _, _, _ => none
 | k + 1, x0, x1, x2, x9 => if x9 < (x0.size : Int) then (if 0 ≤ x9 then (if (bt x0 x9) = 92 then (some true) else (cooperagelaw8_LexBetween.l1 k x0 x1 x2 (wrap64 (x9 + 1)))) else (none)) else (if x0.size + 1 ≤ 9223372036854775807 then (if (x0 ++ (⟨#[10]⟩ : ByteArray)).size + x1.size ≤ 9223372036854775807 then ((lex_Lex.f k ((x0 ++ (⟨#[10]⟩ : ByteArray)) ++ x1)).bind fun bt153 => (if x0.size + 3 ≤ 9223372036854775807 then (if (x0 ++ (⟨#[10, 35, 32]⟩ : ByteArray)).size + x2.size ≤ 9223372036854775807 then (if ((x0 ++ (⟨#[10, 35, 32]⟩ : ByteArray)) ++ x2).size + 3 ≤ 9223372036854775807 then (if (((x0 ++ (⟨#[10, 35, 32]⟩ : ByteArray)) ++ x2) ++ (⟨#[10, 32, 10]⟩ : ByteArray)).size + x1.size ≤ 9223372036854775807 then ((lex_Lex.f k ((((x0 ++ (⟨#[10, 35, 32]⟩ : ByteArray)) ++ x2) ++ (⟨#[10, 32, 10]⟩ : ByteArray)) ++ x1)).bind fun bt158 => (if bt153.2.1 = bt158.2.1 then ((cooperagelaw8_texts.f k bt153.1 bt158.1).bind fun t163 => (some t163)) else (some false))) else (none)) else (none)) else (none)) else (none))) else (none)) else (none))
end
def cooperagelaw8_LexBetween.f (k : Nat) (a0 : ByteArray) (a1 : ByteArray) (a2 : ByteArray) : Option (Bool) := (cooperagelaw8_shown.f k).bind fun t152 => (if t152 = true then (if (a0.size : Int) > 1000 then (cooperagelaw8_LexBetween.j0 k a0 a1 a2 t152 true) else (if (a1.size : Int) > 1000 then (cooperagelaw8_LexBetween.j0 k a0 a1 a2 t152 true) else (cooperagelaw8_LexBetween.j0 k a0 a1 a2 t152 (decide ((a2.size : Int) > 200))))) else (cooperagelaw8_LexBetween.j0 k a0 a1 a2 t152 true))
theorem cooperagelaw8_LexBetween.mono_l : ∀ k, (∀ y0 y1 y2 y3 y4, LeO (cooperagelaw8_LexBetween.j0 k y0 y1 y2 y3 y4) (cooperagelaw8_LexBetween.j0 (k + 1) y0 y1 y2 y3 y4)) ∧ (∀ y0 y1 y2 y3, LeO (cooperagelaw8_LexBetween.l0 k y0 y1 y2 y3) (cooperagelaw8_LexBetween.l0 (k + 1) y0 y1 y2 y3)) ∧ (∀ y0 y1 y2 y3, LeO (cooperagelaw8_LexBetween.l1 k y0 y1 y2 y3) (cooperagelaw8_LexBetween.l1 (k + 1) y0 y1 y2 y3))
 | 0 => ⟨fun _ _ _ _ _ r h => by simp [cooperagelaw8_LexBetween.j0] at h, fun _ _ _ _ r h => by simp [cooperagelaw8_LexBetween.l0] at h, fun _ _ _ _ r h => by simp [cooperagelaw8_LexBetween.l1] at h⟩
 | k + 1 => by
  obtain ⟨ih0, ih1, ih2⟩ := cooperagelaw8_LexBetween.mono_l k
  refine ⟨?_, ?_, ?_⟩
  ·intro y0 y1 y2 y3 y4
   unfold cooperagelaw8_LexBetween.j0
   repeat' first
   | (with_reducible exact ih0 _ _ _ _ _)
   | (with_reducible exact ih1 _ _ _ _)
   | (with_reducible exact ih2 _ _ _ _)
   | (with_reducible exact cooperagelaw8_shown.mono _)
   | (with_reducible exact cooperagelaw8_texts.mono _ _ _)
   | (with_reducible exact lex_Lex.mono _ _)
   | (with_reducible exact LeO.refl _)
   | (with_reducible exact LeO.none _)
   | (with_reducible refine LeO.ite ?_ ?_)
   | (with_reducible refine LeO.bind ?_ (fun _ => ?_))
   | exact ih0 _ _ _ _ _
   | exact ih1 _ _ _ _
   | exact ih2 _ _ _ _
   | exact cooperagelaw8_shown.mono _
   | exact cooperagelaw8_texts.mono _ _ _
   | exact lex_Lex.mono _ _
   | exact LeO.none _
   | refine LeO.ite ?_ ?_
   | refine LeO.bind ?_ (fun _ => ?_)
  ·intro y0 y1 y2 y3
   unfold cooperagelaw8_LexBetween.l0
   repeat' first
   | (with_reducible exact ih0 _ _ _ _ _)
   | (with_reducible exact ih1 _ _ _ _)
   | (with_reducible exact ih2 _ _ _ _)
   | (with_reducible exact cooperagelaw8_shown.mono _)
   | (with_reducible exact cooperagelaw8_texts.mono _ _ _)
   | (with_reducible exact lex_Lex.mono _ _)
   | (with_reducible exact LeO.refl _)
   | (with_reducible exact LeO.none _)
   | (with_reducible refine LeO.ite ?_ ?_)
   | (with_reducible refine LeO.bind ?_ (fun _ => ?_))
   | exact ih0 _ _ _ _ _
   | exact ih1 _ _ _ _
   | exact ih2 _ _ _ _
   | exact cooperagelaw8_shown.mono _
   | exact cooperagelaw8_texts.mono _ _ _
   | exact lex_Lex.mono _ _
   | exact LeO.none _
   | refine LeO.ite ?_ ?_
   | refine LeO.bind ?_ (fun _ => ?_)
  ·intro y0 y1 y2 y3
   unfold cooperagelaw8_LexBetween.l1
   repeat' first
   | (with_reducible exact ih0 _ _ _ _ _)
   | (with_reducible exact ih1 _ _ _ _)
   | (with_reducible exact ih2 _ _ _ _)
   | (with_reducible exact cooperagelaw8_shown.mono _)
   | (with_reducible exact cooperagelaw8_texts.mono _ _ _)
   | (with_reducible exact lex_Lex.mono _ _)
   | (with_reducible exact LeO.refl _)
   | (with_reducible exact LeO.none _)
   | (with_reducible refine LeO.ite ?_ ?_)
   | (with_reducible refine LeO.bind ?_ (fun _ => ?_))
   | exact ih0 _ _ _ _ _
   | exact ih1 _ _ _ _
   | exact ih2 _ _ _ _
   | exact cooperagelaw8_shown.mono _
   | exact cooperagelaw8_texts.mono _ _ _
   | exact lex_Lex.mono _ _
   | exact LeO.none _
   | refine LeO.ite ?_ ?_
   | refine LeO.bind ?_ (fun _ => ?_)
theorem cooperagelaw8_LexBetween.mono : ∀ a0 a1 a2 k, LeO (cooperagelaw8_LexBetween.f k a0 a1 a2) (cooperagelaw8_LexBetween.f (k + 1) a0 a1 a2) := by
 intro a0 a1 a2 k
 obtain ⟨ih0, ih1, ih2⟩ := cooperagelaw8_LexBetween.mono_l k
 unfold cooperagelaw8_LexBetween.f
 repeat' first
   | (with_reducible exact ih0 _ _ _ _ _)
   | (with_reducible exact ih1 _ _ _ _)
   | (with_reducible exact ih2 _ _ _ _)
   | (with_reducible exact cooperagelaw8_shown.mono _)
   | (with_reducible exact cooperagelaw8_texts.mono _ _ _)
   | (with_reducible exact lex_Lex.mono _ _)
   | (with_reducible exact LeO.refl _)
   | (with_reducible exact LeO.none _)
   | (with_reducible refine LeO.ite ?_ ?_)
   | (with_reducible refine LeO.bind ?_ (fun _ => ?_))
   | exact ih0 _ _ _ _ _
   | exact ih1 _ _ _ _
   | exact ih2 _ _ _ _
   | exact cooperagelaw8_shown.mono _
   | exact cooperagelaw8_texts.mono _ _ _
   | exact lex_Lex.mono _ _
   | exact LeO.none _
   | refine LeO.ite ?_ ?_
   | refine LeO.bind ?_ (fun _ => ?_)
set_option maxHeartbeats 8000000 in
set_option maxRecDepth 100000 in
theorem cooperagelaw8_LexBetween.calls (k : Nat) (a0 : ByteArray) (a1 : ByteArray) (a2 : ByteArray) (r : Bool) (w : World) (h : cooperagelaw8_LexBetween.f k a0 a1 a2 = some r) :
  Calls Tryd.prog 4 #[.string a0, .string a1, .string a2] w fun e w' => e = .returned (.bool r) ∧ Below w.heap.size w w' := by
 have HB := Aside0.mk (Below.refl w.heap.size w)
 have H : ((cooperagelaw8_shown.f k).bind fun t152 => (if t152 = true then (if (a0.size : Int) > 1000 then (cooperagelaw8_LexBetween.j0 k a0 a1 a2 t152 true) else (if (a1.size : Int) > 1000 then (cooperagelaw8_LexBetween.j0 k a0 a1 a2 t152 true) else (cooperagelaw8_LexBetween.j0 k a0 a1 a2 t152 (decide ((a2.size : Int) > 200))))) else (cooperagelaw8_LexBetween.j0 k a0 a1 a2 t152 true))) = some r := h
 clear h
 replace H := Option.bind_eq_some_iff.mp H
 obtain ⟨t152, A40, H⟩ := H
 replace H : (if t152 = true then (if (a0.size : Int) > 1000 then (cooperagelaw8_LexBetween.j0 k a0 a1 a2 t152 true) else (if (a1.size : Int) > 1000 then (cooperagelaw8_LexBetween.j0 k a0 a1 a2 t152 true) else (cooperagelaw8_LexBetween.j0 k a0 a1 a2 t152 (decide ((a2.size : Int) > 200))))) else (cooperagelaw8_LexBetween.j0 k a0 a1 a2 t152 true)) = some r := H
 have A4 := Aside0.mk A40
 clear A40
 have HC5 := Aside0.mk H
 clear H
 go_enter Tryd.func4, Tryd.ntmps4
 go_upto_region 2 with (first | ((with_reducible refine gate_callee (f := 8) rfl ?_); refine goesL_ (some 16) rfl rfl Tryd.func8 (by kernel_rfl) rfl #[] rfl zA ?_; (with_reducible refine (cooperagelaw8_shown.calls k  t152 _ A4.out).mono ?_); rintro e w6 ⟨rfl, hb⟩; refine ⟨_, rfl, ?_⟩; have n0_ := Aside0.mk (below_step (zL HB.out) hb); revert n0_; clear HB; intro HB; (try clear hb); (try clear hb2); (try clear hk); (try clear hi)))
 (try simp only [Act.put, List.setIfInBounds_toArray, List.set_cons_zero, List.set_cons_succ])
 go_cut [33] (fun v33 wc => ∃ (kq : Nat) (x33_4 : Bool), v33 = .bool x33_4 ∧ Aside0 (cooperagelaw8_LexBetween.j0 kq a0 a1 a2 t152 x33_4 = some r) ∧ Aside0 (kq ≤ k) ∧ Aside0 (Below w.heap.size w wc))
 case first =>
  have H := HC5.out
  clear HC5
  by_cases c7 : t152 = true
  ·subst c7
   have H1 : (if (a0.size : Int) > 1000 then (cooperagelaw8_LexBetween.j0 k a0 a1 a2 true true) else (if (a1.size : Int) > 1000 then (cooperagelaw8_LexBetween.j0 k a0 a1 a2 true true) else (cooperagelaw8_LexBetween.j0 k a0 a1 a2 true (decide ((a2.size : Int) > 200))))) = some r := by rw [if_pos rfl] at H; exact H
   clear H
   have H := H1
   clear H1
   by_cases c8 : (a0.size : Int) > 1000
   ·rw [if_pos c8] at H
    have c8b0 : decide (1000 < (a0.size : Int)) = true := decide_eq_true c8
    have c8b1 : decide (1000 < a0.size) = true := decide_eq_true (by omega)
    clear c8
    (first | rw [c8b0] | (simp only [i64_w, i32_w]; rw [c8b0]) | skip)
    have H' := Aside0.mk H
    clear H
    go_wp2
    go_meet
    case rel => exact ⟨_, (true), zS, H', ⟨by first | omega | exact Nat.le_refl _⟩, ⟨zL HB.out⟩⟩
   ·rw [if_neg c8] at H
    have c8b0 : decide (1000 < (a0.size : Int)) = false := decide_eq_false c8
    have c8b1 : decide (1000 < a0.size) = false := decide_eq_false (by omega)
    clear c8
    (first | rw [c8b0] | (simp only [i64_w, i32_w]; rw [c8b0]) | skip)
    by_cases c9 : (a1.size : Int) > 1000
    ·rw [if_pos c9] at H
     have c9b0 : decide (1000 < (a1.size : Int)) = true := decide_eq_true c9
     have c9b1 : decide (1000 < a1.size) = true := decide_eq_true (by omega)
     clear c9
     have H' := Aside0.mk H
     clear H
     go_wp2
     go_meet
     case rel => exact ⟨_, (true), zS, H', ⟨by first | omega | exact Nat.le_refl _⟩, ⟨zL HB.out⟩⟩
    ·rw [if_neg c9] at H
     have c9b0 : decide (1000 < (a1.size : Int)) = false := decide_eq_false c9
     have c9b1 : decide (1000 < a1.size) = false := decide_eq_false (by omega)
     clear c9
     have H' := Aside0.mk H
     clear H
     go_wp2
     go_meet
     case rel => exact ⟨_, (decide ((a2.size : Int) > 200)), zS, H', ⟨by first | omega | exact Nat.le_refl _⟩, ⟨zL HB.out⟩⟩
  ·replace c7 := Bool.eq_false_iff.mpr c7
   subst c7
   have H1 : (cooperagelaw8_LexBetween.j0 k a0 a1 a2 false true) = some r := by rw [if_neg (show ¬ (false = true) by decide)] at H; exact H
   clear H
   have H := H1
   clear H1
   have H' := Aside0.mk H
   clear H
   go_wp2
   go_meet
   case rel => exact ⟨_, (true), zS, H', ⟨by first | omega | exact Nat.le_refl _⟩, ⟨zL HB.out⟩⟩
 case rest =>
  clear HC5
  try clear p2
  try clear c4
  try clear c7
  try clear c8
  try clear c8b0
  try clear c8b1
  try clear c9
  try clear c9b0
  try clear c9b1
  obtain ⟨kq, x33_4, rfl, HA, HJ4, HB⟩ := hcut
  cases kq with
  | zero => exact absurd HA.out (by simp [cooperagelaw8_LexBetween.j0])
  | succ kj4 =>
   have H := HA.out
   clear HA
   simp only [cooperagelaw8_LexBetween.j0] at H
   by_cases c10 : x33_4 = true
   ·subst c10
    have H1 : (some t152) = some r := by rw [if_pos rfl] at H; exact H
    clear H
    have H := H1
    clear H1
    obtain rfl := Option.some.inj H
    go_wp2
    go_ret
    exact ⟨zE, zL HB.out⟩
   ·replace c10 := Bool.eq_false_iff.mpr c10
    subst c10
    have H1 : (cooperagelaw8_LexBetween.l0 kj4 a0 a1 a2 0) = some r := by rw [if_neg (show ¬ (false = true) by decide)] at H; exact H
    clear H
    have H := H1
    clear H1
    have H' := Aside0.mk H
    clear H
    go_wp2
    go_loopg [8] kj4 (fun kq v8 w' => ∃ (x8_2 : Int), v8 = .int .i64 x8_2 ∧ Aside0 (cooperagelaw8_LexBetween.l0 kq a0 a1 a2 x8_2 = some r) ∧ Aside0 (kq ≤ kj4) ∧ Aside0 (Below w.heap.size w w'))
    case atStart => exact ⟨(0), zS, H', ⟨Nat.le_refl _⟩, ⟨zL HB.out⟩⟩
    case round =>
     clear H'
     try clear c1
     try clear p2
     try clear c4
     try clear c7
     try clear c8
     try clear c8b0
     try clear c8b1
     try clear c9
     try clear c9b0
     try clear c9b1
     try clear c10
     try clear p2
     obtain ⟨x8_2, rfl, HA, HK2, HB⟩ := hrel
     cases gk with
     | zero => exact absurd HA.out (by simp [cooperagelaw8_LexBetween.l0])
     | succ k2 =>
      have H := HA.out
      clear HA
      simp only [cooperagelaw8_LexBetween.l0] at H
      by_cases c11 : x8_2 < (a2.size : Int)
      ·rw [if_pos c11] at H
       have c11b0 : decide (x8_2 < (a2.size : Int)) = true := decide_eq_true c11
       clear c11
       by_cases c12 : 0 ≤ x8_2
       ·rw [if_pos c12] at H
        have c12b0 : decide (0 ≤ x8_2) = true := decide_eq_true c12
        clear c12
        by_cases c14 : (bt a2 x8_2) = 10
        ·rw [if_pos c14] at H
         have c14b0 : ((bt a2 x8_2) == 10) = true := beq_iff_eq.mpr c14
         have c14b1 : ((bt a2 x8_2) != 10) = false := bne_eq_false_iff_eq.mpr c14
         clear c14
         obtain rfl := Option.some.inj H
         have p13 : 0 ≤ (x8_2 : Int) := zD
         have q13 : x8_2 < (a2.size : Int) := zD
         have hx13 := bt_at a2 x8_2
         replace p13 := eq_true p13
         replace q13 := eq_true q13
         go_wp2
         go_ret
         exact ⟨zE, zL HB.out⟩
        ·rw [if_neg c14] at H
         have c14b0 : ((bt a2 x8_2) == 10) = false := beq_eq_false_iff_ne.mpr c14
         have c14b1 : ((bt a2 x8_2) != 10) = true := bne_iff_ne.mpr c14
         by_cases c16 : (bt a2 x8_2) = 92
         ·rw [if_pos c16] at H
          have c16b0 : ((bt a2 x8_2) == 92) = true := beq_iff_eq.mpr c16
          have c16b1 : ((bt a2 x8_2) != 92) = false := bne_eq_false_iff_eq.mpr c16
          clear c16
          obtain rfl := Option.some.inj H
          have p13 : 0 ≤ (x8_2 : Int) := zD
          have q13 : x8_2 < (a2.size : Int) := zD
          have hx13 := bt_at a2 x8_2
          replace p13 := eq_true p13
          replace q13 := eq_true q13
          have p15 : 0 ≤ (x8_2 : Int) := zD
          have q15 : x8_2 < (a2.size : Int) := zD
          have hx15 := bt_at a2 x8_2
          replace p15 := eq_true p15
          replace q15 := eq_true q15
          go_wp2
          go_ret
          exact ⟨zE, zL HB.out⟩
         ·rw [if_neg c16] at H
          have c16b0 : ((bt a2 x8_2) == 92) = false := beq_eq_false_iff_ne.mpr c16
          have c16b1 : ((bt a2 x8_2) != 92) = true := bne_iff_ne.mpr c16
          have H' := Aside0.mk H
          clear H
          have p13 : 0 ≤ (x8_2 : Int) := zD
          have q13 : x8_2 < (a2.size : Int) := zD
          have hx13 := bt_at a2 x8_2
          replace p13 := eq_true p13
          replace q13 := eq_true q13
          have p15 : 0 ≤ (x8_2 : Int) := zD
          have q15 : x8_2 < (a2.size : Int) := zD
          have hx15 := bt_at a2 x8_2
          replace p15 := eq_true p15
          replace q15 := eq_true q15
          go_wp2
          go_roundg k2
          case measure => have := HJ4.out; have := HK2.out; omega
          case rel => exact ⟨(wrap64 (x8_2 + 1)), zS, H', ⟨by have := HJ4.out; have := HK2.out; omega⟩, ⟨zL HB.out⟩⟩
       ·rw [if_neg c12] at H
        exact absurd H (by simp)
      ·rw [if_neg c11] at H
       have c11b0 : decide (x8_2 < (a2.size : Int)) = false := decide_eq_false c11
       clear c11
       have H' := Aside0.mk H
       clear H
       go_wp2
       go_loopg [9] k2 (fun kq v9 w' => ∃ (x9_3 : Int), v9 = .int .i64 x9_3 ∧ Aside0 (cooperagelaw8_LexBetween.l1 kq a0 a1 a2 x9_3 = some r) ∧ Aside0 (kq ≤ k2) ∧ Aside0 (Below w.heap.size w w'))
       case atStart => exact ⟨(0), zS, H', ⟨Nat.le_refl _⟩, ⟨zL HB.out⟩⟩
       case round =>
        clear H'
        try clear c1
        try clear p1
        try clear q1
        try clear hx1
        try clear p2
        try clear c4
        try clear p6
        try clear c7
        try clear c8
        try clear c8b0
        try clear c8b1
        try clear c9
        try clear c9b0
        try clear c9b1
        try clear c10
        try clear c11
        try clear c11b0
        try clear c12
        try clear c12b0
        try clear p13
        try clear q13
        try clear hx13
        try clear c14
        try clear c14b0
        try clear c14b1
        try clear p15
        try clear q15
        try clear hx15
        try clear c16
        try clear c16b0
        try clear c16b1
        try clear p13
        try clear p15
        try clear p2
        try clear q13
        try clear q15
        obtain ⟨x9_3, rfl, HA, HK3, HB⟩ := hrel
        cases gk with
        | zero => exact absurd HA.out (by simp [cooperagelaw8_LexBetween.l1])
        | succ k3 =>
         have H := HA.out
         clear HA
         simp only [cooperagelaw8_LexBetween.l1] at H
         by_cases c17 : x9_3 < (a0.size : Int)
         ·rw [if_pos c17] at H
          have c17b0 : decide (x9_3 < (a0.size : Int)) = true := decide_eq_true c17
          clear c17
          by_cases c18 : 0 ≤ x9_3
          ·rw [if_pos c18] at H
           have c18b0 : decide (0 ≤ x9_3) = true := decide_eq_true c18
           clear c18
           by_cases c20 : (bt a0 x9_3) = 92
           ·rw [if_pos c20] at H
            have c20b0 : ((bt a0 x9_3) == 92) = true := beq_iff_eq.mpr c20
            have c20b1 : ((bt a0 x9_3) != 92) = false := bne_eq_false_iff_eq.mpr c20
            clear c20
            obtain rfl := Option.some.inj H
            have p19 : 0 ≤ (x9_3 : Int) := zD
            have q19 : x9_3 < (a0.size : Int) := zD
            have hx19 := bt_at a0 x9_3
            replace p19 := eq_true p19
            replace q19 := eq_true q19
            go_wp2
            go_ret
            exact ⟨zE, zL HB.out⟩
           ·rw [if_neg c20] at H
            have c20b0 : ((bt a0 x9_3) == 92) = false := beq_eq_false_iff_ne.mpr c20
            have c20b1 : ((bt a0 x9_3) != 92) = true := bne_iff_ne.mpr c20
            have H' := Aside0.mk H
            clear H
            have p19 : 0 ≤ (x9_3 : Int) := zD
            have q19 : x9_3 < (a0.size : Int) := zD
            have hx19 := bt_at a0 x9_3
            replace p19 := eq_true p19
            replace q19 := eq_true q19
            go_wp2
            go_roundg k3
            case measure => have := HJ4.out; have := HK2.out; have := HK3.out; omega
            case rel => exact ⟨(wrap64 (x9_3 + 1)), zS, H', ⟨by have := HJ4.out; have := HK2.out; have := HK3.out; omega⟩, ⟨zL HB.out⟩⟩
          ·rw [if_neg c18] at H
           exact absurd H (by simp)
         ·rw [if_neg c17] at H
          have c17b0 : decide (x9_3 < (a0.size : Int)) = false := decide_eq_false c17
          clear c17
          by_cases c21 : a0.size + 1 ≤ 9223372036854775807
          ·rw [if_pos c21] at H
           have c21b0 := eq_true c21
           have c21b1 : decide (a0.size + 1 ≤ 9223372036854775807) = true := decide_eq_true c21
           try have c21b2 : (9223372036854775807 < a0.size + 1) = False := eq_false (Nat.not_lt.2 c21)
           by_cases c22 : (a0 ++ (⟨#[10]⟩ : ByteArray)).size + a1.size ≤ 9223372036854775807
           ·rw [if_pos c22] at H
            have c22b0 := eq_true c22
            try (have c22b0s := c22b0; simp only [ByteArray.size_append, Int.natCast_add, Int.toNat_natCast] at c22b0s)
            try (have c22b0l := c22b0; simp only [ByteArray.size_append, Pl.lit_size, List.size_toArray, List.length_cons, List.length_nil, Nat.reduceAdd, Int.natCast_add, Int.toNat_natCast] at c22b0l)
            have c22b1 : decide ((a0 ++ (⟨#[10]⟩ : ByteArray)).size + a1.size ≤ 9223372036854775807) = true := decide_eq_true c22
            try (have c22b1s := c22b1; simp only [ByteArray.size_append, Int.natCast_add, Int.toNat_natCast] at c22b1s)
            try (have c22b1l := c22b1; simp only [ByteArray.size_append, Pl.lit_size, List.size_toArray, List.length_cons, List.length_nil, Nat.reduceAdd, Int.natCast_add, Int.toNat_natCast] at c22b1l)
            try have c22b2 : (9223372036854775807 < (a0 ++ (⟨#[10]⟩ : ByteArray)).size + a1.size) = False := eq_false (Nat.not_lt.2 c22)
            try (have c22b2s := c22b2; simp only [ByteArray.size_append, Int.natCast_add, Int.toNat_natCast] at c22b2s)
            try (have c22b2l := c22b2; simp only [ByteArray.size_append, Pl.lit_size, List.size_toArray, List.length_cons, List.length_nil, Nat.reduceAdd, Int.natCast_add, Int.toNat_natCast] at c22b2l)
            replace H := Option.bind_eq_some_iff.mp H
            obtain ⟨⟨t153, t154, t155⟩, A230, H⟩ := H
            replace H : (if a0.size + 3 ≤ 9223372036854775807 then (if (a0 ++ (⟨#[10, 35, 32]⟩ : ByteArray)).size + a2.size ≤ 9223372036854775807 then (if ((a0 ++ (⟨#[10, 35, 32]⟩ : ByteArray)) ++ a2).size + 3 ≤ 9223372036854775807 then (if (((a0 ++ (⟨#[10, 35, 32]⟩ : ByteArray)) ++ a2) ++ (⟨#[10, 32, 10]⟩ : ByteArray)).size + a1.size ≤ 9223372036854775807 then ((lex_Lex.f k3 ((((a0 ++ (⟨#[10, 35, 32]⟩ : ByteArray)) ++ a2) ++ (⟨#[10, 32, 10]⟩ : ByteArray)) ++ a1)).bind fun bt158 => (if t154 = bt158.2.1 then ((cooperagelaw8_texts.f k3 t153 bt158.1).bind fun t163 => (some t163)) else (some false))) else (none)) else (none)) else (none)) else (none)) = some r := H
            have A23 := Aside0.mk A230
            clear A230
            by_cases c24 : a0.size + 3 ≤ 9223372036854775807
            ·rw [if_pos c24] at H
             have c24b0 := eq_true c24
             have c24b1 : decide (a0.size + 3 ≤ 9223372036854775807) = true := decide_eq_true c24
             try have c24b2 : (9223372036854775807 < a0.size + 3) = False := eq_false (Nat.not_lt.2 c24)
             by_cases c25 : (a0 ++ (⟨#[10, 35, 32]⟩ : ByteArray)).size + a2.size ≤ 9223372036854775807
             ·rw [if_pos c25] at H
              have c25b0 := eq_true c25
              try (have c25b0s := c25b0; simp only [ByteArray.size_append, Int.natCast_add, Int.toNat_natCast] at c25b0s)
              try (have c25b0l := c25b0; simp only [ByteArray.size_append, Pl.lit_size, List.size_toArray, List.length_cons, List.length_nil, Nat.reduceAdd, Int.natCast_add, Int.toNat_natCast] at c25b0l)
              have c25b1 : decide ((a0 ++ (⟨#[10, 35, 32]⟩ : ByteArray)).size + a2.size ≤ 9223372036854775807) = true := decide_eq_true c25
              try (have c25b1s := c25b1; simp only [ByteArray.size_append, Int.natCast_add, Int.toNat_natCast] at c25b1s)
              try (have c25b1l := c25b1; simp only [ByteArray.size_append, Pl.lit_size, List.size_toArray, List.length_cons, List.length_nil, Nat.reduceAdd, Int.natCast_add, Int.toNat_natCast] at c25b1l)
              try have c25b2 : (9223372036854775807 < (a0 ++ (⟨#[10, 35, 32]⟩ : ByteArray)).size + a2.size) = False := eq_false (Nat.not_lt.2 c25)
              try (have c25b2s := c25b2; simp only [ByteArray.size_append, Int.natCast_add, Int.toNat_natCast] at c25b2s)
              try (have c25b2l := c25b2; simp only [ByteArray.size_append, Pl.lit_size, List.size_toArray, List.length_cons, List.length_nil, Nat.reduceAdd, Int.natCast_add, Int.toNat_natCast] at c25b2l)
              by_cases c26 : ((a0 ++ (⟨#[10, 35, 32]⟩ : ByteArray)) ++ a2).size + 3 ≤ 9223372036854775807
              ·rw [if_pos c26] at H
               have c26b0 := eq_true c26
               try (have c26b0s := c26b0; simp only [ByteArray.size_append, Int.natCast_add, Int.toNat_natCast] at c26b0s)
               try (have c26b0l := c26b0; simp only [ByteArray.size_append, Pl.lit_size, List.size_toArray, List.length_cons, List.length_nil, Nat.reduceAdd, Int.natCast_add, Int.toNat_natCast] at c26b0l)
               have c26b1 : decide (((a0 ++ (⟨#[10, 35, 32]⟩ : ByteArray)) ++ a2).size + 3 ≤ 9223372036854775807) = true := decide_eq_true c26
               try (have c26b1s := c26b1; simp only [ByteArray.size_append, Int.natCast_add, Int.toNat_natCast] at c26b1s)
               try (have c26b1l := c26b1; simp only [ByteArray.size_append, Pl.lit_size, List.size_toArray, List.length_cons, List.length_nil, Nat.reduceAdd, Int.natCast_add, Int.toNat_natCast] at c26b1l)
               try have c26b2 : (9223372036854775807 < ((a0 ++ (⟨#[10, 35, 32]⟩ : ByteArray)) ++ a2).size + 3) = False := eq_false (Nat.not_lt.2 c26)
               try (have c26b2s := c26b2; simp only [ByteArray.size_append, Int.natCast_add, Int.toNat_natCast] at c26b2s)
               try (have c26b2l := c26b2; simp only [ByteArray.size_append, Pl.lit_size, List.size_toArray, List.length_cons, List.length_nil, Nat.reduceAdd, Int.natCast_add, Int.toNat_natCast] at c26b2l)
               by_cases c27 : (((a0 ++ (⟨#[10, 35, 32]⟩ : ByteArray)) ++ a2) ++ (⟨#[10, 32, 10]⟩ : ByteArray)).size + a1.size ≤ 9223372036854775807
               ·rw [if_pos c27] at H
                have c27b0 := eq_true c27
                try (have c27b0s := c27b0; simp only [ByteArray.size_append, Int.natCast_add, Int.toNat_natCast] at c27b0s)
                try (have c27b0l := c27b0; simp only [ByteArray.size_append, Pl.lit_size, List.size_toArray, List.length_cons, List.length_nil, Nat.reduceAdd, Int.natCast_add, Int.toNat_natCast] at c27b0l)
                have c27b1 : decide ((((a0 ++ (⟨#[10, 35, 32]⟩ : ByteArray)) ++ a2) ++ (⟨#[10, 32, 10]⟩ : ByteArray)).size + a1.size ≤ 9223372036854775807) = true := decide_eq_true c27
                try (have c27b1s := c27b1; simp only [ByteArray.size_append, Int.natCast_add, Int.toNat_natCast] at c27b1s)
                try (have c27b1l := c27b1; simp only [ByteArray.size_append, Pl.lit_size, List.size_toArray, List.length_cons, List.length_nil, Nat.reduceAdd, Int.natCast_add, Int.toNat_natCast] at c27b1l)
                try have c27b2 : (9223372036854775807 < (((a0 ++ (⟨#[10, 35, 32]⟩ : ByteArray)) ++ a2) ++ (⟨#[10, 32, 10]⟩ : ByteArray)).size + a1.size) = False := eq_false (Nat.not_lt.2 c27)
                try (have c27b2s := c27b2; simp only [ByteArray.size_append, Int.natCast_add, Int.toNat_natCast] at c27b2s)
                try (have c27b2l := c27b2; simp only [ByteArray.size_append, Pl.lit_size, List.size_toArray, List.length_cons, List.length_nil, Nat.reduceAdd, Int.natCast_add, Int.toNat_natCast] at c27b2l)
                replace H := Option.bind_eq_some_iff.mp H
                obtain ⟨⟨t158, t159, t160⟩, A280, H⟩ := H
                replace H : (if t154 = t159 then ((cooperagelaw8_texts.f k3 t153 t158).bind fun t163 => (some t163)) else (some false)) = some r := H
                have A28 := Aside0.mk A280
                clear A280
                by_cases c29 : t154 = t159
                ·rw [if_pos c29] at H
                 have c29b0 : (t154 == t159) = true := beq_iff_eq.mpr c29
                 have c29b1 : (t154 != t159) = false := bne_eq_false_iff_eq.mpr c29
                 clear c29
                 replace H := Option.bind_eq_some_iff.mp H
                 obtain ⟨t163, A300, H⟩ := H
                 replace H : (some t163) = some r := H
                 have A30 := Aside0.mk A300
                 clear A300
                 obtain rfl := Option.some.inj H
                 go_wp2_with (first | ((with_reducible refine gate_callee (f := 9) rfl ?_); refine goesL_ (some 66) rfl rfl Tryd.func9 (by kernel_rfl) rfl #[.string ((a0 ++ (⟨#[10]⟩ : ByteArray)) ++ a1)] rfl zA ?_; (with_reducible refine (lex_Lex.calls k3 ((a0 ++ (⟨#[10]⟩ : ByteArray)) ++ a1) t153 t154 t155 _ A23.out).mono ?_); rintro e w31 ⟨v156, rfl, ho0, hb⟩; refine ⟨_, rfl, ?_⟩; have n0_ := Aside0.mk (Kd.R_lower ho0 (below_size (zL HB.out))); have n1_ := Aside0.mk (below_step (zL HB.out) hb); revert n0_ n1_; clear HB; intro HO157 HB; (try clear hb); (try clear hb2); (try clear hk); (try clear hi); (try clear ho0)) | ((with_reducible refine gate_callee (f := 9) rfl ?_); refine goesL_ (some 78) rfl rfl Tryd.func9 (by kernel_rfl) rfl #[.string ((((a0 ++ (⟨#[10, 35, 32]⟩ : ByteArray)) ++ a2) ++ (⟨#[10, 32, 10]⟩ : ByteArray)) ++ a1)] rfl zA ?_; (with_reducible refine (lex_Lex.calls k3 ((((a0 ++ (⟨#[10, 35, 32]⟩ : ByteArray)) ++ a2) ++ (⟨#[10, 32, 10]⟩ : ByteArray)) ++ a1) t158 t159 t160 _ A28.out).mono ?_); rintro e w32 ⟨v161, rfl, ho0, hb⟩; refine ⟨_, rfl, ?_⟩; have n0_ := Aside0.mk (Kd.R_elder' (zR HO157.out) (Kd.R_base ho0) hb); have n1_ := Aside0.mk (Kd.R_lower (Kd.R_new' ho0 (Kd.R_lt (zR HO157.out))) (below_size (zL HB.out))); have n2_ := Aside0.mk (below_step (zL HB.out) hb); revert n0_ n1_ n2_; clear HO157 HB; intro HO157 HO162 HB; (try clear hb); (try clear hb2); (try clear hk); (try clear hi); (try clear ho0); obtain ⟨Ao33, co33, eo33⟩ := Kd.R_slice HO157.out; subst eo33; obtain ⟨Ao34, co34, eo34⟩ := Kd.R_slice HO162.out; subst eo34) | (go_at_call 10; (with_reducible refine (cooperagelaw8_texts.calls k3 _ _ t153 _ _ t158 t163 _ ?side1 ?side2 ?side3 ?side4 A30.out).mono ?_); (case side1 => repeat (first | exact (Kd.R_reads' HO157.out).2.2 | (with_reducible refine Kd.C_alloc ?_ _) | (with_reducible refine Kd.C_drewN ?_ _) | (with_reducible refine Kd.C_drew ?_))); (case side2 => exact (Kd.R_reads' HO157.out).2.1); (case side3 => repeat (first | exact (Kd.R_reads' HO162.out).2.2 | (with_reducible refine Kd.C_alloc ?_ _) | (with_reducible refine Kd.C_drewN ?_ _) | (with_reducible refine Kd.C_drew ?_))); (case side4 => exact (Kd.R_reads' HO162.out).2.1); rintro e w' ⟨rfl, ⟨nd, rfl⟩⟩))
                 go_ret
                 exact ⟨zE, zL HB.out⟩
                ·rw [if_neg c29] at H
                 have c29b0 : (t154 == t159) = false := beq_eq_false_iff_ne.mpr c29
                 have c29b1 : (t154 != t159) = true := bne_iff_ne.mpr c29
                 obtain rfl := Option.some.inj H
                 go_wp2_with (first | ((with_reducible refine gate_callee (f := 9) rfl ?_); refine goesL_ (some 66) rfl rfl Tryd.func9 (by kernel_rfl) rfl #[.string ((a0 ++ (⟨#[10]⟩ : ByteArray)) ++ a1)] rfl zA ?_; (with_reducible refine (lex_Lex.calls k3 ((a0 ++ (⟨#[10]⟩ : ByteArray)) ++ a1) t153 t154 t155 _ A23.out).mono ?_); rintro e w35 ⟨v156, rfl, ho0, hb⟩; refine ⟨_, rfl, ?_⟩; have n0_ := Aside0.mk (Kd.R_lower ho0 (below_size (zL HB.out))); have n1_ := Aside0.mk (below_step (zL HB.out) hb); revert n0_ n1_; clear HB; intro HO157 HB; (try clear hb); (try clear hb2); (try clear hk); (try clear hi); (try clear ho0)) | ((with_reducible refine gate_callee (f := 9) rfl ?_); refine goesL_ (some 78) rfl rfl Tryd.func9 (by kernel_rfl) rfl #[.string ((((a0 ++ (⟨#[10, 35, 32]⟩ : ByteArray)) ++ a2) ++ (⟨#[10, 32, 10]⟩ : ByteArray)) ++ a1)] rfl zA ?_; (with_reducible refine (lex_Lex.calls k3 ((((a0 ++ (⟨#[10, 35, 32]⟩ : ByteArray)) ++ a2) ++ (⟨#[10, 32, 10]⟩ : ByteArray)) ++ a1) t158 t159 t160 _ A28.out).mono ?_); rintro e w36 ⟨v161, rfl, ho0, hb⟩; refine ⟨_, rfl, ?_⟩; have n0_ := Aside0.mk (Kd.R_elder' (zR HO157.out) (Kd.R_base ho0) hb); have n1_ := Aside0.mk (Kd.R_lower (Kd.R_new' ho0 (Kd.R_lt (zR HO157.out))) (below_size (zL HB.out))); have n2_ := Aside0.mk (below_step (zL HB.out) hb); revert n0_ n1_ n2_; clear HO157 HB; intro HO157 HO162 HB; (try clear hb); (try clear hb2); (try clear hk); (try clear hi); (try clear ho0)))
                 go_ret
                 exact ⟨zE, zL HB.out⟩
               ·rw [if_neg c27] at H
                exact absurd H (by simp)
              ·rw [if_neg c26] at H
               exact absurd H (by simp)
             ·rw [if_neg c25] at H
              exact absurd H (by simp)
            ·rw [if_neg c24] at H
             exact absurd H (by simp)
           ·rw [if_neg c22] at H
            exact absurd H (by simp)
          ·rw [if_neg c21] at H
           exact absurd H (by simp)

/-- THE ONE PURE STATEMENT of cooperagelaw8_LexBetween. -/
def cooperagelaw8_LexBetween.Pure : Prop := ∀ (a0 : ByteArray) (a1 : ByteArray) (a2 : ByteArray), a0.size ≤ 140737488351232 → a1.size ≤ 140737488351232 → a2.size ≤ 140737488351232 → ∃ k, cooperagelaw8_LexBetween.f k a0 a1 a2 = some true
theorem cooperagelaw8_LexBetween.walk (P : cooperagelaw8_LexBetween.Pure) (a0 : ByteArray) (a1 : ByteArray) (a2 : ByteArray) (w : World) (w0 : a0.size ≤ 140737488351232) (w1 : a1.size ≤ 140737488351232) (w2 : a2.size ≤ 140737488351232) :
  Calls Tryd.prog 4 #[.string a0, .string a1, .string a2] w fun e w' => e = .returned (.bool true) ∧ Below w.heap.size w w' := by
 obtain ⟨k, h⟩ := P a0 a1 a2 w0 w1 w2
 refine (cooperagelaw8_LexBetween.calls k a0 a1 a2 true w h).mono ?_
 rintro e w' ⟨rfl, hd⟩
 exact ⟨rfl, hd⟩

end Go.Proofs.YtjbpabpfhkcolaaDoor.PLex
