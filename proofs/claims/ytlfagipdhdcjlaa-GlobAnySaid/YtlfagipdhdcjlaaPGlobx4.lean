-- Written by a program of this session (wip/tools/ext.py, over the kit's printer); not trusted: Lean checks it.
import Derived.Test.YtlfagipdhdcjlaaPGlobx0
import Derived.Test.YtlfagipdhdcjlaaPGlobx1
import Derived.Test.YtlfagipdhdcjlaaPGlobx2
namespace Go.Proofs.Ytlfagipdhdcjlaa.PGlob
open Go.RowKit Go.Proofs.YtlfagipdhdcjlaaW.PrintWords Go.Proofs.YtlfagipdhdcjlaaW.PrintLast Go.Proofs.YtlfagipdhdcjlaaW.PrintMore
attribute [local go_sem] max2_int min2_int max_two min_two max_three min_three max_four min_four   -- for this text's walks alone
set_option linter.unusedVariables false
set_option linter.unusedSimpArgs false

/-! ### cooperagelaw2_GlobEnds: function 5 -/
mutual
def cooperagelaw2_GlobEnds.j0 : Nat → ByteArray → ByteArray → ByteArray → Bool → Bool → Option (Bool)
  | 0, _, _, _, _, _ => none
  | k + 1, x0, x1, x2, x7, x31 => if x31 = true then (some x7) else (cooperagelaw2_GlobEnds.l0 k x0 x1 x2 0)
def cooperagelaw2_GlobEnds.l0 : Nat → ByteArray → ByteArray → ByteArray → Int → Option (Bool)
  | 0, _, _, _, _ => none
  | k + 1, x0, x1, x2, x8 => if x0.size + x1.size ≤ 9223372036854775807 then (if x8 < ((x0 ++ x1).size : Int) then (if 0 ≤ x8 then (if (bt (x0 ++ x1) x8) = 37 then (some true) else (cooperagelaw2_GlobEnds.l0 k x0 x1 x2 (wrap64 (x8 + 1)))) else (none)) else (if x0.size + 1 ≤ 9223372036854775807 then (if (x0 ++ (⟨#[37]⟩ : ByteArray)).size + x1.size ≤ 9223372036854775807 then ((glob_Match.f ((x0 ++ (⟨#[37]⟩ : ByteArray)) ++ x1) x2).bind fun bt164 => (if (x2.size : Int) ≥ ((x0.size : Int) + (x1.size : Int)) then (if 0 ≤ (x0.size : Int) then (if (x0.size : Int) ≤ (x2.size : Int) then (if (x2.extract 0 ((x0.size : Int) : Int).toNat).toList = x0.toList then (if 0 ≤ (wrap64 ((x2.size : Int) - (x1.size : Int))) then (if (wrap64 ((x2.size : Int) - (x1.size : Int))) ≤ (x2.size : Int) then (if x0.size + x2.size ≤ 9223372036854775807 then (if (x0 ++ x2).size + x1.size ≤ 9223372036854775807 then ((glob_Match.f ((x0 ++ (⟨#[37]⟩ : ByteArray)) ++ x1) ((x0 ++ x2) ++ x1)).bind fun bt166 => (if (bt164.2 == ((x2.extract ((wrap64 ((x2.size : Int) - (x1.size : Int))) : Int).toNat x2.size).toList == x1.toList)) = true then (if bt164.2 = true then (if (x0.size : Int) ≤ (wrap64 ((x2.size : Int) - (x1.size : Int))) then (if bt164.1.toList = (x2.extract ((x0.size : Int) : Int).toNat ((wrap64 ((x2.size : Int) - (x1.size : Int))) : Int).toNat).toList then (if bt166.2 = true then (some (bt166.1.toList == x2.toList)) else (some false)) else (some false)) else (none)) else (if bt166.2 = true then (some (bt166.1.toList == x2.toList)) else (some false))) else (some false))) else (none)) else (none)) else (none)) else (none)) else (if x0.size + x2.size ≤ 9223372036854775807 then (if (x0 ++ x2).size + x1.size ≤ 9223372036854775807 then ((glob_Match.f ((x0 ++ (⟨#[37]⟩ : ByteArray)) ++ x1) ((x0 ++ x2) ++ x1)).bind fun bt168 => (if bt164.2 = true then (some false) else (if bt168.2 = true then (some (bt168.1.toList == x2.toList)) else (some false)))) else (none)) else (none))) else (none)) else (none)) else (if x0.size + x2.size ≤ 9223372036854775807 then (if (x0 ++ x2).size + x1.size ≤ 9223372036854775807 then ((glob_Match.f ((x0 ++ (⟨#[37]⟩ : ByteArray)) ++ x1) ((x0 ++ x2) ++ x1)).bind fun bt170 => (if bt164.2 = true then (some false) else (if bt170.2 = true then (some (bt170.1.toList == x2.toList)) else (some false)))) else (none)) else (none)))) else (none)) else (none))) else (none)
end
def cooperagelaw2_GlobEnds.f (k : Nat) (a0 : ByteArray) (a1 : ByteArray) (a2 : ByteArray) : Option (Bool) := (cooperagelaw2_shown.f).bind fun t163 => (if t163 = true then (if (a0.size : Int) > 100 then (cooperagelaw2_GlobEnds.j0 k a0 a1 a2 t163 true) else (if (a1.size : Int) > 100 then (cooperagelaw2_GlobEnds.j0 k a0 a1 a2 t163 true) else (cooperagelaw2_GlobEnds.j0 k a0 a1 a2 t163 (decide ((a2.size : Int) > 300))))) else (cooperagelaw2_GlobEnds.j0 k a0 a1 a2 t163 true))
theorem cooperagelaw2_GlobEnds.mono_l : ∀ k, (∀ y0 y1 y2 y3 y4, LeO (cooperagelaw2_GlobEnds.j0 k y0 y1 y2 y3 y4) (cooperagelaw2_GlobEnds.j0 (k + 1) y0 y1 y2 y3 y4)) ∧ (∀ y0 y1 y2 y3, LeO (cooperagelaw2_GlobEnds.l0 k y0 y1 y2 y3) (cooperagelaw2_GlobEnds.l0 (k + 1) y0 y1 y2 y3))
  | 0 => ⟨fun _ _ _ _ _ r h => by simp [cooperagelaw2_GlobEnds.j0] at h, fun _ _ _ _ r h => by simp [cooperagelaw2_GlobEnds.l0] at h⟩
  | k + 1 => by
    obtain ⟨ih0, ih1⟩ := cooperagelaw2_GlobEnds.mono_l k
    refine ⟨?_, ?_⟩
    · intro y0 y1 y2 y3 y4
      unfold cooperagelaw2_GlobEnds.j0
      repeat' first
      | (with_reducible exact ih0 _ _ _ _ _)
      | (with_reducible exact ih1 _ _ _ _)
      | (with_reducible exact LeO.refl _)
      | (with_reducible exact LeO.none _)
      | (with_reducible refine LeO.ite ?_ ?_)
      | (with_reducible refine LeO.bind ?_ (fun _ => ?_))
      | exact ih0 _ _ _ _ _
      | exact ih1 _ _ _ _
      | exact LeO.none _
      | refine LeO.ite ?_ ?_
      | refine LeO.bind ?_ (fun _ => ?_)
    · intro y0 y1 y2 y3
      unfold cooperagelaw2_GlobEnds.l0
      repeat' first
      | (with_reducible exact ih0 _ _ _ _ _)
      | (with_reducible exact ih1 _ _ _ _)
      | (with_reducible exact LeO.refl _)
      | (with_reducible exact LeO.none _)
      | (with_reducible refine LeO.ite ?_ ?_)
      | (with_reducible refine LeO.bind ?_ (fun _ => ?_))
      | exact ih0 _ _ _ _ _
      | exact ih1 _ _ _ _
      | exact LeO.none _
      | refine LeO.ite ?_ ?_
      | refine LeO.bind ?_ (fun _ => ?_)
theorem cooperagelaw2_GlobEnds.mono : ∀ a0 a1 a2 k, LeO (cooperagelaw2_GlobEnds.f k a0 a1 a2) (cooperagelaw2_GlobEnds.f (k + 1) a0 a1 a2) := by
  intro a0 a1 a2 k
  obtain ⟨ih0, ih1⟩ := cooperagelaw2_GlobEnds.mono_l k
  unfold cooperagelaw2_GlobEnds.f
  repeat' first
      | (with_reducible exact ih0 _ _ _ _ _)
      | (with_reducible exact ih1 _ _ _ _)
      | (with_reducible exact LeO.refl _)
      | (with_reducible exact LeO.none _)
      | (with_reducible refine LeO.ite ?_ ?_)
      | (with_reducible refine LeO.bind ?_ (fun _ => ?_))
      | exact ih0 _ _ _ _ _
      | exact ih1 _ _ _ _
      | exact LeO.none _
      | refine LeO.ite ?_ ?_
      | refine LeO.bind ?_ (fun _ => ?_)
set_option maxHeartbeats 8000000 in
set_option maxRecDepth 100000 in
theorem cooperagelaw2_GlobEnds.calls (k : Nat) (a0 : ByteArray) (a1 : ByteArray) (a2 : ByteArray) (r : Bool) (w : World) (h : cooperagelaw2_GlobEnds.f k a0 a1 a2 = some r) :
    Calls Try.prog 5 #[.string a0, .string a1, .string a2] w fun e w' => e = .returned (.bool r) ∧ Drawn0 w w' := by
  have H : ((cooperagelaw2_shown.f).bind fun t163 => (if t163 = true then (if (a0.size : Int) > 100 then (cooperagelaw2_GlobEnds.j0 k a0 a1 a2 t163 true) else (if (a1.size : Int) > 100 then (cooperagelaw2_GlobEnds.j0 k a0 a1 a2 t163 true) else (cooperagelaw2_GlobEnds.j0 k a0 a1 a2 t163 (decide ((a2.size : Int) > 300))))) else (cooperagelaw2_GlobEnds.j0 k a0 a1 a2 t163 true))) = some r := h
  clear h
  replace H := Option.bind_eq_some_iff.mp H
  obtain ⟨t163, A40, H⟩ := H
  replace H : (if t163 = true then (if (a0.size : Int) > 100 then (cooperagelaw2_GlobEnds.j0 k a0 a1 a2 t163 true) else (if (a1.size : Int) > 100 then (cooperagelaw2_GlobEnds.j0 k a0 a1 a2 t163 true) else (cooperagelaw2_GlobEnds.j0 k a0 a1 a2 t163 (decide ((a2.size : Int) > 300))))) else (cooperagelaw2_GlobEnds.j0 k a0 a1 a2 t163 true)) = some r := H
  have A4 := Aside0.mk A40
  clear A40
  have HC5 := Aside0.mk H
  clear H
  go_enter Try.func5, Try.ntmps5
  go_upto_region 2 with (first | ((with_reducible refine gate_callee (f := 9) rfl ?_); refine goesL_ (some 14) rfl rfl Try.func9 (by kernel_rfl) rfl #[] rfl (by (try simp only [List.map_toArray, List.map_cons, List.map_nil]); first | done | rfl | (simp only [List.length_drop, List.length_take]; rfl)) ?_; (with_reducible refine (cooperagelaw2_shown.calls  t163 _ A4.out).mono ?_); rintro e w' ⟨rfl, ⟨nd, rfl⟩⟩; refine ⟨_, rfl, ?_⟩))
  (try simp only [Act.put, List.setIfInBounds_toArray, List.set_cons_zero, List.set_cons_succ])
  go_cut [31] (fun v31 wc => ∃ (kq : Nat) (x31_4 : Bool), v31 = .bool x31_4 ∧ Aside0 (cooperagelaw2_GlobEnds.j0 kq a0 a1 a2 t163 x31_4 = some r) ∧ Aside0 (kq ≤ k) ∧ Drawn0 w wc)
  case first =>
    have H := HC5.out
    clear HC5
    by_cases c6 : t163 = true
    · subst c6
      have H1 : (if (a0.size : Int) > 100 then (cooperagelaw2_GlobEnds.j0 k a0 a1 a2 true true) else (if (a1.size : Int) > 100 then (cooperagelaw2_GlobEnds.j0 k a0 a1 a2 true true) else (cooperagelaw2_GlobEnds.j0 k a0 a1 a2 true (decide ((a2.size : Int) > 300))))) = some r := by rw [if_pos rfl] at H; exact H
      clear H
      have H := H1
      clear H1
      by_cases c7 : (a0.size : Int) > 100
      · rw [if_pos c7] at H
        have c7b0 : decide (100 < (a0.size : Int)) = true := decide_eq_true c7
        have c7b1 : decide (100 < a0.size) = true := decide_eq_true (by omega)
        clear c7
        (first | rw [c7b0] | (simp only [i64_w, i32_w]; rw [c7b0]) | skip)
        have H' := Aside0.mk H
        clear H
        go_wp2
        go_meet
        case rel => exact ⟨_, (true), (by first | rfl | (simp; done) | (simp [*]; done)), H', ⟨by first | omega | exact Nat.le_refl _⟩, by repeat (first | exact Drawn0.refl _ | apply Drawn0.step)⟩
      · rw [if_neg c7] at H
        have c7b0 : decide (100 < (a0.size : Int)) = false := decide_eq_false c7
        have c7b1 : decide (100 < a0.size) = false := decide_eq_false (by omega)
        clear c7
        (first | rw [c7b0] | (simp only [i64_w, i32_w]; rw [c7b0]) | skip)
        by_cases c8 : (a1.size : Int) > 100
        · rw [if_pos c8] at H
          have c8b0 : decide (100 < (a1.size : Int)) = true := decide_eq_true c8
          have c8b1 : decide (100 < a1.size) = true := decide_eq_true (by omega)
          clear c8
          have H' := Aside0.mk H
          clear H
          go_wp2
          go_meet
          case rel => exact ⟨_, (true), (by first | rfl | (simp; done) | (simp [*]; done)), H', ⟨by first | omega | exact Nat.le_refl _⟩, by repeat (first | exact Drawn0.refl _ | apply Drawn0.step)⟩
        · rw [if_neg c8] at H
          have c8b0 : decide (100 < (a1.size : Int)) = false := decide_eq_false c8
          have c8b1 : decide (100 < a1.size) = false := decide_eq_false (by omega)
          clear c8
          have H' := Aside0.mk H
          clear H
          go_wp2
          go_meet
          case rel => exact ⟨_, (decide ((a2.size : Int) > 300)), (by first | rfl | (simp; done) | (simp [*]; done)), H', ⟨by first | omega | exact Nat.le_refl _⟩, by repeat (first | exact Drawn0.refl _ | apply Drawn0.step)⟩
    · replace c6 := Bool.eq_false_iff.mpr c6
      subst c6
      have H1 : (cooperagelaw2_GlobEnds.j0 k a0 a1 a2 false true) = some r := by rw [if_neg (show ¬ (false = true) by decide)] at H; exact H
      clear H
      have H := H1
      clear H1
      have H' := Aside0.mk H
      clear H
      go_wp2
      go_meet
      case rel => exact ⟨_, (true), (by first | rfl | (simp; done) | (simp [*]; done)), H', ⟨by first | omega | exact Nat.le_refl _⟩, by repeat (first | exact Drawn0.refl _ | apply Drawn0.step)⟩
  case rest =>
    clear HC5
    try clear p2
    try clear c5
    try clear c6
    try clear c7
    try clear c7b0
    try clear c7b1
    try clear c8
    try clear c8b0
    try clear c8b1
    obtain ⟨kq, x31_4, rfl, HA, HJ4, ⟨mc4, rfl⟩⟩ := hcut
    cases kq with
    | zero => exact absurd HA.out (by simp [cooperagelaw2_GlobEnds.j0])
    | succ kj4 =>
      have H := HA.out
      clear HA
      simp only [cooperagelaw2_GlobEnds.j0] at H
      by_cases c9 : x31_4 = true
      · subst c9
        have H1 : (some t163) = some r := by rw [if_pos rfl] at H; exact H
        clear H
        have H := H1
        clear H1
        obtain rfl := Option.some.inj H
        go_wp2
        go_ret
        exact ⟨by first | rfl | (simp; done) | (simp [*]; done), by repeat (first | exact Drawn0.refl _ | apply Drawn0.step)⟩
      · replace c9 := Bool.eq_false_iff.mpr c9
        subst c9
        have H1 : (cooperagelaw2_GlobEnds.l0 kj4 a0 a1 a2 0) = some r := by rw [if_neg (show ¬ (false = true) by decide)] at H; exact H
        clear H
        have H := H1
        clear H1
        have H' := Aside0.mk H
        clear H
        go_wp2
        go_loopg [8] kj4 (fun kq v8 w' => ∃ (x8_2 : Int), v8 = .int .i64 x8_2 ∧ Aside0 (cooperagelaw2_GlobEnds.l0 kq a0 a1 a2 x8_2 = some r) ∧ Aside0 (kq ≤ kj4) ∧ Drawn0 w w')
        case atStart => exact ⟨(0), (by first | rfl | (simp; done) | (simp [*]; done)), H', ⟨Nat.le_refl _⟩, by repeat (first | exact Drawn0.refl _ | apply Drawn0.step)⟩
        case round =>
          clear H'
          try clear p2
          try clear c4
          try clear c5
          try clear c6
          try clear c7
          try clear c7b0
          try clear c7b1
          try clear c8
          try clear c8b0
          try clear c8b1
          try clear c9
          try clear p2
          obtain ⟨x8_2, rfl, HA, HK2, ⟨m2, rfl⟩⟩ := hrel
          cases gk with
          | zero => exact absurd HA.out (by simp [cooperagelaw2_GlobEnds.l0])
          | succ k2 =>
            have H := HA.out
            clear HA
            simp only [cooperagelaw2_GlobEnds.l0] at H
            by_cases c10 : a0.size + a1.size ≤ 9223372036854775807
            · rw [if_pos c10] at H
              have c10b0 := eq_true c10
              have c10b1 : decide (a0.size + a1.size ≤ 9223372036854775807) = true := decide_eq_true c10
              try have c10b2 : (9223372036854775807 < a0.size + a1.size) = False := eq_false (Nat.not_lt.2 c10)
              by_cases c11 : x8_2 < ((a0 ++ a1).size : Int)
              · rw [if_pos c11] at H
                have c11b0 : decide (x8_2 < ((a0 ++ a1).size : Int)) = true := decide_eq_true c11
                try (have c11b0s := c11b0; simp only [ByteArray.size_append, Int.natCast_add, Int.toNat_natCast] at c11b0s)
                clear c11
                by_cases c12 : 0 ≤ x8_2
                · rw [if_pos c12] at H
                  have c12b0 : decide (0 ≤ x8_2) = true := decide_eq_true c12
                  clear c12
                  by_cases c14 : (bt (a0 ++ a1) x8_2) = 37
                  · rw [if_pos c14] at H
                    have c14b0 : ((bt (a0 ++ a1) x8_2) == 37) = true := beq_iff_eq.mpr c14
                    have c14b1 : ((bt (a0 ++ a1) x8_2) != 37) = false := bne_eq_false_iff_eq.mpr c14
                    clear c14
                    obtain rfl := Option.some.inj H
                    have p13 : 0 ≤ (x8_2 : Int) := of_decide_eq_true (by first | (with_reducible assumption) | assumption)
                    have q13 : x8_2 < ((a0 ++ a1).size : Int) := of_decide_eq_true (by first | (with_reducible assumption) | assumption)
                    try (have q13s := q13; simp only [ByteArray.size_append, Int.natCast_add, Int.toNat_natCast] at q13s)
                    have hx13 := bt_at (a0 ++ a1) x8_2
                    replace p13 := eq_true p13
                    replace q13 := eq_true q13
                    try (have q13s := q13; simp only [ByteArray.size_append, Int.natCast_add, Int.toNat_natCast] at q13s)
                    go_wp2
                    go_ret
                    exact ⟨by first | rfl | (simp; done) | (simp [*]; done), by repeat (first | exact Drawn0.refl _ | apply Drawn0.step)⟩
                  · rw [if_neg c14] at H
                    have c14b0 : ((bt (a0 ++ a1) x8_2) == 37) = false := beq_eq_false_iff_ne.mpr c14
                    have c14b1 : ((bt (a0 ++ a1) x8_2) != 37) = true := bne_iff_ne.mpr c14
                    have H' := Aside0.mk H
                    clear H
                    have p13 : 0 ≤ (x8_2 : Int) := of_decide_eq_true (by first | (with_reducible assumption) | assumption)
                    have q13 : x8_2 < ((a0 ++ a1).size : Int) := of_decide_eq_true (by first | (with_reducible assumption) | assumption)
                    try (have q13s := q13; simp only [ByteArray.size_append, Int.natCast_add, Int.toNat_natCast] at q13s)
                    have hx13 := bt_at (a0 ++ a1) x8_2
                    replace p13 := eq_true p13
                    replace q13 := eq_true q13
                    try (have q13s := q13; simp only [ByteArray.size_append, Int.natCast_add, Int.toNat_natCast] at q13s)
                    go_wp2
                    go_roundg k2
                    case measure => have := HJ4.out; have := HK2.out; omega
                    case rel => exact ⟨(wrap64 (x8_2 + 1)), (by first | rfl | (simp; done) | (simp [*]; done)), H', ⟨by have := HJ4.out; have := HK2.out; omega⟩, by repeat (first | exact Drawn0.refl _ | apply Drawn0.step)⟩
                · rw [if_neg c12] at H
                  exact absurd H (by simp)
              · rw [if_neg c11] at H
                have c11b0 : decide (x8_2 < ((a0 ++ a1).size : Int)) = false := decide_eq_false c11
                try (have c11b0s := c11b0; simp only [ByteArray.size_append, Int.natCast_add, Int.toNat_natCast] at c11b0s)
                clear c11
                by_cases c15 : a0.size + 1 ≤ 9223372036854775807
                · rw [if_pos c15] at H
                  have c15b0 := eq_true c15
                  have c15b1 : decide (a0.size + 1 ≤ 9223372036854775807) = true := decide_eq_true c15
                  try have c15b2 : (9223372036854775807 < a0.size + 1) = False := eq_false (Nat.not_lt.2 c15)
                  by_cases c16 : (a0 ++ (⟨#[37]⟩ : ByteArray)).size + a1.size ≤ 9223372036854775807
                  · rw [if_pos c16] at H
                    have c16b0 := eq_true c16
                    try (have c16b0s := c16b0; simp only [ByteArray.size_append, Int.natCast_add, Int.toNat_natCast] at c16b0s)
                    have c16b1 : decide ((a0 ++ (⟨#[37]⟩ : ByteArray)).size + a1.size ≤ 9223372036854775807) = true := decide_eq_true c16
                    try (have c16b1s := c16b1; simp only [ByteArray.size_append, Int.natCast_add, Int.toNat_natCast] at c16b1s)
                    try have c16b2 : (9223372036854775807 < (a0 ++ (⟨#[37]⟩ : ByteArray)).size + a1.size) = False := eq_false (Nat.not_lt.2 c16)
                    try (have c16b2s := c16b2; simp only [ByteArray.size_append, Int.natCast_add, Int.toNat_natCast] at c16b2s)
                    replace H := Option.bind_eq_some_iff.mp H
                    obtain ⟨⟨t164, t165⟩, A170, H⟩ := H
                    replace H : (if (a2.size : Int) ≥ ((a0.size : Int) + (a1.size : Int)) then (if 0 ≤ (a0.size : Int) then (if (a0.size : Int) ≤ (a2.size : Int) then (if (a2.extract 0 ((a0.size : Int) : Int).toNat).toList = a0.toList then (if 0 ≤ (wrap64 ((a2.size : Int) - (a1.size : Int))) then (if (wrap64 ((a2.size : Int) - (a1.size : Int))) ≤ (a2.size : Int) then (if a0.size + a2.size ≤ 9223372036854775807 then (if (a0 ++ a2).size + a1.size ≤ 9223372036854775807 then ((glob_Match.f ((a0 ++ (⟨#[37]⟩ : ByteArray)) ++ a1) ((a0 ++ a2) ++ a1)).bind fun bt166 => (if (t165 == ((a2.extract ((wrap64 ((a2.size : Int) - (a1.size : Int))) : Int).toNat a2.size).toList == a1.toList)) = true then (if t165 = true then (if (a0.size : Int) ≤ (wrap64 ((a2.size : Int) - (a1.size : Int))) then (if t164.toList = (a2.extract ((a0.size : Int) : Int).toNat ((wrap64 ((a2.size : Int) - (a1.size : Int))) : Int).toNat).toList then (if bt166.2 = true then (some (bt166.1.toList == a2.toList)) else (some false)) else (some false)) else (none)) else (if bt166.2 = true then (some (bt166.1.toList == a2.toList)) else (some false))) else (some false))) else (none)) else (none)) else (none)) else (none)) else (if a0.size + a2.size ≤ 9223372036854775807 then (if (a0 ++ a2).size + a1.size ≤ 9223372036854775807 then ((glob_Match.f ((a0 ++ (⟨#[37]⟩ : ByteArray)) ++ a1) ((a0 ++ a2) ++ a1)).bind fun bt168 => (if t165 = true then (some false) else (if bt168.2 = true then (some (bt168.1.toList == a2.toList)) else (some false)))) else (none)) else (none))) else (none)) else (none)) else (if a0.size + a2.size ≤ 9223372036854775807 then (if (a0 ++ a2).size + a1.size ≤ 9223372036854775807 then ((glob_Match.f ((a0 ++ (⟨#[37]⟩ : ByteArray)) ++ a1) ((a0 ++ a2) ++ a1)).bind fun bt170 => (if t165 = true then (some false) else (if bt170.2 = true then (some (bt170.1.toList == a2.toList)) else (some false)))) else (none)) else (none))) = some r := H
                    have A17 := Aside0.mk A170
                    clear A170
                    by_cases c18 : (a2.size : Int) ≥ ((a0.size : Int) + (a1.size : Int))
                    · rw [if_pos c18] at H
                      have c18b0 : decide (((a0.size : Int) + (a1.size : Int)) ≤ (a2.size : Int)) = true := decide_eq_true c18
                      clear c18
                      by_cases c19 : 0 ≤ (a0.size : Int)
                      · rw [if_pos c19] at H
                        have c19b0 := eq_true c19
                        have c19b1 : decide (0 ≤ (a0.size : Int)) = true := decide_eq_true c19
                        clear c19
                        by_cases c20 : (a0.size : Int) ≤ (a2.size : Int)
                        · rw [if_pos c20] at H
                          have c20b0 := eq_true c20
                          have c20b1 : decide ((a0.size : Int) ≤ (a2.size : Int)) = true := decide_eq_true c20
                          clear c20
                          by_cases c21 : (a2.extract 0 ((a0.size : Int) : Int).toNat).toList = a0.toList
                          · rw [if_pos c21] at H
                            have c21b0 : ((a2.extract 0 ((a0.size : Int) : Int).toNat).toList == a0.toList) = true := beq_iff_eq.mpr c21
                            try (have c21b0s := c21b0; simp only [ByteArray.size_append, Int.natCast_add, Int.toNat_natCast] at c21b0s)
                            have c21b1 : ((a2.extract 0 ((a0.size : Int) : Int).toNat).toList != a0.toList) = false := bne_eq_false_iff_eq.mpr c21
                            try (have c21b1s := c21b1; simp only [ByteArray.size_append, Int.natCast_add, Int.toNat_natCast] at c21b1s)
                            clear c21
                            obtain ⟨ji22, hji22⟩ : ∃ j_ : Int, (wrap64 ((a2.size : Int) - (a1.size : Int))) = j_ := ⟨_, rfl⟩
                            replace H : (if 0 ≤ (ji22) then (if (ji22) ≤ (a2.size : Int) then (if a0.size + a2.size ≤ 9223372036854775807 then (if (a0 ++ a2).size + a1.size ≤ 9223372036854775807 then ((glob_Match.f ((a0 ++ (⟨#[37]⟩ : ByteArray)) ++ a1) ((a0 ++ a2) ++ a1)).bind fun bt166 => (if (t165 == ((a2.extract ((ji22) : Int).toNat a2.size).toList == a1.toList)) = true then (if t165 = true then (if (a0.size : Int) ≤ (ji22) then (if t164.toList = (a2.extract ((a0.size : Int) : Int).toNat ((ji22) : Int).toNat).toList then (if bt166.2 = true then (some (bt166.1.toList == a2.toList)) else (some false)) else (some false)) else (none)) else (if bt166.2 = true then (some (bt166.1.toList == a2.toList)) else (some false))) else (some false))) else (none)) else (none)) else (none)) else (none)) = some r := by first | (rw [hji22] at H; exact H) | (simp only [hji22] at H ⊢; exact H)
                            (try rw [hji22] at A17)
                            have hji22w : (IntKind.i64.wrap ((a2.size : Int) - (a1.size : Int))) = ji22 := (i64_w _).trans hji22
                            by_cases c23 : 0 ≤ (ji22)
                            · rw [if_pos c23] at H
                              have c23b0 := eq_true c23
                              have c23b1 : decide (0 ≤ (ji22)) = true := decide_eq_true c23
                              clear c23
                              by_cases c24 : (ji22) ≤ (a2.size : Int)
                              · rw [if_pos c24] at H
                                have c24b0 := eq_true c24
                                have c24b1 : decide ((ji22) ≤ (a2.size : Int)) = true := decide_eq_true c24
                                clear c24
                                by_cases c25 : a0.size + a2.size ≤ 9223372036854775807
                                · rw [if_pos c25] at H
                                  have c25b0 := eq_true c25
                                  have c25b1 : decide (a0.size + a2.size ≤ 9223372036854775807) = true := decide_eq_true c25
                                  try have c25b2 : (9223372036854775807 < a0.size + a2.size) = False := eq_false (Nat.not_lt.2 c25)
                                  by_cases c26 : (a0 ++ a2).size + a1.size ≤ 9223372036854775807
                                  · rw [if_pos c26] at H
                                    have c26b0 := eq_true c26
                                    try (have c26b0s := c26b0; simp only [ByteArray.size_append, Int.natCast_add, Int.toNat_natCast] at c26b0s)
                                    have c26b1 : decide ((a0 ++ a2).size + a1.size ≤ 9223372036854775807) = true := decide_eq_true c26
                                    try (have c26b1s := c26b1; simp only [ByteArray.size_append, Int.natCast_add, Int.toNat_natCast] at c26b1s)
                                    try have c26b2 : (9223372036854775807 < (a0 ++ a2).size + a1.size) = False := eq_false (Nat.not_lt.2 c26)
                                    try (have c26b2s := c26b2; simp only [ByteArray.size_append, Int.natCast_add, Int.toNat_natCast] at c26b2s)
                                    replace H := Option.bind_eq_some_iff.mp H
                                    obtain ⟨⟨t166, t167⟩, A270, H⟩ := H
                                    replace H : (if (t165 == ((a2.extract ((ji22) : Int).toNat a2.size).toList == a1.toList)) = true then (if t165 = true then (if (a0.size : Int) ≤ (ji22) then (if t164.toList = (a2.extract ((a0.size : Int) : Int).toNat ((ji22) : Int).toNat).toList then (if t167 = true then (some (t166.toList == a2.toList)) else (some false)) else (some false)) else (none)) else (if t167 = true then (some (t166.toList == a2.toList)) else (some false))) else (some false)) = some r := H
                                    have A27 := Aside0.mk A270
                                    clear A270
                                    by_cases c28 : (t165 == ((a2.extract ((ji22) : Int).toNat a2.size).toList == a1.toList)) = true
                                    · rw [if_pos c28] at H
                                      have c28b0 : (t165 == ((a2.extract ((ji22) : Int).toNat a2.size).toList == a1.toList)) = true := c28
                                      (try (have c28b1 : decide (t165 = ((a2.extract ((ji22) : Int).toNat a2.size).toList == a1.toList)) = true := by simpa using c28))
                                      (try (have c28b2 : (t165 == ((a2.extract ((ji22) : Int).toNat a2.size).toList == a1.toList)) = true := by simpa using c28))
                                      clear c28
                                      by_cases c29 : t165 = true
                                      · subst c29
                                        try (have c28b0u := c28b0; simp only [Bool.true_beq, Bool.false_beq, Int.toNat_natCast] at c28b0u)
                                        try (have c28b2u := c28b2; simp only [Bool.true_beq, Bool.false_beq, Int.toNat_natCast] at c28b2u)
                                        have H1 : (if (a0.size : Int) ≤ (ji22) then (if t164.toList = (a2.extract ((a0.size : Int) : Int).toNat ((ji22) : Int).toNat).toList then (if t167 = true then (some (t166.toList == a2.toList)) else (some false)) else (some false)) else (none)) = some r := by rw [if_pos rfl] at H; exact H
                                        clear H
                                        have H := H1
                                        clear H1
                                        have c30b0 := eq_true (of_decide_eq_true (by first | (with_reducible assumption) | assumption) : 0 ≤ (a0.size : Int))
                                        by_cases c31 : (a0.size : Int) ≤ (ji22)
                                        · rw [if_pos c31] at H
                                          have c31b0 := eq_true c31
                                          have c31b1 : decide ((a0.size : Int) ≤ (ji22)) = true := decide_eq_true c31
                                          clear c31
                                          have c32b0 := eq_true (of_decide_eq_true (by first | (with_reducible assumption) | assumption) : (ji22) ≤ (a2.size : Int))
                                          by_cases c33 : t164.toList = (a2.extract ((a0.size : Int) : Int).toNat ((ji22) : Int).toNat).toList
                                          · rw [if_pos c33] at H
                                            have c33b0 : (t164.toList == (a2.extract ((a0.size : Int) : Int).toNat ((ji22) : Int).toNat).toList) = true := beq_iff_eq.mpr c33
                                            try (have c33b0s := c33b0; simp only [ByteArray.size_append, Int.natCast_add, Int.toNat_natCast] at c33b0s)
                                            have c33b1 : (t164.toList != (a2.extract ((a0.size : Int) : Int).toNat ((ji22) : Int).toNat).toList) = false := bne_eq_false_iff_eq.mpr c33
                                            try (have c33b1s := c33b1; simp only [ByteArray.size_append, Int.natCast_add, Int.toNat_natCast] at c33b1s)
                                            clear c33
                                            by_cases c34 : t167 = true
                                            · subst c34
                                              have H1 : (some (t166.toList == a2.toList)) = some r := by rw [if_pos rfl] at H; exact H
                                              clear H
                                              have H := H1
                                              clear H1
                                              obtain rfl := Option.some.inj H
                                              go_wp2_with (first | ((with_reducible refine gate_callee (f := 16) rfl ?_); refine goesL_ (some 53) rfl rfl Try.func16 (by kernel_rfl) rfl #[.string ((a0 ++ (⟨#[37]⟩ : ByteArray)) ++ a1), .string a2] rfl (by (try simp only [List.map_toArray, List.map_cons, List.map_nil]); first | done | rfl | (simp only [List.length_drop, List.length_take]; rfl)) ?_; (with_reducible refine (glob_Match.calls ((a0 ++ (⟨#[37]⟩ : ByteArray)) ++ a1) a2 t164 true _ A17.out).mono ?_); rintro e w' ⟨rfl, ⟨nd, rfl⟩⟩; refine ⟨_, rfl, ?_⟩) | ((with_reducible refine gate_callee (f := 16) rfl ?_); refine goesL_ (some 93) rfl rfl Try.func16 (by kernel_rfl) rfl #[.string ((a0 ++ (⟨#[37]⟩ : ByteArray)) ++ a1), .string ((a0 ++ a2) ++ a1)] rfl (by (try simp only [List.map_toArray, List.map_cons, List.map_nil]); first | done | rfl | (simp only [List.length_drop, List.length_take]; rfl)) ?_; (with_reducible refine (glob_Match.calls ((a0 ++ (⟨#[37]⟩ : ByteArray)) ++ a1) ((a0 ++ a2) ++ a1) t166 true _ A27.out).mono ?_); rintro e w' ⟨rfl, ⟨nd, rfl⟩⟩; refine ⟨_, rfl, ?_⟩))
                                              go_ret
                                              exact ⟨by first | rfl | (simp; done) | (simp only [← hji22] <;> (first | rfl | simp)) | (simp [*]; done), by repeat (first | exact Drawn0.refl _ | apply Drawn0.step)⟩
                                            · replace c34 := Bool.eq_false_iff.mpr c34
                                              subst c34
                                              have H1 : (some false) = some r := by rw [if_neg (show ¬ (false = true) by decide)] at H; exact H
                                              clear H
                                              have H := H1
                                              clear H1
                                              obtain rfl := Option.some.inj H
                                              go_wp2_with (first | ((with_reducible refine gate_callee (f := 16) rfl ?_); refine goesL_ (some 53) rfl rfl Try.func16 (by kernel_rfl) rfl #[.string ((a0 ++ (⟨#[37]⟩ : ByteArray)) ++ a1), .string a2] rfl (by (try simp only [List.map_toArray, List.map_cons, List.map_nil]); first | done | rfl | (simp only [List.length_drop, List.length_take]; rfl)) ?_; (with_reducible refine (glob_Match.calls ((a0 ++ (⟨#[37]⟩ : ByteArray)) ++ a1) a2 t164 true _ A17.out).mono ?_); rintro e w' ⟨rfl, ⟨nd, rfl⟩⟩; refine ⟨_, rfl, ?_⟩) | ((with_reducible refine gate_callee (f := 16) rfl ?_); refine goesL_ (some 93) rfl rfl Try.func16 (by kernel_rfl) rfl #[.string ((a0 ++ (⟨#[37]⟩ : ByteArray)) ++ a1), .string ((a0 ++ a2) ++ a1)] rfl (by (try simp only [List.map_toArray, List.map_cons, List.map_nil]); first | done | rfl | (simp only [List.length_drop, List.length_take]; rfl)) ?_; (with_reducible refine (glob_Match.calls ((a0 ++ (⟨#[37]⟩ : ByteArray)) ++ a1) ((a0 ++ a2) ++ a1) t166 false _ A27.out).mono ?_); rintro e w' ⟨rfl, ⟨nd, rfl⟩⟩; refine ⟨_, rfl, ?_⟩))
                                              go_ret
                                              exact ⟨by first | rfl | (simp; done) | (simp only [← hji22] <;> (first | rfl | simp)) | (simp [*]; done), by repeat (first | exact Drawn0.refl _ | apply Drawn0.step)⟩
                                          · rw [if_neg c33] at H
                                            have c33b0 : (t164.toList == (a2.extract ((a0.size : Int) : Int).toNat ((ji22) : Int).toNat).toList) = false := beq_eq_false_iff_ne.mpr c33
                                            try (have c33b0s := c33b0; simp only [ByteArray.size_append, Int.natCast_add, Int.toNat_natCast] at c33b0s)
                                            have c33b1 : (t164.toList != (a2.extract ((a0.size : Int) : Int).toNat ((ji22) : Int).toNat).toList) = true := bne_iff_ne.mpr c33
                                            try (have c33b1s := c33b1; simp only [ByteArray.size_append, Int.natCast_add, Int.toNat_natCast] at c33b1s)
                                            obtain rfl := Option.some.inj H
                                            go_wp2_with (first | ((with_reducible refine gate_callee (f := 16) rfl ?_); refine goesL_ (some 53) rfl rfl Try.func16 (by kernel_rfl) rfl #[.string ((a0 ++ (⟨#[37]⟩ : ByteArray)) ++ a1), .string a2] rfl (by (try simp only [List.map_toArray, List.map_cons, List.map_nil]); first | done | rfl | (simp only [List.length_drop, List.length_take]; rfl)) ?_; (with_reducible refine (glob_Match.calls ((a0 ++ (⟨#[37]⟩ : ByteArray)) ++ a1) a2 t164 true _ A17.out).mono ?_); rintro e w' ⟨rfl, ⟨nd, rfl⟩⟩; refine ⟨_, rfl, ?_⟩) | ((with_reducible refine gate_callee (f := 16) rfl ?_); refine goesL_ (some 93) rfl rfl Try.func16 (by kernel_rfl) rfl #[.string ((a0 ++ (⟨#[37]⟩ : ByteArray)) ++ a1), .string ((a0 ++ a2) ++ a1)] rfl (by (try simp only [List.map_toArray, List.map_cons, List.map_nil]); first | done | rfl | (simp only [List.length_drop, List.length_take]; rfl)) ?_; (with_reducible refine (glob_Match.calls ((a0 ++ (⟨#[37]⟩ : ByteArray)) ++ a1) ((a0 ++ a2) ++ a1) t166 t167 _ A27.out).mono ?_); rintro e w' ⟨rfl, ⟨nd, rfl⟩⟩; refine ⟨_, rfl, ?_⟩))
                                            go_ret
                                            exact ⟨by first | rfl | (simp; done) | (simp only [← hji22] <;> (first | rfl | simp)) | (simp [*]; done), by repeat (first | exact Drawn0.refl _ | apply Drawn0.step)⟩
                                        · rw [if_neg c31] at H
                                          exact absurd H (by simp)
                                      · replace c29 := Bool.eq_false_iff.mpr c29
                                        subst c29
                                        try (have c28b0u := c28b0; simp only [Bool.true_beq, Bool.false_beq, Int.toNat_natCast] at c28b0u)
                                        try (have c28b2u := c28b2; simp only [Bool.true_beq, Bool.false_beq, Int.toNat_natCast] at c28b2u)
                                        have H1 : (if t167 = true then (some (t166.toList == a2.toList)) else (some false)) = some r := by rw [if_neg (show ¬ (false = true) by decide)] at H; exact H
                                        clear H
                                        have H := H1
                                        clear H1
                                        by_cases c35 : t167 = true
                                        · subst c35
                                          have H1 : (some (t166.toList == a2.toList)) = some r := by rw [if_pos rfl] at H; exact H
                                          clear H
                                          have H := H1
                                          clear H1
                                          obtain rfl := Option.some.inj H
                                          go_wp2_with (first | ((with_reducible refine gate_callee (f := 16) rfl ?_); refine goesL_ (some 53) rfl rfl Try.func16 (by kernel_rfl) rfl #[.string ((a0 ++ (⟨#[37]⟩ : ByteArray)) ++ a1), .string a2] rfl (by (try simp only [List.map_toArray, List.map_cons, List.map_nil]); first | done | rfl | (simp only [List.length_drop, List.length_take]; rfl)) ?_; (with_reducible refine (glob_Match.calls ((a0 ++ (⟨#[37]⟩ : ByteArray)) ++ a1) a2 t164 false _ A17.out).mono ?_); rintro e w' ⟨rfl, ⟨nd, rfl⟩⟩; refine ⟨_, rfl, ?_⟩) | ((with_reducible refine gate_callee (f := 16) rfl ?_); refine goesL_ (some 93) rfl rfl Try.func16 (by kernel_rfl) rfl #[.string ((a0 ++ (⟨#[37]⟩ : ByteArray)) ++ a1), .string ((a0 ++ a2) ++ a1)] rfl (by (try simp only [List.map_toArray, List.map_cons, List.map_nil]); first | done | rfl | (simp only [List.length_drop, List.length_take]; rfl)) ?_; (with_reducible refine (glob_Match.calls ((a0 ++ (⟨#[37]⟩ : ByteArray)) ++ a1) ((a0 ++ a2) ++ a1) t166 true _ A27.out).mono ?_); rintro e w' ⟨rfl, ⟨nd, rfl⟩⟩; refine ⟨_, rfl, ?_⟩))
                                          go_ret
                                          exact ⟨by first | rfl | (simp; done) | (simp only [← hji22] <;> (first | rfl | simp)) | (simp [*]; done), by repeat (first | exact Drawn0.refl _ | apply Drawn0.step)⟩
                                        · replace c35 := Bool.eq_false_iff.mpr c35
                                          subst c35
                                          have H1 : (some false) = some r := by rw [if_neg (show ¬ (false = true) by decide)] at H; exact H
                                          clear H
                                          have H := H1
                                          clear H1
                                          obtain rfl := Option.some.inj H
                                          go_wp2_with (first | ((with_reducible refine gate_callee (f := 16) rfl ?_); refine goesL_ (some 53) rfl rfl Try.func16 (by kernel_rfl) rfl #[.string ((a0 ++ (⟨#[37]⟩ : ByteArray)) ++ a1), .string a2] rfl (by (try simp only [List.map_toArray, List.map_cons, List.map_nil]); first | done | rfl | (simp only [List.length_drop, List.length_take]; rfl)) ?_; (with_reducible refine (glob_Match.calls ((a0 ++ (⟨#[37]⟩ : ByteArray)) ++ a1) a2 t164 false _ A17.out).mono ?_); rintro e w' ⟨rfl, ⟨nd, rfl⟩⟩; refine ⟨_, rfl, ?_⟩) | ((with_reducible refine gate_callee (f := 16) rfl ?_); refine goesL_ (some 93) rfl rfl Try.func16 (by kernel_rfl) rfl #[.string ((a0 ++ (⟨#[37]⟩ : ByteArray)) ++ a1), .string ((a0 ++ a2) ++ a1)] rfl (by (try simp only [List.map_toArray, List.map_cons, List.map_nil]); first | done | rfl | (simp only [List.length_drop, List.length_take]; rfl)) ?_; (with_reducible refine (glob_Match.calls ((a0 ++ (⟨#[37]⟩ : ByteArray)) ++ a1) ((a0 ++ a2) ++ a1) t166 false _ A27.out).mono ?_); rintro e w' ⟨rfl, ⟨nd, rfl⟩⟩; refine ⟨_, rfl, ?_⟩))
                                          go_ret
                                          exact ⟨by first | rfl | (simp; done) | (simp only [← hji22] <;> (first | rfl | simp)) | (simp [*]; done), by repeat (first | exact Drawn0.refl _ | apply Drawn0.step)⟩
                                    · rw [if_neg c28] at H
                                      have c28b0 : (t165 == ((a2.extract ((ji22) : Int).toNat a2.size).toList == a1.toList)) = false := by simpa using c28
                                      (try (have c28b1 : decide (t165 = ((a2.extract ((ji22) : Int).toNat a2.size).toList == a1.toList)) = false := by simpa using c28))
                                      (try (have c28b2 : (t165 == ((a2.extract ((ji22) : Int).toNat a2.size).toList == a1.toList)) = false := by simpa using c28))
                                      (try (have c28b3 : ¬ (t165 = ((a2.extract ((ji22) : Int).toNat a2.size).toList == a1.toList)) := by simpa using c28))
                                      clear c28
                                      obtain rfl := Option.some.inj H
                                      go_wp2_with (first | ((with_reducible refine gate_callee (f := 16) rfl ?_); refine goesL_ (some 53) rfl rfl Try.func16 (by kernel_rfl) rfl #[.string ((a0 ++ (⟨#[37]⟩ : ByteArray)) ++ a1), .string a2] rfl (by (try simp only [List.map_toArray, List.map_cons, List.map_nil]); first | done | rfl | (simp only [List.length_drop, List.length_take]; rfl)) ?_; (with_reducible refine (glob_Match.calls ((a0 ++ (⟨#[37]⟩ : ByteArray)) ++ a1) a2 t164 t165 _ A17.out).mono ?_); rintro e w' ⟨rfl, ⟨nd, rfl⟩⟩; refine ⟨_, rfl, ?_⟩) | ((with_reducible refine gate_callee (f := 16) rfl ?_); refine goesL_ (some 93) rfl rfl Try.func16 (by kernel_rfl) rfl #[.string ((a0 ++ (⟨#[37]⟩ : ByteArray)) ++ a1), .string ((a0 ++ a2) ++ a1)] rfl (by (try simp only [List.map_toArray, List.map_cons, List.map_nil]); first | done | rfl | (simp only [List.length_drop, List.length_take]; rfl)) ?_; (with_reducible refine (glob_Match.calls ((a0 ++ (⟨#[37]⟩ : ByteArray)) ++ a1) ((a0 ++ a2) ++ a1) t166 t167 _ A27.out).mono ?_); rintro e w' ⟨rfl, ⟨nd, rfl⟩⟩; refine ⟨_, rfl, ?_⟩))
                                      go_ret
                                      exact ⟨by first | rfl | (simp; done) | (simp only [← hji22] <;> (first | rfl | simp)) | (simp [*]; done), by repeat (first | exact Drawn0.refl _ | apply Drawn0.step)⟩
                                  · rw [if_neg c26] at H
                                    exact absurd H (by simp)
                                · rw [if_neg c25] at H
                                  exact absurd H (by simp)
                              · rw [if_neg c24] at H
                                exact absurd H (by simp)
                            · rw [if_neg c23] at H
                              exact absurd H (by simp)
                          · rw [if_neg c21] at H
                            have c21b0 : ((a2.extract 0 ((a0.size : Int) : Int).toNat).toList == a0.toList) = false := beq_eq_false_iff_ne.mpr c21
                            try (have c21b0s := c21b0; simp only [ByteArray.size_append, Int.natCast_add, Int.toNat_natCast] at c21b0s)
                            have c21b1 : ((a2.extract 0 ((a0.size : Int) : Int).toNat).toList != a0.toList) = true := bne_iff_ne.mpr c21
                            try (have c21b1s := c21b1; simp only [ByteArray.size_append, Int.natCast_add, Int.toNat_natCast] at c21b1s)
                            by_cases c36 : a0.size + a2.size ≤ 9223372036854775807
                            · rw [if_pos c36] at H
                              have c36b0 := eq_true c36
                              have c36b1 : decide (a0.size + a2.size ≤ 9223372036854775807) = true := decide_eq_true c36
                              try have c36b2 : (9223372036854775807 < a0.size + a2.size) = False := eq_false (Nat.not_lt.2 c36)
                              by_cases c37 : (a0 ++ a2).size + a1.size ≤ 9223372036854775807
                              · rw [if_pos c37] at H
                                have c37b0 := eq_true c37
                                try (have c37b0s := c37b0; simp only [ByteArray.size_append, Int.natCast_add, Int.toNat_natCast] at c37b0s)
                                have c37b1 : decide ((a0 ++ a2).size + a1.size ≤ 9223372036854775807) = true := decide_eq_true c37
                                try (have c37b1s := c37b1; simp only [ByteArray.size_append, Int.natCast_add, Int.toNat_natCast] at c37b1s)
                                try have c37b2 : (9223372036854775807 < (a0 ++ a2).size + a1.size) = False := eq_false (Nat.not_lt.2 c37)
                                try (have c37b2s := c37b2; simp only [ByteArray.size_append, Int.natCast_add, Int.toNat_natCast] at c37b2s)
                                replace H := Option.bind_eq_some_iff.mp H
                                obtain ⟨⟨t168, t169⟩, A380, H⟩ := H
                                replace H : (if t165 = true then (some false) else (if t169 = true then (some (t168.toList == a2.toList)) else (some false))) = some r := H
                                have A38 := Aside0.mk A380
                                clear A380
                                by_cases c39 : t165 = true
                                · subst c39
                                  try (have c28b0u := c28b0; simp only [Bool.true_beq, Bool.false_beq, Int.toNat_natCast] at c28b0u)
                                  try (have c28b2u := c28b2; simp only [Bool.true_beq, Bool.false_beq, Int.toNat_natCast] at c28b2u)
                                  have H1 : (some false) = some r := by rw [if_pos rfl] at H; exact H
                                  clear H
                                  have H := H1
                                  clear H1
                                  obtain rfl := Option.some.inj H
                                  go_wp2_with (first | ((with_reducible refine gate_callee (f := 16) rfl ?_); refine goesL_ (some 53) rfl rfl Try.func16 (by kernel_rfl) rfl #[.string ((a0 ++ (⟨#[37]⟩ : ByteArray)) ++ a1), .string a2] rfl (by (try simp only [List.map_toArray, List.map_cons, List.map_nil]); first | done | rfl | (simp only [List.length_drop, List.length_take]; rfl)) ?_; (with_reducible refine (glob_Match.calls ((a0 ++ (⟨#[37]⟩ : ByteArray)) ++ a1) a2 t164 true _ A17.out).mono ?_); rintro e w' ⟨rfl, ⟨nd, rfl⟩⟩; refine ⟨_, rfl, ?_⟩) | ((with_reducible refine gate_callee (f := 16) rfl ?_); refine goesL_ (some 93) rfl rfl Try.func16 (by kernel_rfl) rfl #[.string ((a0 ++ (⟨#[37]⟩ : ByteArray)) ++ a1), .string ((a0 ++ a2) ++ a1)] rfl (by (try simp only [List.map_toArray, List.map_cons, List.map_nil]); first | done | rfl | (simp only [List.length_drop, List.length_take]; rfl)) ?_; (with_reducible refine (glob_Match.calls ((a0 ++ (⟨#[37]⟩ : ByteArray)) ++ a1) ((a0 ++ a2) ++ a1) t168 t169 _ A38.out).mono ?_); rintro e w' ⟨rfl, ⟨nd, rfl⟩⟩; refine ⟨_, rfl, ?_⟩))
                                  go_ret
                                  exact ⟨by first | rfl | (simp; done) | (simp [*]; done), by repeat (first | exact Drawn0.refl _ | apply Drawn0.step)⟩
                                · replace c39 := Bool.eq_false_iff.mpr c39
                                  subst c39
                                  try (have c28b0u := c28b0; simp only [Bool.true_beq, Bool.false_beq, Int.toNat_natCast] at c28b0u)
                                  try (have c28b2u := c28b2; simp only [Bool.true_beq, Bool.false_beq, Int.toNat_natCast] at c28b2u)
                                  have H1 : (if t169 = true then (some (t168.toList == a2.toList)) else (some false)) = some r := by rw [if_neg (show ¬ (false = true) by decide)] at H; exact H
                                  clear H
                                  have H := H1
                                  clear H1
                                  by_cases c40 : t169 = true
                                  · subst c40
                                    have H1 : (some (t168.toList == a2.toList)) = some r := by rw [if_pos rfl] at H; exact H
                                    clear H
                                    have H := H1
                                    clear H1
                                    obtain rfl := Option.some.inj H
                                    go_wp2_with (first | ((with_reducible refine gate_callee (f := 16) rfl ?_); refine goesL_ (some 53) rfl rfl Try.func16 (by kernel_rfl) rfl #[.string ((a0 ++ (⟨#[37]⟩ : ByteArray)) ++ a1), .string a2] rfl (by (try simp only [List.map_toArray, List.map_cons, List.map_nil]); first | done | rfl | (simp only [List.length_drop, List.length_take]; rfl)) ?_; (with_reducible refine (glob_Match.calls ((a0 ++ (⟨#[37]⟩ : ByteArray)) ++ a1) a2 t164 false _ A17.out).mono ?_); rintro e w' ⟨rfl, ⟨nd, rfl⟩⟩; refine ⟨_, rfl, ?_⟩) | ((with_reducible refine gate_callee (f := 16) rfl ?_); refine goesL_ (some 93) rfl rfl Try.func16 (by kernel_rfl) rfl #[.string ((a0 ++ (⟨#[37]⟩ : ByteArray)) ++ a1), .string ((a0 ++ a2) ++ a1)] rfl (by (try simp only [List.map_toArray, List.map_cons, List.map_nil]); first | done | rfl | (simp only [List.length_drop, List.length_take]; rfl)) ?_; (with_reducible refine (glob_Match.calls ((a0 ++ (⟨#[37]⟩ : ByteArray)) ++ a1) ((a0 ++ a2) ++ a1) t168 true _ A38.out).mono ?_); rintro e w' ⟨rfl, ⟨nd, rfl⟩⟩; refine ⟨_, rfl, ?_⟩))
                                    go_ret
                                    exact ⟨by first | rfl | (simp; done) | (simp [*]; done), by repeat (first | exact Drawn0.refl _ | apply Drawn0.step)⟩
                                  · replace c40 := Bool.eq_false_iff.mpr c40
                                    subst c40
                                    have H1 : (some false) = some r := by rw [if_neg (show ¬ (false = true) by decide)] at H; exact H
                                    clear H
                                    have H := H1
                                    clear H1
                                    obtain rfl := Option.some.inj H
                                    go_wp2_with (first | ((with_reducible refine gate_callee (f := 16) rfl ?_); refine goesL_ (some 53) rfl rfl Try.func16 (by kernel_rfl) rfl #[.string ((a0 ++ (⟨#[37]⟩ : ByteArray)) ++ a1), .string a2] rfl (by (try simp only [List.map_toArray, List.map_cons, List.map_nil]); first | done | rfl | (simp only [List.length_drop, List.length_take]; rfl)) ?_; (with_reducible refine (glob_Match.calls ((a0 ++ (⟨#[37]⟩ : ByteArray)) ++ a1) a2 t164 false _ A17.out).mono ?_); rintro e w' ⟨rfl, ⟨nd, rfl⟩⟩; refine ⟨_, rfl, ?_⟩) | ((with_reducible refine gate_callee (f := 16) rfl ?_); refine goesL_ (some 93) rfl rfl Try.func16 (by kernel_rfl) rfl #[.string ((a0 ++ (⟨#[37]⟩ : ByteArray)) ++ a1), .string ((a0 ++ a2) ++ a1)] rfl (by (try simp only [List.map_toArray, List.map_cons, List.map_nil]); first | done | rfl | (simp only [List.length_drop, List.length_take]; rfl)) ?_; (with_reducible refine (glob_Match.calls ((a0 ++ (⟨#[37]⟩ : ByteArray)) ++ a1) ((a0 ++ a2) ++ a1) t168 false _ A38.out).mono ?_); rintro e w' ⟨rfl, ⟨nd, rfl⟩⟩; refine ⟨_, rfl, ?_⟩))
                                    go_ret
                                    exact ⟨by first | rfl | (simp; done) | (simp [*]; done), by repeat (first | exact Drawn0.refl _ | apply Drawn0.step)⟩
                              · rw [if_neg c37] at H
                                exact absurd H (by simp)
                            · rw [if_neg c36] at H
                              exact absurd H (by simp)
                        · rw [if_neg c20] at H
                          exact absurd H (by simp)
                      · rw [if_neg c19] at H
                        exact absurd H (by simp)
                    · rw [if_neg c18] at H
                      have c18b0 : decide (((a0.size : Int) + (a1.size : Int)) ≤ (a2.size : Int)) = false := decide_eq_false c18
                      clear c18
                      by_cases c41 : a0.size + a2.size ≤ 9223372036854775807
                      · rw [if_pos c41] at H
                        have c41b0 := eq_true c41
                        have c41b1 : decide (a0.size + a2.size ≤ 9223372036854775807) = true := decide_eq_true c41
                        try have c41b2 : (9223372036854775807 < a0.size + a2.size) = False := eq_false (Nat.not_lt.2 c41)
                        by_cases c42 : (a0 ++ a2).size + a1.size ≤ 9223372036854775807
                        · rw [if_pos c42] at H
                          have c42b0 := eq_true c42
                          try (have c42b0s := c42b0; simp only [ByteArray.size_append, Int.natCast_add, Int.toNat_natCast] at c42b0s)
                          have c42b1 : decide ((a0 ++ a2).size + a1.size ≤ 9223372036854775807) = true := decide_eq_true c42
                          try (have c42b1s := c42b1; simp only [ByteArray.size_append, Int.natCast_add, Int.toNat_natCast] at c42b1s)
                          try have c42b2 : (9223372036854775807 < (a0 ++ a2).size + a1.size) = False := eq_false (Nat.not_lt.2 c42)
                          try (have c42b2s := c42b2; simp only [ByteArray.size_append, Int.natCast_add, Int.toNat_natCast] at c42b2s)
                          replace H := Option.bind_eq_some_iff.mp H
                          obtain ⟨⟨t170, t171⟩, A430, H⟩ := H
                          replace H : (if t165 = true then (some false) else (if t171 = true then (some (t170.toList == a2.toList)) else (some false))) = some r := H
                          have A43 := Aside0.mk A430
                          clear A430
                          by_cases c44 : t165 = true
                          · subst c44
                            try (have c28b0u := c28b0; simp only [Bool.true_beq, Bool.false_beq, Int.toNat_natCast] at c28b0u)
                            try (have c28b2u := c28b2; simp only [Bool.true_beq, Bool.false_beq, Int.toNat_natCast] at c28b2u)
                            have H1 : (some false) = some r := by rw [if_pos rfl] at H; exact H
                            clear H
                            have H := H1
                            clear H1
                            obtain rfl := Option.some.inj H
                            go_wp2_with (first | ((with_reducible refine gate_callee (f := 16) rfl ?_); refine goesL_ (some 53) rfl rfl Try.func16 (by kernel_rfl) rfl #[.string ((a0 ++ (⟨#[37]⟩ : ByteArray)) ++ a1), .string a2] rfl (by (try simp only [List.map_toArray, List.map_cons, List.map_nil]); first | done | rfl | (simp only [List.length_drop, List.length_take]; rfl)) ?_; (with_reducible refine (glob_Match.calls ((a0 ++ (⟨#[37]⟩ : ByteArray)) ++ a1) a2 t164 true _ A17.out).mono ?_); rintro e w' ⟨rfl, ⟨nd, rfl⟩⟩; refine ⟨_, rfl, ?_⟩) | ((with_reducible refine gate_callee (f := 16) rfl ?_); refine goesL_ (some 93) rfl rfl Try.func16 (by kernel_rfl) rfl #[.string ((a0 ++ (⟨#[37]⟩ : ByteArray)) ++ a1), .string ((a0 ++ a2) ++ a1)] rfl (by (try simp only [List.map_toArray, List.map_cons, List.map_nil]); first | done | rfl | (simp only [List.length_drop, List.length_take]; rfl)) ?_; (with_reducible refine (glob_Match.calls ((a0 ++ (⟨#[37]⟩ : ByteArray)) ++ a1) ((a0 ++ a2) ++ a1) t170 t171 _ A43.out).mono ?_); rintro e w' ⟨rfl, ⟨nd, rfl⟩⟩; refine ⟨_, rfl, ?_⟩))
                            go_ret
                            exact ⟨by first | rfl | (simp; done) | (simp [*]; done), by repeat (first | exact Drawn0.refl _ | apply Drawn0.step)⟩
                          · replace c44 := Bool.eq_false_iff.mpr c44
                            subst c44
                            try (have c28b0u := c28b0; simp only [Bool.true_beq, Bool.false_beq, Int.toNat_natCast] at c28b0u)
                            try (have c28b2u := c28b2; simp only [Bool.true_beq, Bool.false_beq, Int.toNat_natCast] at c28b2u)
                            have H1 : (if t171 = true then (some (t170.toList == a2.toList)) else (some false)) = some r := by rw [if_neg (show ¬ (false = true) by decide)] at H; exact H
                            clear H
                            have H := H1
                            clear H1
                            by_cases c45 : t171 = true
                            · subst c45
                              have H1 : (some (t170.toList == a2.toList)) = some r := by rw [if_pos rfl] at H; exact H
                              clear H
                              have H := H1
                              clear H1
                              obtain rfl := Option.some.inj H
                              go_wp2_with (first | ((with_reducible refine gate_callee (f := 16) rfl ?_); refine goesL_ (some 53) rfl rfl Try.func16 (by kernel_rfl) rfl #[.string ((a0 ++ (⟨#[37]⟩ : ByteArray)) ++ a1), .string a2] rfl (by (try simp only [List.map_toArray, List.map_cons, List.map_nil]); first | done | rfl | (simp only [List.length_drop, List.length_take]; rfl)) ?_; (with_reducible refine (glob_Match.calls ((a0 ++ (⟨#[37]⟩ : ByteArray)) ++ a1) a2 t164 false _ A17.out).mono ?_); rintro e w' ⟨rfl, ⟨nd, rfl⟩⟩; refine ⟨_, rfl, ?_⟩) | ((with_reducible refine gate_callee (f := 16) rfl ?_); refine goesL_ (some 93) rfl rfl Try.func16 (by kernel_rfl) rfl #[.string ((a0 ++ (⟨#[37]⟩ : ByteArray)) ++ a1), .string ((a0 ++ a2) ++ a1)] rfl (by (try simp only [List.map_toArray, List.map_cons, List.map_nil]); first | done | rfl | (simp only [List.length_drop, List.length_take]; rfl)) ?_; (with_reducible refine (glob_Match.calls ((a0 ++ (⟨#[37]⟩ : ByteArray)) ++ a1) ((a0 ++ a2) ++ a1) t170 true _ A43.out).mono ?_); rintro e w' ⟨rfl, ⟨nd, rfl⟩⟩; refine ⟨_, rfl, ?_⟩))
                              go_ret
                              exact ⟨by first | rfl | (simp; done) | (simp [*]; done), by repeat (first | exact Drawn0.refl _ | apply Drawn0.step)⟩
                            · replace c45 := Bool.eq_false_iff.mpr c45
                              subst c45
                              have H1 : (some false) = some r := by rw [if_neg (show ¬ (false = true) by decide)] at H; exact H
                              clear H
                              have H := H1
                              clear H1
                              obtain rfl := Option.some.inj H
                              go_wp2_with (first | ((with_reducible refine gate_callee (f := 16) rfl ?_); refine goesL_ (some 53) rfl rfl Try.func16 (by kernel_rfl) rfl #[.string ((a0 ++ (⟨#[37]⟩ : ByteArray)) ++ a1), .string a2] rfl (by (try simp only [List.map_toArray, List.map_cons, List.map_nil]); first | done | rfl | (simp only [List.length_drop, List.length_take]; rfl)) ?_; (with_reducible refine (glob_Match.calls ((a0 ++ (⟨#[37]⟩ : ByteArray)) ++ a1) a2 t164 false _ A17.out).mono ?_); rintro e w' ⟨rfl, ⟨nd, rfl⟩⟩; refine ⟨_, rfl, ?_⟩) | ((with_reducible refine gate_callee (f := 16) rfl ?_); refine goesL_ (some 93) rfl rfl Try.func16 (by kernel_rfl) rfl #[.string ((a0 ++ (⟨#[37]⟩ : ByteArray)) ++ a1), .string ((a0 ++ a2) ++ a1)] rfl (by (try simp only [List.map_toArray, List.map_cons, List.map_nil]); first | done | rfl | (simp only [List.length_drop, List.length_take]; rfl)) ?_; (with_reducible refine (glob_Match.calls ((a0 ++ (⟨#[37]⟩ : ByteArray)) ++ a1) ((a0 ++ a2) ++ a1) t170 false _ A43.out).mono ?_); rintro e w' ⟨rfl, ⟨nd, rfl⟩⟩; refine ⟨_, rfl, ?_⟩))
                              go_ret
                              exact ⟨by first | rfl | (simp; done) | (simp [*]; done), by repeat (first | exact Drawn0.refl _ | apply Drawn0.step)⟩
                        · rw [if_neg c42] at H
                          exact absurd H (by simp)
                      · rw [if_neg c41] at H
                        exact absurd H (by simp)
                  · rw [if_neg c16] at H
                    exact absurd H (by simp)
                · rw [if_neg c15] at H
                  exact absurd H (by simp)
            · rw [if_neg c10] at H
              exact absurd H (by simp)

/-- THE ONE PURE STATEMENT of cooperagelaw2_GlobEnds. -/
def cooperagelaw2_GlobEnds.Pure : Prop := ∀ (a0 : ByteArray) (a1 : ByteArray) (a2 : ByteArray), a0.size ≤ 140737488351232 → a1.size ≤ 140737488351232 → a2.size ≤ 140737488351232 → ∃ k, cooperagelaw2_GlobEnds.f k a0 a1 a2 = some true
theorem cooperagelaw2_GlobEnds.walk (P : cooperagelaw2_GlobEnds.Pure) (a0 : ByteArray) (a1 : ByteArray) (a2 : ByteArray) (w : World) (w0 : a0.size ≤ 140737488351232) (w1 : a1.size ≤ 140737488351232) (w2 : a2.size ≤ 140737488351232) :
    Calls Try.prog 5 #[.string a0, .string a1, .string a2] w fun e w' => e = .returned (.bool true) ∧ Below w.heap.size w w' := by
  obtain ⟨k, h⟩ := P a0 a1 a2 w0 w1 w2
  refine (cooperagelaw2_GlobEnds.calls k a0 a1 a2 true w h).mono ?_
  rintro e w' ⟨rfl, hd⟩
  exact ⟨rfl, hd.below⟩

/-! ### cooperageref2_Right: function 19 -/
def cooperageref2_Right.f (k : Nat) (a0 : ByteArray) : Option (Bool) := (cooperageref2_marks.f k a0).bind fun bt172 => (if a0.toList = ([] : List UInt8) then (some false) else (some (decide (bt172.1 ≤ 1))))
theorem cooperageref2_Right.mono : ∀ a0 k, LeO (cooperageref2_Right.f k a0) (cooperageref2_Right.f (k + 1) a0) := by
  intro a0 k
  unfold cooperageref2_Right.f
  repeat' first
      | (with_reducible exact cooperageref2_marks.mono _ _)
      | (with_reducible exact LeO.refl _)
      | (with_reducible exact LeO.none _)
      | (with_reducible refine LeO.ite ?_ ?_)
      | (with_reducible refine LeO.bind ?_ (fun _ => ?_))
      | exact cooperageref2_marks.mono _ _
      | exact LeO.none _
      | refine LeO.ite ?_ ?_
      | refine LeO.bind ?_ (fun _ => ?_)
set_option maxHeartbeats 8000000 in
set_option maxRecDepth 100000 in
theorem cooperageref2_Right.calls (k : Nat) (a0 : ByteArray) (r : Bool) (w : World) (h : cooperageref2_Right.f k a0 = some r) :
    Calls Try.prog 19 #[.string a0] w fun e w' => e = .returned (.bool r) ∧ Drawn0 w w' := by
  have H : ((cooperageref2_marks.f k a0).bind fun bt172 => (if a0.toList = ([] : List UInt8) then (some false) else (some (decide (bt172.1 ≤ 1))))) = some r := h
  clear h
  replace H := Option.bind_eq_some_iff.mp H
  obtain ⟨⟨t172, t173⟩, A20, H⟩ := H
  replace H : (if a0.toList = ([] : List UInt8) then (some false) else (some (decide (t172 ≤ 1)))) = some r := H
  have A2 := Aside0.mk A20
  clear A20
  by_cases c3 : a0.toList = ([] : List UInt8)
  · rw [if_pos c3] at H
    have c3b0 : (a0.toList == ([] : List UInt8)) = true := beq_iff_eq.mpr c3
    have c3b1 : (a0.toList != ([] : List UInt8)) = false := bne_eq_false_iff_eq.mpr c3
    clear c3
    obtain rfl := Option.some.inj H
    go_enter Try.func19, Try.ntmps19
    go_wp2_with (first | ((with_reducible refine gate_callee (f := 24) rfl ?_); refine goesL_ (some 7) rfl rfl Try.func24 (by kernel_rfl) rfl #[.string a0] rfl (by (try simp only [List.map_toArray, List.map_cons, List.map_nil]); first | done | rfl | (simp only [List.length_drop, List.length_take]; rfl)) ?_; (with_reducible refine (cooperageref2_marks.calls k a0 t172 t173 _ A2.out).mono ?_); rintro e w' ⟨rfl, ⟨nd, rfl⟩⟩; refine ⟨_, rfl, ?_⟩))
    go_ret
    exact ⟨by first | rfl | (simp; done) | (simp [*]; done), by repeat (first | exact Drawn0.refl _ | apply Drawn0.step)⟩
  · rw [if_neg c3] at H
    have c3b0 : (a0.toList == ([] : List UInt8)) = false := beq_eq_false_iff_ne.mpr c3
    have c3b1 : (a0.toList != ([] : List UInt8)) = true := bne_iff_ne.mpr c3
    obtain rfl := Option.some.inj H
    go_enter Try.func19, Try.ntmps19
    go_wp2_with (first | ((with_reducible refine gate_callee (f := 24) rfl ?_); refine goesL_ (some 7) rfl rfl Try.func24 (by kernel_rfl) rfl #[.string a0] rfl (by (try simp only [List.map_toArray, List.map_cons, List.map_nil]); first | done | rfl | (simp only [List.length_drop, List.length_take]; rfl)) ?_; (with_reducible refine (cooperageref2_marks.calls k a0 t172 t173 _ A2.out).mono ?_); rintro e w' ⟨rfl, ⟨nd, rfl⟩⟩; refine ⟨_, rfl, ?_⟩))
    go_ret
    exact ⟨by first | rfl | (simp; done) | (simp [*]; done), by repeat (first | exact Drawn0.refl _ | apply Drawn0.step)⟩

/-! ### cooperageref2_Open: function 20 -/
def cooperageref2_Open.f (k : Nat) (a0 : ByteArray) : Option (Bool) := (cooperageref2_marks.f k a0).bind fun bt174 => (if a0.toList = ([] : List UInt8) then (some false) else (some (bt174.1 == 1)))
theorem cooperageref2_Open.mono : ∀ a0 k, LeO (cooperageref2_Open.f k a0) (cooperageref2_Open.f (k + 1) a0) := by
  intro a0 k
  unfold cooperageref2_Open.f
  repeat' first
      | (with_reducible exact cooperageref2_marks.mono _ _)
      | (with_reducible exact LeO.refl _)
      | (with_reducible exact LeO.none _)
      | (with_reducible refine LeO.ite ?_ ?_)
      | (with_reducible refine LeO.bind ?_ (fun _ => ?_))
      | exact cooperageref2_marks.mono _ _
      | exact LeO.none _
      | refine LeO.ite ?_ ?_
      | refine LeO.bind ?_ (fun _ => ?_)
set_option maxHeartbeats 8000000 in
set_option maxRecDepth 100000 in
theorem cooperageref2_Open.calls (k : Nat) (a0 : ByteArray) (r : Bool) (w : World) (h : cooperageref2_Open.f k a0 = some r) :
    Calls Try.prog 20 #[.string a0] w fun e w' => e = .returned (.bool r) ∧ Drawn0 w w' := by
  have H : ((cooperageref2_marks.f k a0).bind fun bt174 => (if a0.toList = ([] : List UInt8) then (some false) else (some (bt174.1 == 1)))) = some r := h
  clear h
  replace H := Option.bind_eq_some_iff.mp H
  obtain ⟨⟨t174, t175⟩, A20, H⟩ := H
  replace H : (if a0.toList = ([] : List UInt8) then (some false) else (some (t174 == 1))) = some r := H
  have A2 := Aside0.mk A20
  clear A20
  by_cases c3 : a0.toList = ([] : List UInt8)
  · rw [if_pos c3] at H
    have c3b0 : (a0.toList == ([] : List UInt8)) = true := beq_iff_eq.mpr c3
    have c3b1 : (a0.toList != ([] : List UInt8)) = false := bne_eq_false_iff_eq.mpr c3
    clear c3
    obtain rfl := Option.some.inj H
    go_enter Try.func20, Try.ntmps20
    go_wp2_with (first | ((with_reducible refine gate_callee (f := 24) rfl ?_); refine goesL_ (some 7) rfl rfl Try.func24 (by kernel_rfl) rfl #[.string a0] rfl (by (try simp only [List.map_toArray, List.map_cons, List.map_nil]); first | done | rfl | (simp only [List.length_drop, List.length_take]; rfl)) ?_; (with_reducible refine (cooperageref2_marks.calls k a0 t174 t175 _ A2.out).mono ?_); rintro e w' ⟨rfl, ⟨nd, rfl⟩⟩; refine ⟨_, rfl, ?_⟩))
    go_ret
    exact ⟨by first | rfl | (simp; done) | (simp [*]; done), by repeat (first | exact Drawn0.refl _ | apply Drawn0.step)⟩
  · rw [if_neg c3] at H
    have c3b0 : (a0.toList == ([] : List UInt8)) = false := beq_eq_false_iff_ne.mpr c3
    have c3b1 : (a0.toList != ([] : List UInt8)) = true := bne_iff_ne.mpr c3
    obtain rfl := Option.some.inj H
    go_enter Try.func20, Try.ntmps20
    go_wp2_with (first | ((with_reducible refine gate_callee (f := 24) rfl ?_); refine goesL_ (some 7) rfl rfl Try.func24 (by kernel_rfl) rfl #[.string a0] rfl (by (try simp only [List.map_toArray, List.map_cons, List.map_nil]); first | done | rfl | (simp only [List.length_drop, List.length_take]; rfl)) ?_; (with_reducible refine (cooperageref2_marks.calls k a0 t174 t175 _ A2.out).mono ?_); rintro e w' ⟨rfl, ⟨nd, rfl⟩⟩; refine ⟨_, rfl, ?_⟩))
    go_ret
    exact ⟨by first | rfl | (simp; done) | (simp [*]; done), by repeat (first | exact Drawn0.refl _ | apply Drawn0.step)⟩

/-! ### glob_text_matched: function 29 -/
def glob_text_matched.f (a0 : ByteArray) (a1 : ByteArray) : Option (Bool) := (glob_Match.f a1 a0).bind fun bt176 => (some bt176.2)
set_option maxHeartbeats 8000000 in
set_option maxRecDepth 100000 in
theorem glob_text_matched.calls (a0 : ByteArray) (a1 : ByteArray) (r : Bool) (w : World) (h : glob_text_matched.f a0 a1 = some r) :
    Calls Try.prog 29 #[.string a0, .string a1] w fun e w' => e = .returned (.bool r) ∧ Drawn0 w w' := by
  have H : ((glob_Match.f a1 a0).bind fun bt176 => (some bt176.2)) = some r := h
  clear h
  replace H := Option.bind_eq_some_iff.mp H
  obtain ⟨⟨t176, t177⟩, A30, H⟩ := H
  replace H : (some t177) = some r := H
  have A3 := Aside0.mk A30
  clear A30
  obtain rfl := Option.some.inj H
  go_enter Try.func29, Try.ntmps29
  go_wp2_with (first | ((with_reducible refine gate_callee (f := 16) rfl ?_); refine goesL_ (some 10) rfl rfl Try.func16 (by kernel_rfl) rfl #[.string a1, .string a0] rfl (by (try simp only [List.map_toArray, List.map_cons, List.map_nil]); first | done | rfl | (simp only [List.length_drop, List.length_take]; rfl)) ?_; (with_reducible refine (glob_Match.calls a1 a0 t176 t177 _ A3.out).mono ?_); rintro e w' ⟨rfl, ⟨nd, rfl⟩⟩; refine ⟨_, rfl, ?_⟩))
  go_ret
  exact ⟨by first | rfl | (simp; done) | (simp [*]; done), by repeat (first | exact Drawn0.refl _ | apply Drawn0.step)⟩

/-! ### glob_Any: function 21 -/
/-- slices.IndexFunc at text(s).matched: the first pattern that matches. -/
def glob_Idx.l0 : Nat → List ByteArray → ByteArray → Int → Option (Int)
  | 0, _, _, _ => none
  | k + 1, x0, x1, x8 => if x8 < (x0.length : Int) then (if 0 ≤ x8 then ((glob_text_matched.f x1 (rdOf ByteArray.empty x0 x8)).bind fun t1 => (if t1 = true then (some x8) else (glob_Idx.l0 k x0 x1 (wrap64 (x8 + 1))))) else (none)) else (some (-1))
theorem glob_Idx.mono_l : ∀ k, (∀ y0 y1 y2, LeO (glob_Idx.l0 k y0 y1 y2) (glob_Idx.l0 (k + 1) y0 y1 y2))
  | 0 => fun _ _ _ r h => by simp [glob_Idx.l0] at h
  | k + 1 => by
    have ih0 := glob_Idx.mono_l k
    intro y0 y1 y2
    unfold glob_Idx.l0
    repeat' first
    | (with_reducible exact ih0 _ _ _)
    | (with_reducible exact LeO.refl _)
    | (with_reducible exact LeO.none _)
    | (with_reducible refine LeO.ite ?_ ?_)
    | (with_reducible refine LeO.bind ?_ (fun _ => ?_))
    | exact ih0 _ _ _
    | exact LeO.none _
    | refine LeO.ite ?_ ?_
    | refine LeO.bind ?_ (fun _ => ?_)
def glob_Any.f (k : Nat) (l0 : List ByteArray) (a1 : ByteArray) : Option (Bool) := (glob_Idx.l0 k l0 a1 0).bind fun t1 => (some (decide (t1 ≥ 0)))
theorem glob_Any.mono : ∀ a0 a1 k, LeO (glob_Any.f k a0 a1) (glob_Any.f (k + 1) a0 a1) := by
  intro a0 a1 k
  unfold glob_Any.f
  exact LeO.bind (glob_Idx.mono_l k _ _ _) (fun _ => LeO.refl _)
set_option maxHeartbeats 8000000 in
set_option maxRecDepth 100000 in
theorem glob_Idx.calls (k : Nat) (A0 : Option Addr) (c0 : Nat) (l0 : List ByteArray) (a1 : ByteArray) (r : Int) (w : World) (hr0 : Kd.C Kd.string w A0 l0.length l0) (hc0 : l0.length ≤ c0) (h : glob_Idx.l0 k l0 a1 0 = some r) :
    Calls Try.prog 36 #[.slice A0 l0.length c0, .func (.func 29) #[.string a1] #[]] w fun e w' => e = .returned (.int .i64 r) ∧ Drawn0 w w' := by
  have HR0 := Aside0.mk hr0
  have HC0 := Aside0.mk hc0
  clear hr0 hc0
  have H' := Aside0.mk h
  clear h
  go_enter Try.func36, Try.ntmps36
  go_wp2
  go_loopg [5, 8] k (fun kq v5 v8 w' => ∃ (x8_1 : Int), v8 = .int .i64 x8_1 ∧ Aside0 (glob_Idx.l0 kq l0 a1 x8_1 = some r) ∧ Aside0 (kq ≤ k) ∧ Drawn0 w w')
  case atStart => exact ⟨(0), (by first | rfl | (simp; done) | (simp [*]; done)), H', ⟨Nat.le_refl _⟩, by repeat (first | exact Drawn0.refl _ | apply Drawn0.step)⟩
  case round =>
    clear H'
    obtain ⟨x8_1, rfl, HA, HK1, ⟨m1, rfl⟩⟩ := hrel
    cases gk with
    | zero => exact absurd HA.out (by simp [glob_Idx.l0])
    | succ k1 =>
      have H := HA.out
      clear HA
      simp only [glob_Idx.l0] at H
      by_cases c3 : x8_1 < (l0.length : Int)
      · rw [if_pos c3] at H
        have c3b0 : decide (x8_1 < (l0.length : Int)) = true := decide_eq_true c3
        clear c3
        by_cases c4 : 0 ≤ x8_1
        · rw [if_pos c4] at H
          have c4b0 : decide (0 ≤ x8_1) = true := decide_eq_true c4
          clear c4
          replace H := Option.bind_eq_some_iff.mp H
          obtain ⟨t103, A30, H⟩ := H
          have A3 := Aside0.mk A30
          clear A30
          have p109 : 0 ≤ (x8_1 : Int) := of_decide_eq_true (by first | (with_reducible assumption) | assumption)
          have q109 : x8_1 < (l0.length : Int) := of_decide_eq_true (by first | (with_reducible assumption) | assumption)
          obtain ⟨ad109, e109, hx109_0⟩ := Kd.at_string HR0.out x8_1 p109 q109
          cases e109
          replace p109 := eq_true p109
          replace q109 := eq_true q109
          by_cases c5 : t103 = true
          · subst c5
            rw [if_pos rfl] at H
            obtain rfl := Option.some.inj H
            clear H
            go_wp2_with (first | (go_at_call 29; (with_reducible refine (glob_text_matched.calls a1 _ true _ A3.out).mono ?_); rintro e w' ⟨rfl, ⟨nd, rfl⟩⟩))
            go_ret
            exact ⟨by first | rfl | (simp; done) | (simp [*]; done), by repeat (first | exact Drawn0.refl _ | apply Drawn0.step)⟩
          · replace c5 := Bool.eq_false_iff.mpr c5
            subst c5
            rw [if_neg (show ¬ (false = true) by decide)] at H
            have H' := Aside0.mk H
            clear H
            go_wp2_with (first | (go_at_call 29; (with_reducible refine (glob_text_matched.calls a1 _ false _ A3.out).mono ?_); rintro e w' ⟨rfl, ⟨nd, rfl⟩⟩))
            go_roundg k1
            case measure => have := HK1.out; omega
            case rel => exact ⟨(wrap64 (x8_1 + 1)), (by first | rfl | (simp; done) | (simp [*]; done)), H', ⟨by have := HK1.out; omega⟩, by repeat (first | exact Drawn0.refl _ | apply Drawn0.step)⟩
        · rw [if_neg c4] at H
          exact absurd H (by simp)
      · rw [if_neg c3] at H
        have c3b0 : decide (x8_1 < (l0.length : Int)) = false := decide_eq_false c3
        clear c3
        obtain rfl := Option.some.inj H
        go_wp2
        go_ret
        exact ⟨by first | rfl | (simp; done) | (simp [*]; done), by repeat (first | exact Drawn0.refl _ | apply Drawn0.step)⟩
set_option maxHeartbeats 8000000 in
set_option maxRecDepth 100000 in
theorem glob_Contains.calls (k : Nat) (A0 : Option Addr) (c0 : Nat) (l0 : List ByteArray) (a1 : ByteArray) (r : Bool) (w : World) (hr0 : Kd.C Kd.string w A0 l0.length l0) (hc0 : l0.length ≤ c0) (h : glob_Any.f k l0 a1 = some r) :
    Calls Try.prog 28 #[.slice A0 l0.length c0, .func (.func 29) #[.string a1] #[]] w fun e w' => e = .returned (.bool r) ∧ Drawn0 w w' := by
  unfold glob_Any.f at h
  replace h := Option.bind_eq_some_iff.mp h
  obtain ⟨t1, A30, H⟩ := h
  obtain rfl := Option.some.inj H
  clear H
  have C := fun W hW => glob_Idx.calls k A0 c0 l0 a1 t1 W hW hc0 A30
  have C2 := C w hr0
  clear hr0 hc0 A30 C
  go_enter Try.func28, Try.ntmps28
  go_wp2_with (first | (go_at_call 36; (with_reducible refine C2.mono ?_); rintro e w' ⟨rfl, ⟨nd, rfl⟩⟩))
  go_ret
  exact ⟨by first | rfl | (simp; done) | (simp [*]; done), by repeat (first | exact Drawn0.refl _ | apply Drawn0.step)⟩
set_option maxHeartbeats 8000000 in
set_option maxRecDepth 100000 in
theorem glob_Any.calls (k : Nat) (A0 : Option Addr) (c0 : Nat) (l0 : List ByteArray) (a1 : ByteArray) (r : Bool) (w : World) (hr0 : Kd.C Kd.string w A0 l0.length l0) (hc0 : l0.length ≤ c0) (h : glob_Any.f k l0 a1 = some r) :
    Calls Try.prog 21 #[.slice A0 l0.length c0, .string a1] w fun e w' => e = .returned (.bool r) ∧ Drawn0 w w' := by
  have C2 := glob_Contains.calls k A0 c0 l0 a1 r w hr0 hc0 h
  clear hr0 hc0 h
  go_enter Try.func21, Try.ntmps21
  go_wp2_with (first | (go_at_call 28; (with_reducible refine C2.mono ?_); rintro e w' ⟨rfl, ⟨nd, rfl⟩⟩))
  go_ret
  exact ⟨by first | rfl | (simp; done) | (simp [*]; done), by repeat (first | exact Drawn0.refl _ | apply Drawn0.step)⟩



end Go.Proofs.Ytlfagipdhdcjlaa.PGlob
