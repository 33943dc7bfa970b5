-- Written by a program of this session (wip/tools/ext.py, over the kit's printer); not trusted: Lean checks it.
import Derived.Test.YtlfagipdhdcjlaaPGlobx0
import Derived.Test.YtlfagipdhdcjlaaPGlobx1
namespace Go.Proofs.Ytlfagipdhdcjlaa.PGlob
open Go.RowKit Go.Proofs.YtlfagipdhdcjlaaW.PrintWords Go.Proofs.YtlfagipdhdcjlaaW.PrintLast Go.Proofs.YtlfagipdhdcjlaaW.PrintMore
attribute [local go_sem] max2_int min2_int max_two min_two max_three min_three max_four min_four   -- for this text's walks alone
set_option linter.unusedVariables false
set_option linter.unusedSimpArgs false

/-! ### cooperageref2_marks: function 24 -/
def cooperageref2_marks.l0 : Nat → ByteArray → Int → Int → Int → Option (Int × Int)
  | 0, _, _, _, _ => none
  | k + 1, x0, x4, x5, x6 => if x6 < (x0.size : Int) then (if 0 ≤ x6 then (if (bt x0 x6) = 37 then (cooperageref2_marks.l0 k x0 (wrap64 (x4 + 1)) x6 (wrap64 (x6 + 1))) else (cooperageref2_marks.l0 k x0 x4 x5 (wrap64 (x6 + 1)))) else (none)) else (some (x4, x5))
def cooperageref2_marks.f (k : Nat) (a0 : ByteArray) : Option (Int × Int) := cooperageref2_marks.l0 k a0 0 (-1) 0
theorem cooperageref2_marks.mono_l : ∀ k, (∀ y0 y1 y2 y3, LeO (cooperageref2_marks.l0 k y0 y1 y2 y3) (cooperageref2_marks.l0 (k + 1) y0 y1 y2 y3))
  | 0 => fun _ _ _ _ r h => by simp [cooperageref2_marks.l0] at h
  | k + 1 => by
    have ih0 := cooperageref2_marks.mono_l k
    · intro y0 y1 y2 y3
      unfold cooperageref2_marks.l0
      repeat' first
      | (with_reducible exact ih0 _ _ _ _)
      | (with_reducible exact LeO.refl _)
      | (with_reducible exact LeO.none _)
      | (with_reducible refine LeO.ite ?_ ?_)
      | (with_reducible refine LeO.bind ?_ (fun _ => ?_))
      | exact ih0 _ _ _ _
      | exact LeO.none _
      | refine LeO.ite ?_ ?_
      | refine LeO.bind ?_ (fun _ => ?_)
theorem cooperageref2_marks.mono : ∀ a0 k, LeO (cooperageref2_marks.f k a0) (cooperageref2_marks.f (k + 1) a0) := by
  intro a0 k
  have ih0 := cooperageref2_marks.mono_l k
  unfold cooperageref2_marks.f
  repeat' first
      | (with_reducible exact ih0 _ _ _ _)
      | (with_reducible exact LeO.refl _)
      | (with_reducible exact LeO.none _)
      | (with_reducible refine LeO.ite ?_ ?_)
      | (with_reducible refine LeO.bind ?_ (fun _ => ?_))
      | exact ih0 _ _ _ _
      | exact LeO.none _
      | refine LeO.ite ?_ ?_
      | refine LeO.bind ?_ (fun _ => ?_)
set_option maxHeartbeats 8000000 in
set_option maxRecDepth 100000 in
theorem cooperageref2_marks.calls (k : Nat) (a0 : ByteArray) (r1 : Int) (r2 : Int) (w : World) (h : cooperageref2_marks.f k a0 = some (r1, r2)) :
    Calls Try.prog 24 #[.string a0] w fun e w' => e = .returned (.tuple #[.int .i64 r1, .int .i64 r2]) ∧ Drawn0 w w' := by
  have H : (cooperageref2_marks.l0 k a0 0 (-1) 0) = some (r1, r2) := h
  clear h
  have H' := Aside0.mk H
  clear H
  go_enter Try.func24, Try.ntmps24
  go_wp2
  go_loopg [4, 5, 6] k (fun kq v4 v5 v6 w' => ∃ (x4_1 : Int) (x5_1 : Int) (x6_1 : Int), v4 = .int .i64 x4_1 ∧ v5 = .int .i64 x5_1 ∧ v6 = .int .i64 x6_1 ∧ Aside0 (cooperageref2_marks.l0 kq a0 x4_1 x5_1 x6_1 = some (r1, r2)) ∧ Aside0 (kq ≤ k) ∧ Drawn0 w w')
  case atStart => exact ⟨(0), ((-1)), (0), (by first | rfl | (simp; done) | (simp [*]; done)), (by first | rfl | (simp; done) | (simp [*]; done)), (by first | rfl | (simp; done) | (simp [*]; done)), H', ⟨Nat.le_refl _⟩, by repeat (first | exact Drawn0.refl _ | apply Drawn0.step)⟩
  case round =>
    clear H'
    obtain ⟨x4_1, x5_1, x6_1, rfl, rfl, rfl, HA, HK1, ⟨m1, rfl⟩⟩ := hrel
    cases gk with
    | zero => exact absurd HA.out (by simp [cooperageref2_marks.l0])
    | succ k1 =>
      have H := HA.out
      clear HA
      simp only [cooperageref2_marks.l0] at H
      by_cases c2 : x6_1 < (a0.size : Int)
      · rw [if_pos c2] at H
        have c2b0 : decide (x6_1 < (a0.size : Int)) = true := decide_eq_true c2
        clear c2
        by_cases c3 : 0 ≤ x6_1
        · rw [if_pos c3] at H
          have c3b0 : decide (0 ≤ x6_1) = true := decide_eq_true c3
          clear c3
          by_cases c5 : (bt a0 x6_1) = 37
          · rw [if_pos c5] at H
            have c5b0 : ((bt a0 x6_1) == 37) = true := beq_iff_eq.mpr c5
            have c5b1 : ((bt a0 x6_1) != 37) = false := bne_eq_false_iff_eq.mpr c5
            clear c5
            have H' := Aside0.mk H
            clear H
            have p4 : 0 ≤ (x6_1 : Int) := of_decide_eq_true (by first | (with_reducible assumption) | assumption)
            have q4 : x6_1 < (a0.size : Int) := of_decide_eq_true (by first | (with_reducible assumption) | assumption)
            have hx4 := bt_at a0 x6_1
            replace p4 := eq_true p4
            replace q4 := eq_true q4
            go_wp2
            go_roundg k1
            case measure => have := HK1.out; omega
            case rel => exact ⟨(wrap64 (x4_1 + 1)), (x6_1), (wrap64 (x6_1 + 1)), (by first | rfl | (simp; done) | (simp [*]; done)), (by first | rfl | (simp; done) | (simp [*]; done)), (by first | rfl | (simp; done) | (simp [*]; done)), H', ⟨by have := HK1.out; omega⟩, by repeat (first | exact Drawn0.refl _ | apply Drawn0.step)⟩
          · rw [if_neg c5] at H
            have c5b0 : ((bt a0 x6_1) == 37) = false := beq_eq_false_iff_ne.mpr c5
            have c5b1 : ((bt a0 x6_1) != 37) = true := bne_iff_ne.mpr c5
            have H' := Aside0.mk H
            clear H
            have p4 : 0 ≤ (x6_1 : Int) := of_decide_eq_true (by first | (with_reducible assumption) | assumption)
            have q4 : x6_1 < (a0.size : Int) := of_decide_eq_true (by first | (with_reducible assumption) | assumption)
            have hx4 := bt_at a0 x6_1
            replace p4 := eq_true p4
            replace q4 := eq_true q4
            go_wp2
            go_roundg k1
            case measure => have := HK1.out; omega
            case rel => exact ⟨(x4_1), (x5_1), (wrap64 (x6_1 + 1)), (by first | rfl | (simp; done) | (simp [*]; done)), (by first | rfl | (simp; done) | (simp [*]; done)), (by first | rfl | (simp; done) | (simp [*]; done)), H', ⟨by have := HK1.out; omega⟩, by repeat (first | exact Drawn0.refl _ | apply Drawn0.step)⟩
        · rw [if_neg c3] at H
          exact absurd H (by simp)
      · rw [if_neg c2] at H
        have c2b0 : decide (x6_1 < (a0.size : Int)) = false := decide_eq_false c2
        clear c2
        simp only [Option.some.injEq, Prod.mk.injEq] at H
        obtain ⟨rfl, rfl⟩ := H
        go_wp2
        go_ret2
        exact ⟨by first | rfl | (simp; done) | (simp [*]; done), by repeat (first | exact Drawn0.refl _ | apply Drawn0.step)⟩

/-! ### cooperageref2_Fill: function 12 -/
def cooperageref2_Fill.f (k : Nat) (a0 : ByteArray) (a1 : ByteArray) : Option (ByteArray) := (cooperageref2_marks.f k a0).bind fun bt134 => (if bt134.1 = 1 then (if 0 ≤ bt134.2 then (if bt134.2 ≤ (a0.size : Int) then (if (a0.extract 0 (bt134.2 : Int).toNat).size + a1.size ≤ 9223372036854775807 then (if 0 ≤ (wrap64 (bt134.2 + 1)) then (if (wrap64 (bt134.2 + 1)) ≤ (a0.size : Int) then (if ((a0.extract 0 (bt134.2 : Int).toNat) ++ a1).size + (a0.extract ((wrap64 (bt134.2 + 1)) : Int).toNat a0.size).size ≤ 9223372036854775807 then (some (((a0.extract 0 (bt134.2 : Int).toNat) ++ a1) ++ (a0.extract ((wrap64 (bt134.2 + 1)) : Int).toNat a0.size))) else (none)) else (none)) else (none)) else (none)) else (none)) else (none)) else (some a0))
theorem cooperageref2_Fill.mono : ∀ a0 a1 k, LeO (cooperageref2_Fill.f k a0 a1) (cooperageref2_Fill.f (k + 1) a0 a1) := by
  intro a0 a1 k
  unfold cooperageref2_Fill.f
  repeat' first
      | (with_reducible exact cooperageref2_marks.mono _ _)
      | (with_reducible exact LeO.refl _)
      | (with_reducible exact LeO.none _)
      | (with_reducible refine LeO.ite ?_ ?_)
      | (with_reducible refine LeO.bind ?_ (fun _ => ?_))
      | exact cooperageref2_marks.mono _ _
      | exact LeO.none _
      | refine LeO.ite ?_ ?_
      | refine LeO.bind ?_ (fun _ => ?_)
set_option maxHeartbeats 8000000 in
set_option maxRecDepth 100000 in
theorem cooperageref2_Fill.calls (k : Nat) (a0 : ByteArray) (a1 : ByteArray) (r : ByteArray) (w : World) (h : cooperageref2_Fill.f k a0 a1 = some r) :
    Calls Try.prog 12 #[.string a0, .string a1] w fun e w' => e = .returned (.string r) ∧ Drawn0 w w' := by
  have H : ((cooperageref2_marks.f k a0).bind fun bt134 => (if bt134.1 = 1 then (if 0 ≤ bt134.2 then (if bt134.2 ≤ (a0.size : Int) then (if (a0.extract 0 (bt134.2 : Int).toNat).size + a1.size ≤ 9223372036854775807 then (if 0 ≤ (wrap64 (bt134.2 + 1)) then (if (wrap64 (bt134.2 + 1)) ≤ (a0.size : Int) then (if ((a0.extract 0 (bt134.2 : Int).toNat) ++ a1).size + (a0.extract ((wrap64 (bt134.2 + 1)) : Int).toNat a0.size).size ≤ 9223372036854775807 then (some (((a0.extract 0 (bt134.2 : Int).toNat) ++ a1) ++ (a0.extract ((wrap64 (bt134.2 + 1)) : Int).toNat a0.size))) else (none)) else (none)) else (none)) else (none)) else (none)) else (none)) else (some a0))) = some r := h
  clear h
  replace H := Option.bind_eq_some_iff.mp H
  obtain ⟨⟨t134, t135⟩, A30, H⟩ := H
  replace H : (if t134 = 1 then (if 0 ≤ t135 then (if t135 ≤ (a0.size : Int) then (if (a0.extract 0 (t135 : Int).toNat).size + a1.size ≤ 9223372036854775807 then (if 0 ≤ (wrap64 (t135 + 1)) then (if (wrap64 (t135 + 1)) ≤ (a0.size : Int) then (if ((a0.extract 0 (t135 : Int).toNat) ++ a1).size + (a0.extract ((wrap64 (t135 + 1)) : Int).toNat a0.size).size ≤ 9223372036854775807 then (some (((a0.extract 0 (t135 : Int).toNat) ++ a1) ++ (a0.extract ((wrap64 (t135 + 1)) : Int).toNat a0.size))) else (none)) else (none)) else (none)) else (none)) else (none)) else (none)) else (some a0)) = some r := H
  have A3 := Aside0.mk A30
  clear A30
  by_cases c4 : t134 = 1
  · rw [if_pos c4] at H
    have c4b0 : (t134 == 1) = true := beq_iff_eq.mpr c4
    have c4b1 : (t134 != 1) = false := bne_eq_false_iff_eq.mpr c4
    clear c4
    by_cases c5 : 0 ≤ t135
    · rw [if_pos c5] at H
      have c5b0 := eq_true c5
      have c5b1 : decide (0 ≤ t135) = true := decide_eq_true c5
      clear c5
      by_cases c6 : t135 ≤ (a0.size : Int)
      · rw [if_pos c6] at H
        have c6b0 := eq_true c6
        have c6b1 : decide (t135 ≤ (a0.size : Int)) = true := decide_eq_true c6
        clear c6
        by_cases c7 : (a0.extract 0 (t135 : Int).toNat).size + a1.size ≤ 9223372036854775807
        · rw [if_pos c7] at H
          have c7b0 := eq_true c7
          have c7b1 : decide ((a0.extract 0 (t135 : Int).toNat).size + a1.size ≤ 9223372036854775807) = true := decide_eq_true c7
          try have c7b2 : (9223372036854775807 < (a0.extract 0 (t135 : Int).toNat).size + a1.size) = False := eq_false (Nat.not_lt.2 c7)
          obtain ⟨ji8, hji8⟩ : ∃ j_ : Int, (wrap64 (t135 + 1)) = j_ := ⟨_, rfl⟩
          replace H : (if 0 ≤ (ji8) then (if (ji8) ≤ (a0.size : Int) then (if ((a0.extract 0 (t135 : Int).toNat) ++ a1).size + (a0.extract ((ji8) : Int).toNat a0.size).size ≤ 9223372036854775807 then (some (((a0.extract 0 (t135 : Int).toNat) ++ a1) ++ (a0.extract ((ji8) : Int).toNat a0.size))) else (none)) else (none)) else (none)) = some r := by first | (rw [hji8] at H; exact H) | (simp only [hji8] at H ⊢; exact H)
          (try rw [hji8] at A3)
          have hji8w : (IntKind.i64.wrap (t135 + 1)) = ji8 := (i64_w _).trans hji8
          by_cases c9 : 0 ≤ (ji8)
          · rw [if_pos c9] at H
            have c9b0 := eq_true c9
            have c9b1 : decide (0 ≤ (ji8)) = true := decide_eq_true c9
            clear c9
            by_cases c10 : (ji8) ≤ (a0.size : Int)
            · rw [if_pos c10] at H
              have c10b0 := eq_true c10
              have c10b1 : decide ((ji8) ≤ (a0.size : Int)) = true := decide_eq_true c10
              clear c10
              by_cases c11 : ((a0.extract 0 (t135 : Int).toNat) ++ a1).size + (a0.extract ((ji8) : Int).toNat a0.size).size ≤ 9223372036854775807
              · rw [if_pos c11] at H
                have c11b0 := eq_true c11
                try (have c11b0s := c11b0; simp only [ByteArray.size_append, Int.natCast_add, Int.toNat_natCast] at c11b0s)
                have c11b1 : decide (((a0.extract 0 (t135 : Int).toNat) ++ a1).size + (a0.extract ((ji8) : Int).toNat a0.size).size ≤ 9223372036854775807) = true := decide_eq_true c11
                try (have c11b1s := c11b1; simp only [ByteArray.size_append, Int.natCast_add, Int.toNat_natCast] at c11b1s)
                try have c11b2 : (9223372036854775807 < ((a0.extract 0 (t135 : Int).toNat) ++ a1).size + (a0.extract ((ji8) : Int).toNat a0.size).size) = False := eq_false (Nat.not_lt.2 c11)
                try (have c11b2s := c11b2; simp only [ByteArray.size_append, Int.natCast_add, Int.toNat_natCast] at c11b2s)
                obtain rfl := Option.some.inj H
                go_enter Try.func12, Try.ntmps12
                go_wp2_with (first | (go_at_call 24; (with_reducible refine (cooperageref2_marks.calls k a0 t134 t135 _ A3.out).mono ?_); rintro e w' ⟨rfl, ⟨nd, rfl⟩⟩; (try first | exact ⟨rfl, _, World.drewN_drewN _ _ _⟩ | exact ⟨rfl, _, Eq.trans (World.drewN_drewN _ _ _) (congrArg (World.drewN _) (Nat.add_assoc _ _ _))⟩)))
                repeat (go_quiet (first | (go_at_call 24; (with_reducible refine (cooperageref2_marks.calls k a0 t134 t135 _ A3.out).mono ?_); rintro e w' ⟨rfl, ⟨nd, rfl⟩⟩; (try first | exact ⟨rfl, _, World.drewN_drewN _ _ _⟩ | exact ⟨rfl, _, Eq.trans (World.drewN_drewN _ _ _) (congrArg (World.drewN _) (Nat.add_assoc _ _ _))⟩))); try go_wp2_with (first | (go_at_call 24; (with_reducible refine (cooperageref2_marks.calls k a0 t134 t135 _ A3.out).mono ?_); rintro e w' ⟨rfl, ⟨nd, rfl⟩⟩; (try first | exact ⟨rfl, _, World.drewN_drewN _ _ _⟩ | exact ⟨rfl, _, Eq.trans (World.drewN_drewN _ _ _) (congrArg (World.drewN _) (Nat.add_assoc _ _ _))⟩))))
                go_ret
                exact ⟨by first | rfl | (simp; done) | (simp only [← hji8] <;> (first | rfl | simp)) | (simp [*]; done), by repeat (first | exact Drawn0.refl _ | apply Drawn0.step)⟩
              · rw [if_neg c11] at H
                exact absurd H (by simp)
            · rw [if_neg c10] at H
              exact absurd H (by simp)
          · rw [if_neg c9] at H
            exact absurd H (by simp)
        · rw [if_neg c7] at H
          exact absurd H (by simp)
      · rw [if_neg c6] at H
        exact absurd H (by simp)
    · rw [if_neg c5] at H
      exact absurd H (by simp)
  · rw [if_neg c4] at H
    have c4b0 : (t134 == 1) = false := beq_eq_false_iff_ne.mpr c4
    have c4b1 : (t134 != 1) = true := bne_iff_ne.mpr c4
    obtain rfl := Option.some.inj H
    go_enter Try.func12, Try.ntmps12
    go_wp2_with (first | (go_at_call 24; (with_reducible refine (cooperageref2_marks.calls k a0 t134 t135 _ A3.out).mono ?_); rintro e w' ⟨rfl, ⟨nd, rfl⟩⟩; (try first | exact ⟨rfl, _, World.drewN_drewN _ _ _⟩ | exact ⟨rfl, _, Eq.trans (World.drewN_drewN _ _ _) (congrArg (World.drewN _) (Nat.add_assoc _ _ _))⟩)))
    repeat (go_quiet (first | (go_at_call 24; (with_reducible refine (cooperageref2_marks.calls k a0 t134 t135 _ A3.out).mono ?_); rintro e w' ⟨rfl, ⟨nd, rfl⟩⟩; (try first | exact ⟨rfl, _, World.drewN_drewN _ _ _⟩ | exact ⟨rfl, _, Eq.trans (World.drewN_drewN _ _ _) (congrArg (World.drewN _) (Nat.add_assoc _ _ _))⟩))); try go_wp2_with (first | (go_at_call 24; (with_reducible refine (cooperageref2_marks.calls k a0 t134 t135 _ A3.out).mono ?_); rintro e w' ⟨rfl, ⟨nd, rfl⟩⟩; (try first | exact ⟨rfl, _, World.drewN_drewN _ _ _⟩ | exact ⟨rfl, _, Eq.trans (World.drewN_drewN _ _ _) (congrArg (World.drewN _) (Nat.add_assoc _ _ _))⟩))))
    go_ret
    exact ⟨by first | rfl | (simp; done) | (simp [*]; done), by repeat (first | exact Drawn0.refl _ | apply Drawn0.step)⟩

/-! ### cooperageref2_Match: function 18 -/
mutual
def cooperageref2_Match.j0 : Nat → ByteArray → ByteArray → Int → Int → Bool → Option (ByteArray × Bool)
  | 0, _, _, _, _, _ => none
  | k + 1, x0, x1, x6, x7, x20 => if x20 = true then (some ((⟨#[]⟩ : ByteArray), false)) else (if x6 = 0 then (some ((⟨#[]⟩ : ByteArray), (x0.toList == x1.toList))) else (cooperageref2_Match.l0 k x0 x1 x7 0))
def cooperageref2_Match.l0 : Nat → ByteArray → ByteArray → Int → Int → Option (ByteArray × Bool)
  | 0, _, _, _, _ => none
  | k + 1, x0, x1, x7, x8 => if x8 ≤ (x1.size : Int) then (cooperageref2_Match.l1 k x0 x1 x7 x8 x8) else (some ((⟨#[]⟩ : ByteArray), false))
def cooperageref2_Match.l1 : Nat → ByteArray → ByteArray → Int → Int → Int → Option (ByteArray × Bool)
  | 0, _, _, _, _, _ => none
  | k + 1, x0, x1, x7, x8, x9 => if x9 ≤ (x1.size : Int) then (if 0 ≤ x7 then (if x7 ≤ (x0.size : Int) then (if 0 ≤ x8 then (if x8 ≤ x9 then (if (x0.extract 0 (x7 : Int).toNat).size + (x1.extract (x8 : Int).toNat (x9 : Int).toNat).size ≤ 9223372036854775807 then (if 0 ≤ (wrap64 (x7 + 1)) then (if (wrap64 (x7 + 1)) ≤ (x0.size : Int) then (if ((x0.extract 0 (x7 : Int).toNat) ++ (x1.extract (x8 : Int).toNat (x9 : Int).toNat)).size + (x0.extract ((wrap64 (x7 + 1)) : Int).toNat x0.size).size ≤ 9223372036854775807 then (if (((x0.extract 0 (x7 : Int).toNat) ++ (x1.extract (x8 : Int).toNat (x9 : Int).toNat)) ++ (x0.extract ((wrap64 (x7 + 1)) : Int).toNat x0.size)).toList = x1.toList then (if x8 = x7 then (some (x1.extract (x8 : Int).toNat (x9 : Int).toNat, true)) else (cooperageref2_Match.l1 k x0 x1 x7 x8 (wrap64 (x9 + 1)))) else (cooperageref2_Match.l1 k x0 x1 x7 x8 (wrap64 (x9 + 1)))) else (none)) else (none)) else (none)) else (none)) else (none)) else (none)) else (none)) else (none)) else (cooperageref2_Match.l0 k x0 x1 x7 (wrap64 (x8 + 1)))
end
def cooperageref2_Match.f (k : Nat) (a0 : ByteArray) (a1 : ByteArray) : Option (ByteArray × Bool) := (cooperageref2_marks.f k a0).bind fun bt136 => (if a0.toList = ([] : List UInt8) then (cooperageref2_Match.j0 k a0 a1 bt136.1 bt136.2 true) else (cooperageref2_Match.j0 k a0 a1 bt136.1 bt136.2 (decide (bt136.1 > 1))))
theorem cooperageref2_Match.mono_l : ∀ k, (∀ y0 y1 y2 y3 y4, LeO (cooperageref2_Match.j0 k y0 y1 y2 y3 y4) (cooperageref2_Match.j0 (k + 1) y0 y1 y2 y3 y4)) ∧ (∀ y0 y1 y2 y3, LeO (cooperageref2_Match.l0 k y0 y1 y2 y3) (cooperageref2_Match.l0 (k + 1) y0 y1 y2 y3)) ∧ (∀ y0 y1 y2 y3 y4, LeO (cooperageref2_Match.l1 k y0 y1 y2 y3 y4) (cooperageref2_Match.l1 (k + 1) y0 y1 y2 y3 y4))
  | 0 => ⟨fun _ _ _ _ _ r h => by simp [cooperageref2_Match.j0] at h, fun _ _ _ _ r h => by simp [cooperageref2_Match.l0] at h, fun _ _ _ _ _ r h => by simp [cooperageref2_Match.l1] at h⟩
  | k + 1 => by
    obtain ⟨ih0, ih1, ih2⟩ := cooperageref2_Match.mono_l k
    refine ⟨?_, ?_, ?_⟩
    · intro y0 y1 y2 y3 y4
      unfold cooperageref2_Match.j0
      repeat' first
      | (with_reducible exact ih0 _ _ _ _ _)
      | (with_reducible exact ih1 _ _ _ _)
      | (with_reducible exact ih2 _ _ _ _ _)
      | (with_reducible exact cooperageref2_marks.mono _ _)
      | (with_reducible exact LeO.refl _)
      | (with_reducible exact LeO.none _)
      | (with_reducible refine LeO.ite ?_ ?_)
      | (with_reducible refine LeO.bind ?_ (fun _ => ?_))
      | exact ih0 _ _ _ _ _
      | exact ih1 _ _ _ _
      | exact ih2 _ _ _ _ _
      | exact cooperageref2_marks.mono _ _
      | exact LeO.none _
      | refine LeO.ite ?_ ?_
      | refine LeO.bind ?_ (fun _ => ?_)
    · intro y0 y1 y2 y3
      unfold cooperageref2_Match.l0
      repeat' first
      | (with_reducible exact ih0 _ _ _ _ _)
      | (with_reducible exact ih1 _ _ _ _)
      | (with_reducible exact ih2 _ _ _ _ _)
      | (with_reducible exact cooperageref2_marks.mono _ _)
      | (with_reducible exact LeO.refl _)
      | (with_reducible exact LeO.none _)
      | (with_reducible refine LeO.ite ?_ ?_)
      | (with_reducible refine LeO.bind ?_ (fun _ => ?_))
      | exact ih0 _ _ _ _ _
      | exact ih1 _ _ _ _
      | exact ih2 _ _ _ _ _
      | exact cooperageref2_marks.mono _ _
      | exact LeO.none _
      | refine LeO.ite ?_ ?_
      | refine LeO.bind ?_ (fun _ => ?_)
    · intro y0 y1 y2 y3 y4
      unfold cooperageref2_Match.l1
      repeat' first
      | (with_reducible exact ih0 _ _ _ _ _)
      | (with_reducible exact ih1 _ _ _ _)
      | (with_reducible exact ih2 _ _ _ _ _)
      | (with_reducible exact cooperageref2_marks.mono _ _)
      | (with_reducible exact LeO.refl _)
      | (with_reducible exact LeO.none _)
      | (with_reducible refine LeO.ite ?_ ?_)
      | (with_reducible refine LeO.bind ?_ (fun _ => ?_))
      | exact ih0 _ _ _ _ _
      | exact ih1 _ _ _ _
      | exact ih2 _ _ _ _ _
      | exact cooperageref2_marks.mono _ _
      | exact LeO.none _
      | refine LeO.ite ?_ ?_
      | refine LeO.bind ?_ (fun _ => ?_)
theorem cooperageref2_Match.mono : ∀ a0 a1 k, LeO (cooperageref2_Match.f k a0 a1) (cooperageref2_Match.f (k + 1) a0 a1) := by
  intro a0 a1 k
  obtain ⟨ih0, ih1, ih2⟩ := cooperageref2_Match.mono_l k
  unfold cooperageref2_Match.f
  repeat' first
      | (with_reducible exact ih0 _ _ _ _ _)
      | (with_reducible exact ih1 _ _ _ _)
      | (with_reducible exact ih2 _ _ _ _ _)
      | (with_reducible exact cooperageref2_marks.mono _ _)
      | (with_reducible exact LeO.refl _)
      | (with_reducible exact LeO.none _)
      | (with_reducible refine LeO.ite ?_ ?_)
      | (with_reducible refine LeO.bind ?_ (fun _ => ?_))
      | exact ih0 _ _ _ _ _
      | exact ih1 _ _ _ _
      | exact ih2 _ _ _ _ _
      | exact cooperageref2_marks.mono _ _
      | exact LeO.none _
      | refine LeO.ite ?_ ?_
      | refine LeO.bind ?_ (fun _ => ?_)
set_option maxHeartbeats 8000000 in
set_option maxRecDepth 100000 in
theorem cooperageref2_Match.calls (k : Nat) (a0 : ByteArray) (a1 : ByteArray) (r1 : ByteArray) (r2 : Bool) (w : World) (h : cooperageref2_Match.f k a0 a1 = some (r1, r2)) :
    Calls Try.prog 18 #[.string a0, .string a1] w fun e w' => e = .returned (.tuple #[.string r1, .bool r2]) ∧ Drawn0 w w' := by
  have H : ((cooperageref2_marks.f k a0).bind fun bt136 => (if a0.toList = ([] : List UInt8) then (cooperageref2_Match.j0 k a0 a1 bt136.1 bt136.2 true) else (cooperageref2_Match.j0 k a0 a1 bt136.1 bt136.2 (decide (bt136.1 > 1))))) = some (r1, r2) := h
  clear h
  replace H := Option.bind_eq_some_iff.mp H
  obtain ⟨⟨t136, t137⟩, A30, H⟩ := H
  replace H : (if a0.toList = ([] : List UInt8) then (cooperageref2_Match.j0 k a0 a1 t136 t137 true) else (cooperageref2_Match.j0 k a0 a1 t136 t137 (decide (t136 > 1)))) = some (r1, r2) := H
  have A3 := Aside0.mk A30
  clear A30
  have HC4 := Aside0.mk H
  clear H
  go_enter Try.func18, Try.ntmps18
  go_upto_region 2 with (first | (go_at_call 24; (with_reducible refine (cooperageref2_marks.calls k a0 t136 t137 _ A3.out).mono ?_); rintro e w' ⟨rfl, ⟨nd, rfl⟩⟩; (try first | exact ⟨rfl, _, World.drewN_drewN _ _ _⟩ | exact ⟨rfl, _, Eq.trans (World.drewN_drewN _ _ _) (congrArg (World.drewN _) (Nat.add_assoc _ _ _))⟩)))
  repeat (go_quiet (first | (go_at_call 24; (with_reducible refine (cooperageref2_marks.calls k a0 t136 t137 _ A3.out).mono ?_); rintro e w' ⟨rfl, ⟨nd, rfl⟩⟩; (try first | exact ⟨rfl, _, World.drewN_drewN _ _ _⟩ | exact ⟨rfl, _, Eq.trans (World.drewN_drewN _ _ _) (congrArg (World.drewN _) (Nat.add_assoc _ _ _))⟩))); go_upto_region 2 with (first | (go_at_call 24; (with_reducible refine (cooperageref2_marks.calls k a0 t136 t137 _ A3.out).mono ?_); rintro e w' ⟨rfl, ⟨nd, rfl⟩⟩; (try first | exact ⟨rfl, _, World.drewN_drewN _ _ _⟩ | exact ⟨rfl, _, Eq.trans (World.drewN_drewN _ _ _) (congrArg (World.drewN _) (Nat.add_assoc _ _ _))⟩))))
  (try simp only [Act.put, List.setIfInBounds_toArray, List.set_cons_zero, List.set_cons_succ])
  go_cut [20] (fun v20 wc => ∃ (kq : Nat) (x20_3 : Bool), v20 = .bool x20_3 ∧ Aside0 (cooperageref2_Match.j0 kq a0 a1 t136 t137 x20_3 = some (r1, r2)) ∧ Aside0 (kq ≤ k) ∧ Drawn0 w wc)
  case first =>
    have H := HC4.out
    clear HC4
    by_cases c5 : a0.toList = ([] : List UInt8)
    · rw [if_pos c5] at H
      have c5b0 : (a0.toList == ([] : List UInt8)) = true := beq_iff_eq.mpr c5
      have c5b1 : (a0.toList != ([] : List UInt8)) = false := bne_eq_false_iff_eq.mpr c5
      clear c5
      (first | rw [c5b0] | (simp only [i64_w, i32_w]; rw [c5b0]) | skip)
      have H' := Aside0.mk H
      clear H
      go_wp2
      repeat (go_quiet (fail); try go_wp2)
      go_meet
      case rel => exact ⟨_, (true), (by first | rfl | (simp; done) | (simp [*]; done)), H', ⟨by first | omega | exact Nat.le_refl _⟩, by repeat (first | exact Drawn0.refl _ | apply Drawn0.step)⟩
    · rw [if_neg c5] at H
      have c5b0 : (a0.toList == ([] : List UInt8)) = false := beq_eq_false_iff_ne.mpr c5
      have c5b1 : (a0.toList != ([] : List UInt8)) = true := bne_iff_ne.mpr c5
      (first | rw [c5b0] | (simp only [i64_w, i32_w]; rw [c5b0]) | skip)
      have H' := Aside0.mk H
      clear H
      go_wp2
      repeat (go_quiet (fail); try go_wp2)
      go_meet
      case rel => exact ⟨_, (decide (t136 > 1)), (by first | rfl | (simp; done) | (simp [*]; done)), H', ⟨by first | omega | exact Nat.le_refl _⟩, by repeat (first | exact Drawn0.refl _ | apply Drawn0.step)⟩
  case rest =>
    clear HC4
    try clear c1
    try clear p2
    try clear c5
    try clear c5b0
    try clear c5b1
    obtain ⟨kq, x20_3, rfl, HA, HJ3, ⟨mc3, rfl⟩⟩ := hcut
    cases kq with
    | zero => exact absurd HA.out (by simp [cooperageref2_Match.j0])
    | succ kj3 =>
      have H := HA.out
      clear HA
      simp only [cooperageref2_Match.j0] at H
      by_cases c6 : x20_3 = true
      · subst c6
        have H1 : (some ((⟨#[]⟩ : ByteArray), false)) = some (r1, r2) := by rw [if_pos rfl] at H; exact H
        clear H
        have H := H1
        clear H1
        simp only [Option.some.injEq, Prod.mk.injEq] at H
        obtain ⟨rfl, rfl⟩ := H
        go_wp2
        repeat (go_quiet (fail); try go_wp2)
        go_ret2
        exact ⟨by first | rfl | (simp; done) | (simp [*]; done), by repeat (first | exact Drawn0.refl _ | apply Drawn0.step)⟩
      · replace c6 := Bool.eq_false_iff.mpr c6
        subst c6
        have H1 : (if t136 = 0 then (some ((⟨#[]⟩ : ByteArray), (a0.toList == a1.toList))) else (cooperageref2_Match.l0 kj3 a0 a1 t137 0)) = some (r1, r2) := by rw [if_neg (show ¬ (false = true) by decide)] at H; exact H
        clear H
        have H := H1
        clear H1
        by_cases c7 : t136 = 0
        · rw [if_pos c7] at H
          have c7b0 : (t136 == 0) = true := beq_iff_eq.mpr c7
          have c7b1 : (t136 != 0) = false := bne_eq_false_iff_eq.mpr c7
          clear c7
          simp only [Option.some.injEq, Prod.mk.injEq] at H
          obtain ⟨rfl, rfl⟩ := H
          go_wp2
          repeat (go_quiet (fail); try go_wp2)
          go_ret2
          exact ⟨by first | rfl | (simp; done) | (simp [*]; done), by repeat (first | exact Drawn0.refl _ | apply Drawn0.step)⟩
        · rw [if_neg c7] at H
          have c7b0 : (t136 == 0) = false := beq_eq_false_iff_ne.mpr c7
          have c7b1 : (t136 != 0) = true := bne_iff_ne.mpr c7
          have H' := Aside0.mk H
          clear H
          go_wp2
          repeat (go_quiet (fail); try go_wp2)
          go_loopg [8] kj3 (fun kq v8 w' => ∃ (x8_2 : Int), v8 = .int .i64 x8_2 ∧ Aside0 (cooperageref2_Match.l0 kq a0 a1 t137 x8_2 = some (r1, r2)) ∧ Aside0 (kq ≤ kj3) ∧ Drawn0 w w')
          case atStart => exact ⟨(0), (by first | rfl | (simp; done) | (simp [*]; done)), H', ⟨Nat.le_refl _⟩, by repeat (first | exact Drawn0.refl _ | apply Drawn0.step)⟩
          case round =>
            clear H'
            try clear c1
            try clear p2
            try clear c3
            try clear c5
            try clear c5b0
            try clear c5b1
            try clear c6
            try clear c7
            try clear c7b0
            try clear c7b1
            try clear p2
            obtain ⟨x8_2, rfl, HA, HK2, ⟨m2, rfl⟩⟩ := hrel
            cases gk with
            | zero => exact absurd HA.out (by simp [cooperageref2_Match.l0])
            | succ k2 =>
              have H := HA.out
              clear HA
              simp only [cooperageref2_Match.l0] at H
              by_cases c8 : x8_2 ≤ (a1.size : Int)
              · rw [if_pos c8] at H
                have c8b0 : decide (x8_2 ≤ (a1.size : Int)) = true := decide_eq_true c8
                clear c8
                have H' := Aside0.mk H
                clear H
                go_wp2
                repeat (go_quiet (fail); try go_wp2)
                go_loopg [9] k2 (fun kq v9 w' => ∃ (x9_3 : Int), v9 = .int .i64 x9_3 ∧ Aside0 (cooperageref2_Match.l1 kq a0 a1 t137 x8_2 x9_3 = some (r1, r2)) ∧ Aside0 (kq ≤ k2) ∧ Drawn0 w w')
                case atStart => exact ⟨(x8_2), (by first | rfl | (simp; done) | (simp [*]; done)), H', ⟨Nat.le_refl _⟩, by repeat (first | exact Drawn0.refl _ | apply Drawn0.step)⟩
                case round =>
                  clear H'
                  try clear c1
                  try clear p2
                  try clear c3
                  try clear c5
                  try clear c5b0
                  try clear c5b1
                  try clear c6
                  try clear c7
                  try clear c7b0
                  try clear c7b1
                  try clear c8
                  try clear c8b0
                  try clear p2
                  obtain ⟨x9_3, rfl, HA, HK3, ⟨m3, rfl⟩⟩ := hrel
                  cases gk with
                  | zero => exact absurd HA.out (by simp [cooperageref2_Match.l1])
                  | succ k3 =>
                    have H := HA.out
                    clear HA
                    simp only [cooperageref2_Match.l1] at H
                    by_cases c9 : x9_3 ≤ (a1.size : Int)
                    · rw [if_pos c9] at H
                      have c9b0 : decide (x9_3 ≤ (a1.size : Int)) = true := decide_eq_true c9
                      clear c9
                      by_cases c10 : 0 ≤ t137
                      · rw [if_pos c10] at H
                        have c10b0 := eq_true c10
                        have c10b1 : decide (0 ≤ t137) = true := decide_eq_true c10
                        clear c10
                        by_cases c11 : t137 ≤ (a0.size : Int)
                        · rw [if_pos c11] at H
                          have c11b0 := eq_true c11
                          have c11b1 : decide (t137 ≤ (a0.size : Int)) = true := decide_eq_true c11
                          clear c11
                          by_cases c12 : 0 ≤ x8_2
                          · rw [if_pos c12] at H
                            have c12b0 := eq_true c12
                            have c12b1 : decide (0 ≤ x8_2) = true := decide_eq_true c12
                            clear c12
                            by_cases c13 : x8_2 ≤ x9_3
                            · rw [if_pos c13] at H
                              have c13b0 := eq_true c13
                              have c13b1 : decide (x8_2 ≤ x9_3) = true := decide_eq_true c13
                              clear c13
                              have c14b0 := eq_true (of_decide_eq_true (by first | (with_reducible assumption) | assumption) : x9_3 ≤ (a1.size : Int))
                              by_cases c15 : (a0.extract 0 (t137 : Int).toNat).size + (a1.extract (x8_2 : Int).toNat (x9_3 : Int).toNat).size ≤ 9223372036854775807
                              · rw [if_pos c15] at H
                                have c15b0 := eq_true c15
                                have c15b1 : decide ((a0.extract 0 (t137 : Int).toNat).size + (a1.extract (x8_2 : Int).toNat (x9_3 : Int).toNat).size ≤ 9223372036854775807) = true := decide_eq_true c15
                                try have c15b2 : (9223372036854775807 < (a0.extract 0 (t137 : Int).toNat).size + (a1.extract (x8_2 : Int).toNat (x9_3 : Int).toNat).size) = False := eq_false (Nat.not_lt.2 c15)
                                obtain ⟨ji16, hji16⟩ : ∃ j_ : Int, (wrap64 (t137 + 1)) = j_ := ⟨_, rfl⟩
                                replace H : (if 0 ≤ (ji16) then (if (ji16) ≤ (a0.size : Int) then (if ((a0.extract 0 (t137 : Int).toNat) ++ (a1.extract (x8_2 : Int).toNat (x9_3 : Int).toNat)).size + (a0.extract ((ji16) : Int).toNat a0.size).size ≤ 9223372036854775807 then (if (((a0.extract 0 (t137 : Int).toNat) ++ (a1.extract (x8_2 : Int).toNat (x9_3 : Int).toNat)) ++ (a0.extract ((ji16) : Int).toNat a0.size)).toList = a1.toList then (if x8_2 = t137 then (some (a1.extract (x8_2 : Int).toNat (x9_3 : Int).toNat, true)) else (cooperageref2_Match.l1 k3 a0 a1 t137 x8_2 (wrap64 (x9_3 + 1)))) else (cooperageref2_Match.l1 k3 a0 a1 t137 x8_2 (wrap64 (x9_3 + 1)))) else (none)) else (none)) else (none)) = some (r1, r2) := by first | (rw [hji16] at H; exact H) | (simp only [hji16] at H ⊢; exact H)
                                have hji16w : (IntKind.i64.wrap (t137 + 1)) = ji16 := (i64_w _).trans hji16
                                by_cases c17 : 0 ≤ (ji16)
                                · rw [if_pos c17] at H
                                  have c17b0 := eq_true c17
                                  have c17b1 : decide (0 ≤ (ji16)) = true := decide_eq_true c17
                                  clear c17
                                  by_cases c18 : (ji16) ≤ (a0.size : Int)
                                  · rw [if_pos c18] at H
                                    have c18b0 := eq_true c18
                                    have c18b1 : decide ((ji16) ≤ (a0.size : Int)) = true := decide_eq_true c18
                                    clear c18
                                    by_cases c19 : ((a0.extract 0 (t137 : Int).toNat) ++ (a1.extract (x8_2 : Int).toNat (x9_3 : Int).toNat)).size + (a0.extract ((ji16) : Int).toNat a0.size).size ≤ 9223372036854775807
                                    · rw [if_pos c19] at H
                                      have c19b0 := eq_true c19
                                      try (have c19b0s := c19b0; simp only [ByteArray.size_append, Int.natCast_add, Int.toNat_natCast] at c19b0s)
                                      have c19b1 : decide (((a0.extract 0 (t137 : Int).toNat) ++ (a1.extract (x8_2 : Int).toNat (x9_3 : Int).toNat)).size + (a0.extract ((ji16) : Int).toNat a0.size).size ≤ 9223372036854775807) = true := decide_eq_true c19
                                      try (have c19b1s := c19b1; simp only [ByteArray.size_append, Int.natCast_add, Int.toNat_natCast] at c19b1s)
                                      try have c19b2 : (9223372036854775807 < ((a0.extract 0 (t137 : Int).toNat) ++ (a1.extract (x8_2 : Int).toNat (x9_3 : Int).toNat)).size + (a0.extract ((ji16) : Int).toNat a0.size).size) = False := eq_false (Nat.not_lt.2 c19)
                                      try (have c19b2s := c19b2; simp only [ByteArray.size_append, Int.natCast_add, Int.toNat_natCast] at c19b2s)
                                      by_cases c20 : (((a0.extract 0 (t137 : Int).toNat) ++ (a1.extract (x8_2 : Int).toNat (x9_3 : Int).toNat)) ++ (a0.extract ((ji16) : Int).toNat a0.size)).toList = a1.toList
                                      · rw [if_pos c20] at H
                                        have c20b0 : ((((a0.extract 0 (t137 : Int).toNat) ++ (a1.extract (x8_2 : Int).toNat (x9_3 : Int).toNat)) ++ (a0.extract ((ji16) : Int).toNat a0.size)).toList == a1.toList) = true := beq_iff_eq.mpr c20
                                        try (have c20b0s := c20b0; simp only [ByteArray.size_append, Int.natCast_add, Int.toNat_natCast] at c20b0s)
                                        have c20b1 : ((((a0.extract 0 (t137 : Int).toNat) ++ (a1.extract (x8_2 : Int).toNat (x9_3 : Int).toNat)) ++ (a0.extract ((ji16) : Int).toNat a0.size)).toList != a1.toList) = false := bne_eq_false_iff_eq.mpr c20
                                        try (have c20b1s := c20b1; simp only [ByteArray.size_append, Int.natCast_add, Int.toNat_natCast] at c20b1s)
                                        clear c20
                                        by_cases c21 : x8_2 = t137
                                        · rw [if_pos c21] at H
                                          have c21b0 : (x8_2 == t137) = true := beq_iff_eq.mpr c21
                                          have c21b1 : (x8_2 != t137) = false := bne_eq_false_iff_eq.mpr c21
                                          clear c21
                                          have c22b0 := eq_true (of_decide_eq_true (by first | (with_reducible assumption) | assumption) : 0 ≤ x8_2)
                                          have c23b0 := eq_true (of_decide_eq_true (by first | (with_reducible assumption) | assumption) : x8_2 ≤ x9_3)
                                          have c24b0 := eq_true (of_decide_eq_true (by first | (with_reducible assumption) | assumption) : x9_3 ≤ (a1.size : Int))
                                          simp only [Option.some.injEq, Prod.mk.injEq] at H
                                          obtain ⟨rfl, rfl⟩ := H
                                          go_wp2
                                          repeat (go_quiet (fail); try go_wp2)
                                          go_ret2
                                          exact ⟨by first | rfl | (simp; done) | (simp only [← hji16] <;> (first | rfl | simp)) | (simp [*]; done), by repeat (first | exact Drawn0.refl _ | apply Drawn0.step)⟩
                                        · rw [if_neg c21] at H
                                          have c21b0 : (x8_2 == t137) = false := beq_eq_false_iff_ne.mpr c21
                                          have c21b1 : (x8_2 != t137) = true := bne_iff_ne.mpr c21
                                          have H' := Aside0.mk H
                                          clear H
                                          go_wp2
                                          repeat (go_quiet (fail); try go_wp2)
                                          go_roundg k3
                                          case measure => have := HJ3.out; have := HK2.out; have := HK3.out; omega
                                          case rel => exact ⟨(wrap64 (x9_3 + 1)), (by first | rfl | (simp; done) | (simp [*]; done)), H', ⟨by have := HJ3.out; have := HK2.out; have := HK3.out; omega⟩, by repeat (first | exact Drawn0.refl _ | apply Drawn0.step)⟩
                                      · rw [if_neg c20] at H
                                        have c20b0 : ((((a0.extract 0 (t137 : Int).toNat) ++ (a1.extract (x8_2 : Int).toNat (x9_3 : Int).toNat)) ++ (a0.extract ((ji16) : Int).toNat a0.size)).toList == a1.toList) = false := beq_eq_false_iff_ne.mpr c20
                                        try (have c20b0s := c20b0; simp only [ByteArray.size_append, Int.natCast_add, Int.toNat_natCast] at c20b0s)
                                        have c20b1 : ((((a0.extract 0 (t137 : Int).toNat) ++ (a1.extract (x8_2 : Int).toNat (x9_3 : Int).toNat)) ++ (a0.extract ((ji16) : Int).toNat a0.size)).toList != a1.toList) = true := bne_iff_ne.mpr c20
                                        try (have c20b1s := c20b1; simp only [ByteArray.size_append, Int.natCast_add, Int.toNat_natCast] at c20b1s)
                                        have H' := Aside0.mk H
                                        clear H
                                        go_wp2
                                        repeat (go_quiet (fail); try go_wp2)
                                        go_roundg k3
                                        case measure => have := HJ3.out; have := HK2.out; have := HK3.out; omega
                                        case rel => exact ⟨(wrap64 (x9_3 + 1)), (by first | rfl | (simp; done) | (simp [*]; done)), H', ⟨by have := HJ3.out; have := HK2.out; have := HK3.out; omega⟩, by repeat (first | exact Drawn0.refl _ | apply Drawn0.step)⟩
                                    · rw [if_neg c19] at H
                                      exact absurd H (by simp)
                                  · rw [if_neg c18] at H
                                    exact absurd H (by simp)
                                · rw [if_neg c17] at H
                                  exact absurd H (by simp)
                              · rw [if_neg c15] at H
                                exact absurd H (by simp)
                            · rw [if_neg c13] at H
                              exact absurd H (by simp)
                          · rw [if_neg c12] at H
                            exact absurd H (by simp)
                        · rw [if_neg c11] at H
                          exact absurd H (by simp)
                      · rw [if_neg c10] at H
                        exact absurd H (by simp)
                    · rw [if_neg c9] at H
                      have c9b0 : decide (x9_3 ≤ (a1.size : Int)) = false := decide_eq_false c9
                      clear c9
                      have H' := Aside0.mk H
                      clear H
                      go_wp2
                      repeat (go_quiet (fail); try go_wp2)
                      go_roundg k3
                      case measure => have := HJ3.out; have := HK2.out; have := HK3.out; omega
                      case rel => exact ⟨(wrap64 (x8_2 + 1)), (by first | rfl | (simp; done) | (simp [*]; done)), H', ⟨by have := HJ3.out; have := HK2.out; have := HK3.out; omega⟩, by repeat (first | exact Drawn0.refl _ | apply Drawn0.step)⟩
              · rw [if_neg c8] at H
                have c8b0 : decide (x8_2 ≤ (a1.size : Int)) = false := decide_eq_false c8
                clear c8
                simp only [Option.some.injEq, Prod.mk.injEq] at H
                obtain ⟨rfl, rfl⟩ := H
                go_wp2
                repeat (go_quiet (fail); try go_wp2)
                go_ret2
                exact ⟨by first | rfl | (simp; done) | (simp [*]; done), by repeat (first | exact Drawn0.refl _ | apply Drawn0.step)⟩

/-! ### cooperageref2_Subst: function 14 -/
def cooperageref2_Subst.f (k : Nat) (a0 : ByteArray) (a1 : ByteArray) (a2 : ByteArray) : Option (ByteArray) := (cooperageref2_Match.f k a0 a2).bind fun bt138 => (if bt138.2 = true then ((cooperageref2_Fill.f k a1 bt138.1).bind fun t140 => (some t140)) else (some a2))
theorem cooperageref2_Subst.mono : ∀ a0 a1 a2 k, LeO (cooperageref2_Subst.f k a0 a1 a2) (cooperageref2_Subst.f (k + 1) a0 a1 a2) := by
  intro a0 a1 a2 k
  unfold cooperageref2_Subst.f
  repeat' first
      | (with_reducible exact cooperageref2_Fill.mono _ _ _)
      | (with_reducible exact cooperageref2_Match.mono _ _ _)
      | (with_reducible exact LeO.refl _)
      | (with_reducible exact LeO.none _)
      | (with_reducible refine LeO.ite ?_ ?_)
      | (with_reducible refine LeO.bind ?_ (fun _ => ?_))
      | exact cooperageref2_Fill.mono _ _ _
      | exact cooperageref2_Match.mono _ _ _
      | exact LeO.none _
      | refine LeO.ite ?_ ?_
      | refine LeO.bind ?_ (fun _ => ?_)
set_option maxHeartbeats 8000000 in
set_option maxRecDepth 100000 in
theorem cooperageref2_Subst.calls (k : Nat) (a0 : ByteArray) (a1 : ByteArray) (a2 : ByteArray) (r : ByteArray) (w : World) (h : cooperageref2_Subst.f k a0 a1 a2 = some r) :
    Calls Try.prog 14 #[.string a0, .string a1, .string a2] w fun e w' => e = .returned (.string r) ∧ Drawn0 w w' := by
  have H : ((cooperageref2_Match.f k a0 a2).bind fun bt138 => (if bt138.2 = true then ((cooperageref2_Fill.f k a1 bt138.1).bind fun t140 => (some t140)) else (some a2))) = some r := h
  clear h
  replace H := Option.bind_eq_some_iff.mp H
  obtain ⟨⟨t138, t139⟩, A40, H⟩ := H
  replace H : (if t139 = true then ((cooperageref2_Fill.f k a1 t138).bind fun t140 => (some t140)) else (some a2)) = some r := H
  have A4 := Aside0.mk A40
  clear A40
  by_cases c5 : t139 = true
  · subst c5
    have H1 : ((cooperageref2_Fill.f k a1 t138).bind fun t140 => (some t140)) = some r := by rw [if_pos rfl] at H; exact H
    clear H
    have H := H1
    clear H1
    replace H := Option.bind_eq_some_iff.mp H
    obtain ⟨t140, A60, H⟩ := H
    replace H : (some t140) = some r := H
    have A6 := Aside0.mk A60
    clear A60
    obtain rfl := Option.some.inj H
    go_enter Try.func14, Try.ntmps14
    go_wp2_with (first | ((with_reducible refine gate_callee (f := 18) rfl ?_); refine goesL_ (some 12) rfl rfl Try.func18 (by kernel_rfl) rfl #[.string a0, .string a2] rfl (by (try simp only [List.map_toArray, List.map_cons, List.map_nil]); first | done | rfl | (simp only [List.length_drop, List.length_take]; rfl)) ?_; (with_reducible refine (cooperageref2_Match.calls k a0 a2 t138 true _ A4.out).mono ?_); rintro e w' ⟨rfl, ⟨nd, rfl⟩⟩; refine ⟨_, rfl, ?_⟩) | ((with_reducible refine gate_callee (f := 12) rfl ?_); refine goesL_ (some 20) rfl rfl Try.func12 (by kernel_rfl) rfl #[.string a1, .string t138] rfl (by (try simp only [List.map_toArray, List.map_cons, List.map_nil]); first | done | rfl | (simp only [List.length_drop, List.length_take]; rfl)) ?_; (with_reducible refine (cooperageref2_Fill.calls k a1 t138 t140 _ A6.out).mono ?_); rintro e w' ⟨rfl, ⟨nd, rfl⟩⟩; refine ⟨_, rfl, ?_⟩))
    go_ret
    exact ⟨by first | rfl | (simp; done) | (simp [*]; done), by repeat (first | exact Drawn0.refl _ | apply Drawn0.step)⟩
  · replace c5 := Bool.eq_false_iff.mpr c5
    subst c5
    have H1 : (some a2) = some r := by rw [if_neg (show ¬ (false = true) by decide)] at H; exact H
    clear H
    have H := H1
    clear H1
    obtain rfl := Option.some.inj H
    go_enter Try.func14, Try.ntmps14
    go_wp2_with (first | ((with_reducible refine gate_callee (f := 18) rfl ?_); refine goesL_ (some 12) rfl rfl Try.func18 (by kernel_rfl) rfl #[.string a0, .string a2] rfl (by (try simp only [List.map_toArray, List.map_cons, List.map_nil]); first | done | rfl | (simp only [List.length_drop, List.length_take]; rfl)) ?_; (with_reducible refine (cooperageref2_Match.calls k a0 a2 t138 false _ A4.out).mono ?_); rintro e w' ⟨rfl, ⟨nd, rfl⟩⟩; refine ⟨_, rfl, ?_⟩))
    go_ret
    exact ⟨by first | rfl | (simp; done) | (simp [*]; done), by repeat (first | exact Drawn0.refl _ | apply Drawn0.step)⟩

/-! ### cooperagelaw2_GlobFills: function 3 -/
def cooperagelaw2_GlobFills.j0 : Nat → ByteArray → ByteArray → ByteArray → Bool → Bool → Option (Bool)
  | 0, _, _, _, _, _ => none
  | k + 1, x0, x1, x2, x7, x20 => if x20 = true then (some x7) else ((glob_Fill.f x0 x2).bind fun t146 => ((cooperageref2_Fill.f k x0 x2).bind fun t147 => (if t146.toList = t147.toList then ((glob_Subst.f x0 x1 x2).bind fun t148 => ((cooperageref2_Subst.f k x0 x1 x2).bind fun t149 => (some (t148.toList == t149.toList)))) else (some false))))
def cooperagelaw2_GlobFills.f (k : Nat) (a0 : ByteArray) (a1 : ByteArray) (a2 : ByteArray) : Option (Bool) := (cooperagelaw2_shown.f).bind fun t141 => ((cooperagelaw2_small.f k (([a0, a1, a2] : List ByteArray))).bind fun t145 => (if t141 = true then (cooperagelaw2_GlobFills.j0 k a0 a1 a2 t141 (!t145)) else (cooperagelaw2_GlobFills.j0 k a0 a1 a2 t141 true)))
theorem cooperagelaw2_GlobFills.mono_l : ∀ k, (∀ y0 y1 y2 y3 y4, LeO (cooperagelaw2_GlobFills.j0 k y0 y1 y2 y3 y4) (cooperagelaw2_GlobFills.j0 (k + 1) y0 y1 y2 y3 y4))
  | 0 => fun _ _ _ _ _ r h => by simp [cooperagelaw2_GlobFills.j0] at h
  | k + 1 => by
    have ih0 := cooperagelaw2_GlobFills.mono_l k
    · intro y0 y1 y2 y3 y4
      unfold cooperagelaw2_GlobFills.j0
      repeat' first
      | (with_reducible exact ih0 _ _ _ _ _)
      | (with_reducible exact cooperagelaw2_small.mono _ _)
      | (with_reducible exact cooperageref2_Fill.mono _ _ _)
      | (with_reducible exact cooperageref2_Subst.mono _ _ _ _)
      | (with_reducible exact LeO.refl _)
      | (with_reducible exact LeO.none _)
      | (with_reducible refine LeO.ite ?_ ?_)
      | (with_reducible refine LeO.bind ?_ (fun _ => ?_))
      | exact ih0 _ _ _ _ _
      | exact cooperagelaw2_small.mono _ _
      | exact cooperageref2_Fill.mono _ _ _
      | exact cooperageref2_Subst.mono _ _ _ _
      | exact LeO.none _
      | refine LeO.ite ?_ ?_
      | refine LeO.bind ?_ (fun _ => ?_)
theorem cooperagelaw2_GlobFills.mono : ∀ a0 a1 a2 k, LeO (cooperagelaw2_GlobFills.f k a0 a1 a2) (cooperagelaw2_GlobFills.f (k + 1) a0 a1 a2) := by
  intro a0 a1 a2 k
  have ih0 := cooperagelaw2_GlobFills.mono_l k
  unfold cooperagelaw2_GlobFills.f
  repeat' first
      | (with_reducible exact ih0 _ _ _ _ _)
      | (with_reducible exact cooperagelaw2_small.mono _ _)
      | (with_reducible exact cooperageref2_Fill.mono _ _ _)
      | (with_reducible exact cooperageref2_Subst.mono _ _ _ _)
      | (with_reducible exact LeO.refl _)
      | (with_reducible exact LeO.none _)
      | (with_reducible refine LeO.ite ?_ ?_)
      | (with_reducible refine LeO.bind ?_ (fun _ => ?_))
      | exact ih0 _ _ _ _ _
      | exact cooperagelaw2_small.mono _ _
      | exact cooperageref2_Fill.mono _ _ _
      | exact cooperageref2_Subst.mono _ _ _ _
      | exact LeO.none _
      | refine LeO.ite ?_ ?_
      | refine LeO.bind ?_ (fun _ => ?_)
set_option maxHeartbeats 8000000 in
set_option maxRecDepth 100000 in
theorem cooperagelaw2_GlobFills.calls (k : Nat) (a0 : ByteArray) (a1 : ByteArray) (a2 : ByteArray) (r : Bool) (w : World) (h : cooperagelaw2_GlobFills.f k a0 a1 a2 = some r) :
    Calls Try.prog 3 #[.string a0, .string a1, .string a2] w fun e w' => e = .returned (.bool r) ∧ Below w.heap.size w w' := by
  have HB := Aside0.mk (Below.refl w.heap.size w)
  have H : ((cooperagelaw2_shown.f).bind fun t141 => ((cooperagelaw2_small.f k (([a0, a1, a2] : List ByteArray))).bind fun t145 => (if t141 = true then (cooperagelaw2_GlobFills.j0 k a0 a1 a2 t141 (!t145)) else (cooperagelaw2_GlobFills.j0 k a0 a1 a2 t141 true)))) = some r := h
  clear h
  replace H := Option.bind_eq_some_iff.mp H
  obtain ⟨t141, A40, H⟩ := H
  replace H : ((cooperagelaw2_small.f k (([a0, a1, a2] : List ByteArray))).bind fun t145 => (if t141 = true then (cooperagelaw2_GlobFills.j0 k a0 a1 a2 t141 (!t145)) else (cooperagelaw2_GlobFills.j0 k a0 a1 a2 t141 true))) = some r := H
  have A4 := Aside0.mk A40
  clear A40
  obtain ⟨y142, hy142⟩ : ∃ y_ : List ByteArray, y_ = (([a0, a1, a2] : List ByteArray)) := ⟨_, rfl⟩
  replace H : ((cooperagelaw2_small.f k y142).bind fun t145 => (if t141 = true then (cooperagelaw2_GlobFills.j0 k a0 a1 a2 t141 (!t145)) else (cooperagelaw2_GlobFills.j0 k a0 a1 a2 t141 true))) = some r := by first | (rw [hy142]; with_reducible exact H) | (have H2_ := (Option.bind_some _ _).symm.trans H; rw [hy142]; with_reducible exact H2_) | (have H2_ := (Option.bind_some _ _).symm.trans H; with_reducible exact H2_) | with_reducible exact H | (rw [hy142]; exact H) | exact H
  have Ny142 := Aside0.mk hy142
  clear hy142
  replace H := Option.bind_eq_some_iff.mp H
  obtain ⟨t145, A50, H⟩ := H
  replace H : (if t141 = true then (cooperagelaw2_GlobFills.j0 k a0 a1 a2 t141 (!t145)) else (cooperagelaw2_GlobFills.j0 k a0 a1 a2 t141 true)) = some r := H
  have A5 := Aside0.mk A50
  clear A50
  have HC6 := Aside0.mk H
  clear H
  go_enter Try.func3, Try.ntmps3
  go_upto_region 3 with (first | ((with_reducible refine gate_callee (f := 9) rfl ?_); refine goesL_ (some 9) rfl rfl Try.func9 (by kernel_rfl) rfl #[] rfl (by (try simp only [List.map_toArray, List.map_cons, List.map_nil]); first | done | rfl | (simp only [List.length_drop, List.length_take]; rfl)) ?_; (with_reducible refine (cooperagelaw2_shown.calls  t141 _ A4.out).mono ?_); rintro e w' ⟨rfl, ⟨nd, rfl⟩⟩; refine ⟨_, rfl, ?_⟩) | ((with_reducible refine gate_dst (N := 13) rfl ?_); refine Kd.R_lit Kd.string _ 9 ?hg (N := 13) ?hd (xs := ([a0, a1, a2] : List ByteArray)) (inner := [.string a0, .string a1, .string a2]) (ok := fun _ => True) (okp := fun _ => True) ?hr ?hp (fun _ hk => hk) trivial (Below.refl _ _) (Nat.le_refl _) (by simp) ?_; (case hd => rfl); (case hg => rfl); (case hr => first | (go_simp; done) | (go_simp; rfl)); (case hp => exact (Reps.one (show Kd.M Kd.string _ _ _ a0 [.string a0] from rfl) (Reps.one (show Kd.M Kd.string _ _ _ a1 [.string a1] from rfl) (Reps.one (show Kd.M Kd.string _ _ _ a2 [.string a2] from rfl) (Reps.none _ _))))); intro v143 w7 ho8 hb hg_ hnew_; clear hg_ hnew_; (first | rw [← Ny142.out] at ho8 | (simp only [Int.reduceToNat] at ho8; rw [← Ny142.out] at ho8)); have n0_ := Aside0.mk (Kd.R_lower ho8 (below_size (by repeat (first | (with_reducible first | exact HB.out | apply below_alloc | apply pw_below_drewN | apply below_drew1) | exact HB.out)))); have n1_ := Aside0.mk (below_step (by repeat (first | (with_reducible first | exact HB.out | apply below_alloc | apply pw_below_drewN | apply below_drew1) | exact HB.out)) hb); clear HB; have HO144 := n0_; have HB := n1_; clear n0_ n1_; clear hb ho8; obtain ⟨Ao9, co9, eo9⟩ := Kd.R_slice HO144.out; subst eo9) | ((with_reducible refine gate_callee (f := 10) rfl ?_); refine goesL_ (some 14) rfl rfl Try.func10 (by kernel_rfl) rfl #[.slice Ao9 y142.length co9] rfl (by (try simp only [List.map_toArray, List.map_cons, List.map_nil]); first | done | rfl | (simp only [List.length_drop, List.length_take]; rfl)) ?_; (with_reducible refine (cooperagelaw2_small.calls k _ _ y142 t145 _ ?side1 ?side2 A5.out).mono ?_); (case side1 => repeat (first | exact (Kd.R_reads' HO144.out).2.2 | (with_reducible refine Kd.C_alloc ?_ _) | (with_reducible refine Kd.C_drewN ?_ _) | (with_reducible refine Kd.C_drew ?_))); (case side2 => exact (Kd.R_reads' HO144.out).2.1); rintro e w' ⟨rfl, ⟨nd, rfl⟩⟩; refine ⟨_, rfl, ?_⟩))
  (try simp only [Act.put, List.setIfInBounds_toArray, List.set_cons_zero, List.set_cons_succ])
  go_cut [20] (fun v20 wc => ∃ (kq : Nat) (x20_5 : Bool), v20 = .bool x20_5 ∧ Aside0 (cooperagelaw2_GlobFills.j0 kq a0 a1 a2 t141 x20_5 = some r) ∧ Aside0 (kq ≤ k) ∧ Aside0 (Below w.heap.size w wc))
  case first =>
    have H := HC6.out
    clear HC6
    by_cases c10 : t141 = true
    · subst c10
      have H1 : (cooperagelaw2_GlobFills.j0 k a0 a1 a2 true (!t145)) = some r := by rw [if_pos rfl] at H; exact H
      clear H
      have H := H1
      clear H1
      have H' := Aside0.mk H
      clear H
      go_wp2
      go_meet
      case rel => exact ⟨_, (!t145), (by first | rfl | (simp; done) | (simp [*]; done)), H', ⟨by first | omega | exact Nat.le_refl _⟩, ⟨by repeat (first | (with_reducible first | exact HB.out | apply below_alloc | apply pw_below_drewN | apply below_drew1) | exact HB.out)⟩⟩
    · replace c10 := Bool.eq_false_iff.mpr c10
      subst c10
      have H1 : (cooperagelaw2_GlobFills.j0 k a0 a1 a2 false true) = some r := by rw [if_neg (show ¬ (false = true) by decide)] at H; exact H
      clear H
      have H := H1
      clear H1
      have H' := Aside0.mk H
      clear H
      go_wp2
      go_meet
      case rel => exact ⟨_, (true), (by first | rfl | (simp; done) | (simp [*]; done)), H', ⟨by first | omega | exact Nat.le_refl _⟩, ⟨by repeat (first | (with_reducible first | exact HB.out | apply below_alloc | apply pw_below_drewN | apply below_drew1) | exact HB.out)⟩⟩
  case rest =>
    clear HC6
    try clear c1
    try clear p2
    try clear c3
    try clear c9
    try clear c10
    obtain ⟨kq, x20_5, rfl, HA, HJ5, HB⟩ := hcut
    cases kq with
    | zero => exact absurd HA.out (by simp [cooperagelaw2_GlobFills.j0])
    | succ kj5 =>
      have H := HA.out
      clear HA
      simp only [cooperagelaw2_GlobFills.j0] at H
      by_cases c11 : x20_5 = true
      · subst c11
        have H1 : (some t141) = some r := by rw [if_pos rfl] at H; exact H
        clear H
        have H := H1
        clear H1
        obtain rfl := Option.some.inj H
        go_wp2
        go_ret
        exact ⟨by first | rfl | (simp [errW_none, errW_some] <;> rfl) | (simp [*, errW_none, errW_some] <;> rfl), by repeat (first | (with_reducible first | exact HB.out | apply below_alloc | apply pw_below_drewN | apply below_drew1) | exact HB.out)⟩
      · replace c11 := Bool.eq_false_iff.mpr c11
        subst c11
        have H1 : ((glob_Fill.f a0 a2).bind fun t146 => ((cooperageref2_Fill.f kj5 a0 a2).bind fun t147 => (if t146.toList = t147.toList then ((glob_Subst.f a0 a1 a2).bind fun t148 => ((cooperageref2_Subst.f kj5 a0 a1 a2).bind fun t149 => (some (t148.toList == t149.toList)))) else (some false)))) = some r := by rw [if_neg (show ¬ (false = true) by decide)] at H; exact H
        clear H
        have H := H1
        clear H1
        replace H := Option.bind_eq_some_iff.mp H
        obtain ⟨t146, A120, H⟩ := H
        replace H : ((cooperageref2_Fill.f kj5 a0 a2).bind fun t147 => (if t146.toList = t147.toList then ((glob_Subst.f a0 a1 a2).bind fun t148 => ((cooperageref2_Subst.f kj5 a0 a1 a2).bind fun t149 => (some (t148.toList == t149.toList)))) else (some false))) = some r := H
        have A12 := Aside0.mk A120
        clear A120
        replace H := Option.bind_eq_some_iff.mp H
        obtain ⟨t147, A130, H⟩ := H
        replace H : (if t146.toList = t147.toList then ((glob_Subst.f a0 a1 a2).bind fun t148 => ((cooperageref2_Subst.f kj5 a0 a1 a2).bind fun t149 => (some (t148.toList == t149.toList)))) else (some false)) = some r := H
        have A13 := Aside0.mk A130
        clear A130
        by_cases c14 : t146.toList = t147.toList
        · rw [if_pos c14] at H
          have c14b0 : (t146.toList == t147.toList) = true := beq_iff_eq.mpr c14
          have c14b1 : (t146.toList != t147.toList) = false := bne_eq_false_iff_eq.mpr c14
          clear c14
          replace H := Option.bind_eq_some_iff.mp H
          obtain ⟨t148, A150, H⟩ := H
          replace H : ((cooperageref2_Subst.f kj5 a0 a1 a2).bind fun t149 => (some (t148.toList == t149.toList))) = some r := H
          have A15 := Aside0.mk A150
          clear A150
          replace H := Option.bind_eq_some_iff.mp H
          obtain ⟨t149, A160, H⟩ := H
          replace H : (some (t148.toList == t149.toList)) = some r := H
          have A16 := Aside0.mk A160
          clear A160
          obtain rfl := Option.some.inj H
          go_wp2_with (first | ((with_reducible refine gate_callee (f := 11) rfl ?_); refine goesL_ (some 24) rfl rfl Try.func11 (by kernel_rfl) rfl #[.string a0, .string a2] rfl (by (try simp only [List.map_toArray, List.map_cons, List.map_nil]); first | done | rfl | (simp only [List.length_drop, List.length_take]; rfl)) ?_; (with_reducible refine (glob_Fill.calls a0 a2 t146 _ A12.out).mono ?_); rintro e w' ⟨rfl, ⟨nd, rfl⟩⟩; refine ⟨_, rfl, ?_⟩) | ((with_reducible refine gate_callee (f := 12) rfl ?_); refine goesL_ (some 27) rfl rfl Try.func12 (by kernel_rfl) rfl #[.string a0, .string a2] rfl (by (try simp only [List.map_toArray, List.map_cons, List.map_nil]); first | done | rfl | (simp only [List.length_drop, List.length_take]; rfl)) ?_; (with_reducible refine (cooperageref2_Fill.calls kj5 a0 a2 t147 _ A13.out).mono ?_); rintro e w' ⟨rfl, ⟨nd, rfl⟩⟩; refine ⟨_, rfl, ?_⟩) | (go_at_call 13; (with_reducible refine (glob_Subst.calls a0 a1 a2 t148 _ A15.out).mono ?_); rintro e w' ⟨rfl, ⟨nd, rfl⟩⟩) | (go_at_call 14; (with_reducible refine (cooperageref2_Subst.calls kj5 a0 a1 a2 t149 _ A16.out).mono ?_); rintro e w' ⟨rfl, ⟨nd, rfl⟩⟩))
          go_ret
          exact ⟨by first | rfl | (simp [errW_none, errW_some] <;> rfl) | (simp [*, errW_none, errW_some] <;> rfl), by repeat (first | (with_reducible first | exact HB.out | apply below_alloc | apply pw_below_drewN | apply below_drew1) | exact HB.out)⟩
        · rw [if_neg c14] at H
          have c14b0 : (t146.toList == t147.toList) = false := beq_eq_false_iff_ne.mpr c14
          have c14b1 : (t146.toList != t147.toList) = true := bne_iff_ne.mpr c14
          obtain rfl := Option.some.inj H
          go_wp2_with (first | ((with_reducible refine gate_callee (f := 11) rfl ?_); refine goesL_ (some 24) rfl rfl Try.func11 (by kernel_rfl) rfl #[.string a0, .string a2] rfl (by (try simp only [List.map_toArray, List.map_cons, List.map_nil]); first | done | rfl | (simp only [List.length_drop, List.length_take]; rfl)) ?_; (with_reducible refine (glob_Fill.calls a0 a2 t146 _ A12.out).mono ?_); rintro e w' ⟨rfl, ⟨nd, rfl⟩⟩; refine ⟨_, rfl, ?_⟩) | ((with_reducible refine gate_callee (f := 12) rfl ?_); refine goesL_ (some 27) rfl rfl Try.func12 (by kernel_rfl) rfl #[.string a0, .string a2] rfl (by (try simp only [List.map_toArray, List.map_cons, List.map_nil]); first | done | rfl | (simp only [List.length_drop, List.length_take]; rfl)) ?_; (with_reducible refine (cooperageref2_Fill.calls kj5 a0 a2 t147 _ A13.out).mono ?_); rintro e w' ⟨rfl, ⟨nd, rfl⟩⟩; refine ⟨_, rfl, ?_⟩))
          go_ret
          exact ⟨by first | rfl | (simp [errW_none, errW_some] <;> rfl) | (simp [*, errW_none, errW_some] <;> rfl), by repeat (first | (with_reducible first | exact HB.out | apply below_alloc | apply pw_below_drewN | apply below_drew1) | exact HB.out)⟩

/-- THE ONE PURE STATEMENT of cooperagelaw2_GlobFills. -/
def cooperagelaw2_GlobFills.Pure : Prop := ∀ (a0 : ByteArray) (a1 : ByteArray) (a2 : ByteArray), a0.size ≤ 140737488351232 → a1.size ≤ 140737488351232 → a2.size ≤ 140737488351232 → ∃ k, cooperagelaw2_GlobFills.f k a0 a1 a2 = some true
theorem cooperagelaw2_GlobFills.walk (P : cooperagelaw2_GlobFills.Pure) (a0 : ByteArray) (a1 : ByteArray) (a2 : ByteArray) (w : World) (w0 : a0.size ≤ 140737488351232) (w1 : a1.size ≤ 140737488351232) (w2 : a2.size ≤ 140737488351232) :
    Calls Try.prog 3 #[.string a0, .string a1, .string a2] w fun e w' => e = .returned (.bool true) ∧ Below w.heap.size w w' := by
  obtain ⟨k, h⟩ := P a0 a1 a2 w0 w1 w2
  refine (cooperagelaw2_GlobFills.calls k a0 a1 a2 true w h).mono ?_
  rintro e w' ⟨rfl, hd⟩
  exact ⟨rfl, hd⟩

end Go.Proofs.Ytlfagipdhdcjlaa.PGlob
