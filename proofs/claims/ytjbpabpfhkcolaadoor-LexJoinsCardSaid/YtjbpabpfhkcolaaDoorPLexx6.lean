-- Written by a program of this session (wip/tools/ext.py, over the kit's printer); not trusted: Lean checks it.
import Derived.Test.YtjbpabpfhkcolaaDoorPLexx0
import Derived.Test.YtjbpabpfhkcolaaDoorPLexx3
import Derived.Test.YtjbpabpfhkcolaaDoorPLexx5
namespace Go.Proofs.YtjbpabpfhkcolaaDoor.PLex
open Go.RowKit Go.Proofs.YtjbpabpfhkcolaaDoorW.PrintWords Go.Proofs.YtjbpabpfhkcolaaDoorW.PrintLast Go.Proofs.YtjbpabpfhkcolaaDoorW.PrintMore
attribute [local go_sem] max2_int min2_int max_two min_two max_three min_three max_four min_four   -- for this text's walks alone
set_option linter.unusedVariables false
set_option linter.unusedSimpArgs false

/-! ### cooperagelaw8_LexJoins: function 5 -/
mutual
def cooperagelaw8_LexJoins.j0 : Nat → ByteArray → ByteArray → ByteArray → Bool → Bool → Option (Bool)
 | 0, _, _, _, _, _ => none
 | k + 1, x0, x1, x2, x7, x33 => if x33 = true then (some x7) else (if x0.size + x1.size ≤ 9223372036854775807 then (cooperagelaw8_LexJoins.l0 k x0 x1 x2 (x0 ++ x1) 0) else (none))
def cooperagelaw8_LexJoins.l0 : Nat → ByteArray → ByteArray → ByteArray → ByteArray → Int → Option (Bool)
 | 0, _, _, _, _, _ => none
 | k + 1, x0, x1, x2, x8, x9 => if x9 < (x8.size : Int) then (if 0 ≤ x9 then (if (bt x8 x9) = 10 then (some true) else (if (bt x8 x9) = 92 then (some true) else (cooperagelaw8_LexJoins.l0 k x0 x1 x2 x8 (wrap64 (x9 + 1))))) else (none)) else (if x0.toList = ([] : List UInt8) then (cooperagelaw8_LexJoins.j2 k x0 x1 x2 true) else (if x1.toList = ([] : List UInt8) then (cooperagelaw8_LexJoins.j2 k x0 x1 x2 true) else (if 0 < (x1.size : Int) then (if (bt x1 0) = 32 then (cooperagelaw8_LexJoins.j2 k x0 x1 x2 true) else (if (bt x1 0) = 9 then (cooperagelaw8_LexJoins.j2 k x0 x1 x2 true) else (if 0 ≤ (wrap64 ((x0.size : Int) - 1)) then (if (wrap64 ((x0.size : Int) - 1)) < (x0.size : Int) then (if (bt x0 (wrap64 ((x0.size : Int) - 1))) = 32 then (cooperagelaw8_LexJoins.j2 k x0 x1 x2 true) else (cooperagelaw8_LexJoins.j2 k x0 x1 x2 ((bt x0 (wrap64 ((x0.size : Int) - 1))) == 9))) else (none)) else (none)))) else (none))))
def cooperagelaw8_LexJoins.j2 : Nat → ByteArray → ByteArray → ByteArray → Bool → Option (Bool)
 | 0, _, _, _, _ => none
 | k + 1, x0, x1, x2, x85 => if x85 = true then (some true) else (if x0.size + 6 ≤ 9223372036854775807 then (if (x0 ++ (⟨#[32, 9, 92, 10, 9, 32]⟩ : ByteArray)).size + x1.size ≤ 9223372036854775807 then (if ((x0 ++ (⟨#[32, 9, 92, 10, 9, 32]⟩ : ByteArray)) ++ x1).size + 1 ≤ 9223372036854775807 then (if (((x0 ++ (⟨#[32, 9, 92, 10, 9, 32]⟩ : ByteArray)) ++ x1) ++ (⟨#[10]⟩ : ByteArray)).size + x2.size ≤ 9223372036854775807 then ((lex_Lex.f k ((((x0 ++ (⟨#[32, 9, 92, 10, 9, 32]⟩ : ByteArray)) ++ x1) ++ (⟨#[10]⟩ : ByteArray)) ++ x2)).bind fun bt165 => (if x0.size + 1 ≤ 9223372036854775807 then (if (x0 ++ (⟨#[32]⟩ : ByteArray)).size + x1.size ≤ 9223372036854775807 then (if ((x0 ++ (⟨#[32]⟩ : ByteArray)) ++ x1).size + 1 ≤ 9223372036854775807 then (if (((x0 ++ (⟨#[32]⟩ : ByteArray)) ++ x1) ++ (⟨#[10]⟩ : ByteArray)).size + x2.size ≤ 9223372036854775807 then ((lex_Lex.f k ((((x0 ++ (⟨#[32]⟩ : ByteArray)) ++ x1) ++ (⟨#[10]⟩ : ByteArray)) ++ x2)).bind fun bt170 => (if bt165.2.1 = bt170.2.1 then ((cooperagelaw8_texts.f k bt165.1 bt170.1).bind fun t175 => (some t175)) else (some false))) else (none)) else (none)) else (none)) else (none))) else (none)) else (none)) else (none)) else (none))
end
def cooperagelaw8_LexJoins.f (k : Nat) (a0 : ByteArray) (a1 : ByteArray) (a2 : ByteArray) : Option (Bool) := (cooperagelaw8_shown.f k).bind fun t164 => (if t164 = true then (if (a0.size : Int) > 400 then (cooperagelaw8_LexJoins.j0 k a0 a1 a2 t164 true) else (if (a1.size : Int) > 400 then (cooperagelaw8_LexJoins.j0 k a0 a1 a2 t164 true) else (cooperagelaw8_LexJoins.j0 k a0 a1 a2 t164 (decide ((a2.size : Int) > 1000))))) else (cooperagelaw8_LexJoins.j0 k a0 a1 a2 t164 true))
theorem cooperagelaw8_LexJoins.mono_l : ∀ k, (∀ y0 y1 y2 y3 y4, LeO (cooperagelaw8_LexJoins.j0 k y0 y1 y2 y3 y4) (cooperagelaw8_LexJoins.j0 (k + 1) y0 y1 y2 y3 y4)) ∧ (∀ y0 y1 y2 y3 y4, LeO (cooperagelaw8_LexJoins.l0 k y0 y1 y2 y3 y4) (cooperagelaw8_LexJoins.l0 (k + 1) y0 y1 y2 y3 y4)) ∧ (∀ y0 y1 y2 y3, LeO (cooperagelaw8_LexJoins.j2 k y0 y1 y2 y3) (cooperagelaw8_LexJoins.j2 (k + 1) y0 y1 y2 y3))
 | 0 => ⟨fun _ _ _ _ _ r h => by simp [cooperagelaw8_LexJoins.j0] at h, fun _ _ _ _ _ r h => by simp [cooperagelaw8_LexJoins.l0] at h, fun _ _ _ _ r h => by simp [cooperagelaw8_LexJoins.j2] at h⟩
 | k + 1 => by
  obtain ⟨ih0, ih1, ih2⟩ := cooperagelaw8_LexJoins.mono_l k
  refine ⟨?_, ?_, ?_⟩
  ·intro y0 y1 y2 y3 y4
   unfold cooperagelaw8_LexJoins.j0
   repeat' first
   | (with_reducible exact ih0 _ _ _ _ _)
   | (with_reducible exact ih1 _ _ _ _ _)
   | (with_reducible exact ih2 _ _ _ _)
   | (with_reducible exact cooperagelaw8_shown.mono _)
   | (with_reducible exact cooperagelaw8_texts.mono _ _ _)
   | (with_reducible exact lex_Lex.mono _ _)
   | (with_reducible exact LeO.refl _)
   | (with_reducible exact LeO.none _)
   | (with_reducible refine LeO.ite ?_ ?_)
   | (with_reducible refine LeO.bind ?_ (fun _ => ?_))
   | exact ih0 _ _ _ _ _
   | exact ih1 _ _ _ _ _
   | exact ih2 _ _ _ _
   | exact cooperagelaw8_shown.mono _
   | exact cooperagelaw8_texts.mono _ _ _
   | exact lex_Lex.mono _ _
   | exact LeO.none _
   | refine LeO.ite ?_ ?_
   | refine LeO.bind ?_ (fun _ => ?_)
  ·intro y0 y1 y2 y3 y4
   unfold cooperagelaw8_LexJoins.l0
   repeat' first
   | (with_reducible exact ih0 _ _ _ _ _)
   | (with_reducible exact ih1 _ _ _ _ _)
   | (with_reducible exact ih2 _ _ _ _)
   | (with_reducible exact cooperagelaw8_shown.mono _)
   | (with_reducible exact cooperagelaw8_texts.mono _ _ _)
   | (with_reducible exact lex_Lex.mono _ _)
   | (with_reducible exact LeO.refl _)
   | (with_reducible exact LeO.none _)
   | (with_reducible refine LeO.ite ?_ ?_)
   | (with_reducible refine LeO.bind ?_ (fun _ => ?_))
   | exact ih0 _ _ _ _ _
   | exact ih1 _ _ _ _ _
   | exact ih2 _ _ _ _
   | exact cooperagelaw8_shown.mono _
   | exact cooperagelaw8_texts.mono _ _ _
   | exact lex_Lex.mono _ _
   | exact LeO.none _
   | refine LeO.ite ?_ ?_
   | refine LeO.bind ?_ (fun _ => ?_)
  ·intro y0 y1 y2 y3
   unfold cooperagelaw8_LexJoins.j2
   repeat' first
   | (with_reducible exact ih0 _ _ _ _ _)
   | (with_reducible exact ih1 _ _ _ _ _)
   | (with_reducible exact ih2 _ _ _ _)
   | (with_reducible exact cooperagelaw8_shown.mono _)
   | (with_reducible exact cooperagelaw8_texts.mono _ _ _)
   | (with_reducible exact lex_Lex.mono _ _)
   | (with_reducible exact LeO.refl _)
   | (with_reducible exact LeO.none _)
   | (with_reducible refine LeO.ite ?_ ?_)
   | (with_reducible refine LeO.bind ?_ (fun _ => ?_))
   | exact ih0 _ _ _ _ _
   | exact ih1 _ _ _ _ _
   | exact ih2 _ _ _ _
   | exact cooperagelaw8_shown.mono _
   | exact cooperagelaw8_texts.mono _ _ _
   | exact lex_Lex.mono _ _
   | exact LeO.none _
   | refine LeO.ite ?_ ?_
   | refine LeO.bind ?_ (fun _ => ?_)
theorem cooperagelaw8_LexJoins.mono : ∀ a0 a1 a2 k, LeO (cooperagelaw8_LexJoins.f k a0 a1 a2) (cooperagelaw8_LexJoins.f (k + 1) a0 a1 a2) := by
 intro a0 a1 a2 k
 obtain ⟨ih0, ih1, ih2⟩ := cooperagelaw8_LexJoins.mono_l k
 unfold cooperagelaw8_LexJoins.f
 repeat' first
   | (with_reducible exact ih0 _ _ _ _ _)
   | (with_reducible exact ih1 _ _ _ _ _)
   | (with_reducible exact ih2 _ _ _ _)
   | (with_reducible exact cooperagelaw8_shown.mono _)
   | (with_reducible exact cooperagelaw8_texts.mono _ _ _)
   | (with_reducible exact lex_Lex.mono _ _)
   | (with_reducible exact LeO.refl _)
   | (with_reducible exact LeO.none _)
   | (with_reducible refine LeO.ite ?_ ?_)
   | (with_reducible refine LeO.bind ?_ (fun _ => ?_))
   | exact ih0 _ _ _ _ _
   | exact ih1 _ _ _ _ _
   | exact ih2 _ _ _ _
   | exact cooperagelaw8_shown.mono _
   | exact cooperagelaw8_texts.mono _ _ _
   | exact lex_Lex.mono _ _
   | exact LeO.none _
   | refine LeO.ite ?_ ?_
   | refine LeO.bind ?_ (fun _ => ?_)
set_option maxHeartbeats 8000000 in
set_option maxRecDepth 100000 in
theorem cooperagelaw8_LexJoins.calls (k : Nat) (a0 : ByteArray) (a1 : ByteArray) (a2 : ByteArray) (r : Bool) (w : World) (h : cooperagelaw8_LexJoins.f k a0 a1 a2 = some r) :
  Calls Tryd.prog 5 #[.string a0, .string a1, .string a2] w fun e w' => e = .returned (.bool r) ∧ Below w.heap.size w w' := by
 have HB := Aside0.mk (Below.refl w.heap.size w)
 have H : ((cooperagelaw8_shown.f k).bind fun t164 => (if t164 = true then (if (a0.size : Int) > 400 then (cooperagelaw8_LexJoins.j0 k a0 a1 a2 t164 true) else (if (a1.size : Int) > 400 then (cooperagelaw8_LexJoins.j0 k a0 a1 a2 t164 true) else (cooperagelaw8_LexJoins.j0 k a0 a1 a2 t164 (decide ((a2.size : Int) > 1000))))) else (cooperagelaw8_LexJoins.j0 k a0 a1 a2 t164 true))) = some r := h
 clear h
 replace H := Option.bind_eq_some_iff.mp H
 obtain ⟨t164, A40, H⟩ := H
 replace H : (if t164 = true then (if (a0.size : Int) > 400 then (cooperagelaw8_LexJoins.j0 k a0 a1 a2 t164 true) else (if (a1.size : Int) > 400 then (cooperagelaw8_LexJoins.j0 k a0 a1 a2 t164 true) else (cooperagelaw8_LexJoins.j0 k a0 a1 a2 t164 (decide ((a2.size : Int) > 1000))))) else (cooperagelaw8_LexJoins.j0 k a0 a1 a2 t164 true)) = some r := H
 have A4 := Aside0.mk A40
 clear A40
 have HC5 := Aside0.mk H
 clear H
 go_enter Tryd.func5, Tryd.ntmps5
 go_upto_region 2 with (first | ((with_reducible refine gate_callee (f := 8) rfl ?_); refine goesL_ (some 16) rfl rfl Tryd.func8 (by kernel_rfl) rfl #[] rfl zA ?_; (with_reducible refine (cooperagelaw8_shown.calls k  t164 _ A4.out).mono ?_); rintro e w6 ⟨rfl, hb⟩; refine ⟨_, rfl, ?_⟩; have n0_ := Aside0.mk (below_step (zL HB.out) hb); revert n0_; clear HB; intro HB; (try clear hb); (try clear hb2); (try clear hk); (try clear hi)))
 (try simp only [Act.put, List.setIfInBounds_toArray, List.set_cons_zero, List.set_cons_succ])
 go_cut [33] (fun v33 wc => ∃ (kq : Nat) (x33_4 : Bool), v33 = .bool x33_4 ∧ Aside0 (cooperagelaw8_LexJoins.j0 kq a0 a1 a2 t164 x33_4 = some r) ∧ Aside0 (kq ≤ k) ∧ Aside0 (Below w.heap.size w wc))
 case first =>
  have H := HC5.out
  clear HC5
  by_cases c7 : t164 = true
  ·subst c7
   have H1 : (if (a0.size : Int) > 400 then (cooperagelaw8_LexJoins.j0 k a0 a1 a2 true true) else (if (a1.size : Int) > 400 then (cooperagelaw8_LexJoins.j0 k a0 a1 a2 true true) else (cooperagelaw8_LexJoins.j0 k a0 a1 a2 true (decide ((a2.size : Int) > 1000))))) = some r := by rw [if_pos rfl] at H; exact H
   clear H
   have H := H1
   clear H1
   by_cases c8 : (a0.size : Int) > 400
   ·rw [if_pos c8] at H
    have c8b0 : decide (400 < (a0.size : Int)) = true := decide_eq_true c8
    have c8b1 : decide (400 < a0.size) = true := decide_eq_true (by omega)
    clear c8
    (first | rw [c8b0] | (simp only [i64_w, i32_w]; rw [c8b0]) | skip)
    have H' := Aside0.mk H
    clear H
    go_wp2
    go_meet
    case rel => exact ⟨_, (true), zS, H', ⟨by first | omega | exact Nat.le_refl _⟩, ⟨zL HB.out⟩⟩
   ·rw [if_neg c8] at H
    have c8b0 : decide (400 < (a0.size : Int)) = false := decide_eq_false c8
    have c8b1 : decide (400 < a0.size) = false := decide_eq_false (by omega)
    clear c8
    (first | rw [c8b0] | (simp only [i64_w, i32_w]; rw [c8b0]) | skip)
    by_cases c9 : (a1.size : Int) > 400
    ·rw [if_pos c9] at H
     have c9b0 : decide (400 < (a1.size : Int)) = true := decide_eq_true c9
     have c9b1 : decide (400 < a1.size) = true := decide_eq_true (by omega)
     clear c9
     have H' := Aside0.mk H
     clear H
     go_wp2
     go_meet
     case rel => exact ⟨_, (true), zS, H', ⟨by first | omega | exact Nat.le_refl _⟩, ⟨zL HB.out⟩⟩
    ·rw [if_neg c9] at H
     have c9b0 : decide (400 < (a1.size : Int)) = false := decide_eq_false c9
     have c9b1 : decide (400 < a1.size) = false := decide_eq_false (by omega)
     clear c9
     have H' := Aside0.mk H
     clear H
     go_wp2
     go_meet
     case rel => exact ⟨_, (decide ((a2.size : Int) > 1000)), zS, H', ⟨by first | omega | exact Nat.le_refl _⟩, ⟨zL HB.out⟩⟩
  ·replace c7 := Bool.eq_false_iff.mpr c7
   subst c7
   have H1 : (cooperagelaw8_LexJoins.j0 k a0 a1 a2 false true) = some r := by rw [if_neg (show ¬ (false = true) by decide)] at H; exact H
   clear H
   have H := H1
   clear H1
   have H' := Aside0.mk H
   clear H
   go_wp2
   go_meet
   case rel => exact ⟨_, (true), zS, H', ⟨by first | omega | exact Nat.le_refl _⟩, ⟨zL HB.out⟩⟩
 case rest =>
  clear HC5
  try clear p2
  try clear c5
  try clear c7
  try clear c8
  try clear c8b0
  try clear c8b1
  try clear c9
  try clear c9b0
  try clear c9b1
  obtain ⟨kq, x33_4, rfl, HA, HJ4, HB⟩ := hcut
  cases kq with
  | zero => exact absurd HA.out (by simp [cooperagelaw8_LexJoins.j0])
  | succ kj4 =>
   have H := HA.out
   clear HA
   simp only [cooperagelaw8_LexJoins.j0] at H
   by_cases c10 : x33_4 = true
   ·subst c10
    have H1 : (some t164) = some r := by rw [if_pos rfl] at H; exact H
    clear H
    have H := H1
    clear H1
    obtain rfl := Option.some.inj H
    go_wp2
    go_ret
    exact ⟨zE, zL HB.out⟩
   ·replace c10 := Bool.eq_false_iff.mpr c10
    subst c10
    have H1 : (if a0.size + a1.size ≤ 9223372036854775807 then (cooperagelaw8_LexJoins.l0 kj4 a0 a1 a2 (a0 ++ a1) 0) else (none)) = some r := by rw [if_neg (show ¬ (false = true) by decide)] at H; exact H
    clear H
    have H := H1
    clear H1
    by_cases c11 : a0.size + a1.size ≤ 9223372036854775807
    ·rw [if_pos c11] at H
     have c11b0 := eq_true c11
     have c11b1 : decide (a0.size + a1.size ≤ 9223372036854775807) = true := decide_eq_true c11
     try have c11b2 : (9223372036854775807 < a0.size + a1.size) = False := eq_false (Nat.not_lt.2 c11)
     have H' := Aside0.mk H
     clear H
     go_wp2
     go_loopg [9] kj4 (fun kq v9 w' => ∃ (x9_2 : Int), v9 = .int .i64 x9_2 ∧ Aside0 (cooperagelaw8_LexJoins.l0 kq a0 a1 a2 (a0 ++ a1) x9_2 = some r) ∧ Aside0 (kq ≤ kj4) ∧ Aside0 (Below w.heap.size w w'))
     case atStart => exact ⟨(0), zS, H', ⟨Nat.le_refl _⟩, ⟨zL HB.out⟩⟩
     case round =>
      clear H'
      try clear c1
      try clear p2
      try clear c5
      try clear c7
      try clear c8
      try clear c8b0
      try clear c8b1
      try clear c9
      try clear c9b0
      try clear c9b1
      try clear c10
      try clear c11
      try clear c11b0
      try clear c11b1
      try clear c11b2
      try clear p2
      obtain ⟨x9_2, rfl, HA, HK2, HB⟩ := hrel
      cases gk with
      | zero => exact absurd HA.out (by simp [cooperagelaw8_LexJoins.l0])
      | succ k2 =>
       have H := HA.out
       clear HA
       simp only [cooperagelaw8_LexJoins.l0] at H
       by_cases c12 : x9_2 < ((a0 ++ a1).size : Int)
       ·rw [if_pos c12] at H
        have c12b0 : decide (x9_2 < ((a0 ++ a1).size : Int)) = true := decide_eq_true c12
        try (have c12b0s := c12b0; simp only [ByteArray.size_append, Int.natCast_add, Int.toNat_natCast] at c12b0s)
        clear c12
        by_cases c13 : 0 ≤ x9_2
        ·rw [if_pos c13] at H
         have c13b0 : decide (0 ≤ x9_2) = true := decide_eq_true c13
         clear c13
         by_cases c15 : (bt (a0 ++ a1) x9_2) = 10
         ·rw [if_pos c15] at H
          have c15b0 : ((bt (a0 ++ a1) x9_2) == 10) = true := beq_iff_eq.mpr c15
          have c15b1 : ((bt (a0 ++ a1) x9_2) != 10) = false := bne_eq_false_iff_eq.mpr c15
          clear c15
          obtain rfl := Option.some.inj H
          have p14 : 0 ≤ (x9_2 : Int) := zD
          have q14 : x9_2 < ((a0 ++ a1).size : Int) := zD
          try (have q14s := q14; simp only [ByteArray.size_append, Int.natCast_add, Int.toNat_natCast] at q14s)
          have hx14 := bt_at (a0 ++ a1) x9_2
          replace p14 := eq_true p14
          replace q14 := eq_true q14
          try (have q14s := q14; simp only [ByteArray.size_append, Int.natCast_add, Int.toNat_natCast] at q14s)
          go_wp2
          go_ret
          exact ⟨zE, zL HB.out⟩
         ·rw [if_neg c15] at H
          have c15b0 : ((bt (a0 ++ a1) x9_2) == 10) = false := beq_eq_false_iff_ne.mpr c15
          have c15b1 : ((bt (a0 ++ a1) x9_2) != 10) = true := bne_iff_ne.mpr c15
          by_cases c17 : (bt (a0 ++ a1) x9_2) = 92
          ·rw [if_pos c17] at H
           have c17b0 : ((bt (a0 ++ a1) x9_2) == 92) = true := beq_iff_eq.mpr c17
           have c17b1 : ((bt (a0 ++ a1) x9_2) != 92) = false := bne_eq_false_iff_eq.mpr c17
           clear c17
           obtain rfl := Option.some.inj H
           have p14 : 0 ≤ (x9_2 : Int) := zD
           have q14 : x9_2 < ((a0 ++ a1).size : Int) := zD
           try (have q14s := q14; simp only [ByteArray.size_append, Int.natCast_add, Int.toNat_natCast] at q14s)
           have hx14 := bt_at (a0 ++ a1) x9_2
           replace p14 := eq_true p14
           replace q14 := eq_true q14
           try (have q14s := q14; simp only [ByteArray.size_append, Int.natCast_add, Int.toNat_natCast] at q14s)
           have p16 : 0 ≤ (x9_2 : Int) := zD
           have q16 : x9_2 < ((a0 ++ a1).size : Int) := zD
           try (have q16s := q16; simp only [ByteArray.size_append, Int.natCast_add, Int.toNat_natCast] at q16s)
           have hx16 := bt_at (a0 ++ a1) x9_2
           replace p16 := eq_true p16
           replace q16 := eq_true q16
           try (have q16s := q16; simp only [ByteArray.size_append, Int.natCast_add, Int.toNat_natCast] at q16s)
           go_wp2
           go_ret
           exact ⟨zE, zL HB.out⟩
          ·rw [if_neg c17] at H
           have c17b0 : ((bt (a0 ++ a1) x9_2) == 92) = false := beq_eq_false_iff_ne.mpr c17
           have c17b1 : ((bt (a0 ++ a1) x9_2) != 92) = true := bne_iff_ne.mpr c17
           have H' := Aside0.mk H
           clear H
           have p14 : 0 ≤ (x9_2 : Int) := zD
           have q14 : x9_2 < ((a0 ++ a1).size : Int) := zD
           try (have q14s := q14; simp only [ByteArray.size_append, Int.natCast_add, Int.toNat_natCast] at q14s)
           have hx14 := bt_at (a0 ++ a1) x9_2
           replace p14 := eq_true p14
           replace q14 := eq_true q14
           try (have q14s := q14; simp only [ByteArray.size_append, Int.natCast_add, Int.toNat_natCast] at q14s)
           have p16 : 0 ≤ (x9_2 : Int) := zD
           have q16 : x9_2 < ((a0 ++ a1).size : Int) := zD
           try (have q16s := q16; simp only [ByteArray.size_append, Int.natCast_add, Int.toNat_natCast] at q16s)
           have hx16 := bt_at (a0 ++ a1) x9_2
           replace p16 := eq_true p16
           replace q16 := eq_true q16
           try (have q16s := q16; simp only [ByteArray.size_append, Int.natCast_add, Int.toNat_natCast] at q16s)
           go_wp2
           go_roundg k2
           case measure => have := HJ4.out; have := HK2.out; omega
           case rel => exact ⟨(wrap64 (x9_2 + 1)), zS, H', ⟨by have := HJ4.out; have := HK2.out; omega⟩, ⟨zL HB.out⟩⟩
        ·rw [if_neg c13] at H
         exact absurd H (by simp)
       ·rw [if_neg c12] at H
        have c12b0 : decide (x9_2 < ((a0 ++ a1).size : Int)) = false := decide_eq_false c12
        try (have c12b0s := c12b0; simp only [ByteArray.size_append, Int.natCast_add, Int.toNat_natCast] at c12b0s)
        clear c12
        have HC18 := Aside0.mk H
        clear H
        go_upto_region 10 with (fail)
        go_cut [85] (fun v85 wc => ∃ (kq : Nat) (x85_17 : Bool), v85 = .bool x85_17 ∧ Aside0 (cooperagelaw8_LexJoins.j2 kq a0 a1 a2 x85_17 = some r) ∧ Aside0 (kq ≤ k2) ∧ Aside0 (Below w.heap.size w wc))
        case first =>
         have H := HC18.out
         clear HC18
         by_cases c19 : a0.toList = ([] : List UInt8)
         ·rw [if_pos c19] at H
          have c19b0 : (a0.toList == ([] : List UInt8)) = true := beq_iff_eq.mpr c19
          have c19b1 : (a0.toList != ([] : List UInt8)) = false := bne_eq_false_iff_eq.mpr c19
          clear c19
          (first | rw [c19b0] | (simp only [i64_w, i32_w]; rw [c19b0]) | skip)
          have H' := Aside0.mk H
          clear H
          go_wp2
          go_meet
          case rel => exact ⟨_, (true), zS, H', ⟨by have := HJ4.out; have := HK2.out; first | omega | exact Nat.le_refl _⟩, ⟨zL HB.out⟩⟩
         ·rw [if_neg c19] at H
          have c19b0 : (a0.toList == ([] : List UInt8)) = false := beq_eq_false_iff_ne.mpr c19
          have c19b1 : (a0.toList != ([] : List UInt8)) = true := bne_iff_ne.mpr c19
          (first | rw [c19b0] | (simp only [i64_w, i32_w]; rw [c19b0]) | skip)
          by_cases c20 : a1.toList = ([] : List UInt8)
          ·rw [if_pos c20] at H
           have c20b0 : (a1.toList == ([] : List UInt8)) = true := beq_iff_eq.mpr c20
           have c20b1 : (a1.toList != ([] : List UInt8)) = false := bne_eq_false_iff_eq.mpr c20
           clear c20
           have H' := Aside0.mk H
           clear H
           go_wp2
           go_meet
           case rel => exact ⟨_, (true), zS, H', ⟨by have := HJ4.out; have := HK2.out; first | omega | exact Nat.le_refl _⟩, ⟨zL HB.out⟩⟩
          ·rw [if_neg c20] at H
           have c20b0 : (a1.toList == ([] : List UInt8)) = false := beq_eq_false_iff_ne.mpr c20
           have c20b1 : (a1.toList != ([] : List UInt8)) = true := bne_iff_ne.mpr c20
           by_cases c21 : 0 < (a1.size : Int)
           ·rw [if_pos c21] at H
            have c21b0 : decide (0 < (a1.size : Int)) = true := decide_eq_true c21
            have c21b1 : decide (0 < a1.size) = true := decide_eq_true (by omega)
            clear c21
            by_cases c23 : (bt a1 0) = 32
            ·rw [if_pos c23] at H
             have c23b0 : ((bt a1 0) == 32) = true := beq_iff_eq.mpr c23
             have c23b1 : ((bt a1 0) != 32) = false := bne_eq_false_iff_eq.mpr c23
             clear c23
             have H' := Aside0.mk H
             clear H
             have p22 : 0 ≤ (0 : Int) := (by omega)
             have q22 : 0 < a1.size := (by have : (0 : Int) < (a1.size : Int) := zD; omega)
             have hx22 : ∀ h : 0 < a1.size, ((a1[0]'h).toNat : Int) = bt a1 0 := bt_at a1 0
             clear p22
             have qi22 : (0 < (a1.size : Int)) = True := eq_true zD
             replace q22 := eq_true q22
             go_wp2
             go_meet
             case rel => exact ⟨_, (true), zS, H', ⟨by have := HJ4.out; have := HK2.out; first | omega | exact Nat.le_refl _⟩, ⟨zL HB.out⟩⟩
            ·rw [if_neg c23] at H
             have c23b0 : ((bt a1 0) == 32) = false := beq_eq_false_iff_ne.mpr c23
             have c23b1 : ((bt a1 0) != 32) = true := bne_iff_ne.mpr c23
             by_cases c25 : (bt a1 0) = 9
             ·rw [if_pos c25] at H
              have c25b0 : ((bt a1 0) == 9) = true := beq_iff_eq.mpr c25
              have c25b1 : ((bt a1 0) != 9) = false := bne_eq_false_iff_eq.mpr c25
              clear c25
              have H' := Aside0.mk H
              clear H
              have p22 : 0 ≤ (0 : Int) := (by omega)
              have q22 : 0 < a1.size := (by have : (0 : Int) < (a1.size : Int) := zD; omega)
              have hx22 : ∀ h : 0 < a1.size, ((a1[0]'h).toNat : Int) = bt a1 0 := bt_at a1 0
              clear p22
              have qi22 : (0 < (a1.size : Int)) = True := eq_true zD
              replace q22 := eq_true q22
              have p24 : 0 ≤ (0 : Int) := (by omega)
              have q24 : 0 < a1.size := (by have : (0 : Int) < (a1.size : Int) := zD; omega)
              have hx24 : ∀ h : 0 < a1.size, ((a1[0]'h).toNat : Int) = bt a1 0 := bt_at a1 0
              clear p24
              have qi24 : (0 < (a1.size : Int)) = True := eq_true zD
              replace q24 := eq_true q24
              go_wp2
              go_meet
              case rel => exact ⟨_, (true), zS, H', ⟨by have := HJ4.out; have := HK2.out; first | omega | exact Nat.le_refl _⟩, ⟨zL HB.out⟩⟩
             ·rw [if_neg c25] at H
              have c25b0 : ((bt a1 0) == 9) = false := beq_eq_false_iff_ne.mpr c25
              have c25b1 : ((bt a1 0) != 9) = true := bne_iff_ne.mpr c25
              obtain ⟨ji26, hji26⟩ : ∃ j_ : Int, (wrap64 ((a0.size : Int) - 1)) = j_ := ⟨_, rfl⟩
              replace H : (if 0 ≤ (ji26) then (if (ji26) < (a0.size : Int) then (if (bt a0 (ji26)) = 32 then (cooperagelaw8_LexJoins.j2 k2 a0 a1 a2 true) else (cooperagelaw8_LexJoins.j2 k2 a0 a1 a2 ((bt a0 (ji26)) == 9))) else (none)) else (none)) = some r := by first | (rw [hji26] at H; exact H) | (simp only [hji26] at H ⊢; exact H)
              have hji26w : (IntKind.i64.wrap ((a0.size : Int) - 1)) = ji26 := (i64_w _).trans hji26
              by_cases c27 : 0 ≤ (ji26)
              ·rw [if_pos c27] at H
               have c27b0 : decide (0 ≤ (ji26)) = true := decide_eq_true c27
               clear c27
               by_cases c28 : (ji26) < (a0.size : Int)
               ·rw [if_pos c28] at H
                have c28b0 : decide ((ji26) < (a0.size : Int)) = true := decide_eq_true c28
                clear c28
                by_cases c30 : (bt a0 (ji26)) = 32
                ·rw [if_pos c30] at H
                 have c30b0 : ((bt a0 (ji26)) == 32) = true := beq_iff_eq.mpr c30
                 have c30b1 : ((bt a0 (ji26)) != 32) = false := bne_eq_false_iff_eq.mpr c30
                 clear c30
                 have H' := Aside0.mk H
                 clear H
                 have p22 : 0 ≤ (0 : Int) := (by omega)
                 have q22 : 0 < a1.size := (by have : (0 : Int) < (a1.size : Int) := zD; omega)
                 have hx22 : ∀ h : 0 < a1.size, ((a1[0]'h).toNat : Int) = bt a1 0 := bt_at a1 0
                 clear p22
                 have qi22 : (0 < (a1.size : Int)) = True := eq_true zD
                 replace q22 := eq_true q22
                 have p24 : 0 ≤ (0 : Int) := (by omega)
                 have q24 : 0 < a1.size := (by have : (0 : Int) < (a1.size : Int) := zD; omega)
                 have hx24 : ∀ h : 0 < a1.size, ((a1[0]'h).toNat : Int) = bt a1 0 := bt_at a1 0
                 clear p24
                 have qi24 : (0 < (a1.size : Int)) = True := eq_true zD
                 replace q24 := eq_true q24
                 have p29 : 0 ≤ ((ji26) : Int) := zD
                 have q29 : (ji26) < (a0.size : Int) := zD
                 have hx29 := bt_at a0 (ji26)
                 replace p29 := eq_true p29
                 replace q29 := eq_true q29
                 go_wp2
                 go_meet
                 case rel => exact ⟨_, (true), zS, H', ⟨by have := HJ4.out; have := HK2.out; first | omega | exact Nat.le_refl _⟩, ⟨zL HB.out⟩⟩
                ·rw [if_neg c30] at H
                 have c30b0 : ((bt a0 (ji26)) == 32) = false := beq_eq_false_iff_ne.mpr c30
                 have c30b1 : ((bt a0 (ji26)) != 32) = true := bne_iff_ne.mpr c30
                 have H' := Aside0.mk H
                 clear H
                 have p22 : 0 ≤ (0 : Int) := (by omega)
                 have q22 : 0 < a1.size := (by have : (0 : Int) < (a1.size : Int) := zD; omega)
                 have hx22 : ∀ h : 0 < a1.size, ((a1[0]'h).toNat : Int) = bt a1 0 := bt_at a1 0
                 clear p22
                 have qi22 : (0 < (a1.size : Int)) = True := eq_true zD
                 replace q22 := eq_true q22
                 have p24 : 0 ≤ (0 : Int) := (by omega)
                 have q24 : 0 < a1.size := (by have : (0 : Int) < (a1.size : Int) := zD; omega)
                 have hx24 : ∀ h : 0 < a1.size, ((a1[0]'h).toNat : Int) = bt a1 0 := bt_at a1 0
                 clear p24
                 have qi24 : (0 < (a1.size : Int)) = True := eq_true zD
                 replace q24 := eq_true q24
                 have p29 : 0 ≤ ((ji26) : Int) := zD
                 have q29 : (ji26) < (a0.size : Int) := zD
                 have hx29 := bt_at a0 (ji26)
                 replace p29 := eq_true p29
                 replace q29 := eq_true q29
                 have p31 : 0 ≤ ((ji26) : Int) := zD
                 have q31 : (ji26) < (a0.size : Int) := zD
                 have hx31 := bt_at a0 (ji26)
                 replace p31 := eq_true p31
                 replace q31 := eq_true q31
                 go_wp2
                 go_meet
                 case rel => exact ⟨_, (((bt a0 (ji26)) == 9)), (by first | rfl | (simp; done) | (simp only [← hji26] <;> (first | rfl | simp)) | (simp [*]; done)), H', ⟨by have := HJ4.out; have := HK2.out; first | omega | exact Nat.le_refl _⟩, ⟨zL HB.out⟩⟩
               ·rw [if_neg c28] at H
                exact absurd H (by simp)
              ·rw [if_neg c27] at H
               exact absurd H (by simp)
           ·rw [if_neg c21] at H
            exact absurd H (by simp)
        case rest =>
         clear HC18
         try clear c1
         try clear p1
         try clear q1
         try clear hx1
         try clear c2
         try clear p2
         try clear q2
         try clear hx2
         try clear qi2
         try clear c3
         try clear p3
         try clear q3
         try clear hx3
         try clear c5
         try clear p6
         try clear c7
         try clear c8
         try clear c8b0
         try clear c8b1
         try clear c9
         try clear c9b0
         try clear c9b1
         try clear c10
         try clear c11
         try clear c11b0
         try clear c11b1
         try clear c11b2
         try clear c12
         try clear c12b0
         try clear c13
         try clear c13b0
         try clear p14
         try clear q14
         try clear hx14
         try clear c15
         try clear c15b0
         try clear c15b1
         try clear p16
         try clear q16
         try clear hx16
         try clear c17
         try clear c17b0
         try clear c17b1
         try clear c19
         try clear c19b0
         try clear c19b1
         try clear c20
         try clear c20b0
         try clear c20b1
         try clear c21
         try clear c21b0
         try clear c21b1
         try clear p22
         try clear q22
         try clear hx22
         try clear qi22
         try clear c23
         try clear c23b0
         try clear c23b1
         try clear p24
         try clear q24
         try clear hx24
         try clear qi24
         try clear c25
         try clear c25b0
         try clear c25b1
         try clear c27
         try clear c27b0
         try clear c28
         try clear c28b0
         try clear p29
         try clear q29
         try clear hx29
         try clear c30
         try clear c30b0
         try clear c30b1
         try clear p31
         try clear q31
         try clear hx31
         try clear p14
         try clear p16
         try clear p2
         try clear p22
         try clear p24
         try clear p29
         try clear p31
         try clear q14
         try clear q16
         try clear q22
         try clear q24
         try clear q29
         try clear q31
         obtain ⟨kq, x85_17, rfl, HA, HJ17, HB⟩ := hcut
         cases kq with
         | zero => exact absurd HA.out (by simp [cooperagelaw8_LexJoins.j2])
         | succ kj17 =>
          have H := HA.out
          clear HA
          simp only [cooperagelaw8_LexJoins.j2] at H
          by_cases c32 : x85_17 = true
          ·subst c32
           have H1 : (some true) = some r := by rw [if_pos rfl] at H; exact H
           clear H
           have H := H1
           clear H1
           obtain rfl := Option.some.inj H
           go_wp2
           go_ret
           exact ⟨zE, zL HB.out⟩
          ·replace c32 := Bool.eq_false_iff.mpr c32
           subst c32
           have H1 : (if a0.size + 6 ≤ 9223372036854775807 then (if (a0 ++ (⟨#[32, 9, 92, 10, 9, 32]⟩ : ByteArray)).size + a1.size ≤ 9223372036854775807 then (if ((a0 ++ (⟨#[32, 9, 92, 10, 9, 32]⟩ : ByteArray)) ++ a1).size + 1 ≤ 9223372036854775807 then (if (((a0 ++ (⟨#[32, 9, 92, 10, 9, 32]⟩ : ByteArray)) ++ a1) ++ (⟨#[10]⟩ : ByteArray)).size + a2.size ≤ 9223372036854775807 then ((lex_Lex.f kj17 ((((a0 ++ (⟨#[32, 9, 92, 10, 9, 32]⟩ : ByteArray)) ++ a1) ++ (⟨#[10]⟩ : ByteArray)) ++ a2)).bind fun bt165 => (if a0.size + 1 ≤ 9223372036854775807 then (if (a0 ++ (⟨#[32]⟩ : ByteArray)).size + a1.size ≤ 9223372036854775807 then (if ((a0 ++ (⟨#[32]⟩ : ByteArray)) ++ a1).size + 1 ≤ 9223372036854775807 then (if (((a0 ++ (⟨#[32]⟩ : ByteArray)) ++ a1) ++ (⟨#[10]⟩ : ByteArray)).size + a2.size ≤ 9223372036854775807 then ((lex_Lex.f kj17 ((((a0 ++ (⟨#[32]⟩ : ByteArray)) ++ a1) ++ (⟨#[10]⟩ : ByteArray)) ++ a2)).bind fun bt170 => (if bt165.2.1 = bt170.2.1 then ((cooperagelaw8_texts.f kj17 bt165.1 bt170.1).bind fun t175 => (some t175)) else (some false))) else (none)) else (none)) else (none)) else (none))) else (none)) else (none)) else (none)) else (none)) = some r := by rw [if_neg (show ¬ (false = true) by decide)] at H; exact H
           clear H
           have H := H1
           clear H1
           by_cases c33 : a0.size + 6 ≤ 9223372036854775807
           ·rw [if_pos c33] at H
            have c33b0 := eq_true c33
            have c33b1 : decide (a0.size + 6 ≤ 9223372036854775807) = true := decide_eq_true c33
            try have c33b2 : (9223372036854775807 < a0.size + 6) = False := eq_false (Nat.not_lt.2 c33)
            by_cases c34 : (a0 ++ (⟨#[32, 9, 92, 10, 9, 32]⟩ : ByteArray)).size + a1.size ≤ 9223372036854775807
            ·rw [if_pos c34] at H
             have c34b0 := eq_true c34
             try (have c34b0s := c34b0; simp only [ByteArray.size_append, Int.natCast_add, Int.toNat_natCast] at c34b0s)
             try (have c34b0l := c34b0; simp only [ByteArray.size_append, Pl.lit_size, List.size_toArray, List.length_cons, List.length_nil, Nat.reduceAdd, Int.natCast_add, Int.toNat_natCast] at c34b0l)
             have c34b1 : decide ((a0 ++ (⟨#[32, 9, 92, 10, 9, 32]⟩ : ByteArray)).size + a1.size ≤ 9223372036854775807) = true := decide_eq_true c34
             try (have c34b1s := c34b1; simp only [ByteArray.size_append, Int.natCast_add, Int.toNat_natCast] at c34b1s)
             try (have c34b1l := c34b1; simp only [ByteArray.size_append, Pl.lit_size, List.size_toArray, List.length_cons, List.length_nil, Nat.reduceAdd, Int.natCast_add, Int.toNat_natCast] at c34b1l)
             try have c34b2 : (9223372036854775807 < (a0 ++ (⟨#[32, 9, 92, 10, 9, 32]⟩ : ByteArray)).size + a1.size) = False := eq_false (Nat.not_lt.2 c34)
             try (have c34b2s := c34b2; simp only [ByteArray.size_append, Int.natCast_add, Int.toNat_natCast] at c34b2s)
             try (have c34b2l := c34b2; simp only [ByteArray.size_append, Pl.lit_size, List.size_toArray, List.length_cons, List.length_nil, Nat.reduceAdd, Int.natCast_add, Int.toNat_natCast] at c34b2l)
             by_cases c35 : ((a0 ++ (⟨#[32, 9, 92, 10, 9, 32]⟩ : ByteArray)) ++ a1).size + 1 ≤ 9223372036854775807
             ·rw [if_pos c35] at H
              have c35b0 := eq_true c35
              try (have c35b0s := c35b0; simp only [ByteArray.size_append, Int.natCast_add, Int.toNat_natCast] at c35b0s)
              try (have c35b0l := c35b0; simp only [ByteArray.size_append, Pl.lit_size, List.size_toArray, List.length_cons, List.length_nil, Nat.reduceAdd, Int.natCast_add, Int.toNat_natCast] at c35b0l)
              have c35b1 : decide (((a0 ++ (⟨#[32, 9, 92, 10, 9, 32]⟩ : ByteArray)) ++ a1).size + 1 ≤ 9223372036854775807) = true := decide_eq_true c35
              try (have c35b1s := c35b1; simp only [ByteArray.size_append, Int.natCast_add, Int.toNat_natCast] at c35b1s)
              try (have c35b1l := c35b1; simp only [ByteArray.size_append, Pl.lit_size, List.size_toArray, List.length_cons, List.length_nil, Nat.reduceAdd, Int.natCast_add, Int.toNat_natCast] at c35b1l)
              try have c35b2 : (9223372036854775807 < ((a0 ++ (⟨#[32, 9, 92, 10, 9, 32]⟩ : ByteArray)) ++ a1).size + 1) = False := eq_false (Nat.not_lt.2 c35)
              try (have c35b2s := c35b2; simp only [ByteArray.size_append, Int.natCast_add, Int.toNat_natCast] at c35b2s)
              try (have c35b2l := c35b2; simp only [ByteArray.size_append, Pl.lit_size, List.size_toArray, List.length_cons, List.length_nil, Nat.reduceAdd, Int.natCast_add, Int.toNat_natCast] at c35b2l)
              by_cases c36 : (((a0 ++ (⟨#[32, 9, 92, 10, 9, 32]⟩ : ByteArray)) ++ a1) ++ (⟨#[10]⟩ : ByteArray)).size + a2.size ≤ 9223372036854775807
              ·rw [if_pos c36] at H
               have c36b0 := eq_true c36
               try (have c36b0s := c36b0; simp only [ByteArray.size_append, Int.natCast_add, Int.toNat_natCast] at c36b0s)
               try (have c36b0l := c36b0; simp only [ByteArray.size_append, Pl.lit_size, List.size_toArray, List.length_cons, List.length_nil, Nat.reduceAdd, Int.natCast_add, Int.toNat_natCast] at c36b0l)
               have c36b1 : decide ((((a0 ++ (⟨#[32, 9, 92, 10, 9, 32]⟩ : ByteArray)) ++ a1) ++ (⟨#[10]⟩ : ByteArray)).size + a2.size ≤ 9223372036854775807) = true := decide_eq_true c36
               try (have c36b1s := c36b1; simp only [ByteArray.size_append, Int.natCast_add, Int.toNat_natCast] at c36b1s)
               try (have c36b1l := c36b1; simp only [ByteArray.size_append, Pl.lit_size, List.size_toArray, List.length_cons, List.length_nil, Nat.reduceAdd, Int.natCast_add, Int.toNat_natCast] at c36b1l)
               try have c36b2 : (9223372036854775807 < (((a0 ++ (⟨#[32, 9, 92, 10, 9, 32]⟩ : ByteArray)) ++ a1) ++ (⟨#[10]⟩ : ByteArray)).size + a2.size) = False := eq_false (Nat.not_lt.2 c36)
               try (have c36b2s := c36b2; simp only [ByteArray.size_append, Int.natCast_add, Int.toNat_natCast] at c36b2s)
               try (have c36b2l := c36b2; simp only [ByteArray.size_append, Pl.lit_size, List.size_toArray, List.length_cons, List.length_nil, Nat.reduceAdd, Int.natCast_add, Int.toNat_natCast] at c36b2l)
               replace H := Option.bind_eq_some_iff.mp H
               obtain ⟨⟨t165, t166, t167⟩, A370, H⟩ := H
               replace H : (if a0.size + 1 ≤ 9223372036854775807 then (if (a0 ++ (⟨#[32]⟩ : ByteArray)).size + a1.size ≤ 9223372036854775807 then (if ((a0 ++ (⟨#[32]⟩ : ByteArray)) ++ a1).size + 1 ≤ 9223372036854775807 then (if (((a0 ++ (⟨#[32]⟩ : ByteArray)) ++ a1) ++ (⟨#[10]⟩ : ByteArray)).size + a2.size ≤ 9223372036854775807 then ((lex_Lex.f kj17 ((((a0 ++ (⟨#[32]⟩ : ByteArray)) ++ a1) ++ (⟨#[10]⟩ : ByteArray)) ++ a2)).bind fun bt170 => (if t166 = bt170.2.1 then ((cooperagelaw8_texts.f kj17 t165 bt170.1).bind fun t175 => (some t175)) else (some false))) else (none)) else (none)) else (none)) else (none)) = some r := H
               have A37 := Aside0.mk A370
               clear A370
               by_cases c38 : a0.size + 1 ≤ 9223372036854775807
               ·rw [if_pos c38] at H
                have c38b0 := eq_true c38
                have c38b1 : decide (a0.size + 1 ≤ 9223372036854775807) = true := decide_eq_true c38
                try have c38b2 : (9223372036854775807 < a0.size + 1) = False := eq_false (Nat.not_lt.2 c38)
                by_cases c39 : (a0 ++ (⟨#[32]⟩ : ByteArray)).size + a1.size ≤ 9223372036854775807
                ·rw [if_pos c39] at H
                 have c39b0 := eq_true c39
                 try (have c39b0s := c39b0; simp only [ByteArray.size_append, Int.natCast_add, Int.toNat_natCast] at c39b0s)
                 try (have c39b0l := c39b0; simp only [ByteArray.size_append, Pl.lit_size, List.size_toArray, List.length_cons, List.length_nil, Nat.reduceAdd, Int.natCast_add, Int.toNat_natCast] at c39b0l)
                 have c39b1 : decide ((a0 ++ (⟨#[32]⟩ : ByteArray)).size + a1.size ≤ 9223372036854775807) = true := decide_eq_true c39
                 try (have c39b1s := c39b1; simp only [ByteArray.size_append, Int.natCast_add, Int.toNat_natCast] at c39b1s)
                 try (have c39b1l := c39b1; simp only [ByteArray.size_append, Pl.lit_size, List.size_toArray, List.length_cons, List.length_nil, Nat.reduceAdd, Int.natCast_add, Int.toNat_natCast] at c39b1l)
                 try have c39b2 : (9223372036854775807 < (a0 ++ (⟨#[32]⟩ : ByteArray)).size + a1.size) = False := eq_false (Nat.not_lt.2 c39)
                 try (have c39b2s := c39b2; simp only [ByteArray.size_append, Int.natCast_add, Int.toNat_natCast] at c39b2s)
                 try (have c39b2l := c39b2; simp only [ByteArray.size_append, Pl.lit_size, List.size_toArray, List.length_cons, List.length_nil, Nat.reduceAdd, Int.natCast_add, Int.toNat_natCast] at c39b2l)
                 by_cases c40 : ((a0 ++ (⟨#[32]⟩ : ByteArray)) ++ a1).size + 1 ≤ 9223372036854775807
                 ·rw [if_pos c40] at H
                  have c40b0 := eq_true c40
                  try (have c40b0s := c40b0; simp only [ByteArray.size_append, Int.natCast_add, Int.toNat_natCast] at c40b0s)
                  try (have c40b0l := c40b0; simp only [ByteArray.size_append, Pl.lit_size, List.size_toArray, List.length_cons, List.length_nil, Nat.reduceAdd, Int.natCast_add, Int.toNat_natCast] at c40b0l)
                  have c40b1 : decide (((a0 ++ (⟨#[32]⟩ : ByteArray)) ++ a1).size + 1 ≤ 9223372036854775807) = true := decide_eq_true c40
                  try (have c40b1s := c40b1; simp only [ByteArray.size_append, Int.natCast_add, Int.toNat_natCast] at c40b1s)
                  try (have c40b1l := c40b1; simp only [ByteArray.size_append, Pl.lit_size, List.size_toArray, List.length_cons, List.length_nil, Nat.reduceAdd, Int.natCast_add, Int.toNat_natCast] at c40b1l)
                  try have c40b2 : (9223372036854775807 < ((a0 ++ (⟨#[32]⟩ : ByteArray)) ++ a1).size + 1) = False := eq_false (Nat.not_lt.2 c40)
                  try (have c40b2s := c40b2; simp only [ByteArray.size_append, Int.natCast_add, Int.toNat_natCast] at c40b2s)
                  try (have c40b2l := c40b2; simp only [ByteArray.size_append, Pl.lit_size, List.size_toArray, List.length_cons, List.length_nil, Nat.reduceAdd, Int.natCast_add, Int.toNat_natCast] at c40b2l)
                  by_cases c41 : (((a0 ++ (⟨#[32]⟩ : ByteArray)) ++ a1) ++ (⟨#[10]⟩ : ByteArray)).size + a2.size ≤ 9223372036854775807
                  ·rw [if_pos c41] at H
                   have c41b0 := eq_true c41
                   try (have c41b0s := c41b0; simp only [ByteArray.size_append, Int.natCast_add, Int.toNat_natCast] at c41b0s)
                   try (have c41b0l := c41b0; simp only [ByteArray.size_append, Pl.lit_size, List.size_toArray, List.length_cons, List.length_nil, Nat.reduceAdd, Int.natCast_add, Int.toNat_natCast] at c41b0l)
                   have c41b1 : decide ((((a0 ++ (⟨#[32]⟩ : ByteArray)) ++ a1) ++ (⟨#[10]⟩ : ByteArray)).size + a2.size ≤ 9223372036854775807) = true := decide_eq_true c41
                   try (have c41b1s := c41b1; simp only [ByteArray.size_append, Int.natCast_add, Int.toNat_natCast] at c41b1s)
                   try (have c41b1l := c41b1; simp only [ByteArray.size_append, Pl.lit_size, List.size_toArray, List.length_cons, List.length_nil, Nat.reduceAdd, Int.natCast_add, Int.toNat_natCast] at c41b1l)
                   try have c41b2 : (9223372036854775807 < (((a0 ++ (⟨#[32]⟩ : ByteArray)) ++ a1) ++ (⟨#[10]⟩ : ByteArray)).size + a2.size) = False := eq_false (Nat.not_lt.2 c41)
                   try (have c41b2s := c41b2; simp only [ByteArray.size_append, Int.natCast_add, Int.toNat_natCast] at c41b2s)
                   try (have c41b2l := c41b2; simp only [ByteArray.size_append, Pl.lit_size, List.size_toArray, List.length_cons, List.length_nil, Nat.reduceAdd, Int.natCast_add, Int.toNat_natCast] at c41b2l)
                   replace H := Option.bind_eq_some_iff.mp H
                   obtain ⟨⟨t170, t171, t172⟩, A420, H⟩ := H
                   replace H : (if t166 = t171 then ((cooperagelaw8_texts.f kj17 t165 t170).bind fun t175 => (some t175)) else (some false)) = some r := H
                   have A42 := Aside0.mk A420
                   clear A420
                   by_cases c43 : t166 = t171
                   ·rw [if_pos c43] at H
                    have c43b0 : (t166 == t171) = true := beq_iff_eq.mpr c43
                    have c43b1 : (t166 != t171) = false := bne_eq_false_iff_eq.mpr c43
                    clear c43
                    replace H := Option.bind_eq_some_iff.mp H
                    obtain ⟨t175, A440, H⟩ := H
                    replace H : (some t175) = some r := H
                    have A44 := Aside0.mk A440
                    clear A440
                    obtain rfl := Option.some.inj H
                    go_wp2_with (first | ((with_reducible refine gate_callee (f := 9) rfl ?_); refine goesL_ (some 94) rfl rfl Tryd.func9 (by kernel_rfl) rfl #[.string ((((a0 ++ (⟨#[32, 9, 92, 10, 9, 32]⟩ : ByteArray)) ++ a1) ++ (⟨#[10]⟩ : ByteArray)) ++ a2)] rfl zA ?_; (with_reducible refine (lex_Lex.calls kj17 ((((a0 ++ (⟨#[32, 9, 92, 10, 9, 32]⟩ : ByteArray)) ++ a1) ++ (⟨#[10]⟩ : ByteArray)) ++ a2) t165 t166 t167 _ A37.out).mono ?_); rintro e w45 ⟨v168, rfl, ho0, hb⟩; refine ⟨_, rfl, ?_⟩; have n0_ := Aside0.mk (Kd.R_lower ho0 (below_size (zL HB.out))); have n1_ := Aside0.mk (below_step (zL HB.out) hb); revert n0_ n1_; clear HB; intro HO169 HB; (try clear hb); (try clear hb2); (try clear hk); (try clear hi); (try clear ho0)) | ((with_reducible refine gate_callee (f := 9) rfl ?_); refine goesL_ (some 106) rfl rfl Tryd.func9 (by kernel_rfl) rfl #[.string ((((a0 ++ (⟨#[32]⟩ : ByteArray)) ++ a1) ++ (⟨#[10]⟩ : ByteArray)) ++ a2)] rfl zA ?_; (with_reducible refine (lex_Lex.calls kj17 ((((a0 ++ (⟨#[32]⟩ : ByteArray)) ++ a1) ++ (⟨#[10]⟩ : ByteArray)) ++ a2) t170 t171 t172 _ A42.out).mono ?_); rintro e w46 ⟨v173, rfl, ho0, hb⟩; refine ⟨_, rfl, ?_⟩; have n0_ := Aside0.mk (Kd.R_elder' (zR HO169.out) (Kd.R_base ho0) hb); have n1_ := Aside0.mk (Kd.R_lower (Kd.R_new' ho0 (Kd.R_lt (zR HO169.out))) (below_size (zL HB.out))); have n2_ := Aside0.mk (below_step (zL HB.out) hb); revert n0_ n1_ n2_; clear HO169 HB; intro HO169 HO174 HB; (try clear hb); (try clear hb2); (try clear hk); (try clear hi); (try clear ho0); obtain ⟨Ao47, co47, eo47⟩ := Kd.R_slice HO169.out; subst eo47; obtain ⟨Ao48, co48, eo48⟩ := Kd.R_slice HO174.out; subst eo48) | (go_at_call 10; (with_reducible refine (cooperagelaw8_texts.calls kj17 _ _ t165 _ _ t170 t175 _ ?side1 ?side2 ?side3 ?side4 A44.out).mono ?_); (case side1 => repeat (first | exact (Kd.R_reads' HO169.out).2.2 | (with_reducible refine Kd.C_alloc ?_ _) | (with_reducible refine Kd.C_drewN ?_ _) | (with_reducible refine Kd.C_drew ?_))); (case side2 => exact (Kd.R_reads' HO169.out).2.1); (case side3 => repeat (first | exact (Kd.R_reads' HO174.out).2.2 | (with_reducible refine Kd.C_alloc ?_ _) | (with_reducible refine Kd.C_drewN ?_ _) | (with_reducible refine Kd.C_drew ?_))); (case side4 => exact (Kd.R_reads' HO174.out).2.1); rintro e w' ⟨rfl, ⟨nd, rfl⟩⟩))
                    go_ret
                    exact ⟨zE, zL HB.out⟩
                   ·rw [if_neg c43] at H
                    have c43b0 : (t166 == t171) = false := beq_eq_false_iff_ne.mpr c43
                    have c43b1 : (t166 != t171) = true := bne_iff_ne.mpr c43
                    obtain rfl := Option.some.inj H
                    go_wp2_with (first | ((with_reducible refine gate_callee (f := 9) rfl ?_); refine goesL_ (some 94) rfl rfl Tryd.func9 (by kernel_rfl) rfl #[.string ((((a0 ++ (⟨#[32, 9, 92, 10, 9, 32]⟩ : ByteArray)) ++ a1) ++ (⟨#[10]⟩ : ByteArray)) ++ a2)] rfl zA ?_; (with_reducible refine (lex_Lex.calls kj17 ((((a0 ++ (⟨#[32, 9, 92, 10, 9, 32]⟩ : ByteArray)) ++ a1) ++ (⟨#[10]⟩ : ByteArray)) ++ a2) t165 t166 t167 _ A37.out).mono ?_); rintro e w49 ⟨v168, rfl, ho0, hb⟩; refine ⟨_, rfl, ?_⟩; have n0_ := Aside0.mk (Kd.R_lower ho0 (below_size (zL HB.out))); have n1_ := Aside0.mk (below_step (zL HB.out) hb); revert n0_ n1_; clear HB; intro HO169 HB; (try clear hb); (try clear hb2); (try clear hk); (try clear hi); (try clear ho0)) | ((with_reducible refine gate_callee (f := 9) rfl ?_); refine goesL_ (some 106) rfl rfl Tryd.func9 (by kernel_rfl) rfl #[.string ((((a0 ++ (⟨#[32]⟩ : ByteArray)) ++ a1) ++ (⟨#[10]⟩ : ByteArray)) ++ a2)] rfl zA ?_; (with_reducible refine (lex_Lex.calls kj17 ((((a0 ++ (⟨#[32]⟩ : ByteArray)) ++ a1) ++ (⟨#[10]⟩ : ByteArray)) ++ a2) t170 t171 t172 _ A42.out).mono ?_); rintro e w50 ⟨v173, rfl, ho0, hb⟩; refine ⟨_, rfl, ?_⟩; have n0_ := Aside0.mk (Kd.R_elder' (zR HO169.out) (Kd.R_base ho0) hb); have n1_ := Aside0.mk (Kd.R_lower (Kd.R_new' ho0 (Kd.R_lt (zR HO169.out))) (below_size (zL HB.out))); have n2_ := Aside0.mk (below_step (zL HB.out) hb); revert n0_ n1_ n2_; clear HO169 HB; intro HO169 HO174 HB; (try clear hb); (try clear hb2); (try clear hk); (try clear hi); (try clear ho0)))
                    go_ret
                    exact ⟨zE, zL HB.out⟩
                  ·rw [if_neg c41] at H
                   exact absurd H (by simp)
                 ·rw [if_neg c40] at H
                  exact absurd H (by simp)
                ·rw [if_neg c39] at H
                 exact absurd H (by simp)
               ·rw [if_neg c38] at H
                exact absurd H (by simp)
              ·rw [if_neg c36] at H
               exact absurd H (by simp)
             ·rw [if_neg c35] at H
              exact absurd H (by simp)
            ·rw [if_neg c34] at H
             exact absurd H (by simp)
           ·rw [if_neg c33] at H
            exact absurd H (by simp)
    ·rw [if_neg c11] at H
     exact absurd H (by simp)

/-- THE ONE PURE STATEMENT of cooperagelaw8_LexJoins. -/
def cooperagelaw8_LexJoins.Pure : Prop := ∀ (a0 : ByteArray) (a1 : ByteArray) (a2 : ByteArray), a0.size ≤ 140737488351232 → a1.size ≤ 140737488351232 → a2.size ≤ 140737488351232 → ∃ k, cooperagelaw8_LexJoins.f k a0 a1 a2 = some true
theorem cooperagelaw8_LexJoins.walk (P : cooperagelaw8_LexJoins.Pure) (a0 : ByteArray) (a1 : ByteArray) (a2 : ByteArray) (w : World) (w0 : a0.size ≤ 140737488351232) (w1 : a1.size ≤ 140737488351232) (w2 : a2.size ≤ 140737488351232) :
  Calls Tryd.prog 5 #[.string a0, .string a1, .string a2] w fun e w' => e = .returned (.bool true) ∧ Below w.heap.size w w' := by
 obtain ⟨k, h⟩ := P a0 a1 a2 w0 w1 w2
 refine (cooperagelaw8_LexJoins.calls k a0 a1 a2 true w h).mono ?_
 rintro e w' ⟨rfl, hd⟩
 exact ⟨rfl, hd⟩

end Go.Proofs.YtjbpabpfhkcolaaDoor.PLex
