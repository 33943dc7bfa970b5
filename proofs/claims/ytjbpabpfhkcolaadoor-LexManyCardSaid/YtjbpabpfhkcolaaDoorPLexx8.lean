-- Written by a program of this session (wip/tools/ext.py, over the kit's printer); not trusted: Lean checks it.
import Derived.Test.YtjbpabpfhkcolaaDoorPLexx0
import Derived.Test.YtjbpabpfhkcolaaDoorPLexx3
namespace Go.Proofs.YtjbpabpfhkcolaaDoor.PLex
open Go.RowKit Go.Proofs.YtjbpabpfhkcolaaDoorW.PrintWords Go.Proofs.YtjbpabpfhkcolaaDoorW.PrintLast Go.Proofs.YtjbpabpfhkcolaaDoorW.PrintMore
attribute [local go_sem] max2_int min2_int max_two min_two max_three min_three max_four min_four   -- for this text's walks alone
set_option linter.unusedVariables false
set_option linter.unusedSimpArgs false

/-! ### cooperagelaw8_LexMany: function 7 -/
mutual
def cooperagelaw8_LexMany.l0 : Nat → Bool → Int → Int → ByteArray → Int → Option (Bool)
 | 0, _, _, _, _, _ => none
 | k + 1, x5, x6, x7, x8, x9 => if x9 < x6 then (if x8.size + 2 ≤ 9223372036854775807 then (cooperagelaw8_LexMany.l0 k x5 x6 x7 (x8 ++ (⟨#[120, 10]⟩ : ByteArray)) (wrap64 (x9 + 1))) else (none)) else (cooperagelaw8_LexMany.l1 k x5 x6 x7 x8 (⟨#[]⟩ : ByteArray) 0)
def cooperagelaw8_LexMany.l1 : Nat → Bool → Int → Int → ByteArray → ByteArray → Int → Option (Bool)
 | 0, _, _, _, _, _, _ => none
 | k + 1, x5, x6, x7, x8, x10, x11 => if x11 < x7 then (if x10.size + 1 ≤ 9223372036854775807 then (cooperagelaw8_LexMany.l1 k x5 x6 x7 x8 (x10 ++ (⟨#[121]⟩ : ByteArray)) (wrap64 (x11 + 1))) else (none)) else (if x8.size + x10.size ≤ 9223372036854775807 then ((lex_Lex.f k (x8 ++ x10)).bind fun bt192 => (if x6 > 300 then (if x5 = true then (if bt192.2.1 = 3 then (if bt192.2.2 = 301 then (some ((bt192.1.length : Int) == 0)) else (some false)) else (some false)) else (some false)) else (if x7 > 0 then (if x6 = 300 then (if x5 = true then (if bt192.2.1 = 3 then (if bt192.2.2 = (x6 + 1) then (some ((bt192.1.length : Int) == 0)) else (some false)) else (some false)) else (some false)) else (if x7 > 1000 then (if x5 = true then (if bt192.2.1 = 3 then (if bt192.2.2 = (x6 + 1) then (some ((bt192.1.length : Int) == 0)) else (some false)) else (some false)) else (some false)) else (if x5 = true then (if bt192.2.1 = 0 then (if bt192.2.2 = 0 then (some ((bt192.1.length : Int) == (x6 + (mn x7 1)))) else (some false)) else (some false)) else (some false)))) else (if x5 = true then (if bt192.2.1 = 0 then (if bt192.2.2 = 0 then (some ((bt192.1.length : Int) == (x6 + (mn x7 1)))) else (some false)) else (some false)) else (some false))))) else (none))
end
def cooperagelaw8_LexMany.f (k : Nat) (a0 : Int) (a1 : Int) : Option (Bool) := (cooperagelaw8_shown.f k).bind fun t191 => (cooperagelaw8_LexMany.l0 k t191 (mx 0 (mn a0 320)) (mx 0 (mn a1 1100)) (⟨#[]⟩ : ByteArray) 0)
theorem cooperagelaw8_LexMany.mono_l : ∀ k, (∀ y0 y1 y2 y3 y4, LeO (cooperagelaw8_LexMany.l0 k y0 y1 y2 y3 y4) (cooperagelaw8_LexMany.l0 (k + 1) y0 y1 y2 y3 y4)) ∧ (∀ y0 y1 y2 y3 y4 y5, LeO (cooperagelaw8_LexMany.l1 k y0 y1 y2 y3 y4 y5) (cooperagelaw8_LexMany.l1 (k + 1) y0 y1 y2 y3 y4 y5))
 | 0 => ⟨fun _ _ _ _ _ r h => by simp [cooperagelaw8_LexMany.l0] at h, fun _ _ _ _ _ _ r h => by simp [cooperagelaw8_LexMany.l1] at h⟩
 | k + 1 => by
  obtain ⟨ih0, ih1⟩ := cooperagelaw8_LexMany.mono_l k
  refine ⟨?_, ?_⟩
  ·intro y0 y1 y2 y3 y4
   unfold cooperagelaw8_LexMany.l0
   repeat' first
   | (with_reducible exact ih0 _ _ _ _ _)
   | (with_reducible exact ih1 _ _ _ _ _ _)
   | (with_reducible exact cooperagelaw8_shown.mono _)
   | (with_reducible exact lex_Lex.mono _ _)
   | (with_reducible exact LeO.refl _)
   | (with_reducible exact LeO.none _)
   | (with_reducible refine LeO.ite ?_ ?_)
   | (with_reducible refine LeO.bind ?_ (fun _ => ?_))
   | exact ih0 _ _ _ _ _
   | exact ih1 _ _ _ _ _ _
   | exact cooperagelaw8_shown.mono _
   | exact lex_Lex.mono _ _
   | exact LeO.none _
   | refine LeO.ite ?_ ?_
   | refine LeO.bind ?_ (fun _ => ?_)
  ·intro y0 y1 y2 y3 y4 y5
   unfold cooperagelaw8_LexMany.l1
   repeat' first
   | (with_reducible exact ih0 _ _ _ _ _)
   | (with_reducible exact ih1 _ _ _ _ _ _)
   | (with_reducible exact cooperagelaw8_shown.mono _)
   | (with_reducible exact lex_Lex.mono _ _)
   | (with_reducible exact LeO.refl _)
   | (with_reducible exact LeO.none _)
   | (with_reducible refine LeO.ite ?_ ?_)
   | (with_reducible refine LeO.bind ?_ (fun _ => ?_))
   | exact ih0 _ _ _ _ _
   | exact ih1 _ _ _ _ _ _
   | exact cooperagelaw8_shown.mono _
   | exact lex_Lex.mono _ _
   | exact LeO.none _
   | refine LeO.ite ?_ ?_
   | refine LeO.bind ?_ (fun _ => ?_)
theorem cooperagelaw8_LexMany.mono : ∀ a0 a1 k, LeO (cooperagelaw8_LexMany.f k a0 a1) (cooperagelaw8_LexMany.f (k + 1) a0 a1) := by
 intro a0 a1 k
 obtain ⟨ih0, ih1⟩ := cooperagelaw8_LexMany.mono_l k
 unfold cooperagelaw8_LexMany.f
 repeat' first
   | (with_reducible exact ih0 _ _ _ _ _)
   | (with_reducible exact ih1 _ _ _ _ _ _)
   | (with_reducible exact cooperagelaw8_shown.mono _)
   | (with_reducible exact lex_Lex.mono _ _)
   | (with_reducible exact LeO.refl _)
   | (with_reducible exact LeO.none _)
   | (with_reducible refine LeO.ite ?_ ?_)
   | (with_reducible refine LeO.bind ?_ (fun _ => ?_))
   | exact ih0 _ _ _ _ _
   | exact ih1 _ _ _ _ _ _
   | exact cooperagelaw8_shown.mono _
   | exact lex_Lex.mono _ _
   | exact LeO.none _
   | refine LeO.ite ?_ ?_
   | refine LeO.bind ?_ (fun _ => ?_)
set_option maxHeartbeats 8000000 in
set_option maxRecDepth 100000 in
theorem cooperagelaw8_LexMany.calls (k : Nat) (a0 : Int) (a1 : Int) (r : Bool) (w : World) (h : cooperagelaw8_LexMany.f k a0 a1 = some r) :
  Calls Tryd.prog 7 #[.int .i64 a0, .int .i64 a1] w fun e w' => e = .returned (.bool r) ∧ Below w.heap.size w w' := by
 have HB := Aside0.mk (Below.refl w.heap.size w)
 have H : ((cooperagelaw8_shown.f k).bind fun t191 => (cooperagelaw8_LexMany.l0 k t191 (mx 0 (mn a0 320)) (mx 0 (mn a1 1100)) (⟨#[]⟩ : ByteArray) 0)) = some r := h
 clear h
 replace H := Option.bind_eq_some_iff.mp H
 obtain ⟨t191, A30, H⟩ := H
 replace H : (cooperagelaw8_LexMany.l0 k t191 (mx 0 (mn a0 320)) (mx 0 (mn a1 1100)) (⟨#[]⟩ : ByteArray) 0) = some r := H
 have A3 := Aside0.mk A30
 clear A30
 obtain ⟨ji4, hji4⟩ : ∃ j_ : Int, (mn a0 320) = j_ := ⟨_, rfl⟩
 replace H : (cooperagelaw8_LexMany.l0 k t191 (mx 0 (ji4)) (mx 0 (mn a1 1100)) (⟨#[]⟩ : ByteArray) 0) = some r := by first | (rw [hji4] at H; exact H) | (simp only [hji4] at H ⊢; exact H)
 (try rw [hji4] at A3)
 (try (have hji4h : ji4 ≤ 320 := by (rw [← hji4]; unfold mn; (repeat' split) <;> omega)))
 (try (have hji4g : ji4 ≤ 64 := by omega))
 have hji4_ : (if 320 < a0 then 320 else a0) = ji4 := hji4
 obtain ⟨ji5, hji5⟩ : ∃ j_ : Int, (mx 0 (ji4)) = j_ := ⟨_, rfl⟩
 replace H : (cooperagelaw8_LexMany.l0 k t191 ji5 (mx 0 (mn a1 1100)) (⟨#[]⟩ : ByteArray) 0) = some r := by first | (rw [hji5] at H; exact H) | (simp only [hji5] at H ⊢; exact H)
 (try rw [hji5] at A3)
 have hji5_ : (if 0 < (ji4) then (ji4) else 0) = ji5 := hji5
 obtain ⟨ji6, hji6⟩ : ∃ j_ : Int, (mn a1 1100) = j_ := ⟨_, rfl⟩
 replace H : (cooperagelaw8_LexMany.l0 k t191 ji5 (mx 0 (ji6)) (⟨#[]⟩ : ByteArray) 0) = some r := by first | (rw [hji6] at H; exact H) | (simp only [hji6] at H ⊢; exact H)
 (try rw [hji6] at A3)
 (try (have hji6h : ji6 ≤ 1100 := by (rw [← hji6]; unfold mn; (repeat' split) <;> omega)))
 (try (have hji6g : ji6 ≤ 64 := by omega))
 have hji6_ : (if 1100 < a1 then 1100 else a1) = ji6 := hji6
 obtain ⟨ji7, hji7⟩ : ∃ j_ : Int, (mx 0 (ji6)) = j_ := ⟨_, rfl⟩
 replace H : (cooperagelaw8_LexMany.l0 k t191 ji5 ji7 (⟨#[]⟩ : ByteArray) 0) = some r := by first | (rw [hji7] at H; exact H) | (simp only [hji7] at H ⊢; exact H)
 (try rw [hji7] at A3)
 have hji7_ : (if 0 < (ji6) then (ji6) else 0) = ji7 := hji7
 have H' := Aside0.mk H
 clear H
 go_enter Tryd.func7, Tryd.ntmps7
 go_wp2_with (first | ((with_reducible refine gate_callee (f := 8) rfl ?_); refine goesL_ (some 15) rfl rfl Tryd.func8 (by kernel_rfl) rfl #[] rfl zA ?_; (with_reducible refine (cooperagelaw8_shown.calls k  t191 _ A3.out).mono ?_); rintro e w8 ⟨rfl, hb⟩; refine ⟨_, rfl, ?_⟩; have n0_ := Aside0.mk (below_step (zL HB.out) hb); revert n0_; clear HB; intro HB; (try clear hb); (try clear hb2); (try clear hk); (try clear hi)))
 go_loopg [8, 9] k (fun kq v8 v9 w' => ∃ (x8_1 : ByteArray) (x9_1 : Int), v8 = .string x8_1 ∧ v9 = .int .i64 x9_1 ∧ Aside0 (cooperagelaw8_LexMany.l0 kq t191 ji5 ji7 x8_1 x9_1 = some r) ∧ Aside0 (kq ≤ k) ∧ Aside0 (Below w.heap.size w w'))
 case atStart => exact ⟨((⟨#[]⟩ : ByteArray)), (0), zS, zS, H', ⟨Nat.le_refl _⟩, ⟨zL HB.out⟩⟩
 case round =>
  clear H'
  try clear p2
  try clear c7
  try clear c8
  obtain ⟨x8_1, x9_1, rfl, rfl, HA, HK1, HB⟩ := hrel
  cases gk with
  | zero => exact absurd HA.out (by simp [cooperagelaw8_LexMany.l0])
  | succ k1 =>
   have H := HA.out
   clear HA
   simp only [cooperagelaw8_LexMany.l0] at H
   by_cases c9 : x9_1 < ji5
   ·rw [if_pos c9] at H
    have c9b0 : decide (x9_1 < ji5) = true := decide_eq_true c9
    clear c9
    by_cases c10 : x8_1.size + 2 ≤ 9223372036854775807
    ·rw [if_pos c10] at H
     have c10b0 := eq_true c10
     have c10b1 : decide (x8_1.size + 2 ≤ 9223372036854775807) = true := decide_eq_true c10
     try have c10b2 : (9223372036854775807 < x8_1.size + 2) = False := eq_false (Nat.not_lt.2 c10)
     have H' := Aside0.mk H
     clear H
     go_wp2
     go_roundg k1
     case measure => have := HK1.out; omega
     case rel => exact ⟨(x8_1 ++ (⟨#[120, 10]⟩ : ByteArray)), (wrap64 (x9_1 + 1)), zS, zS, H', ⟨by have := HK1.out; omega⟩, ⟨zL HB.out⟩⟩
    ·rw [if_neg c10] at H
     exact absurd H (by simp)
   ·rw [if_neg c9] at H
    have c9b0 : decide (x9_1 < ji5) = false := decide_eq_false c9
    clear c9
    have H' := Aside0.mk H
    clear H
    go_wp2
    go_loopg [10, 11] k1 (fun kq v10 v11 w' => ∃ (x10_2 : ByteArray) (x11_2 : Int), v10 = .string x10_2 ∧ v11 = .int .i64 x11_2 ∧ Aside0 (cooperagelaw8_LexMany.l1 kq t191 ji5 ji7 x8_1 x10_2 x11_2 = some r) ∧ Aside0 (kq ≤ k1) ∧ Aside0 (Below w.heap.size w w'))
    case atStart => exact ⟨((⟨#[]⟩ : ByteArray)), (0), zS, zS, H', ⟨Nat.le_refl _⟩, ⟨zL HB.out⟩⟩
    case round =>
     clear H'
     try clear c1
     try clear p2
     try clear p6
     try clear c7
     try clear c8
     try clear c9
     try clear c9b0
     try clear c10
     try clear c10b0
     try clear c10b1
     try clear c10b2
     try clear p2
     obtain ⟨x10_2, x11_2, rfl, rfl, HA, HK2, HB⟩ := hrel
     cases gk with
     | zero => exact absurd HA.out (by simp [cooperagelaw8_LexMany.l1])
     | succ k2 =>
      have H := HA.out
      clear HA
      simp only [cooperagelaw8_LexMany.l1] at H
      by_cases c11 : x11_2 < ji7
      ·rw [if_pos c11] at H
       have c11b0 : decide (x11_2 < ji7) = true := decide_eq_true c11
       clear c11
       by_cases c12 : x10_2.size + 1 ≤ 9223372036854775807
       ·rw [if_pos c12] at H
        have c12b0 := eq_true c12
        have c12b1 : decide (x10_2.size + 1 ≤ 9223372036854775807) = true := decide_eq_true c12
        try have c12b2 : (9223372036854775807 < x10_2.size + 1) = False := eq_false (Nat.not_lt.2 c12)
        have H' := Aside0.mk H
        clear H
        go_wp2
        go_roundg k2
        case measure => have := HK1.out; have := HK2.out; omega
        case rel => exact ⟨(x10_2 ++ (⟨#[121]⟩ : ByteArray)), (wrap64 (x11_2 + 1)), zS, zS, H', ⟨by have := HK1.out; have := HK2.out; omega⟩, ⟨zL HB.out⟩⟩
       ·rw [if_neg c12] at H
        exact absurd H (by simp)
      ·rw [if_neg c11] at H
       have c11b0 : decide (x11_2 < ji7) = false := decide_eq_false c11
       clear c11
       by_cases c13 : x8_1.size + x10_2.size ≤ 9223372036854775807
       ·rw [if_pos c13] at H
        have c13b0 := eq_true c13
        have c13b1 : decide (x8_1.size + x10_2.size ≤ 9223372036854775807) = true := decide_eq_true c13
        try have c13b2 : (9223372036854775807 < x8_1.size + x10_2.size) = False := eq_false (Nat.not_lt.2 c13)
        replace H := Option.bind_eq_some_iff.mp H
        obtain ⟨⟨t192, t193, t194⟩, A140, H⟩ := H
        replace H : (if ji5 > 300 then (if t191 = true then (if t193 = 3 then (if t194 = 301 then (some ((t192.length : Int) == 0)) else (some false)) else (some false)) else (some false)) else (if ji7 > 0 then (if ji5 = 300 then (if t191 = true then (if t193 = 3 then (if t194 = (ji5 + 1) then (some ((t192.length : Int) == 0)) else (some false)) else (some false)) else (some false)) else (if ji7 > 1000 then (if t191 = true then (if t193 = 3 then (if t194 = (ji5 + 1) then (some ((t192.length : Int) == 0)) else (some false)) else (some false)) else (some false)) else (if t191 = true then (if t193 = 0 then (if t194 = 0 then (some ((t192.length : Int) == (ji5 + (mn ji7 1)))) else (some false)) else (some false)) else (some false)))) else (if t191 = true then (if t193 = 0 then (if t194 = 0 then (some ((t192.length : Int) == (ji5 + (mn ji7 1)))) else (some false)) else (some false)) else (some false)))) = some r := H
        have A14 := Aside0.mk A140
        clear A140
        by_cases c15 : ji5 > 300
        ·rw [if_pos c15] at H
         have c15b0 : decide (300 < ji5) = true := decide_eq_true c15
         clear c15
         by_cases c16 : t191 = true
         ·subst c16
          have H1 : (if t193 = 3 then (if t194 = 301 then (some ((t192.length : Int) == 0)) else (some false)) else (some false)) = some r := by rw [if_pos rfl] at H; exact H
          clear H
          have H := H1
          clear H1
          by_cases c17 : t193 = 3
          ·rw [if_pos c17] at H
           have c17b0 : (t193 == 3) = true := beq_iff_eq.mpr c17
           have c17b1 : (t193 != 3) = false := bne_eq_false_iff_eq.mpr c17
           clear c17
           by_cases c18 : t194 = 301
           ·rw [if_pos c18] at H
            have c18b0 : (t194 == 301) = true := beq_iff_eq.mpr c18
            have c18b1 : (t194 != 301) = false := bne_eq_false_iff_eq.mpr c18
            clear c18
            obtain rfl := Option.some.inj H
            go_wp2_with (first | ((with_reducible refine gate_callee (f := 9) rfl ?_); refine goesL_ (some 40) rfl rfl Tryd.func9 (by kernel_rfl) rfl #[.string (x8_1 ++ x10_2)] rfl zA ?_; (with_reducible refine (lex_Lex.calls k2 (x8_1 ++ x10_2) t192 t193 t194 _ A14.out).mono ?_); rintro e w19 ⟨v195, rfl, ho0, hb⟩; refine ⟨_, rfl, ?_⟩; have n0_ := Aside0.mk (Kd.R_lower ho0 (below_size (zL HB.out))); have n1_ := Aside0.mk (below_step (zL HB.out) hb); revert n0_ n1_; clear HB; intro HO196 HB; (try clear hb); (try clear hb2); (try clear hk); (try clear hi); (try clear ho0); obtain ⟨Ao20, co20, eo20⟩ := Kd.R_slice HO196.out; subst eo20))
            go_ret
            exact ⟨by first | rfl | (simp [errW_none, errW_some] <;> rfl) | (simp only [← hji4, ← hji5, ← hji6, ← hji7]; first | rfl | (simp [errW_none, errW_some] <;> rfl)) | (simp [*, errW_none, errW_some] <;> rfl), zL HB.out⟩
           ·rw [if_neg c18] at H
            have c18b0 : (t194 == 301) = false := beq_eq_false_iff_ne.mpr c18
            have c18b1 : (t194 != 301) = true := bne_iff_ne.mpr c18
            obtain rfl := Option.some.inj H
            go_wp2_with (first | ((with_reducible refine gate_callee (f := 9) rfl ?_); refine goesL_ (some 40) rfl rfl Tryd.func9 (by kernel_rfl) rfl #[.string (x8_1 ++ x10_2)] rfl zA ?_; (with_reducible refine (lex_Lex.calls k2 (x8_1 ++ x10_2) t192 t193 t194 _ A14.out).mono ?_); rintro e w21 ⟨v195, rfl, ho0, hb⟩; refine ⟨_, rfl, ?_⟩; have n0_ := Aside0.mk (Kd.R_lower ho0 (below_size (zL HB.out))); have n1_ := Aside0.mk (below_step (zL HB.out) hb); revert n0_ n1_; clear HB; intro HO196 HB; (try clear hb); (try clear hb2); (try clear hk); (try clear hi); (try clear ho0)))
            go_ret
            exact ⟨by first | rfl | (simp [errW_none, errW_some] <;> rfl) | (simp only [← hji4, ← hji5, ← hji6, ← hji7]; first | rfl | (simp [errW_none, errW_some] <;> rfl)) | (simp [*, errW_none, errW_some] <;> rfl), zL HB.out⟩
          ·rw [if_neg c17] at H
           have c17b0 : (t193 == 3) = false := beq_eq_false_iff_ne.mpr c17
           have c17b1 : (t193 != 3) = true := bne_iff_ne.mpr c17
           obtain rfl := Option.some.inj H
           go_wp2_with (first | ((with_reducible refine gate_callee (f := 9) rfl ?_); refine goesL_ (some 40) rfl rfl Tryd.func9 (by kernel_rfl) rfl #[.string (x8_1 ++ x10_2)] rfl zA ?_; (with_reducible refine (lex_Lex.calls k2 (x8_1 ++ x10_2) t192 t193 t194 _ A14.out).mono ?_); rintro e w22 ⟨v195, rfl, ho0, hb⟩; refine ⟨_, rfl, ?_⟩; have n0_ := Aside0.mk (Kd.R_lower ho0 (below_size (zL HB.out))); have n1_ := Aside0.mk (below_step (zL HB.out) hb); revert n0_ n1_; clear HB; intro HO196 HB; (try clear hb); (try clear hb2); (try clear hk); (try clear hi); (try clear ho0)))
           go_ret
           exact ⟨by first | rfl | (simp [errW_none, errW_some] <;> rfl) | (simp only [← hji4, ← hji5, ← hji6, ← hji7]; first | rfl | (simp [errW_none, errW_some] <;> rfl)) | (simp [*, errW_none, errW_some] <;> rfl), zL HB.out⟩
         ·replace c16 := Bool.eq_false_iff.mpr c16
          subst c16
          have H1 : (some false) = some r := by rw [if_neg (show ¬ (false = true) by decide)] at H; exact H
          clear H
          have H := H1
          clear H1
          obtain rfl := Option.some.inj H
          go_wp2_with (first | ((with_reducible refine gate_callee (f := 9) rfl ?_); refine goesL_ (some 40) rfl rfl Tryd.func9 (by kernel_rfl) rfl #[.string (x8_1 ++ x10_2)] rfl zA ?_; (with_reducible refine (lex_Lex.calls k2 (x8_1 ++ x10_2) t192 t193 t194 _ A14.out).mono ?_); rintro e w23 ⟨v195, rfl, ho0, hb⟩; refine ⟨_, rfl, ?_⟩; have n0_ := Aside0.mk (Kd.R_lower ho0 (below_size (zL HB.out))); have n1_ := Aside0.mk (below_step (zL HB.out) hb); revert n0_ n1_; clear HB; intro HO196 HB; (try clear hb); (try clear hb2); (try clear hk); (try clear hi); (try clear ho0)))
          go_ret
          exact ⟨by first | rfl | (simp [errW_none, errW_some] <;> rfl) | (simp only [← hji4, ← hji5, ← hji6, ← hji7]; first | rfl | (simp [errW_none, errW_some] <;> rfl)) | (simp [*, errW_none, errW_some] <;> rfl), zL HB.out⟩
        ·rw [if_neg c15] at H
         have c15b0 : decide (300 < ji5) = false := decide_eq_false c15
         clear c15
         by_cases c24 : ji7 > 0
         ·rw [if_pos c24] at H
          have c24b0 : decide (0 < ji7) = true := decide_eq_true c24
          clear c24
          by_cases c25 : ji5 = 300
          ·rw [if_pos c25] at H
           have c25b0 : (ji5 == 300) = true := beq_iff_eq.mpr c25
           have c25b1 : (ji5 != 300) = false := bne_eq_false_iff_eq.mpr c25
           clear c25
           by_cases c26 : t191 = true
           ·subst c26
            have H1 : (if t193 = 3 then (if t194 = (ji5 + 1) then (some ((t192.length : Int) == 0)) else (some false)) else (some false)) = some r := by rw [if_pos rfl] at H; exact H
            clear H
            have H := H1
            clear H1
            by_cases c27 : t193 = 3
            ·rw [if_pos c27] at H
             have c27b0 : (t193 == 3) = true := beq_iff_eq.mpr c27
             have c27b1 : (t193 != 3) = false := bne_eq_false_iff_eq.mpr c27
             clear c27
             by_cases c28 : t194 = (ji5 + 1)
             ·rw [if_pos c28] at H
              have c28b0 : (t194 == (ji5 + 1)) = true := beq_iff_eq.mpr c28
              have c28b1 : (t194 != (ji5 + 1)) = false := bne_eq_false_iff_eq.mpr c28
              clear c28
              obtain rfl := Option.some.inj H
              go_wp2_with (first | ((with_reducible refine gate_callee (f := 9) rfl ?_); refine goesL_ (some 40) rfl rfl Tryd.func9 (by kernel_rfl) rfl #[.string (x8_1 ++ x10_2)] rfl zA ?_; (with_reducible refine (lex_Lex.calls k2 (x8_1 ++ x10_2) t192 t193 t194 _ A14.out).mono ?_); rintro e w29 ⟨v195, rfl, ho0, hb⟩; refine ⟨_, rfl, ?_⟩; have n0_ := Aside0.mk (Kd.R_lower ho0 (below_size (zL HB.out))); have n1_ := Aside0.mk (below_step (zL HB.out) hb); revert n0_ n1_; clear HB; intro HO196 HB; (try clear hb); (try clear hb2); (try clear hk); (try clear hi); (try clear ho0); obtain ⟨Ao30, co30, eo30⟩ := Kd.R_slice HO196.out; subst eo30))
              go_ret
              exact ⟨by first | rfl | (simp [errW_none, errW_some] <;> rfl) | (simp only [← hji4, ← hji5, ← hji6, ← hji7]; first | rfl | (simp [errW_none, errW_some] <;> rfl)) | (simp [*, errW_none, errW_some] <;> rfl), zL HB.out⟩
             ·rw [if_neg c28] at H
              have c28b0 : (t194 == (ji5 + 1)) = false := beq_eq_false_iff_ne.mpr c28
              have c28b1 : (t194 != (ji5 + 1)) = true := bne_iff_ne.mpr c28
              obtain rfl := Option.some.inj H
              go_wp2_with (first | ((with_reducible refine gate_callee (f := 9) rfl ?_); refine goesL_ (some 40) rfl rfl Tryd.func9 (by kernel_rfl) rfl #[.string (x8_1 ++ x10_2)] rfl zA ?_; (with_reducible refine (lex_Lex.calls k2 (x8_1 ++ x10_2) t192 t193 t194 _ A14.out).mono ?_); rintro e w31 ⟨v195, rfl, ho0, hb⟩; refine ⟨_, rfl, ?_⟩; have n0_ := Aside0.mk (Kd.R_lower ho0 (below_size (zL HB.out))); have n1_ := Aside0.mk (below_step (zL HB.out) hb); revert n0_ n1_; clear HB; intro HO196 HB; (try clear hb); (try clear hb2); (try clear hk); (try clear hi); (try clear ho0)))
              go_ret
              exact ⟨by first | rfl | (simp [errW_none, errW_some] <;> rfl) | (simp only [← hji4, ← hji5, ← hji6, ← hji7]; first | rfl | (simp [errW_none, errW_some] <;> rfl)) | (simp [*, errW_none, errW_some] <;> rfl), zL HB.out⟩
            ·rw [if_neg c27] at H
             have c27b0 : (t193 == 3) = false := beq_eq_false_iff_ne.mpr c27
             have c27b1 : (t193 != 3) = true := bne_iff_ne.mpr c27
             obtain rfl := Option.some.inj H
             go_wp2_with (first | ((with_reducible refine gate_callee (f := 9) rfl ?_); refine goesL_ (some 40) rfl rfl Tryd.func9 (by kernel_rfl) rfl #[.string (x8_1 ++ x10_2)] rfl zA ?_; (with_reducible refine (lex_Lex.calls k2 (x8_1 ++ x10_2) t192 t193 t194 _ A14.out).mono ?_); rintro e w32 ⟨v195, rfl, ho0, hb⟩; refine ⟨_, rfl, ?_⟩; have n0_ := Aside0.mk (Kd.R_lower ho0 (below_size (zL HB.out))); have n1_ := Aside0.mk (below_step (zL HB.out) hb); revert n0_ n1_; clear HB; intro HO196 HB; (try clear hb); (try clear hb2); (try clear hk); (try clear hi); (try clear ho0)))
             go_ret
             exact ⟨by first | rfl | (simp [errW_none, errW_some] <;> rfl) | (simp only [← hji4, ← hji5, ← hji6, ← hji7]; first | rfl | (simp [errW_none, errW_some] <;> rfl)) | (simp [*, errW_none, errW_some] <;> rfl), zL HB.out⟩
           ·replace c26 := Bool.eq_false_iff.mpr c26
            subst c26
            have H1 : (some false) = some r := by rw [if_neg (show ¬ (false = true) by decide)] at H; exact H
            clear H
            have H := H1
            clear H1
            obtain rfl := Option.some.inj H
            go_wp2_with (first | ((with_reducible refine gate_callee (f := 9) rfl ?_); refine goesL_ (some 40) rfl rfl Tryd.func9 (by kernel_rfl) rfl #[.string (x8_1 ++ x10_2)] rfl zA ?_; (with_reducible refine (lex_Lex.calls k2 (x8_1 ++ x10_2) t192 t193 t194 _ A14.out).mono ?_); rintro e w33 ⟨v195, rfl, ho0, hb⟩; refine ⟨_, rfl, ?_⟩; have n0_ := Aside0.mk (Kd.R_lower ho0 (below_size (zL HB.out))); have n1_ := Aside0.mk (below_step (zL HB.out) hb); revert n0_ n1_; clear HB; intro HO196 HB; (try clear hb); (try clear hb2); (try clear hk); (try clear hi); (try clear ho0)))
            go_ret
            exact ⟨by first | rfl | (simp [errW_none, errW_some] <;> rfl) | (simp only [← hji4, ← hji5, ← hji6, ← hji7]; first | rfl | (simp [errW_none, errW_some] <;> rfl)) | (simp [*, errW_none, errW_some] <;> rfl), zL HB.out⟩
          ·rw [if_neg c25] at H
           have c25b0 : (ji5 == 300) = false := beq_eq_false_iff_ne.mpr c25
           have c25b1 : (ji5 != 300) = true := bne_iff_ne.mpr c25
           by_cases c34 : ji7 > 1000
           ·rw [if_pos c34] at H
            have c34b0 : decide (1000 < ji7) = true := decide_eq_true c34
            clear c34
            by_cases c35 : t191 = true
            ·subst c35
             have H1 : (if t193 = 3 then (if t194 = (ji5 + 1) then (some ((t192.length : Int) == 0)) else (some false)) else (some false)) = some r := by rw [if_pos rfl] at H; exact H
             clear H
             have H := H1
             clear H1
             by_cases c36 : t193 = 3
             ·rw [if_pos c36] at H
              have c36b0 : (t193 == 3) = true := beq_iff_eq.mpr c36
              have c36b1 : (t193 != 3) = false := bne_eq_false_iff_eq.mpr c36
              clear c36
              by_cases c37 : t194 = (ji5 + 1)
              ·rw [if_pos c37] at H
               have c37b0 : (t194 == (ji5 + 1)) = true := beq_iff_eq.mpr c37
               have c37b1 : (t194 != (ji5 + 1)) = false := bne_eq_false_iff_eq.mpr c37
               clear c37
               obtain rfl := Option.some.inj H
               go_wp2_with (first | ((with_reducible refine gate_callee (f := 9) rfl ?_); refine goesL_ (some 40) rfl rfl Tryd.func9 (by kernel_rfl) rfl #[.string (x8_1 ++ x10_2)] rfl zA ?_; (with_reducible refine (lex_Lex.calls k2 (x8_1 ++ x10_2) t192 t193 t194 _ A14.out).mono ?_); rintro e w38 ⟨v195, rfl, ho0, hb⟩; refine ⟨_, rfl, ?_⟩; have n0_ := Aside0.mk (Kd.R_lower ho0 (below_size (zL HB.out))); have n1_ := Aside0.mk (below_step (zL HB.out) hb); revert n0_ n1_; clear HB; intro HO196 HB; (try clear hb); (try clear hb2); (try clear hk); (try clear hi); (try clear ho0); obtain ⟨Ao39, co39, eo39⟩ := Kd.R_slice HO196.out; subst eo39))
               go_ret
               exact ⟨by first | rfl | (simp [errW_none, errW_some] <;> rfl) | (simp only [← hji4, ← hji5, ← hji6, ← hji7]; first | rfl | (simp [errW_none, errW_some] <;> rfl)) | (simp [*, errW_none, errW_some] <;> rfl), zL HB.out⟩
              ·rw [if_neg c37] at H
               have c37b0 : (t194 == (ji5 + 1)) = false := beq_eq_false_iff_ne.mpr c37
               have c37b1 : (t194 != (ji5 + 1)) = true := bne_iff_ne.mpr c37
               obtain rfl := Option.some.inj H
               go_wp2_with (first | ((with_reducible refine gate_callee (f := 9) rfl ?_); refine goesL_ (some 40) rfl rfl Tryd.func9 (by kernel_rfl) rfl #[.string (x8_1 ++ x10_2)] rfl zA ?_; (with_reducible refine (lex_Lex.calls k2 (x8_1 ++ x10_2) t192 t193 t194 _ A14.out).mono ?_); rintro e w40 ⟨v195, rfl, ho0, hb⟩; refine ⟨_, rfl, ?_⟩; have n0_ := Aside0.mk (Kd.R_lower ho0 (below_size (zL HB.out))); have n1_ := Aside0.mk (below_step (zL HB.out) hb); revert n0_ n1_; clear HB; intro HO196 HB; (try clear hb); (try clear hb2); (try clear hk); (try clear hi); (try clear ho0)))
               go_ret
               exact ⟨by first | rfl | (simp [errW_none, errW_some] <;> rfl) | (simp only [← hji4, ← hji5, ← hji6, ← hji7]; first | rfl | (simp [errW_none, errW_some] <;> rfl)) | (simp [*, errW_none, errW_some] <;> rfl), zL HB.out⟩
             ·rw [if_neg c36] at H
              have c36b0 : (t193 == 3) = false := beq_eq_false_iff_ne.mpr c36
              have c36b1 : (t193 != 3) = true := bne_iff_ne.mpr c36
              obtain rfl := Option.some.inj H
              go_wp2_with (first | ((with_reducible refine gate_callee (f := 9) rfl ?_); refine goesL_ (some 40) rfl rfl Tryd.func9 (by kernel_rfl) rfl #[.string (x8_1 ++ x10_2)] rfl zA ?_; (with_reducible refine (lex_Lex.calls k2 (x8_1 ++ x10_2) t192 t193 t194 _ A14.out).mono ?_); rintro e w41 ⟨v195, rfl, ho0, hb⟩; refine ⟨_, rfl, ?_⟩; have n0_ := Aside0.mk (Kd.R_lower ho0 (below_size (zL HB.out))); have n1_ := Aside0.mk (below_step (zL HB.out) hb); revert n0_ n1_; clear HB; intro HO196 HB; (try clear hb); (try clear hb2); (try clear hk); (try clear hi); (try clear ho0)))
              go_ret
              exact ⟨by first | rfl | (simp [errW_none, errW_some] <;> rfl) | (simp only [← hji4, ← hji5, ← hji6, ← hji7]; first | rfl | (simp [errW_none, errW_some] <;> rfl)) | (simp [*, errW_none, errW_some] <;> rfl), zL HB.out⟩
            ·replace c35 := Bool.eq_false_iff.mpr c35
             subst c35
             have H1 : (some false) = some r := by rw [if_neg (show ¬ (false = true) by decide)] at H; exact H
             clear H
             have H := H1
             clear H1
             obtain rfl := Option.some.inj H
             go_wp2_with (first | ((with_reducible refine gate_callee (f := 9) rfl ?_); refine goesL_ (some 40) rfl rfl Tryd.func9 (by kernel_rfl) rfl #[.string (x8_1 ++ x10_2)] rfl zA ?_; (with_reducible refine (lex_Lex.calls k2 (x8_1 ++ x10_2) t192 t193 t194 _ A14.out).mono ?_); rintro e w42 ⟨v195, rfl, ho0, hb⟩; refine ⟨_, rfl, ?_⟩; have n0_ := Aside0.mk (Kd.R_lower ho0 (below_size (zL HB.out))); have n1_ := Aside0.mk (below_step (zL HB.out) hb); revert n0_ n1_; clear HB; intro HO196 HB; (try clear hb); (try clear hb2); (try clear hk); (try clear hi); (try clear ho0)))
             go_ret
             exact ⟨by first | rfl | (simp [errW_none, errW_some] <;> rfl) | (simp only [← hji4, ← hji5, ← hji6, ← hji7]; first | rfl | (simp [errW_none, errW_some] <;> rfl)) | (simp [*, errW_none, errW_some] <;> rfl), zL HB.out⟩
           ·rw [if_neg c34] at H
            have c34b0 : decide (1000 < ji7) = false := decide_eq_false c34
            clear c34
            by_cases c43 : t191 = true
            ·subst c43
             have H1 : (if t193 = 0 then (if t194 = 0 then (some ((t192.length : Int) == (ji5 + (mn ji7 1)))) else (some false)) else (some false)) = some r := by rw [if_pos rfl] at H; exact H
             clear H
             have H := H1
             clear H1
             by_cases c44 : t193 = 0
             ·rw [if_pos c44] at H
              have c44b0 : (t193 == 0) = true := beq_iff_eq.mpr c44
              have c44b1 : (t193 != 0) = false := bne_eq_false_iff_eq.mpr c44
              clear c44
              by_cases c45 : t194 = 0
              ·rw [if_pos c45] at H
               have c45b0 : (t194 == 0) = true := beq_iff_eq.mpr c45
               have c45b1 : (t194 != 0) = false := bne_eq_false_iff_eq.mpr c45
               clear c45
               obtain ⟨ji46, hji46⟩ : ∃ j_ : Int, (mn ji7 1) = j_ := ⟨_, rfl⟩
               replace H : (some ((t192.length : Int) == (ji5 + (ji46)))) = some r := by first | (rw [hji46] at H; exact H) | (simp only [hji46] at H ⊢; exact H)
               (try rw [hji46] at A14)
               have hji46_ : (if 1 < ji7 then 1 else ji7) = ji46 := hji46
               obtain rfl := Option.some.inj H
               go_wp2_with (first | ((with_reducible refine gate_callee (f := 9) rfl ?_); refine goesL_ (some 40) rfl rfl Tryd.func9 (by kernel_rfl) rfl #[.string (x8_1 ++ x10_2)] rfl zA ?_; (with_reducible refine (lex_Lex.calls k2 (x8_1 ++ x10_2) t192 t193 t194 _ A14.out).mono ?_); rintro e w47 ⟨v195, rfl, ho0, hb⟩; refine ⟨_, rfl, ?_⟩; have n0_ := Aside0.mk (Kd.R_lower ho0 (below_size (zL HB.out))); have n1_ := Aside0.mk (below_step (zL HB.out) hb); revert n0_ n1_; clear HB; intro HO196 HB; (try clear hb); (try clear hb2); (try clear hk); (try clear hi); (try clear ho0); obtain ⟨Ao48, co48, eo48⟩ := Kd.R_slice HO196.out; subst eo48))
               go_ret
               exact ⟨by first | rfl | (simp [errW_none, errW_some] <;> rfl) | (simp only [← hji4, ← hji5, ← hji6, ← hji7, ← hji46]; first | rfl | (simp [errW_none, errW_some] <;> rfl)) | (simp [*, errW_none, errW_some] <;> rfl), zL HB.out⟩
              ·rw [if_neg c45] at H
               have c45b0 : (t194 == 0) = false := beq_eq_false_iff_ne.mpr c45
               have c45b1 : (t194 != 0) = true := bne_iff_ne.mpr c45
               obtain rfl := Option.some.inj H
               go_wp2_with (first | ((with_reducible refine gate_callee (f := 9) rfl ?_); refine goesL_ (some 40) rfl rfl Tryd.func9 (by kernel_rfl) rfl #[.string (x8_1 ++ x10_2)] rfl zA ?_; (with_reducible refine (lex_Lex.calls k2 (x8_1 ++ x10_2) t192 t193 t194 _ A14.out).mono ?_); rintro e w49 ⟨v195, rfl, ho0, hb⟩; refine ⟨_, rfl, ?_⟩; have n0_ := Aside0.mk (Kd.R_lower ho0 (below_size (zL HB.out))); have n1_ := Aside0.mk (below_step (zL HB.out) hb); revert n0_ n1_; clear HB; intro HO196 HB; (try clear hb); (try clear hb2); (try clear hk); (try clear hi); (try clear ho0)))
               go_ret
               exact ⟨by first | rfl | (simp [errW_none, errW_some] <;> rfl) | (simp only [← hji4, ← hji5, ← hji6, ← hji7]; first | rfl | (simp [errW_none, errW_some] <;> rfl)) | (simp [*, errW_none, errW_some] <;> rfl), zL HB.out⟩
             ·rw [if_neg c44] at H
              have c44b0 : (t193 == 0) = false := beq_eq_false_iff_ne.mpr c44
              have c44b1 : (t193 != 0) = true := bne_iff_ne.mpr c44
              obtain rfl := Option.some.inj H
              go_wp2_with (first | ((with_reducible refine gate_callee (f := 9) rfl ?_); refine goesL_ (some 40) rfl rfl Tryd.func9 (by kernel_rfl) rfl #[.string (x8_1 ++ x10_2)] rfl zA ?_; (with_reducible refine (lex_Lex.calls k2 (x8_1 ++ x10_2) t192 t193 t194 _ A14.out).mono ?_); rintro e w50 ⟨v195, rfl, ho0, hb⟩; refine ⟨_, rfl, ?_⟩; have n0_ := Aside0.mk (Kd.R_lower ho0 (below_size (zL HB.out))); have n1_ := Aside0.mk (below_step (zL HB.out) hb); revert n0_ n1_; clear HB; intro HO196 HB; (try clear hb); (try clear hb2); (try clear hk); (try clear hi); (try clear ho0)))
              go_ret
              exact ⟨by first | rfl | (simp [errW_none, errW_some] <;> rfl) | (simp only [← hji4, ← hji5, ← hji6, ← hji7]; first | rfl | (simp [errW_none, errW_some] <;> rfl)) | (simp [*, errW_none, errW_some] <;> rfl), zL HB.out⟩
            ·replace c43 := Bool.eq_false_iff.mpr c43
             subst c43
             have H1 : (some false) = some r := by rw [if_neg (show ¬ (false = true) by decide)] at H; exact H
             clear H
             have H := H1
             clear H1
             obtain rfl := Option.some.inj H
             go_wp2_with (first | ((with_reducible refine gate_callee (f := 9) rfl ?_); refine goesL_ (some 40) rfl rfl Tryd.func9 (by kernel_rfl) rfl #[.string (x8_1 ++ x10_2)] rfl zA ?_; (with_reducible refine (lex_Lex.calls k2 (x8_1 ++ x10_2) t192 t193 t194 _ A14.out).mono ?_); rintro e w51 ⟨v195, rfl, ho0, hb⟩; refine ⟨_, rfl, ?_⟩; have n0_ := Aside0.mk (Kd.R_lower ho0 (below_size (zL HB.out))); have n1_ := Aside0.mk (below_step (zL HB.out) hb); revert n0_ n1_; clear HB; intro HO196 HB; (try clear hb); (try clear hb2); (try clear hk); (try clear hi); (try clear ho0)))
             go_ret
             exact ⟨by first | rfl | (simp [errW_none, errW_some] <;> rfl) | (simp only [← hji4, ← hji5, ← hji6, ← hji7]; first | rfl | (simp [errW_none, errW_some] <;> rfl)) | (simp [*, errW_none, errW_some] <;> rfl), zL HB.out⟩
         ·rw [if_neg c24] at H
          have c24b0 : decide (0 < ji7) = false := decide_eq_false c24
          clear c24
          by_cases c52 : t191 = true
          ·subst c52
           have H1 : (if t193 = 0 then (if t194 = 0 then (some ((t192.length : Int) == (ji5 + (mn ji7 1)))) else (some false)) else (some false)) = some r := by rw [if_pos rfl] at H; exact H
           clear H
           have H := H1
           clear H1
           by_cases c53 : t193 = 0
           ·rw [if_pos c53] at H
            have c53b0 : (t193 == 0) = true := beq_iff_eq.mpr c53
            have c53b1 : (t193 != 0) = false := bne_eq_false_iff_eq.mpr c53
            clear c53
            by_cases c54 : t194 = 0
            ·rw [if_pos c54] at H
             have c54b0 : (t194 == 0) = true := beq_iff_eq.mpr c54
             have c54b1 : (t194 != 0) = false := bne_eq_false_iff_eq.mpr c54
             clear c54
             obtain ⟨ji55, hji55⟩ : ∃ j_ : Int, (mn ji7 1) = j_ := ⟨_, rfl⟩
             replace H : (some ((t192.length : Int) == (ji5 + (ji55)))) = some r := by first | (rw [hji55] at H; exact H) | (simp only [hji55] at H ⊢; exact H)
             (try rw [hji55] at A14)
             have hji55_ : (if 1 < ji7 then 1 else ji7) = ji55 := hji55
             obtain rfl := Option.some.inj H
             go_wp2_with (first | ((with_reducible refine gate_callee (f := 9) rfl ?_); refine goesL_ (some 40) rfl rfl Tryd.func9 (by kernel_rfl) rfl #[.string (x8_1 ++ x10_2)] rfl zA ?_; (with_reducible refine (lex_Lex.calls k2 (x8_1 ++ x10_2) t192 t193 t194 _ A14.out).mono ?_); rintro e w56 ⟨v195, rfl, ho0, hb⟩; refine ⟨_, rfl, ?_⟩; have n0_ := Aside0.mk (Kd.R_lower ho0 (below_size (zL HB.out))); have n1_ := Aside0.mk (below_step (zL HB.out) hb); revert n0_ n1_; clear HB; intro HO196 HB; (try clear hb); (try clear hb2); (try clear hk); (try clear hi); (try clear ho0); obtain ⟨Ao57, co57, eo57⟩ := Kd.R_slice HO196.out; subst eo57))
             go_ret
             exact ⟨by first | rfl | (simp [errW_none, errW_some] <;> rfl) | (simp only [← hji4, ← hji5, ← hji6, ← hji7, ← hji55]; first | rfl | (simp [errW_none, errW_some] <;> rfl)) | (simp [*, errW_none, errW_some] <;> rfl), zL HB.out⟩
            ·rw [if_neg c54] at H
             have c54b0 : (t194 == 0) = false := beq_eq_false_iff_ne.mpr c54
             have c54b1 : (t194 != 0) = true := bne_iff_ne.mpr c54
             obtain rfl := Option.some.inj H
             go_wp2_with (first | ((with_reducible refine gate_callee (f := 9) rfl ?_); refine goesL_ (some 40) rfl rfl Tryd.func9 (by kernel_rfl) rfl #[.string (x8_1 ++ x10_2)] rfl zA ?_; (with_reducible refine (lex_Lex.calls k2 (x8_1 ++ x10_2) t192 t193 t194 _ A14.out).mono ?_); rintro e w58 ⟨v195, rfl, ho0, hb⟩; refine ⟨_, rfl, ?_⟩; have n0_ := Aside0.mk (Kd.R_lower ho0 (below_size (zL HB.out))); have n1_ := Aside0.mk (below_step (zL HB.out) hb); revert n0_ n1_; clear HB; intro HO196 HB; (try clear hb); (try clear hb2); (try clear hk); (try clear hi); (try clear ho0)))
             go_ret
             exact ⟨by first | rfl | (simp [errW_none, errW_some] <;> rfl) | (simp only [← hji4, ← hji5, ← hji6, ← hji7]; first | rfl | (simp [errW_none, errW_some] <;> rfl)) | (simp [*, errW_none, errW_some] <;> rfl), zL HB.out⟩
           ·rw [if_neg c53] at H
            have c53b0 : (t193 == 0) = false := beq_eq_false_iff_ne.mpr c53
            have c53b1 : (t193 != 0) = true := bne_iff_ne.mpr c53
            obtain rfl := Option.some.inj H
            go_wp2_with (first | ((with_reducible refine gate_callee (f := 9) rfl ?_); refine goesL_ (some 40) rfl rfl Tryd.func9 (by kernel_rfl) rfl #[.string (x8_1 ++ x10_2)] rfl zA ?_; (with_reducible refine (lex_Lex.calls k2 (x8_1 ++ x10_2) t192 t193 t194 _ A14.out).mono ?_); rintro e w59 ⟨v195, rfl, ho0, hb⟩; refine ⟨_, rfl, ?_⟩; have n0_ := Aside0.mk (Kd.R_lower ho0 (below_size (zL HB.out))); have n1_ := Aside0.mk (below_step (zL HB.out) hb); revert n0_ n1_; clear HB; intro HO196 HB; (try clear hb); (try clear hb2); (try clear hk); (try clear hi); (try clear ho0)))
            go_ret
            exact ⟨by first | rfl | (simp [errW_none, errW_some] <;> rfl) | (simp only [← hji4, ← hji5, ← hji6, ← hji7]; first | rfl | (simp [errW_none, errW_some] <;> rfl)) | (simp [*, errW_none, errW_some] <;> rfl), zL HB.out⟩
          ·replace c52 := Bool.eq_false_iff.mpr c52
           subst c52
           have H1 : (some false) = some r := by rw [if_neg (show ¬ (false = true) by decide)] at H; exact H
           clear H
           have H := H1
           clear H1
           obtain rfl := Option.some.inj H
           go_wp2_with (first | ((with_reducible refine gate_callee (f := 9) rfl ?_); refine goesL_ (some 40) rfl rfl Tryd.func9 (by kernel_rfl) rfl #[.string (x8_1 ++ x10_2)] rfl zA ?_; (with_reducible refine (lex_Lex.calls k2 (x8_1 ++ x10_2) t192 t193 t194 _ A14.out).mono ?_); rintro e w60 ⟨v195, rfl, ho0, hb⟩; refine ⟨_, rfl, ?_⟩; have n0_ := Aside0.mk (Kd.R_lower ho0 (below_size (zL HB.out))); have n1_ := Aside0.mk (below_step (zL HB.out) hb); revert n0_ n1_; clear HB; intro HO196 HB; (try clear hb); (try clear hb2); (try clear hk); (try clear hi); (try clear ho0)))
           go_ret
           exact ⟨by first | rfl | (simp [errW_none, errW_some] <;> rfl) | (simp only [← hji4, ← hji5, ← hji6, ← hji7]; first | rfl | (simp [errW_none, errW_some] <;> rfl)) | (simp [*, errW_none, errW_some] <;> rfl), zL HB.out⟩
       ·rw [if_neg c13] at H
        exact absurd H (by simp)

/-- THE ONE PURE STATEMENT of cooperagelaw8_LexMany. -/
def cooperagelaw8_LexMany.Pure : Prop := ∀ (a0 : Int) (a1 : Int), (Lit.int .i64 a0).wf = true → (Lit.int .i64 a1).wf = true → ∃ k, cooperagelaw8_LexMany.f k a0 a1 = some true
theorem cooperagelaw8_LexMany.walk (P : cooperagelaw8_LexMany.Pure) (a0 : Int) (a1 : Int) (w : World) (w0 : (Lit.int .i64 a0).wf = true) (w1 : (Lit.int .i64 a1).wf = true) :
  Calls Tryd.prog 7 #[.int .i64 a0, .int .i64 a1] w fun e w' => e = .returned (.bool true) ∧ Below w.heap.size w w' := by
 obtain ⟨k, h⟩ := P a0 a1 w0 w1
 refine (cooperagelaw8_LexMany.calls k a0 a1 true w h).mono ?_
 rintro e w' ⟨rfl, hd⟩
 exact ⟨rfl, hd⟩

end Go.Proofs.YtjbpabpfhkcolaaDoor.PLex
