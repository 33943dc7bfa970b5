-- Written by a program of this session (wip/tools/ext.py, over the kit's printer); not trusted: Lean checks it.
import Derived.Test.YtjdadmjomjhpcaaDoorPLeasex13
namespace Go.Proofs.YtjdadmjomjhpcaaDoor.PLease
open Go.RowKit Go.Proofs.YtjdadmjomjhpcaaDoorW.PrintWords Go.Proofs.YtjdadmjomjhpcaaDoorW.PrintLast Go.Proofs.YtjdadmjomjhpcaaDoorW.PrintMore
attribute [local go_sem] max2_int min2_int max_two min_two max_three min_three max_four min_four
set_option linter.unusedVariables false
set_option linter.unusedSimpArgs false
set_option maxHeartbeats 8000000
set_option maxRecDepth 100000

/-! ### cooperageref1_plain: function 51 -/
def cooperageref1_plain.f (a0 : Int) : Option (Bool) := if a0 ≥ 65 then (if a0 ≤ 90 then (some true) else (if a0 ≥ 97 then (if a0 ≤ 122 then (some true) else ((cooperageref1_digit.f a0).bind fun t640 => (if t640 = true then (some true) else (if a0 = 95 then (some true) else (if a0 = 45 then (some true) else (if a0 = 46 then (some true) else (if a0 = 47 then (some true) else (some (a0 == 43))))))))) else ((cooperageref1_digit.f a0).bind fun t641 => (if t641 = true then (some true) else (if a0 = 95 then (some true) else (if a0 = 45 then (some true) else (if a0 = 46 then (some true) else (if a0 = 47 then (some true) else (some (a0 == 43)))))))))) else (if a0 ≥ 97 then (if a0 ≤ 122 then (some true) else ((cooperageref1_digit.f a0).bind fun t642 => (if t642 = true then (some true) else (if a0 = 95 then (some true) else (if a0 = 45 then (some true) else (if a0 = 46 then (some true) else (if a0 = 47 then (some true) else (some (a0 == 43))))))))) else ((cooperageref1_digit.f a0).bind fun t643 => (if t643 = true then (some true) else (if a0 = 95 then (some true) else (if a0 = 45 then (some true) else (if a0 = 46 then (some true) else (if a0 = 47 then (some true) else (some (a0 == 43)))))))))
theorem cooperageref1_plain.calls (a0 : Int) (r : Bool) (w : World) (h : cooperageref1_plain.f a0 = some r) :
  Calls Tryd.prog 51 #[.int .u8 a0] w fun e w' => e = .returned (.bool r) ∧ Drawn0 w w' := by
 have H : (if a0 ≥ 65 then (if a0 ≤ 90 then (some true) else (if a0 ≥ 97 then (if a0 ≤ 122 then (some true) else ((cooperageref1_digit.f a0).bind fun t640 => (if t640 = true then (some true) else (if a0 = 95 then (some true) else (if a0 = 45 then (some true) else (if a0 = 46 then (some true) else (if a0 = 47 then (some true) else (some (a0 == 43))))))))) else ((cooperageref1_digit.f a0).bind fun t641 => (if t641 = true then (some true) else (if a0 = 95 then (some true) else (if a0 = 45 then (some true) else (if a0 = 46 then (some true) else (if a0 = 47 then (some true) else (some (a0 == 43)))))))))) else (if a0 ≥ 97 then (if a0 ≤ 122 then (some true) else ((cooperageref1_digit.f a0).bind fun t642 => (if t642 = true then (some true) else (if a0 = 95 then (some true) else (if a0 = 45 then (some true) else (if a0 = 46 then (some true) else (if a0 = 47 then (some true) else (some (a0 == 43))))))))) else ((cooperageref1_digit.f a0).bind fun t643 => (if t643 = true then (some true) else (if a0 = 95 then (some true) else (if a0 = 45 then (some true) else (if a0 = 46 then (some true) else (if a0 = 47 then (some true) else (some (a0 == 43)))))))))) = some r := h
 clear h
 by_cases c2 : a0 ≥ 65
 case neg =>
  rw [if_neg c2] at H
  have c2b0 : decide (65 ≤ a0) = false := zdf c2
  clear c2
  by_cases c18 : a0 ≥ 97
  ·rw [if_pos c18] at H
   have c18b0 : decide (97 ≤ a0) = true := zdt c18
   clear c18
   by_cases c19 : a0 ≤ 122
   ·rw [if_pos c19] at H
    have c19b0 := zdt c19
    clear c19
    obtain rfl := Option.some.inj H
    go_enter Tryd.func51, Tryd.ntmps51
    go_wp2
    go_ret
    exact ⟨by first | rfl | (simp; done) | (simp [*]; done), zd0⟩
   ·rw [if_neg c19] at H
    have c19b0 := zdf c19
    clear c19
    replace H := Option.bind_eq_some_iff.mp H
    obtain ⟨t642, A200, H⟩ := H
    try dsimp only at H
    have A20 := ka A200
    clear A200
    by_cases c21 : t642 = true
    ·subst c21
     rw [if_pos rfl] at H
     obtain rfl := Option.some.inj H
     go_enter Tryd.func51, Tryd.ntmps51
     go_wp2_with (first | (go_at_call 56; (with_reducible refine (cooperageref1_digit.calls a0 true _ A20.out).mono ?_); rintro e w' ⟨rfl, ⟨nd, rfl⟩⟩))
     go_ret
     exact ⟨by first | rfl | (simp; done) | (simp [*]; done), zd0⟩
    ·replace c21 := Bool.eq_false_iff.mpr c21
     subst c21
     rw [if_neg (show ¬ (false = true) by decide)] at H
     by_cases c22 : a0 = 95
     ·rw [if_pos c22] at H
      have c22b0 := zb0 c22
      have c22b1 := zb1 c22
      clear c22
      obtain rfl := Option.some.inj H
      go_enter Tryd.func51, Tryd.ntmps51
      go_wp2_with (first | (go_at_call 56; (with_reducible refine (cooperageref1_digit.calls a0 false _ A20.out).mono ?_); rintro e w' ⟨rfl, ⟨nd, rfl⟩⟩))
      go_ret
      exact ⟨by first | rfl | (simp; done) | (simp [*]; done), zd0⟩
     ·rw [if_neg c22] at H
      have c22b0 := zn0 c22
      have c22b1 := zn1 c22
      by_cases c23 : a0 = 45
      ·rw [if_pos c23] at H
       have c23b0 := zb0 c23
       have c23b1 := zb1 c23
       clear c23
       obtain rfl := Option.some.inj H
       go_enter Tryd.func51, Tryd.ntmps51
       go_wp2_with (first | (go_at_call 56; (with_reducible refine (cooperageref1_digit.calls a0 false _ A20.out).mono ?_); rintro e w' ⟨rfl, ⟨nd, rfl⟩⟩))
       go_ret
       exact ⟨by first | rfl | (simp; done) | (simp [*]; done), zd0⟩
      ·rw [if_neg c23] at H
       have c23b0 := zn0 c23
       have c23b1 := zn1 c23
       by_cases c24 : a0 = 46
       ·rw [if_pos c24] at H
        have c24b0 := zb0 c24
        have c24b1 := zb1 c24
        clear c24
        obtain rfl := Option.some.inj H
        go_enter Tryd.func51, Tryd.ntmps51
        go_wp2_with (first | (go_at_call 56; (with_reducible refine (cooperageref1_digit.calls a0 false _ A20.out).mono ?_); rintro e w' ⟨rfl, ⟨nd, rfl⟩⟩))
        go_ret
        exact ⟨by first | rfl | (simp; done) | (simp [*]; done), zd0⟩
       ·rw [if_neg c24] at H
        have c24b0 := zn0 c24
        have c24b1 := zn1 c24
        by_cases c25 : a0 = 47
        ·rw [if_pos c25] at H
         have c25b0 := zb0 c25
         have c25b1 := zb1 c25
         clear c25
         obtain rfl := Option.some.inj H
         go_enter Tryd.func51, Tryd.ntmps51
         go_wp2_with (first | (go_at_call 56; (with_reducible refine (cooperageref1_digit.calls a0 false _ A20.out).mono ?_); rintro e w' ⟨rfl, ⟨nd, rfl⟩⟩))
         go_ret
         exact ⟨by first | rfl | (simp; done) | (simp [*]; done), zd0⟩
        ·rw [if_neg c25] at H
         have c25b0 := zn0 c25
         have c25b1 := zn1 c25
         obtain rfl := Option.some.inj H
         go_enter Tryd.func51, Tryd.ntmps51
         go_wp2_with (first | (go_at_call 56; (with_reducible refine (cooperageref1_digit.calls a0 false _ A20.out).mono ?_); rintro e w' ⟨rfl, ⟨nd, rfl⟩⟩))
         go_ret
         exact ⟨by first | rfl | (simp; done) | (simp [*]; done), zd0⟩
  ·rw [if_neg c18] at H
   have c18b0 : decide (97 ≤ a0) = false := zdf c18
   clear c18
   replace H := Option.bind_eq_some_iff.mp H
   obtain ⟨t643, A260, H⟩ := H
   try dsimp only at H
   have A26 := ka A260
   clear A260
   by_cases c27 : t643 = true
   ·subst c27
    rw [if_pos rfl] at H
    obtain rfl := Option.some.inj H
    go_enter Tryd.func51, Tryd.ntmps51
    go_wp2_with (first | (go_at_call 56; (with_reducible refine (cooperageref1_digit.calls a0 true _ A26.out).mono ?_); rintro e w' ⟨rfl, ⟨nd, rfl⟩⟩))
    go_ret
    exact ⟨by first | rfl | (simp; done) | (simp [*]; done), zd0⟩
   ·replace c27 := Bool.eq_false_iff.mpr c27
    subst c27
    rw [if_neg (show ¬ (false = true) by decide)] at H
    by_cases c28 : a0 = 95
    ·rw [if_pos c28] at H
     have c28b0 := zb0 c28
     have c28b1 := zb1 c28
     clear c28
     obtain rfl := Option.some.inj H
     go_enter Tryd.func51, Tryd.ntmps51
     go_wp2_with (first | (go_at_call 56; (with_reducible refine (cooperageref1_digit.calls a0 false _ A26.out).mono ?_); rintro e w' ⟨rfl, ⟨nd, rfl⟩⟩))
     go_ret
     exact ⟨by first | rfl | (simp; done) | (simp [*]; done), zd0⟩
    ·rw [if_neg c28] at H
     have c28b0 := zn0 c28
     have c28b1 := zn1 c28
     by_cases c29 : a0 = 45
     ·rw [if_pos c29] at H
      have c29b0 := zb0 c29
      have c29b1 := zb1 c29
      clear c29
      obtain rfl := Option.some.inj H
      go_enter Tryd.func51, Tryd.ntmps51
      go_wp2_with (first | (go_at_call 56; (with_reducible refine (cooperageref1_digit.calls a0 false _ A26.out).mono ?_); rintro e w' ⟨rfl, ⟨nd, rfl⟩⟩))
      go_ret
      exact ⟨by first | rfl | (simp; done) | (simp [*]; done), zd0⟩
     ·rw [if_neg c29] at H
      have c29b0 := zn0 c29
      have c29b1 := zn1 c29
      by_cases c30 : a0 = 46
      ·rw [if_pos c30] at H
       have c30b0 := zb0 c30
       have c30b1 := zb1 c30
       clear c30
       obtain rfl := Option.some.inj H
       go_enter Tryd.func51, Tryd.ntmps51
       go_wp2_with (first | (go_at_call 56; (with_reducible refine (cooperageref1_digit.calls a0 false _ A26.out).mono ?_); rintro e w' ⟨rfl, ⟨nd, rfl⟩⟩))
       go_ret
       exact ⟨by first | rfl | (simp; done) | (simp [*]; done), zd0⟩
      ·rw [if_neg c30] at H
       have c30b0 := zn0 c30
       have c30b1 := zn1 c30
       by_cases c31 : a0 = 47
       ·rw [if_pos c31] at H
        have c31b0 := zb0 c31
        have c31b1 := zb1 c31
        clear c31
        obtain rfl := Option.some.inj H
        go_enter Tryd.func51, Tryd.ntmps51
        go_wp2_with (first | (go_at_call 56; (with_reducible refine (cooperageref1_digit.calls a0 false _ A26.out).mono ?_); rintro e w' ⟨rfl, ⟨nd, rfl⟩⟩))
        go_ret
        exact ⟨by first | rfl | (simp; done) | (simp [*]; done), zd0⟩
       ·rw [if_neg c31] at H
        have c31b0 := zn0 c31
        have c31b1 := zn1 c31
        obtain rfl := Option.some.inj H
        go_enter Tryd.func51, Tryd.ntmps51
        go_wp2_with (first | (go_at_call 56; (with_reducible refine (cooperageref1_digit.calls a0 false _ A26.out).mono ?_); rintro e w' ⟨rfl, ⟨nd, rfl⟩⟩))
        go_ret
        exact ⟨by first | rfl | (simp; done) | (simp [*]; done), zd0⟩
 case' pos =>
  rw [if_pos c2] at H
  have c2b0 : decide (65 ≤ a0) = true := zdt c2
  clear c2
  by_cases c3 : a0 ≤ 90
  case pos =>
   rw [if_pos c3] at H
   have c3b0 := zdt c3
   clear c3
   obtain rfl := Option.some.inj H
   go_enter Tryd.func51, Tryd.ntmps51
   go_wp2
   go_ret
   exact ⟨by first | rfl | (simp; done) | (simp [*]; done), zd0⟩
  case' neg =>
   rw [if_neg c3] at H
   have c3b0 := zdf c3
   clear c3
   by_cases c4 : a0 ≥ 97
   case pos =>
    rw [if_pos c4] at H
    have c4b0 : decide (97 ≤ a0) = true := zdt c4
    clear c4
    by_cases c5 : a0 ≤ 122
    ·rw [if_pos c5] at H
     have c5b0 := zdt c5
     clear c5
     obtain rfl := Option.some.inj H
     go_enter Tryd.func51, Tryd.ntmps51
     go_wp2
     go_ret
     exact ⟨by first | rfl | (simp; done) | (simp [*]; done), zd0⟩
    ·rw [if_neg c5] at H
     have c5b0 := zdf c5
     clear c5
     replace H := Option.bind_eq_some_iff.mp H
     obtain ⟨t640, A60, H⟩ := H
     try dsimp only at H
     have A6 := ka A60
     clear A60
     by_cases c7 : t640 = true
     ·subst c7
      rw [if_pos rfl] at H
      obtain rfl := Option.some.inj H
      go_enter Tryd.func51, Tryd.ntmps51
      go_wp2_with (first | (go_at_call 56; (with_reducible refine (cooperageref1_digit.calls a0 true _ A6.out).mono ?_); rintro e w' ⟨rfl, ⟨nd, rfl⟩⟩))
      go_ret
      exact ⟨by first | rfl | (simp; done) | (simp [*]; done), zd0⟩
     ·replace c7 := Bool.eq_false_iff.mpr c7
      subst c7
      rw [if_neg (show ¬ (false = true) by decide)] at H
      by_cases c8 : a0 = 95
      ·rw [if_pos c8] at H
       have c8b0 := zb0 c8
       have c8b1 := zb1 c8
       clear c8
       obtain rfl := Option.some.inj H
       go_enter Tryd.func51, Tryd.ntmps51
       go_wp2_with (first | (go_at_call 56; (with_reducible refine (cooperageref1_digit.calls a0 false _ A6.out).mono ?_); rintro e w' ⟨rfl, ⟨nd, rfl⟩⟩))
       go_ret
       exact ⟨by first | rfl | (simp; done) | (simp [*]; done), zd0⟩
      ·rw [if_neg c8] at H
       have c8b0 := zn0 c8
       have c8b1 := zn1 c8
       by_cases c9 : a0 = 45
       ·rw [if_pos c9] at H
        have c9b0 := zb0 c9
        have c9b1 := zb1 c9
        clear c9
        obtain rfl := Option.some.inj H
        go_enter Tryd.func51, Tryd.ntmps51
        go_wp2_with (first | (go_at_call 56; (with_reducible refine (cooperageref1_digit.calls a0 false _ A6.out).mono ?_); rintro e w' ⟨rfl, ⟨nd, rfl⟩⟩))
        go_ret
        exact ⟨by first | rfl | (simp; done) | (simp [*]; done), zd0⟩
       ·rw [if_neg c9] at H
        have c9b0 := zn0 c9
        have c9b1 := zn1 c9
        by_cases c10 : a0 = 46
        ·rw [if_pos c10] at H
         have c10b0 := zb0 c10
         have c10b1 := zb1 c10
         clear c10
         obtain rfl := Option.some.inj H
         go_enter Tryd.func51, Tryd.ntmps51
         go_wp2_with (first | (go_at_call 56; (with_reducible refine (cooperageref1_digit.calls a0 false _ A6.out).mono ?_); rintro e w' ⟨rfl, ⟨nd, rfl⟩⟩))
         go_ret
         exact ⟨by first | rfl | (simp; done) | (simp [*]; done), zd0⟩
        ·rw [if_neg c10] at H
         have c10b0 := zn0 c10
         have c10b1 := zn1 c10
         by_cases c11 : a0 = 47
         ·rw [if_pos c11] at H
          have c11b0 := zb0 c11
          have c11b1 := zb1 c11
          clear c11
          obtain rfl := Option.some.inj H
          go_enter Tryd.func51, Tryd.ntmps51
          go_wp2_with (first | (go_at_call 56; (with_reducible refine (cooperageref1_digit.calls a0 false _ A6.out).mono ?_); rintro e w' ⟨rfl, ⟨nd, rfl⟩⟩))
          go_ret
          exact ⟨by first | rfl | (simp; done) | (simp [*]; done), zd0⟩
         ·rw [if_neg c11] at H
          have c11b0 := zn0 c11
          have c11b1 := zn1 c11
          obtain rfl := Option.some.inj H
          go_enter Tryd.func51, Tryd.ntmps51
          go_wp2_with (first | (go_at_call 56; (with_reducible refine (cooperageref1_digit.calls a0 false _ A6.out).mono ?_); rintro e w' ⟨rfl, ⟨nd, rfl⟩⟩))
          go_ret
          exact ⟨by first | rfl | (simp; done) | (simp [*]; done), zd0⟩
   case' neg =>
    rw [if_neg c4] at H
    have c4b0 : decide (97 ≤ a0) = false := zdf c4
    clear c4
    replace H := Option.bind_eq_some_iff.mp H
    obtain ⟨t641, A120, H⟩ := H
    try dsimp only at H
    have A12 := ka A120
    clear A120
    by_cases c13 : t641 = true
    case pos =>
     subst c13
     rw [if_pos rfl] at H
     obtain rfl := Option.some.inj H
     go_enter Tryd.func51, Tryd.ntmps51
     go_wp2_with (first | (go_at_call 56; (with_reducible refine (cooperageref1_digit.calls a0 true _ A12.out).mono ?_); rintro e w' ⟨rfl, ⟨nd, rfl⟩⟩))
     go_ret
     exact ⟨by first | rfl | (simp; done) | (simp [*]; done), zd0⟩
    case' neg =>
     replace c13 := Bool.eq_false_iff.mpr c13
     subst c13
     rw [if_neg (show ¬ (false = true) by decide)] at H
     by_cases c14 : a0 = 95
     case' pos =>
      rw [if_pos c14] at H
      have c14b0 := zb0 c14
      have c14b1 := zb1 c14
      clear c14
     case' neg =>
      rw [if_neg c14] at H
      have c14b0 := zn0 c14
      have c14b1 := zn1 c14
      by_cases c15 : a0 = 45
      case' pos =>
       rw [if_pos c15] at H
       have c15b0 := zb0 c15
       have c15b1 := zb1 c15
       clear c15
      case' neg =>
       rw [if_neg c15] at H
       have c15b0 := zn0 c15
       have c15b1 := zn1 c15
       by_cases c16 : a0 = 46
       case' pos =>
        rw [if_pos c16] at H
        have c16b0 := zb0 c16
        have c16b1 := zb1 c16
        clear c16
       case' neg =>
        rw [if_neg c16] at H
        have c16b0 := zn0 c16
        have c16b1 := zn1 c16
        by_cases c17 : a0 = 47
        case' pos =>
         rw [if_pos c17] at H
         have c17b0 := zb0 c17
         have c17b1 := zb1 c17
         clear c17
        case' neg =>
         rw [if_neg c17] at H
         have c17b0 := zn0 c17
         have c17b1 := zn1 c17
 all_goals
  obtain rfl := Option.some.inj H
  go_enter Tryd.func51, Tryd.ntmps51
  go_wp2_with (first | (go_at_call 56; (with_reducible refine (cooperageref1_digit.calls a0 false _ A12.out).mono ?_); rintro e w' ⟨rfl, ⟨nd, rfl⟩⟩))
  go_ret
  exact ⟨by first | rfl | (simp; done) | (simp [*]; done), zd0⟩

/-! ### cooperageref1_Path: function 45 -/
mutual
def cooperageref1_Path.j0 : Nat → ByteArray → Bool → Option (Bool)
 | 0, _, _ => none
 | k + 1, x0, x13 => if x13 = true then (some false) else (cooperageref1_Path.l0 k x0 0 (⟨#[]⟩ : ByteArray) 0)
def cooperageref1_Path.l0 : Nat → ByteArray → Int → ByteArray → Int → Option (Bool)
 | 0, _, _, _, _ => none
 | k + 1, x0, x3, x4, x5 => if x5 ≤ (x0.size : Int) then (if x5 < (x0.size : Int) then (if 0 ≤ x5 then ((cooperageref1_plain.f (bt x0 x5)).bind fun t644 => (cooperageref1_Path.j2 k x0 x3 x4 x5 (!t644))) else (none)) else (cooperageref1_Path.j2 k x0 x3 x4 x5 false)) else (some (decide (x3 ≤ 8)))
def cooperageref1_Path.j2 : Nat → ByteArray → Int → ByteArray → Int → Bool → Option (Bool)
 | 0, _, _, _, _, _ => none
 | k + 1, x0, x3, x4, x5, x30 => if x30 = true then (some false) else (if x5 < (x0.size : Int) then (if 0 ≤ x5 then (cooperageref1_Path.j3 k x0 x3 x4 x5 ((bt x0 x5) != 47)) else (none)) else (cooperageref1_Path.j3 k x0 x3 x4 x5 false))
def cooperageref1_Path.j3 : Nat → ByteArray → Int → ByteArray → Int → Bool → Option (Bool)
 | 0, _, _, _, _, _ => none
 | k + 1, x0, x3, x4, x5, x40 => if x40 = true then (if 0 ≤ x5 then (if x5 ≤ (wrap64 (x5 + 1)) then (if (wrap64 (x5 + 1)) ≤ (x0.size : Int) then (if x4.size + (x0.extract (x5 : Int).toNat ((wrap64 (x5 + 1)) : Int).toNat).size ≤ 9223372036854775807 then (cooperageref1_Path.l0 k x0 x3 (x4 ++ (x0.extract (x5 : Int).toNat ((wrap64 (x5 + 1)) : Int).toNat)) (wrap64 (x5 + 1))) else (none)) else (none)) else (none)) else (none)) else (if x4.toList = ([] : List UInt8) then (some false) else (if x4.toList = ([46] : List UInt8) then (some false) else (if x4.toList = ([46, 46] : List UInt8) then (some false) else (cooperageref1_Path.l0 k x0 (wrap64 (x3 + 1)) (⟨#[]⟩ : ByteArray) (wrap64 (x5 + 1))))))
end
def cooperageref1_Path.f (k : Nat) (a0 : ByteArray) : Option (Bool) := if (a0.size : Int) < 1 then (cooperageref1_Path.j0 k a0 true) else (cooperageref1_Path.j0 k a0 (decide ((a0.size : Int) > 100)))
theorem cooperageref1_Path.mono_l : ∀ k, (∀ y0 y1, LeO (cooperageref1_Path.j0 k y0 y1) (cooperageref1_Path.j0 (k + 1) y0 y1)) ∧ (∀ y0 y1 y2 y3, LeO (cooperageref1_Path.l0 k y0 y1 y2 y3) (cooperageref1_Path.l0 (k + 1) y0 y1 y2 y3)) ∧ (∀ y0 y1 y2 y3 y4, LeO (cooperageref1_Path.j2 k y0 y1 y2 y3 y4) (cooperageref1_Path.j2 (k + 1) y0 y1 y2 y3 y4)) ∧ (∀ y0 y1 y2 y3 y4, LeO (cooperageref1_Path.j3 k y0 y1 y2 y3 y4) (cooperageref1_Path.j3 (k + 1) y0 y1 y2 y3 y4))
 | 0 => ⟨fun _ _ r h => by simp [cooperageref1_Path.j0] at h, fun _ _ _ _ r h => by simp [cooperageref1_Path.l0] at h, fun _ _ _ _ _ r h => by simp [cooperageref1_Path.j2] at h, fun _ _ _ _ _ r h => by simp [cooperageref1_Path.j3] at h⟩
 | k + 1 => by
  obtain ⟨ih0, ih1, ih2, ih3⟩ := cooperageref1_Path.mono_l k
  refine ⟨?_, ?_, ?_, ?_⟩
  ·intros
   unfold cooperageref1_Path.j0
   exact zLe
  ·intros
   unfold cooperageref1_Path.l0
   exact zLe
  ·intros
   unfold cooperageref1_Path.j2
   exact zLe
  ·intros
   unfold cooperageref1_Path.j3
   exact zLe
theorem cooperageref1_Path.mono : ∀ a0 k, LeO (cooperageref1_Path.f k a0) (cooperageref1_Path.f (k + 1) a0) := by
 intro a0 k
 obtain ⟨ih0, ih1, ih2, ih3⟩ := cooperageref1_Path.mono_l k
 unfold cooperageref1_Path.f
 exact zLe
theorem cooperageref1_Path.calls (k : Nat) (a0 : ByteArray) (r : Bool) (w : World) (h : cooperageref1_Path.f k a0 = some r) :
  Calls Tryd.prog 45 #[.string a0] w fun e w' => e = .returned (.bool r) ∧ Drawn0 w w' := by
 have H : (if (a0.size : Int) < 1 then (cooperageref1_Path.j0 k a0 true) else (cooperageref1_Path.j0 k a0 (decide ((a0.size : Int) > 100)))) = some r := h
 clear h
 have HC2 := ka H
 clear H
 go_enter Tryd.func45, Tryd.ntmps45
 go_upto_region 1 with (fail)
 go_cut [13] (fun v13 wc => ∃ (kq : Nat) (x13_1 : Bool), v13 = .bool x13_1 ∧ Aside0 (cooperageref1_Path.j0 kq a0 x13_1 = some r) ∧ Aside0 (kq ≤ k) ∧ Drawn0 w wc)
 case first =>
  have H := HC2.out
  clear HC2
  by_cases c3 : (a0.size : Int) < 1
  ·rw [if_pos c3] at H
   have c3b0 := zdt c3
   have c3b1 : decide (a0.size < 1) = true := decide_eq_true (by omega)
   clear c3
   (first | rw [c3b0] | (simp only [i64_w, i32_w]; rw [c3b0]) | rw [isE_ c3b0] | skip)
   have H' := ka H
   clear H
   go_wp2
   go_meet
   case rel => exact ⟨_, (true), zS, H', ⟨by first | omega | exact Nat.le_refl _⟩, zd0⟩
  rw [if_neg c3] at H
  have c3b0 := zdf c3
  have c3b1 : decide (a0.size < 1) = false := decide_eq_false (by omega)
  clear c3
  (first | rw [c3b0] | (simp only [i64_w, i32_w]; rw [c3b0]) | rw [isE_ c3b0] | skip)
  have H' := ka H
  clear H
  go_wp2
  go_meet
  case rel => exact ⟨_, (decide ((a0.size : Int) > 100)), zS, H', ⟨by first | omega | exact Nat.le_refl _⟩, zd0⟩
 case rest =>
  clear HC2
  obtain ⟨kq, x13_1, rfl, HA, HJ1, ⟨mc1, rfl⟩⟩ := hcut
  cases kq with
  | zero => exact absurd HA.out (by simp [cooperageref1_Path.j0])
  | succ kj1 =>
   have H := HA.out
   clear HA
   simp only [cooperageref1_Path.j0] at H
   by_cases c4 : x13_1 = true
   ·subst c4
    rw [if_pos rfl] at H
    obtain rfl := Option.some.inj H
    go_wp2
    go_ret
    exact ⟨by first | rfl | (simp; done) | (simp [*]; done), zd0⟩
   replace c4 := Bool.eq_false_iff.mpr c4
   subst c4
   rw [if_neg (show ¬ (false = true) by decide)] at H
   have H' := ka H
   clear H
   go_wp2
   go_loopg [3, 4, 5] kj1 (fun kq v3 v4 v5 w' => ∃ (x3_2 : Int) (x4_2 : ByteArray) (x5_2 : Int), v3 = .int .i64 x3_2 ∧ v4 = .string x4_2 ∧ v5 = .int .i64 x5_2 ∧ Aside0 (cooperageref1_Path.l0 kq a0 x3_2 x4_2 x5_2 = some r) ∧ Aside0 (kq ≤ kj1) ∧ Drawn0 w w')
   case atStart => exact ⟨(0), ((⟨#[]⟩ : ByteArray)), (0), zS, zS, zS, H', ⟨Nat.le_refl _⟩, zd0⟩
   case round =>
    clear H'
    try clear c4
    obtain ⟨x3_2, x4_2, x5_2, rfl, rfl, rfl, HA, HK2, ⟨m2, rfl⟩⟩ := hrel
    cases gk with
    | zero => exact absurd HA.out (by simp [cooperageref1_Path.l0])
    | succ k2 =>
     have H := HA.out
     clear HA
     simp only [cooperageref1_Path.l0] at H
     by_cases c5 : x5_2 ≤ (a0.size : Int)
     ·rw [if_pos c5] at H
      have c5b0 := zdt c5
      clear c5
      have HC6 := ka H
      clear H
      go_upto_region 8 with (fail)
      go_cut [30] (fun v30 wc => ∃ (kq : Nat) (x30_5 : Bool), v30 = .bool x30_5 ∧ Aside0 (cooperageref1_Path.j2 kq a0 x3_2 x4_2 x5_2 x30_5 = some r) ∧ Aside0 (kq ≤ k2) ∧ Drawn0 w wc)
      case first =>
       have H := HC6.out
       clear HC6
       by_cases c7 : x5_2 < (a0.size : Int)
       ·rw [if_pos c7] at H
        have c7b0 := zdt c7
        clear c7
        (first | rw [c7b0] | (simp only [i64_w, i32_w]; rw [c7b0]) | rw [isE_ c7b0] | skip)
        replace H := zif H
        obtain ⟨c8, H⟩ := H
        have c8b0 := zdt c8
        clear c8
        replace H := Option.bind_eq_some_iff.mp H
        obtain ⟨t644, A100, H⟩ := H
        try dsimp only at H
        have A10 := ka A100
        clear A100
        have H' := ka H
        clear H
        have p9 : 0 ≤ (x5_2 : Int) := zD
        have q9 : x5_2 < (a0.size : Int) := zD
        have hx9 := bt_at a0 x5_2
        replace p9 := eq_true p9
        replace q9 := eq_true q9
        go_wp2_with (first | (go_at_call 51; (with_reducible refine (cooperageref1_plain.calls (bt a0 x5_2) t644 _ A10.out).mono ?_); rintro e w' ⟨rfl, ⟨nd, rfl⟩⟩))
        go_meet
        case rel => exact ⟨_, (!t644), zS, H', ⟨by have := HJ1.out; have := HK2.out; first | omega | exact Nat.le_refl _⟩, zd0⟩
       rw [if_neg c7] at H
       have c7b0 := zdf c7
       clear c7
       (first | rw [c7b0] | (simp only [i64_w, i32_w]; rw [c7b0]) | rw [isE_ c7b0] | skip)
       have H' := ka H
       clear H
       go_wp2
       go_meet
       case rel => exact ⟨_, (false), zS, H', ⟨by have := HJ1.out; have := HK2.out; first | omega | exact Nat.le_refl _⟩, zd0⟩
      case rest =>
       clear HC6
       try clear c4
       try clear c5
       try clear c5b0
       obtain ⟨kq, x30_5, rfl, HA, HJ5, ⟨mc5, rfl⟩⟩ := hcut
       cases kq with
       | zero => exact absurd HA.out (by simp [cooperageref1_Path.j2])
       | succ kj5 =>
        have H := HA.out
        clear HA
        simp only [cooperageref1_Path.j2] at H
        by_cases c11 : x30_5 = true
        ·subst c11
         rw [if_pos rfl] at H
         obtain rfl := Option.some.inj H
         go_wp2
         go_ret
         exact ⟨by first | rfl | (simp; done) | (simp [*]; done), zd0⟩
        replace c11 := Bool.eq_false_iff.mpr c11
        subst c11
        rw [if_neg (show ¬ (false = true) by decide)] at H
        have HC12 := ka H
        clear H
        go_upto_region 10 with (fail)
        go_cut [40] (fun v40 wc => ∃ (kq : Nat) (x40_11 : Bool), v40 = .bool x40_11 ∧ Aside0 (cooperageref1_Path.j3 kq a0 x3_2 x4_2 x5_2 x40_11 = some r) ∧ Aside0 (kq ≤ kj5) ∧ Drawn0 w wc)
        case first =>
         have H := HC12.out
         clear HC12
         by_cases c13 : x5_2 < (a0.size : Int)
         ·rw [if_pos c13] at H
          have c13b0 := zdt c13
          clear c13
          (first | rw [c13b0] | (simp only [i64_w, i32_w]; rw [c13b0]) | rw [isE_ c13b0] | skip)
          replace H := zif H
          obtain ⟨c14, H⟩ := H
          have c14b0 := zdt c14
          clear c14
          have H' := ka H
          clear H
          have p15 : 0 ≤ (x5_2 : Int) := zD
          have q15 : x5_2 < (a0.size : Int) := zD
          have hx15 := bt_at a0 x5_2
          replace p15 := eq_true p15
          replace q15 := eq_true q15
          go_wp2
          go_meet
          case rel => exact ⟨_, (((bt a0 x5_2) != 47)), zS, H', ⟨by have := HJ1.out; have := HK2.out; have := HJ5.out; first | omega | exact Nat.le_refl _⟩, zd0⟩
         rw [if_neg c13] at H
         have c13b0 := zdf c13
         clear c13
         (first | rw [c13b0] | (simp only [i64_w, i32_w]; rw [c13b0]) | rw [isE_ c13b0] | skip)
         have H' := ka H
         clear H
         go_wp2
         go_meet
         case rel => exact ⟨_, (false), zS, H', ⟨by have := HJ1.out; have := HK2.out; have := HJ5.out; first | omega | exact Nat.le_refl _⟩, zd0⟩
        case rest =>
         clear HC12
         try clear c4
         try clear c5
         try clear c5b0
         try clear c11
         obtain ⟨kq, x40_11, rfl, HA, HJ11, ⟨mc11, rfl⟩⟩ := hcut
         cases kq with
         | zero => exact absurd HA.out (by simp [cooperageref1_Path.j3])
         | succ kj11 =>
          have H := HA.out
          clear HA
          simp only [cooperageref1_Path.j3] at H
          by_cases c16 : x40_11 = true
          ·subst c16
           rw [if_pos rfl] at H
           replace H := zif H
           obtain ⟨c17, H⟩ := H
           have c17b0 := eq_true c17
           have c17b1 := zdt c17
           clear c17
           replace H := zif H
           obtain ⟨c18, H⟩ := H
           have c18b0 := eq_true c18
           have c18b1 := zdt c18
           replace H := zif H
           obtain ⟨c19, H⟩ := H
           have c19b0 := eq_true c19
           have c19b1 := zdt c19
           replace H := zif H
           obtain ⟨c20, H⟩ := H
           have c20b0 := eq_true c20
           have c20b1 := zdt c20
           try have c20b2 : (9223372036854775807 < x4_2.size + (a0.extract (x5_2 : Int).toNat ((wrap64 (x5_2 + 1)) : Int).toNat).size) = False := eq_false (Nat.not_lt.2 c20)
           have H' := ka H
           clear H
           go_wp2
           go_roundg kj11
           case measure => have := HJ1.out; have := HK2.out; have := HJ5.out; have := HJ11.out; omega
           case rel => exact ⟨(x3_2), (x4_2 ++ (a0.extract (x5_2 : Int).toNat ((wrap64 (x5_2 + 1)) : Int).toNat)), (wrap64 (x5_2 + 1)), zS, zS, zS, H', ⟨by have := HJ1.out; have := HK2.out; have := HJ5.out; have := HJ11.out; omega⟩, zd0⟩
          replace c16 := Bool.eq_false_iff.mpr c16
          subst c16
          rw [if_neg (show ¬ (false = true) by decide)] at H
          by_cases c21 : x4_2.toList = ([] : List UInt8)
          ·rw [if_pos c21] at H
           have c21b0 := zb0 c21
           have c21b1 := zb1 c21
           clear c21
           obtain rfl := Option.some.inj H
           go_wp2
           go_ret
           exact ⟨by first | rfl | (simp; done) | (simp [*]; done), zd0⟩
          rw [if_neg c21] at H
          have c21b0 := zn0 c21
          have c21b1 := zn1 c21
          by_cases c22 : x4_2.toList = ([46] : List UInt8)
          ·rw [if_pos c22] at H
           have c22b0 := zb0 c22
           have c22b1 := zb1 c22
           clear c22
           obtain rfl := Option.some.inj H
           go_wp2
           go_ret
           exact ⟨by first | rfl | (simp; done) | (simp [*]; done), zd0⟩
          rw [if_neg c22] at H
          have c22b0 := zn0 c22
          have c22b1 := zn1 c22
          by_cases c23 : x4_2.toList = ([46, 46] : List UInt8)
          ·rw [if_pos c23] at H
           have c23b0 := zb0 c23
           have c23b1 := zb1 c23
           clear c23
           obtain rfl := Option.some.inj H
           go_wp2
           go_ret
           exact ⟨by first | rfl | (simp; done) | (simp [*]; done), zd0⟩
          rw [if_neg c23] at H
          have c23b0 := zn0 c23
          have c23b1 := zn1 c23
          have H' := ka H
          clear H
          go_wp2
          go_roundg kj11
          case measure => have := HJ1.out; have := HK2.out; have := HJ5.out; have := HJ11.out; omega
          case rel => exact ⟨(wrap64 (x3_2 + 1)), ((⟨#[]⟩ : ByteArray)), (wrap64 (x5_2 + 1)), zS, zS, zS, H', ⟨by have := HJ1.out; have := HK2.out; have := HJ5.out; have := HJ11.out; omega⟩, zd0⟩
     rw [if_neg c5] at H
     have c5b0 := zdf c5
     clear c5
     obtain rfl := Option.some.inj H
     go_wp2
     go_ret
     exact ⟨by first | rfl | (simp; done) | (simp [*]; done), zd0⟩

end Go.Proofs.YtjdadmjomjhpcaaDoor.PLease
