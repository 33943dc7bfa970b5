-- Written by a program of this session (wip/tools/ext.py, over the kit's printer); not trusted: Lean checks it.
import Derived.Test.YthnholondnfjoaaDoorPParsex0
namespace Go.Proofs.YthnholondnfjoaaDoor.PParse
open Go.RowKit Go.Proofs.YthnholondnfjoaaDoorW.PrintWords Go.Proofs.YthnholondnfjoaaDoorW.PrintLast Go.Proofs.YthnholondnfjoaaDoorW.PrintMore
attribute [local go_sem] max2_int min2_int max_two min_two max_three min_three max_four min_four
set_option linter.unusedVariables false
set_option linter.unusedSimpArgs false
set_option maxHeartbeats 8000000
set_option maxRecDepth 100000

/-! ### cooperageref9_Name: function 16 -/
mutual
def cooperageref9_Name.l0 : Nat → ByteArray → Int → Option (Bool)
 | 0, _, _ => none
 | k + 1, x0, x3 => if x3 < (x0.size : Int) then (if 0 ≤ x3 then (if (bt x0 x3) ≥ 65 then (if (bt x0 x3) ≤ 90 then (cooperageref9_Name.j1 k x0 x3 (!true)) else (if (bt x0 x3) ≥ 97 then (if (bt x0 x3) ≤ 122 then (cooperageref9_Name.j1 k x0 x3 (!true)) else (if (bt x0 x3) ≥ 48 then (if (bt x0 x3) ≤ 57 then (cooperageref9_Name.j1 k x0 x3 (!true)) else (if (bt x0 x3) = 95 then (cooperageref9_Name.j1 k x0 x3 (!true)) else (if (bt x0 x3) = 45 then (cooperageref9_Name.j1 k x0 x3 (!true)) else (cooperageref9_Name.j1 k x0 x3 (!((bt x0 x3) == 46)))))) else (if (bt x0 x3) = 95 then (cooperageref9_Name.j1 k x0 x3 (!true)) else (if (bt x0 x3) = 45 then (cooperageref9_Name.j1 k x0 x3 (!true)) else (cooperageref9_Name.j1 k x0 x3 (!((bt x0 x3) == 46))))))) else (if (bt x0 x3) ≥ 48 then (if (bt x0 x3) ≤ 57 then (cooperageref9_Name.j1 k x0 x3 (!true)) else (if (bt x0 x3) = 95 then (cooperageref9_Name.j1 k x0 x3 (!true)) else (if (bt x0 x3) = 45 then (cooperageref9_Name.j1 k x0 x3 (!true)) else (cooperageref9_Name.j1 k x0 x3 (!((bt x0 x3) == 46)))))) else (if (bt x0 x3) = 95 then (cooperageref9_Name.j1 k x0 x3 (!true)) else (if (bt x0 x3) = 45 then (cooperageref9_Name.j1 k x0 x3 (!true)) else (cooperageref9_Name.j1 k x0 x3 (!((bt x0 x3) == 46)))))))) else (if (bt x0 x3) ≥ 97 then (if (bt x0 x3) ≤ 122 then (cooperageref9_Name.j1 k x0 x3 (!true)) else (if (bt x0 x3) ≥ 48 then (if (bt x0 x3) ≤ 57 then (cooperageref9_Name.j1 k x0 x3 (!true)) else (if (bt x0 x3) = 95 then (cooperageref9_Name.j1 k x0 x3 (!true)) else (if (bt x0 x3) = 45 then (cooperageref9_Name.j1 k x0 x3 (!true)) else (cooperageref9_Name.j1 k x0 x3 (!((bt x0 x3) == 46)))))) else (if (bt x0 x3) = 95 then (cooperageref9_Name.j1 k x0 x3 (!true)) else (if (bt x0 x3) = 45 then (cooperageref9_Name.j1 k x0 x3 (!true)) else (cooperageref9_Name.j1 k x0 x3 (!((bt x0 x3) == 46))))))) else (if (bt x0 x3) ≥ 48 then (if (bt x0 x3) ≤ 57 then (cooperageref9_Name.j1 k x0 x3 (!true)) else (if (bt x0 x3) = 95 then (cooperageref9_Name.j1 k x0 x3 (!true)) else (if (bt x0 x3) = 45 then (cooperageref9_Name.j1 k x0 x3 (!true)) else (cooperageref9_Name.j1 k x0 x3 (!((bt x0 x3) == 46)))))) else (if (bt x0 x3) = 95 then (cooperageref9_Name.j1 k x0 x3 (!true)) else (if (bt x0 x3) = 45 then (cooperageref9_Name.j1 k x0 x3 (!true)) else (cooperageref9_Name.j1 k x0 x3 (!((bt x0 x3) == 46)))))))) else (none)) else (if x0.toList = ([] : List UInt8) then (some false) else (some (decide ((x0.size : Int) ≤ 40))))
def cooperageref9_Name.j1 : Nat → ByteArray → Int → Bool → Option (Bool)
 | 0, _, _, _ => none
 | k + 1, x0, x3, x48 => if x48 = true then (some false) else (cooperageref9_Name.l0 k x0 (wrap64 (x3 + 1)))
end
def cooperageref9_Name.f (k : Nat) (a0 : ByteArray) : Option (Bool) := cooperageref9_Name.l0 k a0 0
theorem cooperageref9_Name.mono_l : ∀ k, (∀ y0 y1, LeO (cooperageref9_Name.l0 k y0 y1) (cooperageref9_Name.l0 (k + 1) y0 y1)) ∧ (∀ y0 y1 y2, LeO (cooperageref9_Name.j1 k y0 y1 y2) (cooperageref9_Name.j1 (k + 1) y0 y1 y2))
 | 0 => ⟨fun _ _ r h => by simp [cooperageref9_Name.l0] at h, fun _ _ _ r h => by simp [cooperageref9_Name.j1] at h⟩
 | k + 1 => by
  obtain ⟨ih0, ih1⟩ := cooperageref9_Name.mono_l k
  refine ⟨?_, ?_⟩
  ·intros
   unfold cooperageref9_Name.l0
   exact zLe
  ·intros
   unfold cooperageref9_Name.j1
   exact zLe
theorem cooperageref9_Name.mono : ∀ a0 k, LeO (cooperageref9_Name.f k a0) (cooperageref9_Name.f (k + 1) a0) := by
 intro a0 k
 obtain ⟨ih0, ih1⟩ := cooperageref9_Name.mono_l k
 unfold cooperageref9_Name.f
 exact zLe
theorem cooperageref9_Name.calls (k : Nat) (a0 : ByteArray) (r : Bool) (w : World) (h : cooperageref9_Name.f k a0 = some r) :
  Calls Tryd.prog 16 #[.string a0] w fun e w' => e = .returned (.bool r) ∧ Drawn0 w w' := by
 have H : (cooperageref9_Name.l0 k a0 0) = some r := h
 clear h
 have H' := ka H
 clear H
 go_enter Tryd.func16, Tryd.ntmps16
 go_wp2
 go_loopg [3] k (fun kq v3 w' => ∃ (x3_1 : Int), v3 = .int .i64 x3_1 ∧ Aside0 (cooperageref9_Name.l0 kq a0 x3_1 = some r) ∧ Aside0 (kq ≤ k) ∧ Drawn0 w w')
 case atStart => exact ⟨(0), zS, H', ⟨Nat.le_refl _⟩, zd0⟩
 case round =>
  clear H'
  obtain ⟨x3_1, rfl, HA, HK1, ⟨m1, rfl⟩⟩ := hrel
  cases gk with
  | zero => exact absurd HA.out (by simp [cooperageref9_Name.l0])
  | succ k1 =>
   have H := HA.out
   clear HA
   simp only [cooperageref9_Name.l0] at H
   by_cases c2 : x3_1 < (a0.size : Int)
   ·rw [if_pos c2] at H
    have c2b0 := zdt c2
    clear c2
    replace H := zif H
    obtain ⟨c3, H⟩ := H
    have c3b0 := zdt c3
    clear c3
    have HC5 := ka H
    clear H
    have p4 : 0 ≤ (x3_1 : Int) := zD
    have q4 : x3_1 < (a0.size : Int) := zD
    have hx4 := bt_at a0 x3_1
    replace p4 := eq_true p4
    replace q4 := eq_true q4
    go_upto_region 5 with (fail)
    go_cut [48] (fun v48 wc => ∃ (kq : Nat) (x48_4 : Bool), v48 = .bool x48_4 ∧ Aside0 (cooperageref9_Name.j1 kq a0 x3_1 x48_4 = some r) ∧ Aside0 (kq ≤ k1) ∧ Drawn0 w wc)
    case first =>
     have H := HC5.out
     clear HC5
     by_cases c6 : (bt a0 x3_1) ≥ 65
     case neg =>
      rw [if_neg c6] at H
      have c6b0 : decide (65 ≤ (bt a0 x3_1)) = false := zdf c6
      clear c6
      (first | rw [c6b0] | (simp only [i64_w, i32_w]; rw [c6b0]) | rw [isE_ c6b0] | skip)
      by_cases c22 : (bt a0 x3_1) ≥ 97
      ·rw [if_pos c22] at H
       have c22b0 : decide (97 ≤ (bt a0 x3_1)) = true := zdt c22
       clear c22
       by_cases c23 : (bt a0 x3_1) ≤ 122
       ·rw [if_pos c23] at H
        have c23b0 := zdt c23
        clear c23
        have H' := ka H
        clear H
        go_wp2
        go_meet
        case rel => exact ⟨_, (!true), zS, H', ⟨by have := HK1.out; first | omega | exact Nat.le_refl _⟩, zd0⟩
       ·rw [if_neg c23] at H
        have c23b0 := zdf c23
        clear c23
        by_cases c24 : (bt a0 x3_1) ≥ 48
        ·rw [if_pos c24] at H
         have c24b0 : decide (48 ≤ (bt a0 x3_1)) = true := zdt c24
         clear c24
         by_cases c25 : (bt a0 x3_1) ≤ 57
         ·rw [if_pos c25] at H
          have c25b0 := zdt c25
          clear c25
          have H' := ka H
          clear H
          go_wp2
          go_meet
          case rel => exact ⟨_, (!true), zS, H', ⟨by have := HK1.out; first | omega | exact Nat.le_refl _⟩, zd0⟩
         ·rw [if_neg c25] at H
          have c25b0 := zdf c25
          clear c25
          by_cases c26 : (bt a0 x3_1) = 95
          ·rw [if_pos c26] at H
           have c26b0 := zb0 c26
           have c26b1 := zb1 c26
           clear c26
           have H' := ka H
           clear H
           go_wp2
           go_meet
           case rel => exact ⟨_, (!true), zS, H', ⟨by have := HK1.out; first | omega | exact Nat.le_refl _⟩, zd0⟩
          ·rw [if_neg c26] at H
           have c26b0 := zn0 c26
           have c26b1 := zn1 c26
           by_cases c27 : (bt a0 x3_1) = 45
           ·rw [if_pos c27] at H
            have c27b0 := zb0 c27
            have c27b1 := zb1 c27
            clear c27
            have H' := ka H
            clear H
            go_wp2
            go_meet
            case rel => exact ⟨_, (!true), zS, H', ⟨by have := HK1.out; first | omega | exact Nat.le_refl _⟩, zd0⟩
           ·rw [if_neg c27] at H
            have c27b0 := zn0 c27
            have c27b1 := zn1 c27
            have H' := ka H
            clear H
            go_wp2
            go_meet
            case rel => exact ⟨_, (!((bt a0 x3_1) == 46)), zS, H', ⟨by have := HK1.out; first | omega | exact Nat.le_refl _⟩, zd0⟩
        ·rw [if_neg c24] at H
         have c24b0 : decide (48 ≤ (bt a0 x3_1)) = false := zdf c24
         clear c24
         by_cases c28 : (bt a0 x3_1) = 95
         ·rw [if_pos c28] at H
          have c28b0 := zb0 c28
          have c28b1 := zb1 c28
          clear c28
          have H' := ka H
          clear H
          go_wp2
          go_meet
          case rel => exact ⟨_, (!true), zS, H', ⟨by have := HK1.out; first | omega | exact Nat.le_refl _⟩, zd0⟩
         ·rw [if_neg c28] at H
          have c28b0 := zn0 c28
          have c28b1 := zn1 c28
          by_cases c29 : (bt a0 x3_1) = 45
          ·rw [if_pos c29] at H
           have c29b0 := zb0 c29
           have c29b1 := zb1 c29
           clear c29
           have H' := ka H
           clear H
           go_wp2
           go_meet
           case rel => exact ⟨_, (!true), zS, H', ⟨by have := HK1.out; first | omega | exact Nat.le_refl _⟩, zd0⟩
          ·rw [if_neg c29] at H
           have c29b0 := zn0 c29
           have c29b1 := zn1 c29
           have H' := ka H
           clear H
           go_wp2
           go_meet
           case rel => exact ⟨_, (!((bt a0 x3_1) == 46)), zS, H', ⟨by have := HK1.out; first | omega | exact Nat.le_refl _⟩, zd0⟩
      ·rw [if_neg c22] at H
       have c22b0 : decide (97 ≤ (bt a0 x3_1)) = false := zdf c22
       clear c22
       by_cases c30 : (bt a0 x3_1) ≥ 48
       ·rw [if_pos c30] at H
        have c30b0 : decide (48 ≤ (bt a0 x3_1)) = true := zdt c30
        clear c30
        by_cases c31 : (bt a0 x3_1) ≤ 57
        ·rw [if_pos c31] at H
         have c31b0 := zdt c31
         clear c31
         have H' := ka H
         clear H
         go_wp2
         go_meet
         case rel => exact ⟨_, (!true), zS, H', ⟨by have := HK1.out; first | omega | exact Nat.le_refl _⟩, zd0⟩
        ·rw [if_neg c31] at H
         have c31b0 := zdf c31
         clear c31
         by_cases c32 : (bt a0 x3_1) = 95
         ·rw [if_pos c32] at H
          have c32b0 := zb0 c32
          have c32b1 := zb1 c32
          clear c32
          have H' := ka H
          clear H
          go_wp2
          go_meet
          case rel => exact ⟨_, (!true), zS, H', ⟨by have := HK1.out; first | omega | exact Nat.le_refl _⟩, zd0⟩
         ·rw [if_neg c32] at H
          have c32b0 := zn0 c32
          have c32b1 := zn1 c32
          by_cases c33 : (bt a0 x3_1) = 45
          ·rw [if_pos c33] at H
           have c33b0 := zb0 c33
           have c33b1 := zb1 c33
           clear c33
           have H' := ka H
           clear H
           go_wp2
           go_meet
           case rel => exact ⟨_, (!true), zS, H', ⟨by have := HK1.out; first | omega | exact Nat.le_refl _⟩, zd0⟩
          ·rw [if_neg c33] at H
           have c33b0 := zn0 c33
           have c33b1 := zn1 c33
           have H' := ka H
           clear H
           go_wp2
           go_meet
           case rel => exact ⟨_, (!((bt a0 x3_1) == 46)), zS, H', ⟨by have := HK1.out; first | omega | exact Nat.le_refl _⟩, zd0⟩
       ·rw [if_neg c30] at H
        have c30b0 : decide (48 ≤ (bt a0 x3_1)) = false := zdf c30
        clear c30
        by_cases c34 : (bt a0 x3_1) = 95
        ·rw [if_pos c34] at H
         have c34b0 := zb0 c34
         have c34b1 := zb1 c34
         clear c34
         have H' := ka H
         clear H
         go_wp2
         go_meet
         case rel => exact ⟨_, (!true), zS, H', ⟨by have := HK1.out; first | omega | exact Nat.le_refl _⟩, zd0⟩
        ·rw [if_neg c34] at H
         have c34b0 := zn0 c34
         have c34b1 := zn1 c34
         by_cases c35 : (bt a0 x3_1) = 45
         ·rw [if_pos c35] at H
          have c35b0 := zb0 c35
          have c35b1 := zb1 c35
          clear c35
          have H' := ka H
          clear H
          go_wp2
          go_meet
          case rel => exact ⟨_, (!true), zS, H', ⟨by have := HK1.out; first | omega | exact Nat.le_refl _⟩, zd0⟩
         ·rw [if_neg c35] at H
          have c35b0 := zn0 c35
          have c35b1 := zn1 c35
          have H' := ka H
          clear H
          go_wp2
          go_meet
          case rel => exact ⟨_, (!((bt a0 x3_1) == 46)), zS, H', ⟨by have := HK1.out; first | omega | exact Nat.le_refl _⟩, zd0⟩
     case' pos =>
      rw [if_pos c6] at H
      have c6b0 : decide (65 ≤ (bt a0 x3_1)) = true := zdt c6
      clear c6
      (first | rw [c6b0] | (simp only [i64_w, i32_w]; rw [c6b0]) | rw [isE_ c6b0] | skip)
      by_cases c7 : (bt a0 x3_1) ≤ 90
      case' pos =>
       rw [if_pos c7] at H
       have c7b0 := zdt c7
       clear c7
      case' neg =>
       rw [if_neg c7] at H
       have c7b0 := zdf c7
       clear c7
       by_cases c8 : (bt a0 x3_1) ≥ 97
       case neg =>
        rw [if_neg c8] at H
        have c8b0 : decide (97 ≤ (bt a0 x3_1)) = false := zdf c8
        clear c8
        by_cases c16 : (bt a0 x3_1) ≥ 48
        ·rw [if_pos c16] at H
         have c16b0 : decide (48 ≤ (bt a0 x3_1)) = true := zdt c16
         clear c16
         by_cases c17 : (bt a0 x3_1) ≤ 57
         ·rw [if_pos c17] at H
          have c17b0 := zdt c17
          clear c17
          have H' := ka H
          clear H
          go_wp2
          go_meet
          case rel => exact ⟨_, (!true), zS, H', ⟨by have := HK1.out; first | omega | exact Nat.le_refl _⟩, zd0⟩
         ·rw [if_neg c17] at H
          have c17b0 := zdf c17
          clear c17
          by_cases c18 : (bt a0 x3_1) = 95
          ·rw [if_pos c18] at H
           have c18b0 := zb0 c18
           have c18b1 := zb1 c18
           clear c18
           have H' := ka H
           clear H
           go_wp2
           go_meet
           case rel => exact ⟨_, (!true), zS, H', ⟨by have := HK1.out; first | omega | exact Nat.le_refl _⟩, zd0⟩
          ·rw [if_neg c18] at H
           have c18b0 := zn0 c18
           have c18b1 := zn1 c18
           by_cases c19 : (bt a0 x3_1) = 45
           ·rw [if_pos c19] at H
            have c19b0 := zb0 c19
            have c19b1 := zb1 c19
            clear c19
            have H' := ka H
            clear H
            go_wp2
            go_meet
            case rel => exact ⟨_, (!true), zS, H', ⟨by have := HK1.out; first | omega | exact Nat.le_refl _⟩, zd0⟩
           ·rw [if_neg c19] at H
            have c19b0 := zn0 c19
            have c19b1 := zn1 c19
            have H' := ka H
            clear H
            go_wp2
            go_meet
            case rel => exact ⟨_, (!((bt a0 x3_1) == 46)), zS, H', ⟨by have := HK1.out; first | omega | exact Nat.le_refl _⟩, zd0⟩
        ·rw [if_neg c16] at H
         have c16b0 : decide (48 ≤ (bt a0 x3_1)) = false := zdf c16
         clear c16
         by_cases c20 : (bt a0 x3_1) = 95
         ·rw [if_pos c20] at H
          have c20b0 := zb0 c20
          have c20b1 := zb1 c20
          clear c20
          have H' := ka H
          clear H
          go_wp2
          go_meet
          case rel => exact ⟨_, (!true), zS, H', ⟨by have := HK1.out; first | omega | exact Nat.le_refl _⟩, zd0⟩
         ·rw [if_neg c20] at H
          have c20b0 := zn0 c20
          have c20b1 := zn1 c20
          by_cases c21 : (bt a0 x3_1) = 45
          ·rw [if_pos c21] at H
           have c21b0 := zb0 c21
           have c21b1 := zb1 c21
           clear c21
           have H' := ka H
           clear H
           go_wp2
           go_meet
           case rel => exact ⟨_, (!true), zS, H', ⟨by have := HK1.out; first | omega | exact Nat.le_refl _⟩, zd0⟩
          ·rw [if_neg c21] at H
           have c21b0 := zn0 c21
           have c21b1 := zn1 c21
           have H' := ka H
           clear H
           go_wp2
           go_meet
           case rel => exact ⟨_, (!((bt a0 x3_1) == 46)), zS, H', ⟨by have := HK1.out; first | omega | exact Nat.le_refl _⟩, zd0⟩
       case' pos =>
        rw [if_pos c8] at H
        have c8b0 : decide (97 ≤ (bt a0 x3_1)) = true := zdt c8
        clear c8
        by_cases c9 : (bt a0 x3_1) ≤ 122
        case' pos =>
         rw [if_pos c9] at H
         have c9b0 := zdt c9
         clear c9
        case' neg =>
         rw [if_neg c9] at H
         have c9b0 := zdf c9
         clear c9
         by_cases c10 : (bt a0 x3_1) ≥ 48
         case neg =>
          rw [if_neg c10] at H
          have c10b0 : decide (48 ≤ (bt a0 x3_1)) = false := zdf c10
          clear c10
          by_cases c14 : (bt a0 x3_1) = 95
          ·rw [if_pos c14] at H
           have c14b0 := zb0 c14
           have c14b1 := zb1 c14
           clear c14
           have H' := ka H
           clear H
           go_wp2
           go_meet
           case rel => exact ⟨_, (!true), zS, H', ⟨by have := HK1.out; first | omega | exact Nat.le_refl _⟩, zd0⟩
          ·rw [if_neg c14] at H
           have c14b0 := zn0 c14
           have c14b1 := zn1 c14
           by_cases c15 : (bt a0 x3_1) = 45
           ·rw [if_pos c15] at H
            have c15b0 := zb0 c15
            have c15b1 := zb1 c15
            clear c15
            have H' := ka H
            clear H
            go_wp2
            go_meet
            case rel => exact ⟨_, (!true), zS, H', ⟨by have := HK1.out; first | omega | exact Nat.le_refl _⟩, zd0⟩
           ·rw [if_neg c15] at H
            have c15b0 := zn0 c15
            have c15b1 := zn1 c15
            have H' := ka H
            clear H
            go_wp2
            go_meet
            case rel => exact ⟨_, (!((bt a0 x3_1) == 46)), zS, H', ⟨by have := HK1.out; first | omega | exact Nat.le_refl _⟩, zd0⟩
         case' pos =>
          rw [if_pos c10] at H
          have c10b0 : decide (48 ≤ (bt a0 x3_1)) = true := zdt c10
          clear c10
          by_cases c11 : (bt a0 x3_1) ≤ 57
          case' pos =>
           rw [if_pos c11] at H
           have c11b0 := zdt c11
           clear c11
          case' neg =>
           rw [if_neg c11] at H
           have c11b0 := zdf c11
           clear c11
           by_cases c12 : (bt a0 x3_1) = 95
           case' pos =>
            rw [if_pos c12] at H
            have c12b0 := zb0 c12
            have c12b1 := zb1 c12
            clear c12
           case' neg =>
            rw [if_neg c12] at H
            have c12b0 := zn0 c12
            have c12b1 := zn1 c12
            by_cases c13 : (bt a0 x3_1) = 45
            case neg =>
             rw [if_neg c13] at H
             have c13b0 := zn0 c13
             have c13b1 := zn1 c13
             have H' := ka H
             clear H
             go_wp2
             go_meet
             case rel => exact ⟨_, (!((bt a0 x3_1) == 46)), zS, H', ⟨by have := HK1.out; first | omega | exact Nat.le_refl _⟩, zd0⟩
            case' pos =>
             rw [if_pos c13] at H
             have c13b0 := zb0 c13
             have c13b1 := zb1 c13
             clear c13
     all_goals
      have H' := ka H
      clear H
      go_wp2
      go_meet
      case rel => exact ⟨_, (!true), zS, H', ⟨by have := HK1.out; first | omega | exact Nat.le_refl _⟩, zd0⟩
    case rest =>
     clear HC5
     try clear c2
     try clear c2b0
     try clear c3
     try clear c3b0
     try clear p4
     try clear q4
     try clear hx4
     try clear p4
     try clear q4
     obtain ⟨kq, x48_4, rfl, HA, HJ4, ⟨mc4, rfl⟩⟩ := hcut
     cases kq with
     | zero => exact absurd HA.out (by simp [cooperageref9_Name.j1])
     | succ kj4 =>
      have H := HA.out
      clear HA
      simp only [cooperageref9_Name.j1] at H
      by_cases c36 : x48_4 = true
      ·subst c36
       rw [if_pos rfl] at H
       obtain rfl := Option.some.inj H
       go_wp2
       go_ret
       exact ⟨by first | rfl | (simp; done) | (simp [*]; done), zd0⟩
      replace c36 := Bool.eq_false_iff.mpr c36
      subst c36
      rw [if_neg (show ¬ (false = true) by decide)] at H
      have H' := ka H
      clear H
      go_wp2
      go_roundg kj4
      case measure => have := HK1.out; have := HJ4.out; omega
      case rel => exact ⟨(wrap64 (x3_1 + 1)), zS, H', ⟨by have := HK1.out; have := HJ4.out; omega⟩, zd0⟩
   rw [if_neg c2] at H
   have c2b0 := zdf c2
   clear c2
   by_cases c37 : a0.toList = ([] : List UInt8)
   ·rw [if_pos c37] at H
    have c37b0 := zb0 c37
    have c37b1 := zb1 c37
    clear c37
    obtain rfl := Option.some.inj H
    go_wp2
    go_ret
    exact ⟨by first | rfl | (simp; done) | (simp [*]; done), zd0⟩
   rw [if_neg c37] at H
   have c37b0 := zn0 c37
   have c37b1 := zn1 c37
   obtain rfl := Option.some.inj H
   go_wp2
   go_ret
   exact ⟨by first | rfl | (simp; done) | (simp [*]; done), zd0⟩

end Go.Proofs.YthnholondnfjoaaDoor.PParse
