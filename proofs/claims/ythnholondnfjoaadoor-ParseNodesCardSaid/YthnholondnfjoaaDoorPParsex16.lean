-- Written by a program of this session (wip/tools/ext.py, over the kit's printer); not trusted: Lean checks it.
import Derived.Test.YthnholondnfjoaaDoorPParsex0
namespace Go.Proofs.YthnholondnfjoaaDoor.PParse
open Go.RowKit Go.Proofs.YthnholondnfjoaaDoorW.PrintWords Go.Proofs.YthnholondnfjoaaDoorW.PrintLast Go.Proofs.YthnholondnfjoaaDoorW.PrintMore
attribute [local go_sem] max2_int min2_int max_two min_two max_three min_three max_four min_four
set_option linter.unusedVariables false
set_option linter.unusedSimpArgs false
set_option maxHeartbeats 8000000
set_option maxRecDepth 100000

/-! ### cooperageref8_right: function 37 -/
def cooperageref8_right.l0 : Nat → ByteArray → Option (ByteArray)
 | 0, _ => none
 | k + 1, x0 => if x0.toList = ([] : List UInt8) then (some x0) else (if 0 ≤ (wrap64 ((x0.size : Int) - 1)) then (if (wrap64 ((x0.size : Int) - 1)) < (x0.size : Int) then (if (bt x0 (wrap64 ((x0.size : Int) - 1))) = 32 then (if (wrap64 ((x0.size : Int) - 1)) ≤ (x0.size : Int) then (cooperageref8_right.l0 k (x0.extract 0 ((wrap64 ((x0.size : Int) - 1)) : Int).toNat)) else (none)) else (if (bt x0 (wrap64 ((x0.size : Int) - 1))) = 9 then (if (wrap64 ((x0.size : Int) - 1)) ≤ (x0.size : Int) then (cooperageref8_right.l0 k (x0.extract 0 ((wrap64 ((x0.size : Int) - 1)) : Int).toNat)) else (none)) else (some x0))) else (none)) else (none))
def cooperageref8_right.f (k : Nat) (a0 : ByteArray) : Option (ByteArray) := cooperageref8_right.l0 k a0
theorem cooperageref8_right.mono_l : ∀ k, (∀ y0, LeO (cooperageref8_right.l0 k y0) (cooperageref8_right.l0 (k + 1) y0))
 | 0 => fun _ r h => by simp [cooperageref8_right.l0] at h
 | k + 1 => by
  have ih0 := cooperageref8_right.mono_l k
  ·intro y0
   unfold cooperageref8_right.l0
   exact zLe
theorem cooperageref8_right.mono : ∀ a0 k, LeO (cooperageref8_right.f k a0) (cooperageref8_right.f (k + 1) a0) := by
 intro a0 k
 have ih0 := cooperageref8_right.mono_l k
 unfold cooperageref8_right.f
 exact zLe
theorem cooperageref8_right.calls (k : Nat) (a0 : ByteArray) (r : ByteArray) (w : World) (h : cooperageref8_right.f k a0 = some r) :
  Calls Tryd.prog 37 #[.string a0] w fun e w' => e = .returned (.string r) ∧ Drawn0 w w' := by
 have H : (cooperageref8_right.l0 k a0) = some r := h
 clear h
 have H' := ka H
 clear H
 go_enter Tryd.func37, Tryd.ntmps37
 go_wp2
 go_loopg [0] k (fun kq v0 w' => ∃ (x0_1 : ByteArray), v0 = .string x0_1 ∧ Aside0 (cooperageref8_right.l0 kq x0_1 = some r) ∧ Aside0 (kq ≤ k) ∧ Drawn0 w w')
 case atStart => exact ⟨(a0), zS, H', ⟨Nat.le_refl _⟩, zd0⟩
 case round =>
  clear H'
  obtain ⟨x0_1, rfl, HA, HK1, ⟨m1, rfl⟩⟩ := hrel
  cases gk with
  | zero => exact absurd HA.out (by simp [cooperageref8_right.l0])
  | succ k1 =>
   have H := HA.out
   clear HA
   simp only [cooperageref8_right.l0] at H
   by_cases c2 : x0_1.toList = ([] : List UInt8)
   ·rw [if_pos c2] at H
    have c2b0 := zb0 c2
    have c2b1 := zb1 c2
    clear c2
    obtain rfl := Option.some.inj H
    go_wp2
    go_ret
    exact ⟨by first | rfl | (simp; done) | (simp [*]; done), zd0⟩
   rw [if_neg c2] at H
   have c2b0 := zn0 c2
   have c2b1 := zn1 c2
   obtain ⟨ji3, hji3⟩ : ∃ j_ : Int, (wrap64 ((x0_1.size : Int) - 1)) = j_ := ⟨_, rfl⟩
   replace H : (if 0 ≤ (ji3) then (if (ji3) < (x0_1.size : Int) then (if (bt x0_1 (ji3)) = 32 then (if (ji3) ≤ (x0_1.size : Int) then (cooperageref8_right.l0 k1 (x0_1.extract 0 ((ji3) : Int).toNat)) else (none)) else (if (bt x0_1 (ji3)) = 9 then (if (ji3) ≤ (x0_1.size : Int) then (cooperageref8_right.l0 k1 (x0_1.extract 0 ((ji3) : Int).toNat)) else (none)) else (some x0_1))) else (none)) else (none)) = some r := by first | (rw [hji3] at H; exact H) | (simp only [hji3] at H ⊢; exact H)
   have hji3w : (IntKind.i64.wrap ((x0_1.size : Int) - 1)) = ji3 := (i64_w _).trans hji3
   replace H := zif H
   obtain ⟨c4, H⟩ := H
   have c4b0 := zdt c4
   clear c4
   replace H := zif H
   obtain ⟨c5, H⟩ := H
   have c5b0 := zdt c5
   clear c5
   by_cases c7 : (bt x0_1 (ji3)) = 32
   ·rw [if_pos c7] at H
    have c7b0 := zb0 c7
    have c7b1 := zb1 c7
    clear c7
    have c8b0 := eq_true (zD : 0 ≤ (ji3))
    replace H := zif H
    obtain ⟨c9, H⟩ := H
    have c9b0 := eq_true c9
    have c9b1 := zdt c9
    clear c9
    have H' := ka H
    clear H
    have p6 : 0 ≤ ((ji3) : Int) := zD
    have q6 : (ji3) < (x0_1.size : Int) := zD
    have hx6 := bt_at x0_1 (ji3)
    replace p6 := eq_true p6
    replace q6 := eq_true q6
    go_wp2
    go_roundg k1
    case measure => have := HK1.out; omega
    case rel => exact ⟨(x0_1.extract 0 ((ji3) : Int).toNat), (by first | rfl | (simp; done) | (simp only [← hji3] <;> (first | rfl | simp)) | (simp [*]; done)), H', ⟨by have := HK1.out; omega⟩, zd0⟩
   rw [if_neg c7] at H
   have c7b0 := zn0 c7
   have c7b1 := zn1 c7
   by_cases c11 : (bt x0_1 (ji3)) = 9
   ·rw [if_pos c11] at H
    have c11b0 := zb0 c11
    have c11b1 := zb1 c11
    clear c11
    have c12b0 := eq_true (zD : 0 ≤ (ji3))
    replace H := zif H
    obtain ⟨c13, H⟩ := H
    have c13b0 := eq_true c13
    have c13b1 := zdt c13
    clear c13
    have H' := ka H
    clear H
    have p6 : 0 ≤ ((ji3) : Int) := zD
    have q6 : (ji3) < (x0_1.size : Int) := zD
    have hx6 := bt_at x0_1 (ji3)
    replace p6 := eq_true p6
    replace q6 := eq_true q6
    have p10 : 0 ≤ ((ji3) : Int) := zD
    have q10 : (ji3) < (x0_1.size : Int) := zD
    have hx10 := bt_at x0_1 (ji3)
    replace p10 := eq_true p10
    replace q10 := eq_true q10
    go_wp2
    go_roundg k1
    case measure => have := HK1.out; omega
    case rel => exact ⟨(x0_1.extract 0 ((ji3) : Int).toNat), (by first | rfl | (simp; done) | (simp only [← hji3] <;> (first | rfl | simp)) | (simp [*]; done)), H', ⟨by have := HK1.out; omega⟩, zd0⟩
   rw [if_neg c11] at H
   have c11b0 := zn0 c11
   have c11b1 := zn1 c11
   obtain rfl := Option.some.inj H
   have p6 : 0 ≤ ((ji3) : Int) := zD
   have q6 : (ji3) < (x0_1.size : Int) := zD
   have hx6 := bt_at x0_1 (ji3)
   replace p6 := eq_true p6
   replace q6 := eq_true q6
   have p10 : 0 ≤ ((ji3) : Int) := zD
   have q10 : (ji3) < (x0_1.size : Int) := zD
   have hx10 := bt_at x0_1 (ji3)
   replace p10 := eq_true p10
   replace q10 := eq_true q10
   go_wp2
   go_ret
   exact ⟨by first | rfl | (simp; done) | (simp only [← hji3] <;> (first | rfl | simp)) | (simp [*]; done), zd0⟩

/-! ### cooperageref8_left: function 38 -/
def cooperageref8_left.l0 : Nat → ByteArray → Option (ByteArray)
 | 0, _ => none
 | k + 1, x0 => if x0.toList = ([] : List UInt8) then (some x0) else (if 0 < (x0.size : Int) then (if (bt x0 0) = 32 then (if 1 ≤ (x0.size : Int) then (cooperageref8_left.l0 k (x0.extract 1 x0.size)) else (none)) else (if (bt x0 0) = 9 then (if 1 ≤ (x0.size : Int) then (cooperageref8_left.l0 k (x0.extract 1 x0.size)) else (none)) else (some x0))) else (none))
def cooperageref8_left.f (k : Nat) (a0 : ByteArray) : Option (ByteArray) := cooperageref8_left.l0 k a0
theorem cooperageref8_left.mono_l : ∀ k, (∀ y0, LeO (cooperageref8_left.l0 k y0) (cooperageref8_left.l0 (k + 1) y0))
 | 0 => fun _ r h => by simp [cooperageref8_left.l0] at h
 | k + 1 => by
  have ih0 := cooperageref8_left.mono_l k
  ·intro y0
   unfold cooperageref8_left.l0
   exact zLe
theorem cooperageref8_left.mono : ∀ a0 k, LeO (cooperageref8_left.f k a0) (cooperageref8_left.f (k + 1) a0) := by
 intro a0 k
 have ih0 := cooperageref8_left.mono_l k
 unfold cooperageref8_left.f
 exact zLe
theorem cooperageref8_left.calls (k : Nat) (a0 : ByteArray) (r : ByteArray) (w : World) (h : cooperageref8_left.f k a0 = some r) :
  Calls Tryd.prog 38 #[.string a0] w fun e w' => e = .returned (.string r) ∧ Drawn0 w w' := by
 have H : (cooperageref8_left.l0 k a0) = some r := h
 clear h
 have H' := ka H
 clear H
 go_enter Tryd.func38, Tryd.ntmps38
 go_wp2
 go_loopg [0] k (fun kq v0 w' => ∃ (x0_1 : ByteArray), v0 = .string x0_1 ∧ Aside0 (cooperageref8_left.l0 kq x0_1 = some r) ∧ Aside0 (kq ≤ k) ∧ Drawn0 w w')
 case atStart => exact ⟨(a0), zS, H', ⟨Nat.le_refl _⟩, zd0⟩
 case round =>
  clear H'
  obtain ⟨x0_1, rfl, HA, HK1, ⟨m1, rfl⟩⟩ := hrel
  cases gk with
  | zero => exact absurd HA.out (by simp [cooperageref8_left.l0])
  | succ k1 =>
   have H := HA.out
   clear HA
   simp only [cooperageref8_left.l0] at H
   by_cases c2 : x0_1.toList = ([] : List UInt8)
   ·rw [if_pos c2] at H
    have c2b0 := zb0 c2
    have c2b1 := zb1 c2
    clear c2
    obtain rfl := Option.some.inj H
    go_wp2
    go_ret
    exact ⟨by first | rfl | (simp; done) | (simp [*]; done), zd0⟩
   rw [if_neg c2] at H
   have c2b0 := zn0 c2
   have c2b1 := zn1 c2
   replace H := zif H
   obtain ⟨c3, H⟩ := H
   have c3b0 := zdt c3
   have c3b1 : decide (0 < x0_1.size) = true := decide_eq_true (by omega)
   clear c3
   by_cases c5 : (bt x0_1 0) = 32
   ·rw [if_pos c5] at H
    have c5b0 := zb0 c5
    have c5b1 := zb1 c5
    clear c5
    replace H := zif H
    obtain ⟨c6, H⟩ := H
    have c6b0 := eq_true c6
    have c6b1 := zdt c6
    clear c6
    have H' := ka H
    clear H
    have p4 : 0 ≤ (0 : Int) := (by omega)
    have q4 : 0 < x0_1.size := (by have : (0 : Int) < (x0_1.size : Int) := zD; omega)
    have hx4 : ∀ h : 0 < x0_1.size, ((x0_1[0]'h).toNat : Int) = bt x0_1 0 := bt_at x0_1 0
    clear p4
    have qi4 : (0 < (x0_1.size : Int)) = True := eq_true zD
    replace q4 := eq_true q4
    go_wp2
    go_roundg k1
    case measure => have := HK1.out; omega
    case rel => exact ⟨(x0_1.extract 1 x0_1.size), zS, H', ⟨by have := HK1.out; omega⟩, zd0⟩
   rw [if_neg c5] at H
   have c5b0 := zn0 c5
   have c5b1 := zn1 c5
   by_cases c8 : (bt x0_1 0) = 9
   ·rw [if_pos c8] at H
    have c8b0 := zb0 c8
    have c8b1 := zb1 c8
    clear c8
    replace H := zif H
    obtain ⟨c9, H⟩ := H
    have c9b0 := eq_true c9
    have c9b1 := zdt c9
    clear c9
    have H' := ka H
    clear H
    have p4 : 0 ≤ (0 : Int) := (by omega)
    have q4 : 0 < x0_1.size := (by have : (0 : Int) < (x0_1.size : Int) := zD; omega)
    have hx4 : ∀ h : 0 < x0_1.size, ((x0_1[0]'h).toNat : Int) = bt x0_1 0 := bt_at x0_1 0
    clear p4
    have qi4 : (0 < (x0_1.size : Int)) = True := eq_true zD
    replace q4 := eq_true q4
    have p7 : 0 ≤ (0 : Int) := (by omega)
    have q7 : 0 < x0_1.size := (by have : (0 : Int) < (x0_1.size : Int) := zD; omega)
    have hx7 : ∀ h : 0 < x0_1.size, ((x0_1[0]'h).toNat : Int) = bt x0_1 0 := bt_at x0_1 0
    clear p7
    have qi7 : (0 < (x0_1.size : Int)) = True := eq_true zD
    replace q7 := eq_true q7
    go_wp2
    go_roundg k1
    case measure => have := HK1.out; omega
    case rel => exact ⟨(x0_1.extract 1 x0_1.size), zS, H', ⟨by have := HK1.out; omega⟩, zd0⟩
   rw [if_neg c8] at H
   have c8b0 := zn0 c8
   have c8b1 := zn1 c8
   obtain rfl := Option.some.inj H
   have p4 : 0 ≤ (0 : Int) := (by omega)
   have q4 : 0 < x0_1.size := (by have : (0 : Int) < (x0_1.size : Int) := zD; omega)
   have hx4 : ∀ h : 0 < x0_1.size, ((x0_1[0]'h).toNat : Int) = bt x0_1 0 := bt_at x0_1 0
   clear p4
   have qi4 : (0 < (x0_1.size : Int)) = True := eq_true zD
   replace q4 := eq_true q4
   have p7 : 0 ≤ (0 : Int) := (by omega)
   have q7 : 0 < x0_1.size := (by have : (0 : Int) < (x0_1.size : Int) := zD; omega)
   have hx7 : ∀ h : 0 < x0_1.size, ((x0_1[0]'h).toNat : Int) = bt x0_1 0 := bt_at x0_1 0
   clear p7
   have qi7 : (0 < (x0_1.size : Int)) = True := eq_true zD
   replace q7 := eq_true q7
   go_wp2
   go_ret
   exact ⟨by first | rfl | (simp; done) | (simp [*]; done), zd0⟩

/-! ### cooperageref8_bare: function 39 -/
def cooperageref8_bare.l0 : Nat → ByteArray → Int → Option (ByteArray)
 | 0, _, _ => none
 | k + 1, x0, x3 => if x3 < (x0.size : Int) then (if 0 ≤ x3 then (if (bt x0 x3) = 35 then (if x3 ≤ (x0.size : Int) then (some (x0.extract 0 (x3 : Int).toNat)) else (none)) else (cooperageref8_bare.l0 k x0 (wrap64 (x3 + 1)))) else (none)) else (some x0)
def cooperageref8_bare.f (k : Nat) (a0 : ByteArray) : Option (ByteArray) := cooperageref8_bare.l0 k a0 0
theorem cooperageref8_bare.mono_l : ∀ k, (∀ y0 y1, LeO (cooperageref8_bare.l0 k y0 y1) (cooperageref8_bare.l0 (k + 1) y0 y1))
 | 0 => fun _ _ r h => by simp [cooperageref8_bare.l0] at h
 | k + 1 => by
  have ih0 := cooperageref8_bare.mono_l k
  ·intro y0 y1
   unfold cooperageref8_bare.l0
   exact zLe
theorem cooperageref8_bare.mono : ∀ a0 k, LeO (cooperageref8_bare.f k a0) (cooperageref8_bare.f (k + 1) a0) := by
 intro a0 k
 have ih0 := cooperageref8_bare.mono_l k
 unfold cooperageref8_bare.f
 exact zLe
theorem cooperageref8_bare.calls (k : Nat) (a0 : ByteArray) (r : ByteArray) (w : World) (h : cooperageref8_bare.f k a0 = some r) :
  Calls Tryd.prog 39 #[.string a0] w fun e w' => e = .returned (.string r) ∧ Drawn0 w w' := by
 have H : (cooperageref8_bare.l0 k a0 0) = some r := h
 clear h
 have H' := ka H
 clear H
 go_enter Tryd.func39, Tryd.ntmps39
 go_wp2
 go_loopg [3] k (fun kq v3 w' => ∃ (x3_1 : Int), v3 = .int .i64 x3_1 ∧ Aside0 (cooperageref8_bare.l0 kq a0 x3_1 = some r) ∧ Aside0 (kq ≤ k) ∧ Drawn0 w w')
 case atStart => exact ⟨(0), zS, H', ⟨Nat.le_refl _⟩, zd0⟩
 case round =>
  clear H'
  obtain ⟨x3_1, rfl, HA, HK1, ⟨m1, rfl⟩⟩ := hrel
  cases gk with
  | zero => exact absurd HA.out (by simp [cooperageref8_bare.l0])
  | succ k1 =>
   have H := HA.out
   clear HA
   simp only [cooperageref8_bare.l0] at H
   by_cases c2 : x3_1 < (a0.size : Int)
   ·rw [if_pos c2] at H
    have c2b0 := zdt c2
    clear c2
    replace H := zif H
    obtain ⟨c3, H⟩ := H
    have c3b0 := zdt c3
    clear c3
    by_cases c5 : (bt a0 x3_1) = 35
    ·rw [if_pos c5] at H
     have c5b0 := zb0 c5
     have c5b1 := zb1 c5
     clear c5
     have c6b0 := eq_true (zD : 0 ≤ x3_1)
     replace H := zif H
     obtain ⟨c7, H⟩ := H
     have c7b0 := eq_true c7
     have c7b1 := zdt c7
     clear c7
     obtain rfl := Option.some.inj H
     have p4 : 0 ≤ (x3_1 : Int) := zD
     have q4 : x3_1 < (a0.size : Int) := zD
     have hx4 := bt_at a0 x3_1
     replace p4 := eq_true p4
     replace q4 := eq_true q4
     go_wp2
     go_ret
     exact ⟨by first | rfl | (simp; done) | (simp [*]; done), zd0⟩
    rw [if_neg c5] at H
    have c5b0 := zn0 c5
    have c5b1 := zn1 c5
    have H' := ka H
    clear H
    have p4 : 0 ≤ (x3_1 : Int) := zD
    have q4 : x3_1 < (a0.size : Int) := zD
    have hx4 := bt_at a0 x3_1
    replace p4 := eq_true p4
    replace q4 := eq_true q4
    go_wp2
    go_roundg k1
    case measure => have := HK1.out; omega
    case rel => exact ⟨(wrap64 (x3_1 + 1)), zS, H', ⟨by have := HK1.out; omega⟩, zd0⟩
   rw [if_neg c2] at H
   have c2b0 := zdf c2
   clear c2
   obtain rfl := Option.some.inj H
   go_wp2
   go_ret
   exact ⟨by first | rfl | (simp; done) | (simp [*]; done), zd0⟩

end Go.Proofs.YthnholondnfjoaaDoor.PParse
