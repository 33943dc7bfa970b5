-- Written by a program of this session (wip/tools/ext.py, over the kit's printer); not trusted: Lean checks it.
import Derived.Test.YthnholondnfjoaaDoorPParsex0
import Derived.Test.YthnholondnfjoaaDoorPParsex10
namespace Go.Proofs.YthnholondnfjoaaDoor.PParse
open Go.RowKit Go.Proofs.YthnholondnfjoaaDoorW.PrintWords Go.Proofs.YthnholondnfjoaaDoorW.PrintLast Go.Proofs.YthnholondnfjoaaDoorW.PrintMore
attribute [local go_sem] max2_int min2_int max_two min_two max_three min_three max_four min_four
set_option linter.unusedVariables false
set_option linter.unusedSimpArgs false
set_option maxHeartbeats 8000000
set_option maxRecDepth 100000

/-! ### cooperageref1_blank: function 61 -/
def cooperageref1_blank.f (a0 : Int) : Option (Bool) := if a0 = 32 then (some true) else (some (a0 == 9))
theorem cooperageref1_blank.calls (a0 : Int) (r : Bool) (w : World) (h : cooperageref1_blank.f a0 = some r) :
  Calls Tryd.prog 61 #[.int .u8 a0] w fun e w' => e = .returned (.bool r) ∧ Drawn0 w w' := by
 have H : (if a0 = 32 then (some true) else (some (a0 == 9))) = some r := h
 clear h
 by_cases c2 : a0 = 32
 ·rw [if_pos c2] at H
  have c2b0 := zb0 c2
  have c2b1 := zb1 c2
  clear c2
  obtain rfl := Option.some.inj H
  go_enter Tryd.func61, Tryd.ntmps61
  go_wp2
  go_ret
  exact ⟨by first | rfl | (simp; done) | (simp [*]; done), zd0⟩
 rw [if_neg c2] at H
 have c2b0 := zn0 c2
 have c2b1 := zn1 c2
 obtain rfl := Option.some.inj H
 go_enter Tryd.func61, Tryd.ntmps61
 go_wp2
 go_ret
 exact ⟨by first | rfl | (simp; done) | (simp [*]; done), zd0⟩

/-! ### cooperageref1_Trim: function 40 -/
mutual
def cooperageref1_Trim.j1 : Nat → ByteArray → Option (ByteArray)
 | 0, _ => none
 | k + 1, x0 => cooperageref1_Trim.l1 k x0
def cooperageref1_Trim.l1 : Nat → ByteArray → Option (ByteArray)
 | 0, _ => none
 | k + 1, x0 => if x0.toList = ([] : List UInt8) then (some x0) else (if 0 ≤ (wrap64 ((x0.size : Int) - 1)) then (if (wrap64 ((x0.size : Int) - 1)) < (x0.size : Int) then ((cooperageref1_blank.f (bt x0 (wrap64 ((x0.size : Int) - 1)))).bind fun t289 => (if t289 = true then (if (wrap64 ((x0.size : Int) - 1)) ≤ (x0.size : Int) then (cooperageref1_Trim.l1 k (x0.extract 0 ((wrap64 ((x0.size : Int) - 1)) : Int).toNat)) else (none)) else (some x0))) else (none)) else (none))
def cooperageref1_Trim.l0 : Nat → ByteArray → Option (ByteArray)
 | 0, _ => none
 | k + 1, x0 => if x0.toList = ([] : List UInt8) then (cooperageref1_Trim.j1 k x0) else (if 0 < (x0.size : Int) then ((cooperageref1_blank.f (bt x0 0)).bind fun t288 => (if t288 = true then (if 1 ≤ (x0.size : Int) then (cooperageref1_Trim.l0 k (x0.extract 1 x0.size)) else (none)) else (cooperageref1_Trim.j1 k x0))) else (none))
end
def cooperageref1_Trim.f (k : Nat) (a0 : ByteArray) : Option (ByteArray) := cooperageref1_Trim.l0 k a0
theorem cooperageref1_Trim.mono_l : ∀ k, (∀ y0, LeO (cooperageref1_Trim.j1 k y0) (cooperageref1_Trim.j1 (k + 1) y0)) ∧ (∀ y0, LeO (cooperageref1_Trim.l1 k y0) (cooperageref1_Trim.l1 (k + 1) y0)) ∧ (∀ y0, LeO (cooperageref1_Trim.l0 k y0) (cooperageref1_Trim.l0 (k + 1) y0))
 | 0 => ⟨fun _ r h => by simp [cooperageref1_Trim.j1] at h, fun _ r h => by simp [cooperageref1_Trim.l1] at h, fun _ r h => by simp [cooperageref1_Trim.l0] at h⟩
 | k + 1 => by
  obtain ⟨ih0, ih1, ih2⟩ := cooperageref1_Trim.mono_l k
  refine ⟨?_, ?_, ?_⟩
  ·intros
   unfold cooperageref1_Trim.j1
   exact zLe
  ·intros
   unfold cooperageref1_Trim.l1
   exact zLe
  ·intros
   unfold cooperageref1_Trim.l0
   exact zLe
theorem cooperageref1_Trim.mono : ∀ a0 k, LeO (cooperageref1_Trim.f k a0) (cooperageref1_Trim.f (k + 1) a0) := by
 intro a0 k
 obtain ⟨ih0, ih1, ih2⟩ := cooperageref1_Trim.mono_l k
 unfold cooperageref1_Trim.f
 exact zLe
theorem cooperageref1_Trim.calls (k : Nat) (a0 : ByteArray) (r : ByteArray) (w : World) (h : cooperageref1_Trim.f k a0 = some r) :
  Calls Tryd.prog 40 #[.string a0] w fun e w' => e = .returned (.string r) ∧ Drawn0 w w' := by
 have H : (cooperageref1_Trim.l0 k a0) = some r := h
 clear h
 have HC2 := ka H
 clear H
 go_enter Tryd.func40, Tryd.ntmps40
 go_upto_block 0 with (fail)
 go_cut [0] (fun v0 wc => ∃ (kq : Nat) (x0_1 : ByteArray), v0 = .string x0_1 ∧ Aside0 (cooperageref1_Trim.j1 kq x0_1 = some r) ∧ Aside0 (kq ≤ k) ∧ Drawn0 w wc)
 case first =>
  have H := HC2.out
  clear HC2
  have H' := ka H
  clear H
  go_wp2
  go_loopg [0] k (fun kq v0 w' => ∃ (x0_1 : ByteArray), v0 = .string x0_1 ∧ Aside0 (cooperageref1_Trim.l0 kq x0_1 = some r) ∧ Aside0 (kq ≤ k) ∧ Drawn0 w w')
  case atStart => exact ⟨(a0), zS, H', ⟨Nat.le_refl _⟩, zd0⟩
  case round =>
   clear H'
   obtain ⟨x0_1, rfl, HA, HK1, ⟨m1, rfl⟩⟩ := hrel
   cases gk with
   | zero => exact absurd HA.out (by simp [cooperageref1_Trim.l0])
   | succ k1 =>
    have H := HA.out
    clear HA
    simp only [cooperageref1_Trim.l0] at H
    by_cases c3 : x0_1.toList = ([] : List UInt8)
    ·rw [if_pos c3] at H
     have c3b0 := zb0 c3
     have c3b1 := zb1 c3
     clear c3
     (first | rw [c3b0] | (simp only [i64_w, i32_w]; rw [c3b0]) | rw [isE_ c3b0] | skip)
     have H' := ka H
     clear H
     go_wp2
     go_meet
     case rel => exact ⟨_, (x0_1), zS, H', ⟨by have := HK1.out; first | omega | exact Nat.le_refl _⟩, zd0⟩
    rw [if_neg c3] at H
    have c3b0 := zn0 c3
    have c3b1 := zn1 c3
    (first | rw [c3b0] | (simp only [i64_w, i32_w]; rw [c3b0]) | rw [isE_ c3b0] | skip)
    replace H := zif H
    obtain ⟨c4, H⟩ := H
    have c4b0 := zdt c4
    have c4b1 : decide (0 < x0_1.size) = true := decide_eq_true (by omega)
    clear c4
    replace H := Option.bind_eq_some_iff.mp H
    obtain ⟨t288, A60, H⟩ := H
    try dsimp only at H
    have A6 := ka A60
    clear A60
    by_cases c7 : t288 = true
    ·subst c7
     rw [if_pos rfl] at H
     replace H := zif H
     obtain ⟨c8, H⟩ := H
     have c8b0 := eq_true c8
     have c8b1 := zdt c8
     clear c8
     have H' := ka H
     clear H
     have p5 : 0 ≤ (0 : Int) := (by omega)
     have q5 : 0 < x0_1.size := (by have : (0 : Int) < (x0_1.size : Int) := zD; omega)
     have hx5 : ∀ h : 0 < x0_1.size, ((x0_1[0]'h).toNat : Int) = bt x0_1 0 := bt_at x0_1 0
     clear p5
     have qi5 : (0 < (x0_1.size : Int)) = True := eq_true zD
     replace q5 := eq_true q5
     go_wp2_with (first | (go_at_call 61; (with_reducible refine (cooperageref1_blank.calls (bt x0_1 0) true _ A6.out).mono ?_); rintro e w' ⟨rfl, ⟨nd, rfl⟩⟩))
     go_roundg k1
     case measure => have := HK1.out; omega
     case rel => exact ⟨(x0_1.extract 1 x0_1.size), zS, H', ⟨by have := HK1.out; omega⟩, zd0⟩
    replace c7 := Bool.eq_false_iff.mpr c7
    subst c7
    rw [if_neg (show ¬ (false = true) by decide)] at H
    have H' := ka H
    clear H
    have p5 : 0 ≤ (0 : Int) := (by omega)
    have q5 : 0 < x0_1.size := (by have : (0 : Int) < (x0_1.size : Int) := zD; omega)
    have hx5 : ∀ h : 0 < x0_1.size, ((x0_1[0]'h).toNat : Int) = bt x0_1 0 := bt_at x0_1 0
    clear p5
    have qi5 : (0 < (x0_1.size : Int)) = True := eq_true zD
    replace q5 := eq_true q5
    go_wp2_with (first | (go_at_call 61; (with_reducible refine (cooperageref1_blank.calls (bt x0_1 0) false _ A6.out).mono ?_); rintro e w' ⟨rfl, ⟨nd, rfl⟩⟩))
    go_meet
    case rel => exact ⟨_, (x0_1), zS, H', ⟨by have := HK1.out; first | omega | exact Nat.le_refl _⟩, zd0⟩
 case rest =>
  clear HC2
  obtain ⟨kq, x0_1, rfl, HA, HJ1, ⟨mc1, rfl⟩⟩ := hcut
  cases kq with
  | zero => exact absurd HA.out (by simp [cooperageref1_Trim.j1])
  | succ kj1 =>
   have H := HA.out
   clear HA
   simp only [cooperageref1_Trim.j1] at H
   have H' := ka H
   clear H
   go_wp2
   go_loopg [0] kj1 (fun kq v0 w' => ∃ (x0_2 : ByteArray), v0 = .string x0_2 ∧ Aside0 (cooperageref1_Trim.l1 kq x0_2 = some r) ∧ Aside0 (kq ≤ kj1) ∧ Drawn0 w w')
   case atStart => exact ⟨(x0_1), zS, H', ⟨Nat.le_refl _⟩, zd0⟩
   case round =>
    clear H'
    obtain ⟨x0_2, rfl, HA, HK2, ⟨m2, rfl⟩⟩ := hrel
    cases gk with
    | zero => exact absurd HA.out (by simp [cooperageref1_Trim.l1])
    | succ k2 =>
     have H := HA.out
     clear HA
     simp only [cooperageref1_Trim.l1] at H
     by_cases c9 : x0_2.toList = ([] : List UInt8)
     ·rw [if_pos c9] at H
      have c9b0 := zb0 c9
      have c9b1 := zb1 c9
      clear c9
      obtain rfl := Option.some.inj H
      go_wp2
      go_ret
      exact ⟨by first | rfl | (simp; done) | (simp [*]; done), zd0⟩
     rw [if_neg c9] at H
     have c9b0 := zn0 c9
     have c9b1 := zn1 c9
     obtain ⟨ji10, hji10⟩ : ∃ j_ : Int, (wrap64 ((x0_2.size : Int) - 1)) = j_ := ⟨_, rfl⟩
     replace H : (if 0 ≤ (ji10) then (if (ji10) < (x0_2.size : Int) then ((cooperageref1_blank.f (bt x0_2 (ji10))).bind fun t289 => (if t289 = true then (if (ji10) ≤ (x0_2.size : Int) then (cooperageref1_Trim.l1 k2 (x0_2.extract 0 ((ji10) : Int).toNat)) else (none)) else (some x0_2))) else (none)) else (none)) = some r := by first | (rw [hji10] at H; exact H) | (simp only [hji10] at H ⊢; exact H)
     have hji10w : (IntKind.i64.wrap ((x0_2.size : Int) - 1)) = ji10 := (i64_w _).trans hji10
     replace H := zif H
     obtain ⟨c11, H⟩ := H
     have c11b0 := zdt c11
     clear c11
     replace H := zif H
     obtain ⟨c12, H⟩ := H
     have c12b0 := zdt c12
     clear c12
     replace H := Option.bind_eq_some_iff.mp H
     obtain ⟨t289, A140, H⟩ := H
     try dsimp only at H
     have A14 := ka A140
     clear A140
     by_cases c15 : t289 = true
     ·subst c15
      rw [if_pos rfl] at H
      have c16b0 := eq_true (zD : 0 ≤ (ji10))
      replace H := zif H
      obtain ⟨c17, H⟩ := H
      have c17b0 := eq_true c17
      have c17b1 := zdt c17
      clear c17
      have H' := ka H
      clear H
      have p13 : 0 ≤ ((ji10) : Int) := zD
      have q13 : (ji10) < (x0_2.size : Int) := zD
      have hx13 := bt_at x0_2 (ji10)
      replace p13 := eq_true p13
      replace q13 := eq_true q13
      go_wp2_with (first | (go_at_call 61; (with_reducible refine (cooperageref1_blank.calls (bt x0_2 (ji10)) true _ A14.out).mono ?_); rintro e w' ⟨rfl, ⟨nd, rfl⟩⟩))
      go_roundg k2
      case measure => have := HJ1.out; have := HK2.out; omega
      case rel => exact ⟨(x0_2.extract 0 ((ji10) : Int).toNat), (by first | rfl | (simp; done) | (simp only [← hji10] <;> (first | rfl | simp)) | (simp [*]; done)), H', ⟨by have := HJ1.out; have := HK2.out; omega⟩, zd0⟩
     replace c15 := Bool.eq_false_iff.mpr c15
     subst c15
     rw [if_neg (show ¬ (false = true) by decide)] at H
     obtain rfl := Option.some.inj H
     have p13 : 0 ≤ ((ji10) : Int) := zD
     have q13 : (ji10) < (x0_2.size : Int) := zD
     have hx13 := bt_at x0_2 (ji10)
     replace p13 := eq_true p13
     replace q13 := eq_true q13
     go_wp2_with (first | (go_at_call 61; (with_reducible refine (cooperageref1_blank.calls (bt x0_2 (ji10)) false _ A14.out).mono ?_); rintro e w' ⟨rfl, ⟨nd, rfl⟩⟩))
     go_ret
     exact ⟨by first | rfl | (simp; done) | (simp only [← hji10] <;> (first | rfl | simp)) | (simp [*]; done), zd0⟩

/-! ### cooperageref1_Words: function 47 -/
def cooperageref1_Words.l0 : Nat → ByteArray → List ByteArray → ByteArray → Int → Option (List ByteArray)
 | 0, _, _, _, _ => none
 | k + 1, x0, x3, x4, x5 => if x5 < (x0.size : Int) then (if 0 ≤ x5 then ((cooperageref1_blank.f (bt x0 x5)).bind fun t293 => (if t293 = true then (if x4.toList = ([] : List UInt8) then (cooperageref1_Words.l0 k x0 x3 (⟨#[]⟩ : ByteArray) (wrap64 (x5 + 1))) else (if x3.length < 8796093022208 then (cooperageref1_Words.l0 k x0 (x3 ++ [x4]) (⟨#[]⟩ : ByteArray) (wrap64 (x5 + 1))) else (none))) else (if x5 ≤ (wrap64 (x5 + 1)) then (if (wrap64 (x5 + 1)) ≤ (x0.size : Int) then (if x4.size + (x0.extract (x5 : Int).toNat ((wrap64 (x5 + 1)) : Int).toNat).size ≤ 9223372036854775807 then (cooperageref1_Words.l0 k x0 x3 (x4 ++ (x0.extract (x5 : Int).toNat ((wrap64 (x5 + 1)) : Int).toNat)) (wrap64 (x5 + 1))) else (none)) else (none)) else (none)))) else (none)) else (if x4.toList = ([] : List UInt8) then (some x3) else (if x3.length < 8796093022208 then (some (x3 ++ [x4])) else (none)))
def cooperageref1_Words.f (k : Nat) (a0 : ByteArray) : Option (List ByteArray) := cooperageref1_Words.l0 k a0 ([] : List ByteArray) (⟨#[]⟩ : ByteArray) 0
theorem cooperageref1_Words.mono_l : ∀ k, (∀ y0 y1 y2 y3, LeO (cooperageref1_Words.l0 k y0 y1 y2 y3) (cooperageref1_Words.l0 (k + 1) y0 y1 y2 y3))
 | 0 => fun _ _ _ _ r h => by simp [cooperageref1_Words.l0] at h
 | k + 1 => by
  have ih0 := cooperageref1_Words.mono_l k
  ·intro y0 y1 y2 y3
   unfold cooperageref1_Words.l0
   exact zLe
theorem cooperageref1_Words.mono : ∀ a0 k, LeO (cooperageref1_Words.f k a0) (cooperageref1_Words.f (k + 1) a0) := by
 intro a0 k
 have ih0 := cooperageref1_Words.mono_l k
 unfold cooperageref1_Words.f
 exact zLe
theorem cooperageref1_Words.calls (k : Nat) (a0 : ByteArray) (r : List ByteArray) (w : World) (h : cooperageref1_Words.f k a0 = some r) :
  Calls Tryd.prog 47 #[.string a0] w fun e w' => ∃ v0_ : Value, e = .returned (v0_) ∧ Kd.R Kd.string 9 w' w.heap.size (fun _ => True) v0_ r ∧ Below w.heap.size w w' := by
 have HB := ka (Below.refl w.heap.size w)
 have H : (cooperageref1_Words.l0 k a0 ([] : List ByteArray) (⟨#[]⟩ : ByteArray) 0) = some r := h
 clear h
 have H' := ka H
 clear H
 go_enter Tryd.func47, Tryd.ntmps47
 go_wp2
 go_loopg [3, 4, 5] k (fun kq v3 v4 v5 w' => ∃ (x3_1 : List ByteArray) (x4_1 : ByteArray) (x5_1 : Int), v4 = .string x4_1 ∧ v5 = .int .i64 x5_1 ∧ Aside0 (cooperageref1_Words.l0 kq a0 x3_1 x4_1 x5_1 = some r) ∧ Aside0 (kq ≤ k) ∧ Aside0 (Kd.R Kd.string 9 w' w.heap.size (fun _ => True) v3 x3_1) ∧ Aside0 (Below w.heap.size w w'))
 case atStart => exact ⟨(([] : List ByteArray)), ((⟨#[]⟩ : ByteArray)), (0), zS, zS, H', ⟨Nat.le_refl _⟩, ⟨zNl⟩, ⟨zL HB.out⟩⟩
 case round =>
  clear H'
  obtain ⟨x3_1, x4_1, x5_1, rfl, rfl, HA, HK1, HO_3, HB⟩ := hrel
  cases gk with
  | zero => exact absurd HA.out (by simp [cooperageref1_Words.l0])
  | succ k1 =>
   have H := HA.out
   clear HA
   simp only [cooperageref1_Words.l0] at H
   by_cases c2 : x5_1 < (a0.size : Int)
   ·rw [if_pos c2] at H
    have c2b0 := zdt c2
    clear c2
    replace H := zif H
    obtain ⟨c3, H⟩ := H
    have c3b0 := zdt c3
    clear c3
    replace H := Option.bind_eq_some_iff.mp H
    obtain ⟨t293, A50, H⟩ := H
    try dsimp only at H
    have A5 := ka A50
    clear A50
    by_cases c6 : t293 = true
    ·subst c6
     rw [if_pos rfl] at H
     by_cases c7 : x4_1.toList = ([] : List UInt8)
     ·rw [if_pos c7] at H
      have c7b0 := zb0 c7
      have c7b1 := zb1 c7
      clear c7
      have H' := ka H
      clear H
      have p4 : 0 ≤ (x5_1 : Int) := zD
      have q4 : x5_1 < (a0.size : Int) := zD
      have hx4 := bt_at a0 x5_1
      replace p4 := eq_true p4
      replace q4 := eq_true q4
      go_wp2_with (first | ((with_reducible refine gate_callee (f := 61) rfl ?_); refine goesL_ (some 15) rfl rfl Tryd.func61 (by kernel_rfl) rfl #[.int .u8 (bt a0 x5_1)] rfl zA ?_; (with_reducible refine (cooperageref1_blank.calls (bt a0 x5_1) true _ A5.out).mono ?_); rintro e w' ⟨rfl, ⟨nd, rfl⟩⟩; refine ⟨_, rfl, ?_⟩))
      go_roundg k1
      case measure => have := HK1.out; omega
      case rel => exact ⟨(x3_1), ((⟨#[]⟩ : ByteArray)), (wrap64 (x5_1 + 1)), zS, zS, H', ⟨by have := HK1.out; omega⟩, ⟨zR HO_3.out⟩, ⟨zL HB.out⟩⟩
     rw [if_neg c7] at H
     have c7b0 := zn0 c7
     have c7b1 := zn1 c7
     replace H := zif H
     obtain ⟨c8, H⟩ := H
     have LMc8 := ka c8
     clear c8
     obtain ⟨y294, hy294⟩ : ∃ y_ : List ByteArray, y_ = (x3_1 ++ [x4_1]) := ⟨_, rfl⟩
     replace H : (cooperageref1_Words.l0 k1 a0 y294 (⟨#[]⟩ : ByteArray) (wrap64 (x5_1 + 1))) = some r := zH hy294 H
     have Ny294 := ka hy294
     clear hy294
     have H' := ka H
     clear H
     have p4 : 0 ≤ (x5_1 : Int) := zD
     have q4 : x5_1 < (a0.size : Int) := zD
     have hx4 := bt_at a0 x5_1
     replace p4 := eq_true p4
     replace q4 := eq_true q4
     go_wp2_with (first | ((with_reducible refine gate_callee (f := 61) rfl ?_); refine goesL_ (some 15) rfl rfl Tryd.func61 (by kernel_rfl) rfl #[.int .u8 (bt a0 x5_1)] rfl zA ?_; (with_reducible refine (cooperageref1_blank.calls (bt a0 x5_1) true _ A5.out).mono ?_); rintro e w' ⟨rfl, ⟨nd, rfl⟩⟩; refine ⟨_, rfl, ?_⟩) | ((with_reducible refine gate_builtin (b := .append) (xs := #[.tmp 18, .tmp 20]) rfl ?_); at_builtin; refine Kd.R_append Kd.string (w0 := w) w.heap.size rfl (.tmp 18) (.tmp 20) 37 9 (.string ⟨#[]⟩) 16 rfl Tryd.underlying37 info9 rfl (by decide) (by omega) u3 x3_1 x4_1 [.string x4_1] (fun _ => True) (fun _ => False) rfl rfl ?aP (fun _ hk => hk.elim) ?aF ?aO ?aB ?aS ?aL ?_; (case aP => exact rfl); (case aB => exact (zL HB.out)); (case aF => exact (fun _ _ => trivial)); (case aO => exact (zR HO_3.out)); (case aS => exact (below_size (zL HB.out))); (case aL => have := LMc8.out; omega); intro v295 w9 ho hb hg hat; rw [← Ny294.out] at ho; replace HB := ka (hb); have HO296 := ka (ho); clear HO_3; clear ho hb hg hat))
     go_roundg k1
     case measure => have := HK1.out; omega
     case rel => exact ⟨(y294), ((⟨#[]⟩ : ByteArray)), (wrap64 (x5_1 + 1)), zS, zS, H', ⟨by have := HK1.out; omega⟩, ⟨zR HO296.out⟩, ⟨zL HB.out⟩⟩
    replace c6 := Bool.eq_false_iff.mpr c6
    subst c6
    rw [if_neg (show ¬ (false = true) by decide)] at H
    have c10b0 := eq_true (zD : 0 ≤ x5_1)
    replace H := zif H
    obtain ⟨c11, H⟩ := H
    have c11b0 := eq_true c11
    have c11b1 := zdt c11
    replace H := zif H
    obtain ⟨c12, H⟩ := H
    have c12b0 := eq_true c12
    have c12b1 := zdt c12
    replace H := zif H
    obtain ⟨c13, H⟩ := H
    have c13b0 := eq_true c13
    have c13b1 := zdt c13
    try have c13b2 : (9223372036854775807 < x4_1.size + (a0.extract (x5_1 : Int).toNat ((wrap64 (x5_1 + 1)) : Int).toNat).size) = False := eq_false (Nat.not_lt.2 c13)
    have H' := ka H
    clear H
    have p4 : 0 ≤ (x5_1 : Int) := zD
    have q4 : x5_1 < (a0.size : Int) := zD
    have hx4 := bt_at a0 x5_1
    replace p4 := eq_true p4
    replace q4 := eq_true q4
    go_wp2_with (first | ((with_reducible refine gate_callee (f := 61) rfl ?_); refine goesL_ (some 15) rfl rfl Tryd.func61 (by kernel_rfl) rfl #[.int .u8 (bt a0 x5_1)] rfl zA ?_; (with_reducible refine (cooperageref1_blank.calls (bt a0 x5_1) false _ A5.out).mono ?_); rintro e w' ⟨rfl, ⟨nd, rfl⟩⟩; refine ⟨_, rfl, ?_⟩))
    go_roundg k1
    case measure => have := HK1.out; omega
    case rel => exact ⟨(x3_1), (x4_1 ++ (a0.extract (x5_1 : Int).toNat ((wrap64 (x5_1 + 1)) : Int).toNat)), (wrap64 (x5_1 + 1)), zS, zS, H', ⟨by have := HK1.out; omega⟩, ⟨zR HO_3.out⟩, ⟨zL HB.out⟩⟩
   rw [if_neg c2] at H
   have c2b0 := zdf c2
   clear c2
   by_cases c14 : x4_1.toList = ([] : List UInt8)
   ·rw [if_pos c14] at H
    have c14b0 := zb0 c14
    have c14b1 := zb1 c14
    clear c14
    obtain rfl := Option.some.inj H
    go_wp2
    go_ret
    exact ⟨_, zE, by (with_reducible repeat (first | apply Kd.R_alloc | apply Kd.R_drewN | apply Kd.R_drew)); exact HO_3.out, zL HB.out⟩
   rw [if_neg c14] at H
   have c14b0 := zn0 c14
   have c14b1 := zn1 c14
   replace H := zif H
   obtain ⟨c15, H⟩ := H
   have LMc15 := ka c15
   clear c15
   obtain ⟨y290, hy290⟩ : ∃ y_ : List ByteArray, y_ = (x3_1 ++ [x4_1]) := ⟨_, rfl⟩
   replace H : (some y290) = some r := zH hy290 H
   have Ny290 := ka hy290
   clear hy290
   obtain rfl := Option.some.inj H
   go_wp2_with (first | ((with_reducible refine gate_builtin (b := .append) (xs := #[.tmp 31, .tmp 33]) rfl ?_); at_builtin; refine Kd.R_append Kd.string (w0 := w) w.heap.size rfl (.tmp 31) (.tmp 33) 37 9 (.string ⟨#[]⟩) 16 rfl Tryd.underlying37 info9 rfl (by decide) (by omega) u3 x3_1 x4_1 [.string x4_1] (fun _ => True) (fun _ => False) rfl rfl ?aP (fun _ hk => hk.elim) ?aF ?aO ?aB ?aS ?aL ?_; (case aP => exact rfl); (case aB => exact (zL HB.out)); (case aF => exact (fun _ _ => trivial)); (case aO => exact (zR HO_3.out)); (case aS => exact (below_size (zL HB.out))); (case aL => have := LMc15.out; omega); intro v291 w16 ho hb hg hat; rw [← Ny290.out] at ho; replace HB := ka (hb); have HO292 := ka (ho); clear HO_3; clear ho hb hg hat))
   go_ret
   exact ⟨_, zE, by (with_reducible repeat (first | apply Kd.R_alloc | apply Kd.R_drewN | apply Kd.R_drew)); exact HO292.out, zL HB.out⟩

/-! ### cooperageref9_behind: function 48 -/
def cooperageref9_behind.f (k : Nat) (a0 : ByteArray) (a1 : ByteArray) : Option (ByteArray) := if 0 ≤ (a1.size : Int) then (if (a1.size : Int) ≤ (a0.size : Int) then ((cooperageref1_Trim.f k (a0.extract ((a1.size : Int) : Int).toNat a0.size)).bind fun t297 => (some t297)) else (none)) else (none)
theorem cooperageref9_behind.mono : ∀ a0 a1 k, LeO (cooperageref9_behind.f k a0 a1) (cooperageref9_behind.f (k + 1) a0 a1) := by
 intro a0 a1 k
 unfold cooperageref9_behind.f
 have m0 := @cooperageref1_Trim.mono
 exact zLe
theorem cooperageref9_behind.calls (k : Nat) (a0 : ByteArray) (a1 : ByteArray) (r : ByteArray) (w : World) (h : cooperageref9_behind.f k a0 a1 = some r) :
  Calls Tryd.prog 48 #[.string a0, .string a1] w fun e w' => e = .returned (.string r) ∧ Drawn0 w w' := by
 have H : (if 0 ≤ (a1.size : Int) then (if (a1.size : Int) ≤ (a0.size : Int) then ((cooperageref1_Trim.f k (a0.extract ((a1.size : Int) : Int).toNat a0.size)).bind fun t297 => (some t297)) else (none)) else (none)) = some r := h
 clear h
 replace H := zif H
 obtain ⟨c3, H⟩ := H
 have c3b0 := eq_true c3
 have c3b1 := zdt c3
 clear c3
 replace H := zif H
 obtain ⟨c4, H⟩ := H
 have c4b0 := eq_true c4
 have c4b1 := zdt c4
 clear c4
 replace H := Option.bind_eq_some_iff.mp H
 obtain ⟨t297, A50, H⟩ := H
 try dsimp only at H
 have A5 := ka A50
 clear A50
 obtain rfl := Option.some.inj H
 go_enter Tryd.func48, Tryd.ntmps48
 go_wp2_with (first | ((with_reducible refine gate_callee (f := 40) rfl ?_); refine goesL_ (some 9) rfl rfl Tryd.func40 (by kernel_rfl) rfl #[.string (a0.extract ((a1.size : Int) : Int).toNat a0.size)] rfl zA ?_; (with_reducible refine (cooperageref1_Trim.calls k (a0.extract ((a1.size : Int) : Int).toNat a0.size) t297 _ A5.out).mono ?_); rintro e w' ⟨rfl, ⟨nd, rfl⟩⟩; refine ⟨_, rfl, ?_⟩))
 go_ret
 exact ⟨by first | rfl | (simp; done) | (simp [*]; done), zd0⟩

/-! ### cooperageref9_rule: function 49 -/
def cooperageref9_rule.j0 : Nat → ByteArray → Int → Int → ByteArray → ByteArray → ByteArray → ByteArray → ByteArray → ByteArray → ByteArray → Option (Int × Int × ByteArray × ByteArray × ByteArray × ByteArray × ByteArray × ByteArray × ByteArray × List ByteArray × Bool)
 | 0, _, _, _, _, _, _, _, _, _, _ => none
 | k + 1, x1, x301000, x301001, x301002, x301003, x301004, x301005, x301006, x301007, x301008 => (cooperageref9_Cut.f k x1 (([(⟨#[58]⟩ : ByteArray)] : List ByteArray))).bind fun bt311 => ((cooperageref9_Cut.f k x1 (([(⟨#[124]⟩ : ByteArray)] : List ByteArray))).bind fun bt317 => ((cooperageref9_Cut.f k bt317.2.2 (([(⟨#[124]⟩ : ByteArray)] : List ByteArray))).bind fun bt323 => ((cooperageref1_Trim.f k bt317.1).bind fun t326 => ((cooperageref1_Trim.f k bt317.2.2).bind fun t327 => (if x301005.toList = ([] : List UInt8) then (some (x301000, x301001, x301002, x301003, x301004, x301005, x301006, t326, t327, ([] : List ByteArray), false)) else (if bt311.2.1.toList = ([] : List UInt8) then (if bt317.2.1.toList = ([] : List UInt8) then (some (x301000, x301001, x301002, x301003, x301004, x301005, x301006, t326, t327, ([] : List ByteArray), true)) else (some (x301000, x301001, x301002, x301003, x301004, x301005, x301006, t326, t327, ([] : List ByteArray), (bt323.2.1.toList == ([] : List UInt8))))) else (some (x301000, x301001, x301002, x301003, x301004, x301005, x301006, t326, t327, ([] : List ByteArray), false))))))))
def cooperageref9_rule.f (k : Nat) (a0 : ByteArray) (a1 : ByteArray) (a2 : Int) : Option (Int × Int × ByteArray × ByteArray × ByteArray × ByteArray × ByteArray × ByteArray × ByteArray × List ByteArray × Bool) := (cooperageref1_Trim.f k a0).bind fun t299 => ((cooperageref9_Cut.f k a1 (([(⟨#[58]⟩ : ByteArray)] : List ByteArray))).bind fun bt304 => (if bt304.2.1.toList = ([] : List UInt8) then (cooperageref9_rule.j0 k a1 2 a2 (⟨#[]⟩ : ByteArray) (⟨#[]⟩ : ByteArray) (⟨#[]⟩ : ByteArray) t299 (⟨#[]⟩ : ByteArray) (⟨#[]⟩ : ByteArray) (⟨#[]⟩ : ByteArray)) else ((cooperageref1_Trim.f k bt304.1).bind fun t307 => (if t307.toList = ([] : List UInt8) then (some (2, a2, (⟨#[]⟩ : ByteArray), (⟨#[]⟩ : ByteArray), (⟨#[]⟩ : ByteArray), t299, t307, (⟨#[]⟩ : ByteArray), (⟨#[]⟩ : ByteArray), ([] : List ByteArray), false)) else (cooperageref9_rule.j0 k bt304.2.2 2 a2 (⟨#[]⟩ : ByteArray) (⟨#[]⟩ : ByteArray) (⟨#[]⟩ : ByteArray) t299 t307 (⟨#[]⟩ : ByteArray) (⟨#[]⟩ : ByteArray))))))
theorem cooperageref9_rule.mono_l : ∀ k, (∀ y0 y1 y2 y3 y4 y5 y6 y7 y8 y9, LeO (cooperageref9_rule.j0 k y0 y1 y2 y3 y4 y5 y6 y7 y8 y9) (cooperageref9_rule.j0 (k + 1) y0 y1 y2 y3 y4 y5 y6 y7 y8 y9))
 | 0 => fun _ _ _ _ _ _ _ _ _ _ r h => by simp [cooperageref9_rule.j0] at h
 | k + 1 => by
  have ih0 := cooperageref9_rule.mono_l k
  ·intro y0 y1 y2 y3 y4 y5 y6 y7 y8 y9
   unfold cooperageref9_rule.j0
   have m0 := @cooperageref1_Trim.mono
   have m1 := @cooperageref9_Cut.mono
   exact zLe
theorem cooperageref9_rule.mono : ∀ a0 a1 a2 k, LeO (cooperageref9_rule.f k a0 a1 a2) (cooperageref9_rule.f (k + 1) a0 a1 a2) := by
 intro a0 a1 a2 k
 have ih0 := cooperageref9_rule.mono_l k
 unfold cooperageref9_rule.f
 have m0 := @cooperageref1_Trim.mono
 have m1 := @cooperageref9_Cut.mono
 exact zLe
theorem cooperageref9_rule.calls (k : Nat) (a0 : ByteArray) (a1 : ByteArray) (a2 : Int) (r1 : Int) (r2 : Int) (r3 : ByteArray) (r4 : ByteArray) (r5 : ByteArray) (r6 : ByteArray) (r7 : ByteArray) (r8 : ByteArray) (r9 : ByteArray) (r10 : List ByteArray) (r11 : Bool) (w : World) (h : cooperageref9_rule.f k a0 a1 a2 = some (r1, r2, r3, r4, r5, r6, r7, r8, r9, r10, r11)) :
  Calls Tryd.prog 49 #[.string a0, .string a1, .int .i64 a2] w fun e w' => ∃ v9_ : Value, e = .returned (.tuple #[.agg #[.int .i64 r1, .int .i64 r2, .string r3, .string r4, .string r5, .string r6, .string r7, .string r8, .string r9, v9_], .bool r11]) ∧ Kd.R Kd.string 9 w' w.heap.size (fun _ => True) v9_ r10 ∧ Below w.heap.size w w' := by
 have hu64 := Tryd.underlying64
 have HB := ka (Below.refl w.heap.size w)
 have H : ((cooperageref1_Trim.f k a0).bind fun t299 => ((cooperageref9_Cut.f k a1 (([(⟨#[58]⟩ : ByteArray)] : List ByteArray))).bind fun bt304 => (if bt304.2.1.toList = ([] : List UInt8) then (cooperageref9_rule.j0 k a1 2 a2 (⟨#[]⟩ : ByteArray) (⟨#[]⟩ : ByteArray) (⟨#[]⟩ : ByteArray) t299 (⟨#[]⟩ : ByteArray) (⟨#[]⟩ : ByteArray) (⟨#[]⟩ : ByteArray)) else ((cooperageref1_Trim.f k bt304.1).bind fun t307 => (if t307.toList = ([] : List UInt8) then (some (2, a2, (⟨#[]⟩ : ByteArray), (⟨#[]⟩ : ByteArray), (⟨#[]⟩ : ByteArray), t299, t307, (⟨#[]⟩ : ByteArray), (⟨#[]⟩ : ByteArray), ([] : List ByteArray), false)) else (cooperageref9_rule.j0 k bt304.2.2 2 a2 (⟨#[]⟩ : ByteArray) (⟨#[]⟩ : ByteArray) (⟨#[]⟩ : ByteArray) t299 t307 (⟨#[]⟩ : ByteArray) (⟨#[]⟩ : ByteArray))))))) = some (r1, r2, r3, r4, r5, r6, r7, r8, r9, r10, r11) := h
 clear h
 replace H := Option.bind_eq_some_iff.mp H
 obtain ⟨t299, A40, H⟩ := H
 try dsimp only at H
 have A4 := ka A40
 clear A40
 obtain ⟨y301, hy301⟩ : ∃ y_ : List ByteArray, y_ = (([(⟨#[58]⟩ : ByteArray)] : List ByteArray)) := ⟨_, rfl⟩
 replace H : ((cooperageref9_Cut.f k a1 y301).bind fun bt304 => (if bt304.2.1.toList = ([] : List UInt8) then (cooperageref9_rule.j0 k a1 2 a2 (⟨#[]⟩ : ByteArray) (⟨#[]⟩ : ByteArray) (⟨#[]⟩ : ByteArray) t299 (⟨#[]⟩ : ByteArray) (⟨#[]⟩ : ByteArray) (⟨#[]⟩ : ByteArray)) else ((cooperageref1_Trim.f k bt304.1).bind fun t307 => (if t307.toList = ([] : List UInt8) then (some (2, a2, (⟨#[]⟩ : ByteArray), (⟨#[]⟩ : ByteArray), (⟨#[]⟩ : ByteArray), t299, t307, (⟨#[]⟩ : ByteArray), (⟨#[]⟩ : ByteArray), ([] : List ByteArray), false)) else (cooperageref9_rule.j0 k bt304.2.2 2 a2 (⟨#[]⟩ : ByteArray) (⟨#[]⟩ : ByteArray) (⟨#[]⟩ : ByteArray) t299 t307 (⟨#[]⟩ : ByteArray) (⟨#[]⟩ : ByteArray)))))) = some (r1, r2, r3, r4, r5, r6, r7, r8, r9, r10, r11) := zH hy301 H
 have Ny301 := ka hy301
 clear hy301
 replace H := Option.bind_eq_some_iff.mp H
 obtain ⟨⟨t304, t305, t306⟩, A50, H⟩ := H
 try dsimp only at H
 have A5 := ka A50
 clear A50
 have HC6 := ka H
 clear H
 go_enter Tryd.func49, Tryd.ntmps49
 go_upto_if 33 with (first | ((with_reducible refine gate_dst (N := 6) rfl ?_); refine box_event ?hg (N := 6) ?hd (cs := #[.int .i64 0, .int .i64 0, .string ⟨#[]⟩, .string ⟨#[]⟩, .string ⟨#[]⟩, .string ⟨#[]⟩, .string ⟨#[]⟩, .string ⟨#[]⟩, .string ⟨#[]⟩, .slice none 0 0]) (t := 64) ?hr ?_; (case hd => rfl); (case hg => rfl); (case hr => (go_simp; try rfl)); intro gb298 hg w7 hbox hb; have BK298 := ka (hbox); have GW298 := ka (zG hg (zL HB.out)); have GE298 := ka (zG hg (zL HB.out)); replace HB := ka (below_step (zL HB.out) hb); clear hb hbox hg) | ((with_reducible refine gate_callee (f := 40) rfl ?_); refine goesL_ (some 23) rfl rfl Tryd.func40 (by kernel_rfl) rfl #[.string a0] rfl zA ?_; (with_reducible refine (cooperageref1_Trim.calls k a0 t299 _ A4.out).mono ?_); rintro e w' ⟨rfl, ⟨nd, rfl⟩⟩; refine ⟨_, rfl, ?_⟩; (try (rw [drewN_self w7]; generalize hq_ : World.drewN w7 _ = w7; have n0_ : Aside0 (w7.heap[gb298]? = some (.cells #[.int .i64 0, .int .i64 0, .string ⟨#[]⟩, .string ⟨#[]⟩, .string ⟨#[]⟩, .string ⟨#[]⟩, .string ⟨#[]⟩, .string ⟨#[]⟩, .string ⟨#[]⟩, .slice none 0 0] 64 (0, 0))) := ⟨by rw [← hq_]; exact (zK BK298.out)⟩; have n1_ : Aside0 (Below w.heap.size w w7) := ⟨by rw [← hq_]; exact (zL HB.out)⟩; clear BK298 HB hq_; have BK298 := n0_; have HB := n1_; clear n0_ n1_))) | ((with_reducible refine gate_dst (N := 8) rfl ?_); refine box_event ?hg (N := 8) ?hd (cs := #[.int .i64 0, .int .i64 0, .string ⟨#[]⟩, .string ⟨#[]⟩, .string ⟨#[]⟩, .string ⟨#[]⟩, .string ⟨#[]⟩, .string ⟨#[]⟩, .string ⟨#[]⟩, .slice none 0 0]) (t := 64) ?hr ?_; (case hd => rfl); (case hg => rfl); (case hr => (go_simp; try rfl)); intro gb300 hg w8 hbox hb; have BK300 := ka (hbox); have GW300 := ka (zG hg (zL HB.out)); have GE300 := ka (zG hg (zL HB.out)); replace HB := ka (below_step (zL HB.out) hb); have NB298_300 := ka (zNK hg BK298.out); have NB300_298 := ka (zOK hg BK298.out); replace BK298 := ka (zB BK298.out hb); clear hb hbox hg; have hnb9 := NB300_298.out; have hnc9 := NB298_300.out; obtain ⟨z10_0, z10_1, z10_2, z10_3, z10_4, z10_5, z10_6, z10_7, z10_8, z10_9, y10_0, y10_1, y10_2, y10_3, y10_4, y10_5, y10_6, y10_7, y10_8, y10_9⟩ := zC10 BK300.out) | ((with_reducible refine gate_dst (N := 27) rfl ?_); refine Kd.R_lit Kd.string _ 9 ?hg (N := 27) ?hd (xs := ([(⟨#[58]⟩ : ByteArray)] : List ByteArray)) (inner := [.string ⟨#[58]⟩]) (ok := fun _ => True) (okp := fun _ => True) ?hr ?hp (fun _ hk => hk) trivial (Below.refl _ _) (Nat.le_refl _) (by simp) ?_; (case hd => rfl); (case hg => rfl); (case hr => (go_simp; try rfl)); (case hp => exact (Reps.one (show Kd.M Kd.string _ _ _ (⟨#[58]⟩ : ByteArray) [.string ⟨#[58]⟩] from rfl) (Reps.none _ _))); intro v302 w11 ho12 hb hg_ hnew_; clear hg_ hnew_; (first | rw [← Ny301.out] at ho12 | (simp only [Int.reduceToNat] at ho12; rw [← Ny301.out] at ho12)); have HO303 := ka (Kd.R_lower ho12 (below_size (zL HB.out))); replace BK298 := ka (zB BK298.out hb); replace BK300 := ka (blk_below (g := gb300) (o := .cells #[.int .i64 2, .int .i64 a2, .string ⟨#[]⟩, .string ⟨#[]⟩, .string ⟨#[]⟩, .string t299, .string ⟨#[]⟩, .string ⟨#[]⟩, .string ⟨#[]⟩, .slice none 0 0] 64 (0, 0)) (zP10 BK300.out) hb); replace HB := ka (below_step (zL HB.out) hb); clear hb ho12; obtain ⟨Ao13, co13, eo13⟩ := Kd.R_slice HO303.out; subst eo13) | ((with_reducible refine gate_callee (f := 18) rfl ?_); refine goesL_ (some 28) rfl rfl Tryd.func18 (by kernel_rfl) rfl #[.string a1, .slice Ao13 y301.length co13] rfl zA ?_; (with_reducible refine (cooperageref9_Cut.calls k a1 _ _ y301 t304 t305 t306 _ ?side1 ?side2 A5.out).mono ?_); (case side1 => exact zCS (Kd.R_reads' HO303.out).2.2); (case side2 => exact (Kd.R_reads' HO303.out).2.1); rintro e w14 ⟨rfl, hb⟩; refine ⟨_, rfl, ?_⟩; replace HO303 := ka (Kd.R_below (zR HO303.out) hb); replace BK298 := ka (zB BK298.out hb); replace BK300 := ka (zB BK300.out hb); replace HB := ka (below_step (zL HB.out) hb); (try clear hb); (try clear hb2); (try clear hk); (try clear hi)))
 (try simp only [Act.put, List.setIfInBounds_toArray, List.set_cons_zero, List.set_cons_succ])
 go_cut [1] (fun v1 wc => ∃ (kq : Nat) (x1_5 : ByteArray) (x299000_5 : Int) (x299001_5 : Int) (x299002_5 : ByteArray) (x299003_5 : ByteArray) (x299004_5 : ByteArray) (x299005_5 : ByteArray) (x299006_5 : ByteArray) (x299007_5 : ByteArray) (x299008_5 : ByteArray) (x301006_5 : ByteArray), v1 = .string x1_5 ∧ Aside0 (cooperageref9_rule.j0 kq x1_5 2 a2 (⟨#[]⟩ : ByteArray) (⟨#[]⟩ : ByteArray) (⟨#[]⟩ : ByteArray) t299 x301006_5 (⟨#[]⟩ : ByteArray) (⟨#[]⟩ : ByteArray) = some (r1, r2, r3, r4, r5, r6, r7, r8, r9, r10, r11)) ∧ Aside0 (kq ≤ k) ∧ Aside0 (wc.heap[gb298]? = some (.cells #[.int .i64 x299000_5, .int .i64 x299001_5, .string x299002_5, .string x299003_5, .string x299004_5, .string x299005_5, .string x299006_5, .string x299007_5, .string x299008_5, (.slice none 0 0)] 64 (0, 0))) ∧ Aside0 (wc.heap[gb300]? = some (.cells #[.int .i64 2, .int .i64 a2, .string ⟨#[]⟩, .string ⟨#[]⟩, .string ⟨#[]⟩, .string t299, .string x301006_5, .string ⟨#[]⟩, .string ⟨#[]⟩, (.slice none 0 0)] 64 (0, 0))) ∧ Aside0 (Below w.heap.size w wc))
 case first =>
  have H := HC6.out
  clear HC6
  by_cases c15 : t305.toList = ([] : List UInt8)
  ·rw [if_pos c15] at H
   have c15b0 := zb0 c15
   have c15b1 := zb1 c15
   clear c15
   (first | rw [c15b0] | (simp only [i64_w, i32_w]; rw [c15b0]) | rw [isE_ c15b0] | skip)
   have H' := ka H
   clear H
   go_wp2
   go_meet
   case rel => exact ⟨_, (a1), (0), (0), ((⟨#[]⟩ : ByteArray)), ((⟨#[]⟩ : ByteArray)), ((⟨#[]⟩ : ByteArray)), ((⟨#[]⟩ : ByteArray)), ((⟨#[]⟩ : ByteArray)), ((⟨#[]⟩ : ByteArray)), ((⟨#[]⟩ : ByteArray)), ((⟨#[]⟩ : ByteArray)), zS, H', ⟨by first | omega | exact Nat.le_refl _⟩, ⟨zK BK298.out⟩, ⟨zK BK300.out⟩, ⟨zL HB.out⟩⟩
  rw [if_neg c15] at H
  have c15b0 := zn0 c15
  have c15b1 := zn1 c15
  (first | rw [c15b0] | (simp only [i64_w, i32_w]; rw [c15b0]) | rw [isE_ c15b0] | skip)
  replace H := Option.bind_eq_some_iff.mp H
  obtain ⟨t307, A160, H⟩ := H
  try dsimp only at H
  have A16 := ka A160
  clear A160
  by_cases c17 : t307.toList = ([] : List UInt8)
  ·rw [if_pos c17] at H
   have c17b0 := zb0 c17
   have c17b1 := zb1 c17
   clear c17
   replace H := zs11 H
   obtain ⟨rfl, rfl, rfl, rfl, rfl, rfl, rfl, rfl, rfl, rfl, rfl⟩ := H
   go_wp2_with (first | ((with_reducible refine gate_callee (f := 40) rfl ?_); refine goesL_ (some 35) rfl rfl Tryd.func40 (by kernel_rfl) rfl #[.string t304] rfl zA ?_; (with_reducible refine (cooperageref1_Trim.calls k t304 t307 _ A16.out).mono ?_); rintro e w' ⟨rfl, ⟨nd, rfl⟩⟩; refine ⟨_, rfl, ?_⟩; (try (rw [drewN_self w14]; generalize hq_ : World.drewN w14 _ = w14; have n0_ : Aside0 (Kd.R Kd.string 9 w14 w.heap.size (fun _ => True) (.slice Ao13 y301.length co13) y301) := ⟨by rw [← hq_]; exact (zR HO303.out)⟩; have n1_ : Aside0 (w14.heap[gb298]? = some (.cells #[.int .i64 0, .int .i64 0, .string ⟨#[]⟩, .string ⟨#[]⟩, .string ⟨#[]⟩, .string ⟨#[]⟩, .string ⟨#[]⟩, .string ⟨#[]⟩, .string ⟨#[]⟩, .slice none 0 0] 64 (0, 0))) := ⟨by rw [← hq_]; exact (zK BK298.out)⟩; have n2_ : Aside0 (w14.heap[gb300]? = some (.cells #[.int .i64 2, .int .i64 a2, .string ⟨#[]⟩, .string ⟨#[]⟩, .string ⟨#[]⟩, .string t299, .string ⟨#[]⟩, .string ⟨#[]⟩, .string ⟨#[]⟩, .slice none 0 0] 64 (0, 0))) := ⟨by rw [← hq_]; exact (zK BK300.out)⟩; have n3_ : Aside0 (Below w.heap.size w w14) := ⟨by rw [← hq_]; exact (zL HB.out)⟩; clear HO303 BK298 BK300 HB hq_; have HO303 := n0_; have BK298 := n1_; have BK300 := n2_; have HB := n3_; clear n0_ n1_ n2_ n3_; (try (obtain ⟨z10_0, z10_1, z10_2, z10_3, z10_4, z10_5, z10_6, z10_7, z10_8, z10_9, y10_0, y10_1, y10_2, y10_3, y10_4, y10_5, y10_6, y10_7, y10_8, y10_9⟩ := zC10 BK300.out)))); have hnb18 := NB300_298.out; have hnc18 := NB298_300.out; obtain ⟨z19_0, z19_1, z19_2, z19_3, z19_4, z19_5, z19_6, z19_7, z19_8, z19_9, y19_0, y19_1, y19_2, y19_3, y19_4, y19_5, y19_6, y19_7, y19_8, y19_9⟩ := zC10 BK300.out; obtain ⟨z20_0, z20_1, z20_2, z20_3, z20_4, z20_5, z20_6, z20_7, z20_8, z20_9, y20_0, y20_1, y20_2, y20_3, y20_4, y20_5, y20_6, y20_7, y20_8, y20_9⟩ := zC10 BK298.out))
   refine bodyPost_ret (results_ct rfl _ _ gb298 64 #[.int .i64 2, .int .i64 a2, .string ⟨#[]⟩, .string ⟨#[]⟩, .string ⟨#[]⟩, .string t299, .string t307, .string ⟨#[]⟩, .string ⟨#[]⟩, .slice none 0 0] (0, 0) _ rfl (zP10 BK298.out) Tryd.underlying64 rfl (by kernel_rfl)) rfl ?_
   exact ⟨_, zE, zNl, zL HB.out⟩
  rw [if_neg c17] at H
  have c17b0 := zn0 c17
  have c17b1 := zn1 c17
  have H' := ka H
  clear H
  go_wp2_with (first | ((with_reducible refine gate_callee (f := 40) rfl ?_); refine goesL_ (some 35) rfl rfl Tryd.func40 (by kernel_rfl) rfl #[.string t304] rfl zA ?_; (with_reducible refine (cooperageref1_Trim.calls k t304 t307 _ A16.out).mono ?_); rintro e w' ⟨rfl, ⟨nd, rfl⟩⟩; refine ⟨_, rfl, ?_⟩; (try (rw [drewN_self w14]; generalize hq_ : World.drewN w14 _ = w14; have n0_ : Aside0 (Kd.R Kd.string 9 w14 w.heap.size (fun _ => True) (.slice Ao13 y301.length co13) y301) := ⟨by rw [← hq_]; exact (zR HO303.out)⟩; have n1_ : Aside0 (w14.heap[gb298]? = some (.cells #[.int .i64 0, .int .i64 0, .string ⟨#[]⟩, .string ⟨#[]⟩, .string ⟨#[]⟩, .string ⟨#[]⟩, .string ⟨#[]⟩, .string ⟨#[]⟩, .string ⟨#[]⟩, .slice none 0 0] 64 (0, 0))) := ⟨by rw [← hq_]; exact (zK BK298.out)⟩; have n2_ : Aside0 (w14.heap[gb300]? = some (.cells #[.int .i64 2, .int .i64 a2, .string ⟨#[]⟩, .string ⟨#[]⟩, .string ⟨#[]⟩, .string t299, .string ⟨#[]⟩, .string ⟨#[]⟩, .string ⟨#[]⟩, .slice none 0 0] 64 (0, 0))) := ⟨by rw [← hq_]; exact (zK BK300.out)⟩; have n3_ : Aside0 (Below w.heap.size w w14) := ⟨by rw [← hq_]; exact (zL HB.out)⟩; clear HO303 BK298 BK300 HB hq_; have HO303 := n0_; have BK298 := n1_; have BK300 := n2_; have HB := n3_; clear n0_ n1_ n2_ n3_; (try (obtain ⟨z20_0, z20_1, z20_2, z20_3, z20_4, z20_5, z20_6, z20_7, z20_8, z20_9, y20_0, y20_1, y20_2, y20_3, y20_4, y20_5, y20_6, y20_7, y20_8, y20_9⟩ := zC10 BK298.out)); (try (obtain ⟨z19_0, z19_1, z19_2, z19_3, z19_4, z19_5, z19_6, z19_7, z19_8, z19_9, y19_0, y19_1, y19_2, y19_3, y19_4, y19_5, y19_6, y19_7, y19_8, y19_9⟩ := zC10 BK300.out)))); have hnb21 := NB300_298.out; have hnc21 := NB298_300.out; obtain ⟨z22_0, z22_1, z22_2, z22_3, z22_4, z22_5, z22_6, z22_7, z22_8, z22_9, y22_0, y22_1, y22_2, y22_3, y22_4, y22_5, y22_6, y22_7, y22_8, y22_9⟩ := zC10 BK300.out))
  go_meet
  case rel => exact ⟨_, (t306), (0), (0), ((⟨#[]⟩ : ByteArray)), ((⟨#[]⟩ : ByteArray)), ((⟨#[]⟩ : ByteArray)), ((⟨#[]⟩ : ByteArray)), ((⟨#[]⟩ : ByteArray)), ((⟨#[]⟩ : ByteArray)), ((⟨#[]⟩ : ByteArray)), (t307), zS, H', ⟨by first | omega | exact Nat.le_refl _⟩, ⟨zK BK298.out⟩, ⟨by (with_reducible repeat (first | refine blk_drewN ?_ _ | refine blk_drew ?_ | refine blk_alloc ?_ _)); refine blk_put (cs := #[.int .i64 2, .int .i64 a2, .string ⟨#[]⟩, .string ⟨#[]⟩, .string ⟨#[]⟩, .string t299, .string ⟨#[]⟩, .string ⟨#[]⟩, .string ⟨#[]⟩, .slice none 0 0]) ?_ 6 _ rfl; (with_reducible repeat (first | refine blk_drewN ?_ _ | refine blk_drew ?_ | refine blk_alloc ?_ _)); exact BK300.out⟩, ⟨zL HB.out⟩⟩
 case rest =>
  clear HC6
  try clear z10_0 z10_1 z10_2 z10_3 z10_4 z10_5 z10_6 z10_7 z10_8 z10_9
  try clear y10_0 y10_1 y10_2 y10_3 y10_4 y10_5 y10_6 y10_7 y10_8 y10_9
  obtain ⟨kq, x1_5, x299000_5, x299001_5, x299002_5, x299003_5, x299004_5, x299005_5, x299006_5, x299007_5, x299008_5, x301006_5, rfl, HA, HJ5, BK298, BK300, HB⟩ := hcut
  cases kq with
  | zero => exact absurd HA.out (by simp [cooperageref9_rule.j0])
  | succ kj5 =>
   have H := HA.out
   clear HA
   simp only [cooperageref9_rule.j0] at H
   obtain ⟨y308, hy308⟩ : ∃ y_ : List ByteArray, y_ = (([(⟨#[58]⟩ : ByteArray)] : List ByteArray)) := ⟨_, rfl⟩
   replace H : ((cooperageref9_Cut.f kj5 x1_5 y308).bind fun bt311 => ((cooperageref9_Cut.f kj5 x1_5 (([(⟨#[124]⟩ : ByteArray)] : List ByteArray))).bind fun bt317 => ((cooperageref9_Cut.f kj5 bt317.2.2 (([(⟨#[124]⟩ : ByteArray)] : List ByteArray))).bind fun bt323 => ((cooperageref1_Trim.f kj5 bt317.1).bind fun t326 => ((cooperageref1_Trim.f kj5 bt317.2.2).bind fun t327 => (if t299.toList = ([] : List UInt8) then (some (2, a2, (⟨#[]⟩ : ByteArray), (⟨#[]⟩ : ByteArray), (⟨#[]⟩ : ByteArray), t299, x301006_5, t326, t327, ([] : List ByteArray), false)) else (if bt311.2.1.toList = ([] : List UInt8) then (if bt317.2.1.toList = ([] : List UInt8) then (some (2, a2, (⟨#[]⟩ : ByteArray), (⟨#[]⟩ : ByteArray), (⟨#[]⟩ : ByteArray), t299, x301006_5, t326, t327, ([] : List ByteArray), true)) else (some (2, a2, (⟨#[]⟩ : ByteArray), (⟨#[]⟩ : ByteArray), (⟨#[]⟩ : ByteArray), t299, x301006_5, t326, t327, ([] : List ByteArray), (bt323.2.1.toList == ([] : List UInt8))))) else (some (2, a2, (⟨#[]⟩ : ByteArray), (⟨#[]⟩ : ByteArray), (⟨#[]⟩ : ByteArray), t299, x301006_5, t326, t327, ([] : List ByteArray), false))))))))) = some (r1, r2, r3, r4, r5, r6, r7, r8, r9, r10, r11) := zH hy308 H
   have Ny308 := ka hy308
   clear hy308
   replace H := Option.bind_eq_some_iff.mp H
   obtain ⟨⟨t311, t312, t313⟩, A230, H⟩ := H
   try dsimp only at H
   have A23 := ka A230
   clear A230
   obtain ⟨y314, hy314⟩ : ∃ y_ : List ByteArray, y_ = (([(⟨#[124]⟩ : ByteArray)] : List ByteArray)) := ⟨_, rfl⟩
   replace H : ((cooperageref9_Cut.f kj5 x1_5 y314).bind fun bt317 => ((cooperageref9_Cut.f kj5 bt317.2.2 (([(⟨#[124]⟩ : ByteArray)] : List ByteArray))).bind fun bt323 => ((cooperageref1_Trim.f kj5 bt317.1).bind fun t326 => ((cooperageref1_Trim.f kj5 bt317.2.2).bind fun t327 => (if t299.toList = ([] : List UInt8) then (some (2, a2, (⟨#[]⟩ : ByteArray), (⟨#[]⟩ : ByteArray), (⟨#[]⟩ : ByteArray), t299, x301006_5, t326, t327, ([] : List ByteArray), false)) else (if t312.toList = ([] : List UInt8) then (if bt317.2.1.toList = ([] : List UInt8) then (some (2, a2, (⟨#[]⟩ : ByteArray), (⟨#[]⟩ : ByteArray), (⟨#[]⟩ : ByteArray), t299, x301006_5, t326, t327, ([] : List ByteArray), true)) else (some (2, a2, (⟨#[]⟩ : ByteArray), (⟨#[]⟩ : ByteArray), (⟨#[]⟩ : ByteArray), t299, x301006_5, t326, t327, ([] : List ByteArray), (bt323.2.1.toList == ([] : List UInt8))))) else (some (2, a2, (⟨#[]⟩ : ByteArray), (⟨#[]⟩ : ByteArray), (⟨#[]⟩ : ByteArray), t299, x301006_5, t326, t327, ([] : List ByteArray), false)))))))) = some (r1, r2, r3, r4, r5, r6, r7, r8, r9, r10, r11) := zH hy314 H
   have Ny314 := ka hy314
   clear hy314
   replace H := Option.bind_eq_some_iff.mp H
   obtain ⟨⟨t317, t318, t319⟩, A240, H⟩ := H
   try dsimp only at H
   have A24 := ka A240
   clear A240
   obtain ⟨y320, hy320⟩ : ∃ y_ : List ByteArray, y_ = (([(⟨#[124]⟩ : ByteArray)] : List ByteArray)) := ⟨_, rfl⟩
   replace H : ((cooperageref9_Cut.f kj5 t319 y320).bind fun bt323 => ((cooperageref1_Trim.f kj5 t317).bind fun t326 => ((cooperageref1_Trim.f kj5 t319).bind fun t327 => (if t299.toList = ([] : List UInt8) then (some (2, a2, (⟨#[]⟩ : ByteArray), (⟨#[]⟩ : ByteArray), (⟨#[]⟩ : ByteArray), t299, x301006_5, t326, t327, ([] : List ByteArray), false)) else (if t312.toList = ([] : List UInt8) then (if t318.toList = ([] : List UInt8) then (some (2, a2, (⟨#[]⟩ : ByteArray), (⟨#[]⟩ : ByteArray), (⟨#[]⟩ : ByteArray), t299, x301006_5, t326, t327, ([] : List ByteArray), true)) else (some (2, a2, (⟨#[]⟩ : ByteArray), (⟨#[]⟩ : ByteArray), (⟨#[]⟩ : ByteArray), t299, x301006_5, t326, t327, ([] : List ByteArray), (bt323.2.1.toList == ([] : List UInt8))))) else (some (2, a2, (⟨#[]⟩ : ByteArray), (⟨#[]⟩ : ByteArray), (⟨#[]⟩ : ByteArray), t299, x301006_5, t326, t327, ([] : List ByteArray), false))))))) = some (r1, r2, r3, r4, r5, r6, r7, r8, r9, r10, r11) := zH hy320 H
   have Ny320 := ka hy320
   clear hy320
   replace H := Option.bind_eq_some_iff.mp H
   obtain ⟨⟨t323, t324, t325⟩, A250, H⟩ := H
   try dsimp only at H
   have A25 := ka A250
   clear A250
   replace H := Option.bind_eq_some_iff.mp H
   obtain ⟨t326, A260, H⟩ := H
   try dsimp only at H
   have A26 := ka A260
   clear A260
   replace H := Option.bind_eq_some_iff.mp H
   obtain ⟨t327, A270, H⟩ := H
   try dsimp only at H
   have A27 := ka A270
   clear A270
   by_cases c28 : t299.toList = ([] : List UInt8)
   case' pos =>
    rw [if_pos c28] at H
    have c28b0 := zb0 c28
    have c28b1 := zb1 c28
    clear c28
   case' neg =>
    rw [if_neg c28] at H
    have c28b0 := zn0 c28
    have c28b1 := zn1 c28
    by_cases c44 : t312.toList = ([] : List UInt8)
    case' neg =>
     rw [if_neg c44] at H
     have c44b0 := zn0 c44
     have c44b1 := zn1 c44
    case' pos =>
     rw [if_pos c44] at H
     have c44b0 := zb0 c44
     have c44b1 := zb1 c44
     clear c44
     by_cases c45 : t318.toList = ([] : List UInt8)
     case' pos =>
      rw [if_pos c45] at H
      have c45b0 := zb0 c45
      have c45b1 := zb1 c45
      clear c45
     case' neg =>
      rw [if_neg c45] at H
      have c45b0 := zn0 c45
      have c45b1 := zn1 c45
   all_goals
    replace H := zs11 H
    obtain ⟨rfl, rfl, rfl, rfl, rfl, rfl, rfl, rfl, rfl, rfl, rfl⟩ := H
    go_wp2_with (first | ((with_reducible refine gate_dst (N := 44) rfl ?_); refine Kd.R_lit Kd.string _ 9 ?hg (N := 44) ?hd (xs := ([(⟨#[58]⟩ : ByteArray)] : List ByteArray)) (inner := [.string ⟨#[58]⟩]) (ok := fun _ => True) (okp := fun _ => True) ?hr ?hp (fun _ hk => hk) trivial (Below.refl _ _) (Nat.le_refl _) (by simp) ?_; (case hd => rfl); (case hg => rfl); (case hr => (go_simp; try rfl)); (case hp => exact (Reps.one (show Kd.M Kd.string _ _ _ (⟨#[58]⟩ : ByteArray) [.string ⟨#[58]⟩] from rfl) (Reps.none _ _))); intro v309 w29 ho30 hb hg_ hnew_; clear hg_ hnew_; (first | rw [← Ny308.out] at ho30 | (simp only [Int.reduceToNat] at ho30; rw [← Ny308.out] at ho30)); have HO310 := ka (Kd.R_lower ho30 (below_size (zL HB.out))); replace BK298 := ka (zB BK298.out hb); replace BK300 := ka (zB BK300.out hb); replace HB := ka (below_step (zL HB.out) hb); clear hb ho30; obtain ⟨Ao31, co31, eo31⟩ := Kd.R_slice HO310.out; subst eo31) | ((with_reducible refine gate_callee (f := 18) rfl ?_); refine goesL_ (some 45) rfl rfl Tryd.func18 (by kernel_rfl) rfl #[.string x1_5, .slice Ao31 y308.length co31] rfl zA ?_; (with_reducible refine (cooperageref9_Cut.calls kj5 x1_5 _ _ y308 t311 t312 t313 _ ?side1 ?side2 A23.out).mono ?_); (case side1 => exact zCS (Kd.R_reads' HO310.out).2.2); (case side2 => exact (Kd.R_reads' HO310.out).2.1); rintro e w32 ⟨rfl, hb⟩; refine ⟨_, rfl, ?_⟩; replace HO310 := ka (Kd.R_below (zR HO310.out) hb); replace BK298 := ka (zB BK298.out hb); replace BK300 := ka (zB BK300.out hb); replace HB := ka (below_step (zL HB.out) hb); (try clear hb); (try clear hb2); (try clear hk); (try clear hi)) | ((with_reducible refine gate_dst (N := 51) rfl ?_); refine Kd.R_lit Kd.string _ 9 ?hg (N := 51) ?hd (xs := ([(⟨#[124]⟩ : ByteArray)] : List ByteArray)) (inner := [.string ⟨#[124]⟩]) (ok := fun _ => True) (okp := fun _ => True) ?hr ?hp (fun _ hk => hk) trivial (Below.refl _ _) (Nat.le_refl _) (by simp) ?_; (case hd => rfl); (case hg => rfl); (case hr => (go_simp; try rfl)); (case hp => exact (Reps.one (show Kd.M Kd.string _ _ _ (⟨#[124]⟩ : ByteArray) [.string ⟨#[124]⟩] from rfl) (Reps.none _ _))); intro v315 w33 ho34 hb hg_ hnew_; clear hg_ hnew_; (first | rw [← Ny314.out] at ho34 | (simp only [Int.reduceToNat] at ho34; rw [← Ny314.out] at ho34)); have HO316 := ka (Kd.R_lower (Kd.R_new' ho34 (Kd.R_lt (zR HO310.out))) (below_size (zL HB.out))); replace HO310 := ka (Kd.R_elder' (zR HO310.out) (Kd.R_base ho34) hb); replace BK298 := ka (zB BK298.out hb); replace BK300 := ka (zB BK300.out hb); replace HB := ka (below_step (zL HB.out) hb); clear hb ho34; obtain ⟨Ao35, co35, eo35⟩ := Kd.R_slice HO316.out; subst eo35) | ((with_reducible refine gate_callee (f := 18) rfl ?_); refine goesL_ (some 52) rfl rfl Tryd.func18 (by kernel_rfl) rfl #[.string x1_5, .slice Ao35 y314.length co35] rfl zA ?_; (with_reducible refine (cooperageref9_Cut.calls kj5 x1_5 _ _ y314 t317 t318 t319 _ ?side1 ?side2 A24.out).mono ?_); (case side1 => exact zCS (Kd.R_reads' HO316.out).2.2); (case side2 => exact (Kd.R_reads' HO316.out).2.1); rintro e w36 ⟨rfl, hb⟩; refine ⟨_, rfl, ?_⟩; replace HO310 := ka (Kd.R_below (zR HO310.out) hb); replace HO316 := ka (Kd.R_below (zR HO316.out) hb); replace BK298 := ka (zB BK298.out hb); replace BK300 := ka (zB BK300.out hb); replace HB := ka (below_step (zL HB.out) hb); (try clear hb); (try clear hb2); (try clear hk); (try clear hi)) | ((with_reducible refine gate_dst (N := 58) rfl ?_); refine Kd.R_lit Kd.string _ 9 ?hg (N := 58) ?hd (xs := ([(⟨#[124]⟩ : ByteArray)] : List ByteArray)) (inner := [.string ⟨#[124]⟩]) (ok := fun _ => True) (okp := fun _ => True) ?hr ?hp (fun _ hk => hk) trivial (Below.refl _ _) (Nat.le_refl _) (by simp) ?_; (case hd => rfl); (case hg => rfl); (case hr => (go_simp; try rfl)); (case hp => exact (Reps.one (show Kd.M Kd.string _ _ _ (⟨#[124]⟩ : ByteArray) [.string ⟨#[124]⟩] from rfl) (Reps.none _ _))); intro v321 w37 ho38 hb hg_ hnew_; clear hg_ hnew_; (first | rw [← Ny320.out] at ho38 | (simp only [Int.reduceToNat] at ho38; rw [← Ny320.out] at ho38)); have HO322 := ka (Kd.R_lower (Kd.R_new' (Kd.R_new' ho38 (Kd.R_lt (zR HO310.out))) (Kd.R_lt (zR HO316.out))) (below_size (zL HB.out))); replace HO310 := ka (Kd.R_elder' (zR HO310.out) (Kd.R_base ho38) hb); replace HO316 := ka (Kd.R_elder' (zR HO316.out) (Kd.R_base ho38) hb); replace BK298 := ka (zB BK298.out hb); replace BK300 := ka (zB BK300.out hb); replace HB := ka (below_step (zL HB.out) hb); clear hb ho38; obtain ⟨Ao39, co39, eo39⟩ := Kd.R_slice HO322.out; subst eo39) | ((with_reducible refine gate_callee (f := 18) rfl ?_); refine goesL_ (some 59) rfl rfl Tryd.func18 (by kernel_rfl) rfl #[.string t319, .slice Ao39 y320.length co39] rfl zA ?_; (with_reducible refine (cooperageref9_Cut.calls kj5 t319 _ _ y320 t323 t324 t325 _ ?side1 ?side2 A25.out).mono ?_); (case side1 => exact zCS (Kd.R_reads' HO322.out).2.2); (case side2 => exact (Kd.R_reads' HO322.out).2.1); rintro e w40 ⟨rfl, hb⟩; refine ⟨_, rfl, ?_⟩; replace HO310 := ka (Kd.R_below (zR HO310.out) hb); replace HO316 := ka (Kd.R_below (zR HO316.out) hb); replace HO322 := ka (Kd.R_below (zR HO322.out) hb); replace BK298 := ka (zB BK298.out hb); replace BK300 := ka (zB BK300.out hb); replace HB := ka (below_step (zL HB.out) hb); (try clear hb); (try clear hb2); (try clear hk); (try clear hi)) | ((with_reducible refine gate_callee (f := 40) rfl ?_); refine goesL_ (some 64) rfl rfl Tryd.func40 (by kernel_rfl) rfl #[.string t317] rfl zA ?_; (with_reducible refine (cooperageref1_Trim.calls kj5 t317 t326 _ A26.out).mono ?_); rintro e w' ⟨rfl, ⟨nd, rfl⟩⟩; refine ⟨_, rfl, ?_⟩; (try (rw [drewN_self w40]; generalize hq_ : World.drewN w40 _ = w40; have n0_ : Aside0 (Kd.R Kd.string 9 w40 w.heap.size (fun k_ => some k_ ≠ (.slice Ao35 y314.length co35 : Value).ownBlock ∧ some k_ ≠ (.slice Ao39 y320.length co39 : Value).ownBlock) (.slice Ao31 y308.length co31) y308) := ⟨by rw [← hq_]; exact (by (with_reducible repeat (first | apply Kd.R_alloc | apply Kd.R_drewN | apply Kd.R_drew)); exact Kd.R_mono HO310.out (fun _ hk => ⟨hk.1.2, hk.2⟩))⟩; have n1_ : Aside0 (Kd.R Kd.string 9 w40 w.heap.size (fun k_ => some k_ ≠ (.slice Ao31 y308.length co31 : Value).ownBlock ∧ some k_ ≠ (.slice Ao39 y320.length co39 : Value).ownBlock) (.slice Ao35 y314.length co35) y314) := ⟨by rw [← hq_]; exact (by (with_reducible repeat (first | apply Kd.R_alloc | apply Kd.R_drewN | apply Kd.R_drew)); exact Kd.R_mono HO316.out (fun _ hk => ⟨hk.1.2, hk.2⟩))⟩; have n2_ : Aside0 (Kd.R Kd.string 9 w40 w.heap.size (fun k_ => some k_ ≠ (.slice Ao31 y308.length co31 : Value).ownBlock ∧ some k_ ≠ (.slice Ao35 y314.length co35 : Value).ownBlock) (.slice Ao39 y320.length co39) y320) := ⟨by rw [← hq_]; exact (by (with_reducible repeat (first | apply Kd.R_alloc | apply Kd.R_drewN | apply Kd.R_drew)); exact Kd.R_mono HO322.out (fun _ hk => ⟨hk.1.2, hk.2⟩))⟩; have n3_ : Aside0 (w40.heap[gb298]? = some (.cells #[.int .i64 x299000_5, .int .i64 x299001_5, .string x299002_5, .string x299003_5, .string x299004_5, .string x299005_5, .string x299006_5, .string x299007_5, .string x299008_5, .slice none 0 0] 64 (0, 0))) := ⟨by rw [← hq_]; exact (zK BK298.out)⟩; have n4_ : Aside0 (w40.heap[gb300]? = some (.cells #[.int .i64 2, .int .i64 a2, .string ⟨#[]⟩, .string ⟨#[]⟩, .string ⟨#[]⟩, .string t299, .string x301006_5, .string ⟨#[]⟩, .string ⟨#[]⟩, .slice none 0 0] 64 (0, 0))) := ⟨by rw [← hq_]; exact (zK BK300.out)⟩; have n5_ : Aside0 (Below w.heap.size w w40) := ⟨by rw [← hq_]; exact (zL HB.out)⟩; clear HO310 HO316 HO322 BK298 BK300 HB hq_; have HO310 := n0_; have HO316 := n1_; have HO322 := n2_; have BK298 := n3_; have BK300 := n4_; have HB := n5_; clear n0_ n1_ n2_ n3_ n4_ n5_; (try (obtain ⟨z20_0, z20_1, z20_2, z20_3, z20_4, z20_5, z20_6, z20_7, z20_8, z20_9, y20_0, y20_1, y20_2, y20_3, y20_4, y20_5, y20_6, y20_7, y20_8, y20_9⟩ := zC10 BK298.out)); (try (obtain ⟨z22_0, z22_1, z22_2, z22_3, z22_4, z22_5, z22_6, z22_7, z22_8, z22_9, y22_0, y22_1, y22_2, y22_3, y22_4, y22_5, y22_6, y22_7, y22_8, y22_9⟩ := zC10 BK300.out)))); have hnb41 := NB300_298.out; have hnc41 := NB298_300.out; obtain ⟨z42_0, z42_1, z42_2, z42_3, z42_4, z42_5, z42_6, z42_7, z42_8, z42_9, y42_0, y42_1, y42_2, y42_3, y42_4, y42_5, y42_6, y42_7, y42_8, y42_9⟩ := zC10 BK300.out) | ((with_reducible refine gate_callee (f := 40) rfl ?_); refine goesL_ (some 67) rfl rfl Tryd.func40 (by kernel_rfl) rfl #[.string t319] rfl zA ?_; (with_reducible refine (cooperageref1_Trim.calls kj5 t319 t327 _ A27.out).mono ?_); rintro e w' ⟨rfl, ⟨nd, rfl⟩⟩; refine ⟨_, rfl, ?_⟩; obtain ⟨z43_0, z43_1, z43_2, z43_3, z43_4, z43_5, z43_6, z43_7, z43_8, z43_9, y43_0, y43_1, y43_2, y43_3, y43_4, y43_5, y43_6, y43_7, y43_8, y43_9⟩ := zC10 BK298.out))
    refine bodyPost_ret (results_ct rfl _ _ gb298 64 #[.int .i64 2, .int .i64 a2, .string ⟨#[]⟩, .string ⟨#[]⟩, .string ⟨#[]⟩, .string t299, .string x301006_5, .string t326, .string t327, .slice none 0 0] (0, 0) _ rfl (zP10 BK298.out) Tryd.underlying64 rfl (by kernel_rfl)) rfl ?_
    exact ⟨_, zE, zNl, zL HB.out⟩

end Go.Proofs.YthnholondnfjoaaDoor.PParse
