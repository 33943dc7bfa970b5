-- Written by a program of this session (wip/tools/ext.py, over the kit's printer); not trusted: Lean checks it.
import Derived.Test.YthnholondnfjoaaDoorPParsex0
import Derived.Test.YthnholondnfjoaaDoorPParsex11
namespace Go.Proofs.YthnholondnfjoaaDoor.PParse
open Go.RowKit Go.Proofs.YthnholondnfjoaaDoorW.PrintWords Go.Proofs.YthnholondnfjoaaDoorW.PrintLast Go.Proofs.YthnholondnfjoaaDoorW.PrintMore
attribute [local go_sem] max2_int min2_int max_two min_two max_three min_three max_four min_four   -- for this text's walks alone
set_option linter.unusedVariables false
set_option linter.unusedSimpArgs false

/-! ### cooperageref1_blank: function 61 -/
def cooperageref1_blank.f (a0 : Int) : Option (Bool) := if a0 = 32 then (some true) else (some (a0 == 9))
set_option maxHeartbeats 8000000 in
set_option maxRecDepth 100000 in
theorem cooperageref1_blank.calls (a0 : Int) (r : Bool) (w : World) (h : cooperageref1_blank.f a0 = some r) :
  Calls Tryd.prog 61 #[.int .u8 a0] w fun e w' => e = .returned (.bool r) ∧ Drawn0 w w' := by
 have H : (if a0 = 32 then (some true) else (some (a0 == 9))) = some r := h
 clear h
 by_cases c2 : a0 = 32
 ·rw [if_pos c2] at H
  have c2b0 := beq_iff_eq.mpr c2
  have c2b1 := bne_eq_false_iff_eq.mpr c2
  clear c2
  obtain rfl := Option.some.inj H
  go_enter Tryd.func61, Tryd.ntmps61
  go_wp2
  go_ret
  exact ⟨by first | rfl | (simp; done) | (simp [*]; done), by repeat (first | exact Drawn0.refl _ | apply Drawn0.step)⟩
 rw [if_neg c2] at H
 have c2b0 := beq_eq_false_iff_ne.mpr c2
 have c2b1 := bne_iff_ne.mpr c2
 obtain rfl := Option.some.inj H
 go_enter Tryd.func61, Tryd.ntmps61
 go_wp2
 go_ret
 exact ⟨by first | rfl | (simp; done) | (simp [*]; done), by repeat (first | exact Drawn0.refl _ | apply Drawn0.step)⟩

/-! ### cooperageref1_Trim: function 40 -/
mutual
def cooperageref1_Trim.j1 : Nat → ByteArray → Option (ByteArray)
 | 0, _ => none
 | k + 1, x0 => cooperageref1_Trim.l1 k x0
def cooperageref1_Trim.l1 : Nat → ByteArray → Option (ByteArray)
 | 0, _ => none
 | k + 1, x0 => if x0.toList = ([] : List UInt8) then (some x0) else (if 0 ≤ (wrap64 ((x0.size : Int) - 1)) then (if (wrap64 ((x0.size : Int) - 1)) < (x0.size : Int) then ((cooperageref1_blank.f (bt x0 (wrap64 ((x0.size : Int) - 1)))).bind fun t296 => (if t296 = true then (if (wrap64 ((x0.size : Int) - 1)) ≤ (x0.size : Int) then (cooperageref1_Trim.l1 k (x0.extract 0 ((wrap64 ((x0.size : Int) - 1)) : Int).toNat)) else (none)) else (some x0))) else (none)) else (none))
def cooperageref1_Trim.l0 : Nat → ByteArray → Option (ByteArray)
 | 0, _ => none
 | k + 1, x0 => if x0.toList = ([] : List UInt8) then (cooperageref1_Trim.j1 k x0) else (if 0 < (x0.size : Int) then ((cooperageref1_blank.f (bt x0 0)).bind fun t295 => (if t295 = true then (if 1 ≤ (x0.size : Int) then (cooperageref1_Trim.l0 k (x0.extract 1 x0.size)) else (none)) else (cooperageref1_Trim.j1 k x0))) else (none))
end
def cooperageref1_Trim.f (k : Nat) (a0 : ByteArray) : Option (ByteArray) := cooperageref1_Trim.l0 k a0
theorem cooperageref1_Trim.mono_l : ∀ k, (∀ y0, LeO (cooperageref1_Trim.j1 k y0) (cooperageref1_Trim.j1 (k + 1) y0)) ∧ (∀ y0, LeO (cooperageref1_Trim.l1 k y0) (cooperageref1_Trim.l1 (k + 1) y0)) ∧ (∀ y0, LeO (cooperageref1_Trim.l0 k y0) (cooperageref1_Trim.l0 (k + 1) y0))
 | 0 => ⟨fun _ r h => by simp [cooperageref1_Trim.j1] at h, fun _ r h => by simp [cooperageref1_Trim.l1] at h, fun _ r h => by simp [cooperageref1_Trim.l0] at h⟩
 | k + 1 => by
  obtain ⟨ih0, ih1, ih2⟩ := cooperageref1_Trim.mono_l k
  refine ⟨?_, ?_, ?_⟩
  ·intro y0
   unfold cooperageref1_Trim.j1
   repeat' first
   | (with_reducible exact ih0 _)
   | (with_reducible exact ih1 _)
   | (with_reducible exact ih2 _)
   | (with_reducible exact LeO.refl _)
   | (with_reducible exact LeO.none _)
   | (with_reducible refine LeO.ite ?_ ?_)
   | (with_reducible refine LeO.bind ?_ (fun _ => ?_))
   | exact ih0 _
   | exact ih1 _
   | exact ih2 _
   | exact LeO.none _
   | refine LeO.ite ?_ ?_
   | refine LeO.bind ?_ (fun _ => ?_)
  ·intro y0
   unfold cooperageref1_Trim.l1
   repeat' first
   | (with_reducible exact ih0 _)
   | (with_reducible exact ih1 _)
   | (with_reducible exact ih2 _)
   | (with_reducible exact LeO.refl _)
   | (with_reducible exact LeO.none _)
   | (with_reducible refine LeO.ite ?_ ?_)
   | (with_reducible refine LeO.bind ?_ (fun _ => ?_))
   | exact ih0 _
   | exact ih1 _
   | exact ih2 _
   | exact LeO.none _
   | refine LeO.ite ?_ ?_
   | refine LeO.bind ?_ (fun _ => ?_)
  ·intro y0
   unfold cooperageref1_Trim.l0
   repeat' first
   | (with_reducible exact ih0 _)
   | (with_reducible exact ih1 _)
   | (with_reducible exact ih2 _)
   | (with_reducible exact LeO.refl _)
   | (with_reducible exact LeO.none _)
   | (with_reducible refine LeO.ite ?_ ?_)
   | (with_reducible refine LeO.bind ?_ (fun _ => ?_))
   | exact ih0 _
   | exact ih1 _
   | exact ih2 _
   | exact LeO.none _
   | refine LeO.ite ?_ ?_
   | refine LeO.bind ?_ (fun _ => ?_)
theorem cooperageref1_Trim.mono : ∀ a0 k, LeO (cooperageref1_Trim.f k a0) (cooperageref1_Trim.f (k + 1) a0) := by
 intro a0 k
 obtain ⟨ih0, ih1, ih2⟩ := cooperageref1_Trim.mono_l k
 unfold cooperageref1_Trim.f
 repeat' first
   | (with_reducible exact ih0 _)
   | (with_reducible exact ih1 _)
   | (with_reducible exact ih2 _)
   | (with_reducible exact LeO.refl _)
   | (with_reducible exact LeO.none _)
   | (with_reducible refine LeO.ite ?_ ?_)
   | (with_reducible refine LeO.bind ?_ (fun _ => ?_))
   | exact ih0 _
   | exact ih1 _
   | exact ih2 _
   | exact LeO.none _
   | refine LeO.ite ?_ ?_
   | refine LeO.bind ?_ (fun _ => ?_)
set_option maxHeartbeats 8000000 in
set_option maxRecDepth 100000 in
theorem cooperageref1_Trim.calls (k : Nat) (a0 : ByteArray) (r : ByteArray) (w : World) (h : cooperageref1_Trim.f k a0 = some r) :
  Calls Tryd.prog 40 #[.string a0] w fun e w' => e = .returned (.string r) ∧ Drawn0 w w' := by
 have H : (cooperageref1_Trim.l0 k a0) = some r := h
 clear h
 have HC2 := Aside0.mk H
 clear H
 go_enter Tryd.func40, Tryd.ntmps40
 go_upto_block 0 with (fail)
 go_cut [0] (fun v0 wc => ∃ (kq : Nat) (x0_1 : ByteArray), v0 = .string x0_1 ∧ Aside0 (cooperageref1_Trim.j1 kq x0_1 = some r) ∧ Aside0 (kq ≤ k) ∧ Drawn0 w wc)
 case first =>
  have H := HC2.out
  clear HC2
  have H' := Aside0.mk H
  clear H
  go_wp2
  go_loopg [0] k (fun kq v0 w' => ∃ (x0_1 : ByteArray), v0 = .string x0_1 ∧ Aside0 (cooperageref1_Trim.l0 kq x0_1 = some r) ∧ Aside0 (kq ≤ k) ∧ Drawn0 w w')
  case atStart => exact ⟨(a0), zS, H', ⟨Nat.le_refl _⟩, by repeat (first | exact Drawn0.refl _ | apply Drawn0.step)⟩
  case round =>
   clear H'
   obtain ⟨x0_1, rfl, HA, HK1, ⟨m1, rfl⟩⟩ := hrel
   cases gk with
   | zero => exact absurd HA.out (by simp [cooperageref1_Trim.l0])
   | succ k1 =>
    have H := HA.out
    clear HA
    simp only [cooperageref1_Trim.l0] at H
    by_cases c3 : x0_1.toList = ([] : List UInt8)
    ·rw [if_pos c3] at H
     have c3b0 := beq_iff_eq.mpr c3
     have c3b1 := bne_eq_false_iff_eq.mpr c3
     clear c3
     (first | rw [c3b0] | (simp only [i64_w, i32_w]; rw [c3b0]) | rw [isE_ c3b0] | skip)
     have H' := Aside0.mk H
     clear H
     go_wp2
     go_meet
     case rel => exact ⟨_, (x0_1), zS, H', ⟨by have := HK1.out; first | omega | exact Nat.le_refl _⟩, by repeat (first | exact Drawn0.refl _ | apply Drawn0.step)⟩
    rw [if_neg c3] at H
    have c3b0 := beq_eq_false_iff_ne.mpr c3
    have c3b1 := bne_iff_ne.mpr c3
    (first | rw [c3b0] | (simp only [i64_w, i32_w]; rw [c3b0]) | rw [isE_ c3b0] | skip)
    by_cases c4 : 0 < (x0_1.size : Int)
    ·rw [if_pos c4] at H
     have c4b0 := decide_eq_true c4
     have c4b1 : decide (0 < x0_1.size) = true := decide_eq_true (by omega)
     clear c4
     replace H := Option.bind_eq_some_iff.mp H
     obtain ⟨t295, A60, H⟩ := H
     try dsimp only at H
     have A6 := Aside0.mk A60
     clear A60
     by_cases c7 : t295 = true
     ·subst c7
      rw [if_pos rfl] at H
      by_cases c8 : 1 ≤ (x0_1.size : Int)
      ·rw [if_pos c8] at H
       have c8b0 := eq_true c8
       have c8b1 := decide_eq_true c8
       clear c8
       have H' := Aside0.mk H
       clear H
       have p5 : 0 ≤ (0 : Int) := (by omega)
       have q5 : 0 < x0_1.size := (by have : (0 : Int) < (x0_1.size : Int) := zD; omega)
       have hx5 : ∀ h : 0 < x0_1.size, ((x0_1[0]'h).toNat : Int) = bt x0_1 0 := bt_at x0_1 0
       clear p5
       have qi5 : (0 < (x0_1.size : Int)) = True := eq_true zD
       replace q5 := eq_true q5
       go_wp2_with (first | (go_at_call 61; (with_reducible refine (cooperageref1_blank.calls (bt x0_1 0) true _ A6.out).mono ?_); rintro e w' ⟨rfl, ⟨nd, rfl⟩⟩))
       go_roundg k1
       case measure => have := HK1.out; omega
       case rel => exact ⟨(x0_1.extract 1 x0_1.size), zS, H', ⟨by have := HK1.out; omega⟩, by repeat (first | exact Drawn0.refl _ | apply Drawn0.step)⟩
      rw [if_neg c8] at H
      exact absurd H (by simp)
     replace c7 := Bool.eq_false_iff.mpr c7
     subst c7
     rw [if_neg (show ¬ (false = true) by decide)] at H
     have H' := Aside0.mk H
     clear H
     have p5 : 0 ≤ (0 : Int) := (by omega)
     have q5 : 0 < x0_1.size := (by have : (0 : Int) < (x0_1.size : Int) := zD; omega)
     have hx5 : ∀ h : 0 < x0_1.size, ((x0_1[0]'h).toNat : Int) = bt x0_1 0 := bt_at x0_1 0
     clear p5
     have qi5 : (0 < (x0_1.size : Int)) = True := eq_true zD
     replace q5 := eq_true q5
     go_wp2_with (first | (go_at_call 61; (with_reducible refine (cooperageref1_blank.calls (bt x0_1 0) false _ A6.out).mono ?_); rintro e w' ⟨rfl, ⟨nd, rfl⟩⟩))
     go_meet
     case rel => exact ⟨_, (x0_1), zS, H', ⟨by have := HK1.out; first | omega | exact Nat.le_refl _⟩, by repeat (first | exact Drawn0.refl _ | apply Drawn0.step)⟩
    rw [if_neg c4] at H
    exact absurd H (by simp)
 case rest =>
  clear HC2
  obtain ⟨kq, x0_1, rfl, HA, HJ1, ⟨mc1, rfl⟩⟩ := hcut
  cases kq with
  | zero => exact absurd HA.out (by simp [cooperageref1_Trim.j1])
  | succ kj1 =>
   have H := HA.out
   clear HA
   simp only [cooperageref1_Trim.j1] at H
   have H' := Aside0.mk H
   clear H
   go_wp2
   go_loopg [0] kj1 (fun kq v0 w' => ∃ (x0_2 : ByteArray), v0 = .string x0_2 ∧ Aside0 (cooperageref1_Trim.l1 kq x0_2 = some r) ∧ Aside0 (kq ≤ kj1) ∧ Drawn0 w w')
   case atStart => exact ⟨(x0_1), zS, H', ⟨Nat.le_refl _⟩, by repeat (first | exact Drawn0.refl _ | apply Drawn0.step)⟩
   case round =>
    clear H'
    obtain ⟨x0_2, rfl, HA, HK2, ⟨m2, rfl⟩⟩ := hrel
    cases gk with
    | zero => exact absurd HA.out (by simp [cooperageref1_Trim.l1])
    | succ k2 =>
     have H := HA.out
     clear HA
     simp only [cooperageref1_Trim.l1] at H
     by_cases c9 : x0_2.toList = ([] : List UInt8)
     ·rw [if_pos c9] at H
      have c9b0 := beq_iff_eq.mpr c9
      have c9b1 := bne_eq_false_iff_eq.mpr c9
      clear c9
      obtain rfl := Option.some.inj H
      go_wp2
      go_ret
      exact ⟨by first | rfl | (simp; done) | (simp [*]; done), by repeat (first | exact Drawn0.refl _ | apply Drawn0.step)⟩
     rw [if_neg c9] at H
     have c9b0 := beq_eq_false_iff_ne.mpr c9
     have c9b1 := bne_iff_ne.mpr c9
     obtain ⟨ji10, hji10⟩ : ∃ j_ : Int, (wrap64 ((x0_2.size : Int) - 1)) = j_ := ⟨_, rfl⟩
     replace H : (if 0 ≤ (ji10) then (if (ji10) < (x0_2.size : Int) then ((cooperageref1_blank.f (bt x0_2 (ji10))).bind fun t296 => (if t296 = true then (if (ji10) ≤ (x0_2.size : Int) then (cooperageref1_Trim.l1 k2 (x0_2.extract 0 ((ji10) : Int).toNat)) else (none)) else (some x0_2))) else (none)) else (none)) = some r := by first | (rw [hji10] at H; exact H) | (simp only [hji10] at H ⊢; exact H)
     have hji10w : (IntKind.i64.wrap ((x0_2.size : Int) - 1)) = ji10 := (i64_w _).trans hji10
     by_cases c11 : 0 ≤ (ji10)
     ·rw [if_pos c11] at H
      have c11b0 := decide_eq_true c11
      clear c11
      by_cases c12 : (ji10) < (x0_2.size : Int)
      ·rw [if_pos c12] at H
       have c12b0 := decide_eq_true c12
       clear c12
       replace H := Option.bind_eq_some_iff.mp H
       obtain ⟨t296, A140, H⟩ := H
       try dsimp only at H
       have A14 := Aside0.mk A140
       clear A140
       by_cases c15 : t296 = true
       ·subst c15
        rw [if_pos rfl] at H
        have c16b0 := eq_true (zD : 0 ≤ (ji10))
        by_cases c17 : (ji10) ≤ (x0_2.size : Int)
        ·rw [if_pos c17] at H
         have c17b0 := eq_true c17
         have c17b1 := decide_eq_true c17
         clear c17
         have H' := Aside0.mk H
         clear H
         have p13 : 0 ≤ ((ji10) : Int) := zD
         have q13 : (ji10) < (x0_2.size : Int) := zD
         have hx13 := bt_at x0_2 (ji10)
         replace p13 := eq_true p13
         replace q13 := eq_true q13
         go_wp2_with (first | (go_at_call 61; (with_reducible refine (cooperageref1_blank.calls (bt x0_2 (ji10)) true _ A14.out).mono ?_); rintro e w' ⟨rfl, ⟨nd, rfl⟩⟩))
         go_roundg k2
         case measure => have := HJ1.out; have := HK2.out; omega
         case rel => exact ⟨(x0_2.extract 0 ((ji10) : Int).toNat), (by first | rfl | (simp; done) | (simp only [← hji10] <;> (first | rfl | simp)) | (simp [*]; done)), H', ⟨by have := HJ1.out; have := HK2.out; omega⟩, by repeat (first | exact Drawn0.refl _ | apply Drawn0.step)⟩
        rw [if_neg c17] at H
        exact absurd H (by simp)
       replace c15 := Bool.eq_false_iff.mpr c15
       subst c15
       rw [if_neg (show ¬ (false = true) by decide)] at H
       obtain rfl := Option.some.inj H
       have p13 : 0 ≤ ((ji10) : Int) := zD
       have q13 : (ji10) < (x0_2.size : Int) := zD
       have hx13 := bt_at x0_2 (ji10)
       replace p13 := eq_true p13
       replace q13 := eq_true q13
       go_wp2_with (first | (go_at_call 61; (with_reducible refine (cooperageref1_blank.calls (bt x0_2 (ji10)) false _ A14.out).mono ?_); rintro e w' ⟨rfl, ⟨nd, rfl⟩⟩))
       go_ret
       exact ⟨by first | rfl | (simp; done) | (simp only [← hji10] <;> (first | rfl | simp)) | (simp [*]; done), by repeat (first | exact Drawn0.refl _ | apply Drawn0.step)⟩
      rw [if_neg c12] at H
      exact absurd H (by simp)
     rw [if_neg c11] at H
     exact absurd H (by simp)

/-! ### cooperageref1_Words: function 47 -/
def cooperageref1_Words.l0 : Nat → ByteArray → List ByteArray → ByteArray → Int → Option (List ByteArray)
 | 0, _, _, _, _ => none
 | k + 1, x0, x3, x4, x5 => if x5 < (x0.size : Int) then (if 0 ≤ x5 then ((cooperageref1_blank.f (bt x0 x5)).bind fun t300 => (if t300 = true then (if x4.toList = ([] : List UInt8) then (cooperageref1_Words.l0 k x0 x3 (⟨#[]⟩ : ByteArray) (wrap64 (x5 + 1))) else (if x3.length < 8796093022208 then (cooperageref1_Words.l0 k x0 (x3 ++ [x4]) (⟨#[]⟩ : ByteArray) (wrap64 (x5 + 1))) else (none))) else (if x5 ≤ (wrap64 (x5 + 1)) then (if (wrap64 (x5 + 1)) ≤ (x0.size : Int) then (if x4.size + (x0.extract (x5 : Int).toNat ((wrap64 (x5 + 1)) : Int).toNat).size ≤ 9223372036854775807 then (cooperageref1_Words.l0 k x0 x3 (x4 ++ (x0.extract (x5 : Int).toNat ((wrap64 (x5 + 1)) : Int).toNat)) (wrap64 (x5 + 1))) else (none)) else (none)) else (none)))) else (none)) else (if x4.toList = ([] : List UInt8) then (some x3) else (if x3.length < 8796093022208 then (some (x3 ++ [x4])) else (none)))
def cooperageref1_Words.f (k : Nat) (a0 : ByteArray) : Option (List ByteArray) := cooperageref1_Words.l0 k a0 ([] : List ByteArray) (⟨#[]⟩ : ByteArray) 0
theorem cooperageref1_Words.mono_l : ∀ k, (∀ y0 y1 y2 y3, LeO (cooperageref1_Words.l0 k y0 y1 y2 y3) (cooperageref1_Words.l0 (k + 1) y0 y1 y2 y3))
 | 0 => fun _ _ _ _ r h => by simp [cooperageref1_Words.l0] at h
 | k + 1 => by
  have ih0 := cooperageref1_Words.mono_l k
  ·intro y0 y1 y2 y3
   unfold cooperageref1_Words.l0
   repeat' first
   | (with_reducible exact ih0 _ _ _ _)
   | (with_reducible exact LeO.refl _)
   | (with_reducible exact LeO.none _)
   | (with_reducible refine LeO.ite ?_ ?_)
   | (with_reducible refine LeO.bind ?_ (fun _ => ?_))
   | exact ih0 _ _ _ _
   | exact LeO.none _
   | refine LeO.ite ?_ ?_
   | refine LeO.bind ?_ (fun _ => ?_)
theorem cooperageref1_Words.mono : ∀ a0 k, LeO (cooperageref1_Words.f k a0) (cooperageref1_Words.f (k + 1) a0) := by
 intro a0 k
 have ih0 := cooperageref1_Words.mono_l k
 unfold cooperageref1_Words.f
 repeat' first
   | (with_reducible exact ih0 _ _ _ _)
   | (with_reducible exact LeO.refl _)
   | (with_reducible exact LeO.none _)
   | (with_reducible refine LeO.ite ?_ ?_)
   | (with_reducible refine LeO.bind ?_ (fun _ => ?_))
   | exact ih0 _ _ _ _
   | exact LeO.none _
   | refine LeO.ite ?_ ?_
   | refine LeO.bind ?_ (fun _ => ?_)
set_option maxHeartbeats 8000000 in
set_option maxRecDepth 100000 in
theorem cooperageref1_Words.calls (k : Nat) (a0 : ByteArray) (r : List ByteArray) (w : World) (h : cooperageref1_Words.f k a0 = some r) :
  Calls Tryd.prog 47 #[.string a0] w fun e w' => ∃ v0_ : Value, e = .returned (v0_) ∧ Kd.R Kd.string 9 w' w.heap.size (fun _ => True) v0_ r ∧ Below w.heap.size w w' := by
 have HB := Aside0.mk (Below.refl w.heap.size w)
 have H : (cooperageref1_Words.l0 k a0 ([] : List ByteArray) (⟨#[]⟩ : ByteArray) 0) = some r := h
 clear h
 have H' := Aside0.mk H
 clear H
 go_enter Tryd.func47, Tryd.ntmps47
 go_wp2
 go_loopg [3, 4, 5] k (fun kq v3 v4 v5 w' => ∃ (x3_1 : List ByteArray) (x4_1 : ByteArray) (x5_1 : Int), v4 = .string x4_1 ∧ v5 = .int .i64 x5_1 ∧ Aside0 (cooperageref1_Words.l0 kq a0 x3_1 x4_1 x5_1 = some r) ∧ Aside0 (kq ≤ k) ∧ Aside0 (Kd.R Kd.string 9 w' w.heap.size (fun _ => True) v3 x3_1) ∧ Aside0 (Below w.heap.size w w'))
 case atStart => exact ⟨(([] : List ByteArray)), ((⟨#[]⟩ : ByteArray)), (0), zS, zS, H', ⟨Nat.le_refl _⟩, ⟨by first | exact Kd.R_nil _ _ _ _ _ | exact Kd.N_nil _ _ _ _ _ | exact Kd.V_nil _ _ _ _ _ | exact Kd.Q_nil _ _ _ _ _ | exact Kd.S_nil _ _ _ _ _⟩, ⟨zL HB.out⟩⟩
 case round =>
  clear H'
  obtain ⟨x3_1, x4_1, x5_1, rfl, rfl, HA, HK1, HO_3, HB⟩ := hrel
  cases gk with
  | zero => exact absurd HA.out (by simp [cooperageref1_Words.l0])
  | succ k1 =>
   have H := HA.out
   clear HA
   simp only [cooperageref1_Words.l0] at H
   by_cases c2 : x5_1 < (a0.size : Int)
   ·rw [if_pos c2] at H
    have c2b0 := decide_eq_true c2
    clear c2
    by_cases c3 : 0 ≤ x5_1
    ·rw [if_pos c3] at H
     have c3b0 := decide_eq_true c3
     clear c3
     replace H := Option.bind_eq_some_iff.mp H
     obtain ⟨t300, A50, H⟩ := H
     try dsimp only at H
     have A5 := Aside0.mk A50
     clear A50
     by_cases c6 : t300 = true
     ·subst c6
      rw [if_pos rfl] at H
      by_cases c7 : x4_1.toList = ([] : List UInt8)
      ·rw [if_pos c7] at H
       have c7b0 := beq_iff_eq.mpr c7
       have c7b1 := bne_eq_false_iff_eq.mpr c7
       clear c7
       have H' := Aside0.mk H
       clear H
       have p4 : 0 ≤ (x5_1 : Int) := zD
       have q4 : x5_1 < (a0.size : Int) := zD
       have hx4 := bt_at a0 x5_1
       replace p4 := eq_true p4
       replace q4 := eq_true q4
       go_wp2_with (first | ((with_reducible refine gate_callee (f := 61) rfl ?_); refine goesL_ (some 15) rfl rfl Tryd.func61 (by kernel_rfl) rfl #[.int .u8 (bt a0 x5_1)] rfl zA ?_; (with_reducible refine (cooperageref1_blank.calls (bt a0 x5_1) true _ A5.out).mono ?_); rintro e w' ⟨rfl, ⟨nd, rfl⟩⟩; refine ⟨_, rfl, ?_⟩))
       go_roundg k1
       case measure => have := HK1.out; omega
       case rel => exact ⟨(x3_1), ((⟨#[]⟩ : ByteArray)), (wrap64 (x5_1 + 1)), zS, zS, H', ⟨by have := HK1.out; omega⟩, ⟨by (with_reducible repeat (first | apply Kd.R_alloc | apply Kd.R_drewN | apply Kd.R_drew)); exact HO_3.out⟩, ⟨zL HB.out⟩⟩
      rw [if_neg c7] at H
      have c7b0 := beq_eq_false_iff_ne.mpr c7
      have c7b1 := bne_iff_ne.mpr c7
      by_cases c8 : x3_1.length < 8796093022208
      ·rw [if_pos c8] at H
       have LMc8 := Aside0.mk c8
       clear c8
       obtain ⟨y301, hy301⟩ : ∃ y_ : List ByteArray, y_ = (x3_1 ++ [x4_1]) := ⟨_, rfl⟩
       replace H : (cooperageref1_Words.l0 k1 a0 y301 (⟨#[]⟩ : ByteArray) (wrap64 (x5_1 + 1))) = some r := zH hy301 H
       have Ny301 := Aside0.mk hy301
       clear hy301
       have H' := Aside0.mk H
       clear H
       have p4 : 0 ≤ (x5_1 : Int) := zD
       have q4 : x5_1 < (a0.size : Int) := zD
       have hx4 := bt_at a0 x5_1
       replace p4 := eq_true p4
       replace q4 := eq_true q4
       go_wp2_with (first | ((with_reducible refine gate_callee (f := 61) rfl ?_); refine goesL_ (some 15) rfl rfl Tryd.func61 (by kernel_rfl) rfl #[.int .u8 (bt a0 x5_1)] rfl zA ?_; (with_reducible refine (cooperageref1_blank.calls (bt a0 x5_1) true _ A5.out).mono ?_); rintro e w' ⟨rfl, ⟨nd, rfl⟩⟩; refine ⟨_, rfl, ?_⟩) | ((with_reducible refine gate_builtin (b := .append) (xs := #[.tmp 18, .tmp 20]) rfl ?_); at_builtin; refine Kd.R_append Kd.string (w0 := w) w.heap.size rfl (.tmp 18) (.tmp 20) 37 9 (.string ⟨#[]⟩) 16 rfl Tryd.underlying37 info9 rfl (by decide) (by omega) u3 x3_1 x4_1 [.string x4_1] (fun _ => True) (fun _ => False) rfl rfl ?aP (fun _ hk => hk.elim) ?aF ?aO ?aB ?aS ?aL ?_; (case aP => exact rfl); (case aB => exact (zL HB.out)); (case aF => exact (fun _ _ => trivial)); (case aO => exact (zR HO_3.out)); (case aS => exact (below_size (zL HB.out))); (case aL => have := LMc8.out; omega); intro v302 w9 ho hb hg hat; rw [← Ny301.out] at ho; replace HB := Aside0.mk (hb); have HO303 := Aside0.mk (ho); clear HO_3; clear ho hb hg hat))
       go_roundg k1
       case measure => have := HK1.out; omega
       case rel => exact ⟨(y301), ((⟨#[]⟩ : ByteArray)), (wrap64 (x5_1 + 1)), zS, zS, H', ⟨by have := HK1.out; omega⟩, ⟨by (with_reducible repeat (first | apply Kd.R_alloc | apply Kd.R_drewN | apply Kd.R_drew)); exact HO303.out⟩, ⟨zL HB.out⟩⟩
      rw [if_neg c8] at H
      exact absurd H (by simp)
     replace c6 := Bool.eq_false_iff.mpr c6
     subst c6
     rw [if_neg (show ¬ (false = true) by decide)] at H
     have c10b0 := eq_true (zD : 0 ≤ x5_1)
     by_cases c11 : x5_1 ≤ (wrap64 (x5_1 + 1))
     ·rw [if_pos c11] at H
      have c11b0 := eq_true c11
      have c11b1 := decide_eq_true c11
      by_cases c12 : (wrap64 (x5_1 + 1)) ≤ (a0.size : Int)
      ·rw [if_pos c12] at H
       have c12b0 := eq_true c12
       have c12b1 := decide_eq_true c12
       by_cases c13 : x4_1.size + (a0.extract (x5_1 : Int).toNat ((wrap64 (x5_1 + 1)) : Int).toNat).size ≤ 9223372036854775807
       ·rw [if_pos c13] at H
        have c13b0 := eq_true c13
        have c13b1 := decide_eq_true c13
        try have c13b2 : (9223372036854775807 < x4_1.size + (a0.extract (x5_1 : Int).toNat ((wrap64 (x5_1 + 1)) : Int).toNat).size) = False := eq_false (Nat.not_lt.2 c13)
        have H' := Aside0.mk H
        clear H
        have p4 : 0 ≤ (x5_1 : Int) := zD
        have q4 : x5_1 < (a0.size : Int) := zD
        have hx4 := bt_at a0 x5_1
        replace p4 := eq_true p4
        replace q4 := eq_true q4
        go_wp2_with (first | ((with_reducible refine gate_callee (f := 61) rfl ?_); refine goesL_ (some 15) rfl rfl Tryd.func61 (by kernel_rfl) rfl #[.int .u8 (bt a0 x5_1)] rfl zA ?_; (with_reducible refine (cooperageref1_blank.calls (bt a0 x5_1) false _ A5.out).mono ?_); rintro e w' ⟨rfl, ⟨nd, rfl⟩⟩; refine ⟨_, rfl, ?_⟩))
        go_roundg k1
        case measure => have := HK1.out; omega
        case rel => exact ⟨(x3_1), (x4_1 ++ (a0.extract (x5_1 : Int).toNat ((wrap64 (x5_1 + 1)) : Int).toNat)), (wrap64 (x5_1 + 1)), zS, zS, H', ⟨by have := HK1.out; omega⟩, ⟨by (with_reducible repeat (first | apply Kd.R_alloc | apply Kd.R_drewN | apply Kd.R_drew)); exact HO_3.out⟩, ⟨zL HB.out⟩⟩
       rw [if_neg c13] at H
       exact absurd H (by simp)
      rw [if_neg c12] at H
      exact absurd H (by simp)
     rw [if_neg c11] at H
     exact absurd H (by simp)
    rw [if_neg c3] at H
    exact absurd H (by simp)
   rw [if_neg c2] at H
   have c2b0 := decide_eq_false c2
   clear c2
   by_cases c14 : x4_1.toList = ([] : List UInt8)
   ·rw [if_pos c14] at H
    have c14b0 := beq_iff_eq.mpr c14
    have c14b1 := bne_eq_false_iff_eq.mpr c14
    clear c14
    obtain rfl := Option.some.inj H
    go_wp2
    go_ret
    exact ⟨_, zE, by (with_reducible repeat (first | apply Kd.R_alloc | apply Kd.R_drewN | apply Kd.R_drew)); exact HO_3.out, zL HB.out⟩
   rw [if_neg c14] at H
   have c14b0 := beq_eq_false_iff_ne.mpr c14
   have c14b1 := bne_iff_ne.mpr c14
   by_cases c15 : x3_1.length < 8796093022208
   ·rw [if_pos c15] at H
    have LMc15 := Aside0.mk c15
    clear c15
    obtain ⟨y297, hy297⟩ : ∃ y_ : List ByteArray, y_ = (x3_1 ++ [x4_1]) := ⟨_, rfl⟩
    replace H : (some y297) = some r := zH hy297 H
    have Ny297 := Aside0.mk hy297
    clear hy297
    obtain rfl := Option.some.inj H
    go_wp2_with (first | ((with_reducible refine gate_builtin (b := .append) (xs := #[.tmp 31, .tmp 33]) rfl ?_); at_builtin; refine Kd.R_append Kd.string (w0 := w) w.heap.size rfl (.tmp 31) (.tmp 33) 37 9 (.string ⟨#[]⟩) 16 rfl Tryd.underlying37 info9 rfl (by decide) (by omega) u3 x3_1 x4_1 [.string x4_1] (fun _ => True) (fun _ => False) rfl rfl ?aP (fun _ hk => hk.elim) ?aF ?aO ?aB ?aS ?aL ?_; (case aP => exact rfl); (case aB => exact (zL HB.out)); (case aF => exact (fun _ _ => trivial)); (case aO => exact (zR HO_3.out)); (case aS => exact (below_size (zL HB.out))); (case aL => have := LMc15.out; omega); intro v298 w16 ho hb hg hat; rw [← Ny297.out] at ho; replace HB := Aside0.mk (hb); have HO299 := Aside0.mk (ho); clear HO_3; clear ho hb hg hat))
    go_ret
    exact ⟨_, zE, by (with_reducible repeat (first | apply Kd.R_alloc | apply Kd.R_drewN | apply Kd.R_drew)); exact HO299.out, zL HB.out⟩
   rw [if_neg c15] at H
   exact absurd H (by simp)

/-! ### cooperageref9_behind: function 48 -/
def cooperageref9_behind.f (k : Nat) (a0 : ByteArray) (a1 : ByteArray) : Option (ByteArray) := if 0 ≤ (a1.size : Int) then (if (a1.size : Int) ≤ (a0.size : Int) then ((cooperageref1_Trim.f k (a0.extract ((a1.size : Int) : Int).toNat a0.size)).bind fun t304 => (some t304)) else (none)) else (none)
theorem cooperageref9_behind.mono : ∀ a0 a1 k, LeO (cooperageref9_behind.f k a0 a1) (cooperageref9_behind.f (k + 1) a0 a1) := by
 intro a0 a1 k
 unfold cooperageref9_behind.f
 repeat' first
   | (with_reducible exact cooperageref1_Trim.mono _ _)
   | (with_reducible exact LeO.refl _)
   | (with_reducible exact LeO.none _)
   | (with_reducible refine LeO.ite ?_ ?_)
   | (with_reducible refine LeO.bind ?_ (fun _ => ?_))
   | exact cooperageref1_Trim.mono _ _
   | exact LeO.none _
   | refine LeO.ite ?_ ?_
   | refine LeO.bind ?_ (fun _ => ?_)
set_option maxHeartbeats 8000000 in
set_option maxRecDepth 100000 in
theorem cooperageref9_behind.calls (k : Nat) (a0 : ByteArray) (a1 : ByteArray) (r : ByteArray) (w : World) (h : cooperageref9_behind.f k a0 a1 = some r) :
  Calls Tryd.prog 48 #[.string a0, .string a1] w fun e w' => e = .returned (.string r) ∧ Drawn0 w w' := by
 have H : (if 0 ≤ (a1.size : Int) then (if (a1.size : Int) ≤ (a0.size : Int) then ((cooperageref1_Trim.f k (a0.extract ((a1.size : Int) : Int).toNat a0.size)).bind fun t304 => (some t304)) else (none)) else (none)) = some r := h
 clear h
 by_cases c3 : 0 ≤ (a1.size : Int)
 ·rw [if_pos c3] at H
  have c3b0 := eq_true c3
  have c3b1 := decide_eq_true c3
  clear c3
  by_cases c4 : (a1.size : Int) ≤ (a0.size : Int)
  ·rw [if_pos c4] at H
   have c4b0 := eq_true c4
   have c4b1 := decide_eq_true c4
   clear c4
   replace H := Option.bind_eq_some_iff.mp H
   obtain ⟨t304, A50, H⟩ := H
   try dsimp only at H
   have A5 := Aside0.mk A50
   clear A50
   obtain rfl := Option.some.inj H
   go_enter Tryd.func48, Tryd.ntmps48
   go_wp2_with (first | ((with_reducible refine gate_callee (f := 40) rfl ?_); refine goesL_ (some 9) rfl rfl Tryd.func40 (by kernel_rfl) rfl #[.string (a0.extract ((a1.size : Int) : Int).toNat a0.size)] rfl zA ?_; (with_reducible refine (cooperageref1_Trim.calls k (a0.extract ((a1.size : Int) : Int).toNat a0.size) t304 _ A5.out).mono ?_); rintro e w' ⟨rfl, ⟨nd, rfl⟩⟩; refine ⟨_, rfl, ?_⟩))
   go_ret
   exact ⟨by first | rfl | (simp; done) | (simp [*]; done), by repeat (first | exact Drawn0.refl _ | apply Drawn0.step)⟩
  rw [if_neg c4] at H
  exact absurd H (by simp)
 rw [if_neg c3] at H
 exact absurd H (by simp)

/-! ### cooperageref9_rule: function 49 -/
def cooperageref9_rule.j0 : Nat → ByteArray → Int → Int → ByteArray → ByteArray → ByteArray → ByteArray → ByteArray → ByteArray → ByteArray → Option (Int × Int × ByteArray × ByteArray × ByteArray × ByteArray × ByteArray × ByteArray × ByteArray × List ByteArray × Bool)
 | 0, _, _, _, _, _, _, _, _, _, _ => none
 | k + 1, x1, x308000, x308001, x308002, x308003, x308004, x308005, x308006, x308007, x308008 => (cooperageref9_Cut.f k x1 (([(⟨#[58]⟩ : ByteArray)] : List ByteArray))).bind fun bt318 => ((cooperageref9_Cut.f k x1 (([(⟨#[124]⟩ : ByteArray)] : List ByteArray))).bind fun bt324 => ((cooperageref9_Cut.f k bt324.2.2 (([(⟨#[124]⟩ : ByteArray)] : List ByteArray))).bind fun bt330 => ((cooperageref1_Trim.f k bt324.1).bind fun t333 => ((cooperageref1_Trim.f k bt324.2.2).bind fun t334 => (if x308005.toList = ([] : List UInt8) then (some (x308000, x308001, x308002, x308003, x308004, x308005, x308006, t333, t334, ([] : List ByteArray), false)) else (if bt318.2.1.toList = ([] : List UInt8) then (if bt324.2.1.toList = ([] : List UInt8) then (some (x308000, x308001, x308002, x308003, x308004, x308005, x308006, t333, t334, ([] : List ByteArray), true)) else (some (x308000, x308001, x308002, x308003, x308004, x308005, x308006, t333, t334, ([] : List ByteArray), (bt330.2.1.toList == ([] : List UInt8))))) else (some (x308000, x308001, x308002, x308003, x308004, x308005, x308006, t333, t334, ([] : List ByteArray), false))))))))
def cooperageref9_rule.f (k : Nat) (a0 : ByteArray) (a1 : ByteArray) (a2 : Int) : Option (Int × Int × ByteArray × ByteArray × ByteArray × ByteArray × ByteArray × ByteArray × ByteArray × List ByteArray × Bool) := (cooperageref1_Trim.f k a0).bind fun t306 => ((cooperageref9_Cut.f k a1 (([(⟨#[58]⟩ : ByteArray)] : List ByteArray))).bind fun bt311 => (if bt311.2.1.toList = ([] : List UInt8) then (cooperageref9_rule.j0 k a1 2 a2 (⟨#[]⟩ : ByteArray) (⟨#[]⟩ : ByteArray) (⟨#[]⟩ : ByteArray) t306 (⟨#[]⟩ : ByteArray) (⟨#[]⟩ : ByteArray) (⟨#[]⟩ : ByteArray)) else ((cooperageref1_Trim.f k bt311.1).bind fun t314 => (if t314.toList = ([] : List UInt8) then (some (2, a2, (⟨#[]⟩ : ByteArray), (⟨#[]⟩ : ByteArray), (⟨#[]⟩ : ByteArray), t306, t314, (⟨#[]⟩ : ByteArray), (⟨#[]⟩ : ByteArray), ([] : List ByteArray), false)) else (cooperageref9_rule.j0 k bt311.2.2 2 a2 (⟨#[]⟩ : ByteArray) (⟨#[]⟩ : ByteArray) (⟨#[]⟩ : ByteArray) t306 t314 (⟨#[]⟩ : ByteArray) (⟨#[]⟩ : ByteArray))))))
theorem cooperageref9_rule.mono_l : ∀ k, (∀ y0 y1 y2 y3 y4 y5 y6 y7 y8 y9, LeO (cooperageref9_rule.j0 k y0 y1 y2 y3 y4 y5 y6 y7 y8 y9) (cooperageref9_rule.j0 (k + 1) y0 y1 y2 y3 y4 y5 y6 y7 y8 y9))
 | 0 => fun _ _ _ _ _ _ _ _ _ _ r h => by simp [cooperageref9_rule.j0] at h
 | k + 1 => by
  have ih0 := cooperageref9_rule.mono_l k
  ·intro y0 y1 y2 y3 y4 y5 y6 y7 y8 y9
   unfold cooperageref9_rule.j0
   repeat' first
   | (with_reducible exact ih0 _ _ _ _ _ _ _ _ _ _)
   | (with_reducible exact cooperageref1_Trim.mono _ _)
   | (with_reducible exact cooperageref9_Cut.mono _ _ _)
   | (with_reducible exact LeO.refl _)
   | (with_reducible exact LeO.none _)
   | (with_reducible refine LeO.ite ?_ ?_)
   | (with_reducible refine LeO.bind ?_ (fun _ => ?_))
   | exact ih0 _ _ _ _ _ _ _ _ _ _
   | exact cooperageref1_Trim.mono _ _
   | exact cooperageref9_Cut.mono _ _ _
   | exact LeO.none _
   | refine LeO.ite ?_ ?_
   | refine LeO.bind ?_ (fun _ => ?_)
theorem cooperageref9_rule.mono : ∀ a0 a1 a2 k, LeO (cooperageref9_rule.f k a0 a1 a2) (cooperageref9_rule.f (k + 1) a0 a1 a2) := by
 intro a0 a1 a2 k
 have ih0 := cooperageref9_rule.mono_l k
 unfold cooperageref9_rule.f
 repeat' first
   | (with_reducible exact ih0 _ _ _ _ _ _ _ _ _ _)
   | (with_reducible exact cooperageref1_Trim.mono _ _)
   | (with_reducible exact cooperageref9_Cut.mono _ _ _)
   | (with_reducible exact LeO.refl _)
   | (with_reducible exact LeO.none _)
   | (with_reducible refine LeO.ite ?_ ?_)
   | (with_reducible refine LeO.bind ?_ (fun _ => ?_))
   | exact ih0 _ _ _ _ _ _ _ _ _ _
   | exact cooperageref1_Trim.mono _ _
   | exact cooperageref9_Cut.mono _ _ _
   | exact LeO.none _
   | refine LeO.ite ?_ ?_
   | refine LeO.bind ?_ (fun _ => ?_)
set_option maxHeartbeats 8000000 in
set_option maxRecDepth 100000 in
theorem cooperageref9_rule.calls (k : Nat) (a0 : ByteArray) (a1 : ByteArray) (a2 : Int) (r1 : Int) (r2 : Int) (r3 : ByteArray) (r4 : ByteArray) (r5 : ByteArray) (r6 : ByteArray) (r7 : ByteArray) (r8 : ByteArray) (r9 : ByteArray) (r10 : List ByteArray) (r11 : Bool) (w : World) (h : cooperageref9_rule.f k a0 a1 a2 = some (r1, r2, r3, r4, r5, r6, r7, r8, r9, r10, r11)) :
  Calls Tryd.prog 49 #[.string a0, .string a1, .int .i64 a2] w fun e w' => ∃ v9_ : Value, e = .returned (.tuple #[.agg #[.int .i64 r1, .int .i64 r2, .string r3, .string r4, .string r5, .string r6, .string r7, .string r8, .string r9, v9_], .bool r11]) ∧ Kd.R Kd.string 9 w' w.heap.size (fun _ => True) v9_ r10 ∧ Below w.heap.size w w' := by
 have hu64 := Tryd.underlying64
 have HB := Aside0.mk (Below.refl w.heap.size w)
 have H : ((cooperageref1_Trim.f k a0).bind fun t306 => ((cooperageref9_Cut.f k a1 (([(⟨#[58]⟩ : ByteArray)] : List ByteArray))).bind fun bt311 => (if bt311.2.1.toList = ([] : List UInt8) then (cooperageref9_rule.j0 k a1 2 a2 (⟨#[]⟩ : ByteArray) (⟨#[]⟩ : ByteArray) (⟨#[]⟩ : ByteArray) t306 (⟨#[]⟩ : ByteArray) (⟨#[]⟩ : ByteArray) (⟨#[]⟩ : ByteArray)) else ((cooperageref1_Trim.f k bt311.1).bind fun t314 => (if t314.toList = ([] : List UInt8) then (some (2, a2, (⟨#[]⟩ : ByteArray), (⟨#[]⟩ : ByteArray), (⟨#[]⟩ : ByteArray), t306, t314, (⟨#[]⟩ : ByteArray), (⟨#[]⟩ : ByteArray), ([] : List ByteArray), false)) else (cooperageref9_rule.j0 k bt311.2.2 2 a2 (⟨#[]⟩ : ByteArray) (⟨#[]⟩ : ByteArray) (⟨#[]⟩ : ByteArray) t306 t314 (⟨#[]⟩ : ByteArray) (⟨#[]⟩ : ByteArray))))))) = some (r1, r2, r3, r4, r5, r6, r7, r8, r9, r10, r11) := h
 clear h
 replace H := Option.bind_eq_some_iff.mp H
 obtain ⟨t306, A40, H⟩ := H
 try dsimp only at H
 have A4 := Aside0.mk A40
 clear A40
 obtain ⟨y308, hy308⟩ : ∃ y_ : List ByteArray, y_ = (([(⟨#[58]⟩ : ByteArray)] : List ByteArray)) := ⟨_, rfl⟩
 replace H : ((cooperageref9_Cut.f k a1 y308).bind fun bt311 => (if bt311.2.1.toList = ([] : List UInt8) then (cooperageref9_rule.j0 k a1 2 a2 (⟨#[]⟩ : ByteArray) (⟨#[]⟩ : ByteArray) (⟨#[]⟩ : ByteArray) t306 (⟨#[]⟩ : ByteArray) (⟨#[]⟩ : ByteArray) (⟨#[]⟩ : ByteArray)) else ((cooperageref1_Trim.f k bt311.1).bind fun t314 => (if t314.toList = ([] : List UInt8) then (some (2, a2, (⟨#[]⟩ : ByteArray), (⟨#[]⟩ : ByteArray), (⟨#[]⟩ : ByteArray), t306, t314, (⟨#[]⟩ : ByteArray), (⟨#[]⟩ : ByteArray), ([] : List ByteArray), false)) else (cooperageref9_rule.j0 k bt311.2.2 2 a2 (⟨#[]⟩ : ByteArray) (⟨#[]⟩ : ByteArray) (⟨#[]⟩ : ByteArray) t306 t314 (⟨#[]⟩ : ByteArray) (⟨#[]⟩ : ByteArray)))))) = some (r1, r2, r3, r4, r5, r6, r7, r8, r9, r10, r11) := zH hy308 H
 have Ny308 := Aside0.mk hy308
 clear hy308
 replace H := Option.bind_eq_some_iff.mp H
 obtain ⟨⟨t311, t312, t313⟩, A50, H⟩ := H
 try dsimp only at H
 have A5 := Aside0.mk A50
 clear A50
 have HC6 := Aside0.mk H
 clear H
 go_enter Tryd.func49, Tryd.ntmps49
 go_upto_if 33 with (first | ((with_reducible refine gate_dst (N := 6) rfl ?_); refine box_event ?hg (N := 6) ?hd (cs := #[.int .i64 0, .int .i64 0, .string ⟨#[]⟩, .string ⟨#[]⟩, .string ⟨#[]⟩, .string ⟨#[]⟩, .string ⟨#[]⟩, .string ⟨#[]⟩, .string ⟨#[]⟩, .slice none 0 0]) (t := 64) ?hr ?_; (case hd => rfl); (case hg => rfl); (case hr => (go_simp; try rfl)); intro gb305 hg w7 hbox hb; have BK305 := Aside0.mk (hbox); have GW305 := Aside0.mk (zG hg (zL HB.out)); have GE305 := Aside0.mk (zG hg (zL HB.out)); replace HB := Aside0.mk (below_step (zL HB.out) hb); clear hb hbox hg) | ((with_reducible refine gate_callee (f := 40) rfl ?_); refine goesL_ (some 23) rfl rfl Tryd.func40 (by kernel_rfl) rfl #[.string a0] rfl zA ?_; (with_reducible refine (cooperageref1_Trim.calls k a0 t306 _ A4.out).mono ?_); rintro e w' ⟨rfl, ⟨nd, rfl⟩⟩; refine ⟨_, rfl, ?_⟩; (try (rw [drewN_self w7]; generalize hq_ : World.drewN w7 _ = w7; have n0_ : Aside0 (w7.heap[gb305]? = some (.cells #[.int .i64 0, .int .i64 0, .string ⟨#[]⟩, .string ⟨#[]⟩, .string ⟨#[]⟩, .string ⟨#[]⟩, .string ⟨#[]⟩, .string ⟨#[]⟩, .string ⟨#[]⟩, .slice none 0 0] 64 (0, 0))) := ⟨by rw [← hq_]; exact (zK BK305.out)⟩; have n1_ : Aside0 (Below w.heap.size w w7) := ⟨by rw [← hq_]; exact (zL HB.out)⟩; clear BK305 HB hq_; have BK305 := n0_; have HB := n1_; clear n0_ n1_))) | ((with_reducible refine gate_dst (N := 8) rfl ?_); refine box_event ?hg (N := 8) ?hd (cs := #[.int .i64 0, .int .i64 0, .string ⟨#[]⟩, .string ⟨#[]⟩, .string ⟨#[]⟩, .string ⟨#[]⟩, .string ⟨#[]⟩, .string ⟨#[]⟩, .string ⟨#[]⟩, .slice none 0 0]) (t := 64) ?hr ?_; (case hd => rfl); (case hg => rfl); (case hr => (go_simp; try rfl)); intro gb307 hg w8 hbox hb; have BK307 := Aside0.mk (hbox); have GW307 := Aside0.mk (zG hg (zL HB.out)); have GE307 := Aside0.mk (zG hg (zL HB.out)); replace HB := Aside0.mk (below_step (zL HB.out) hb); have NB305_307 := Aside0.mk (zNK hg BK305.out); have NB307_305 := Aside0.mk (zOK hg BK305.out); replace BK305 := Aside0.mk (zB BK305.out hb); clear hb hbox hg; have hnb9 := NB307_305.out; have hnc9 := NB305_307.out; obtain ⟨hcz10_0, hcz10_1, hcz10_2, hcz10_3, hcz10_4, hcz10_5, hcz10_6, hcz10_7, hcz10_8, hcz10_9, hfz10_0, hfz10_1, hfz10_2, hfz10_3, hfz10_4, hfz10_5, hfz10_6, hfz10_7, hfz10_8, hfz10_9⟩ := zC10 BK307.out) | ((with_reducible refine gate_dst (N := 27) rfl ?_); refine Kd.R_lit Kd.string _ 9 ?hg (N := 27) ?hd (xs := ([(⟨#[58]⟩ : ByteArray)] : List ByteArray)) (inner := [.string ⟨#[58]⟩]) (ok := fun _ => True) (okp := fun _ => True) ?hr ?hp (fun _ hk => hk) trivial (Below.refl _ _) (Nat.le_refl _) (by simp) ?_; (case hd => rfl); (case hg => rfl); (case hr => (go_simp; try rfl)); (case hp => exact (Reps.one (show Kd.M Kd.string _ _ _ (⟨#[58]⟩ : ByteArray) [.string ⟨#[58]⟩] from rfl) (Reps.none _ _))); intro v309 w11 ho12 hb hg_ hnew_; clear hg_ hnew_; (first | rw [← Ny308.out] at ho12 | (simp only [Int.reduceToNat] at ho12; rw [← Ny308.out] at ho12)); have HO310 := Aside0.mk (Kd.R_lower ho12 (below_size (zL HB.out))); replace BK305 := Aside0.mk (zB BK305.out hb); replace BK307 := Aside0.mk (blk_below (g := gb307) (o := .cells #[.int .i64 2, .int .i64 a2, .string ⟨#[]⟩, .string ⟨#[]⟩, .string ⟨#[]⟩, .string t306, .string ⟨#[]⟩, .string ⟨#[]⟩, .string ⟨#[]⟩, .slice none 0 0] 64 (0, 0)) (zP10 BK307.out) hb); replace HB := Aside0.mk (below_step (zL HB.out) hb); clear hb ho12; obtain ⟨Ao13, co13, eo13⟩ := Kd.R_slice HO310.out; subst eo13) | ((with_reducible refine gate_callee (f := 18) rfl ?_); refine goesL_ (some 28) rfl rfl Tryd.func18 (by kernel_rfl) rfl #[.string a1, .slice Ao13 y308.length co13] rfl zA ?_; (with_reducible refine (cooperageref9_Cut.calls k a1 _ _ y308 t311 t312 t313 _ ?side1 ?side2 A5.out).mono ?_); (case side1 => exact zCS (Kd.R_reads' HO310.out).2.2); (case side2 => exact (Kd.R_reads' HO310.out).2.1); rintro e w14 ⟨rfl, hb⟩; refine ⟨_, rfl, ?_⟩; replace HO310 := Aside0.mk (Kd.R_below (zR HO310.out) hb); replace BK305 := Aside0.mk (zB BK305.out hb); replace BK307 := Aside0.mk (zB BK307.out hb); replace HB := Aside0.mk (below_step (zL HB.out) hb); (try clear hb); (try clear hb2); (try clear hk); (try clear hi)))
 (try simp only [Act.put, List.setIfInBounds_toArray, List.set_cons_zero, List.set_cons_succ])
 go_cut [1] (fun v1 wc => ∃ (kq : Nat) (x1_5 : ByteArray) (x306000_5 : Int) (x306001_5 : Int) (x306002_5 : ByteArray) (x306003_5 : ByteArray) (x306004_5 : ByteArray) (x306005_5 : ByteArray) (x306006_5 : ByteArray) (x306007_5 : ByteArray) (x306008_5 : ByteArray) (x308006_5 : ByteArray), v1 = .string x1_5 ∧ Aside0 (cooperageref9_rule.j0 kq x1_5 2 a2 (⟨#[]⟩ : ByteArray) (⟨#[]⟩ : ByteArray) (⟨#[]⟩ : ByteArray) t306 x308006_5 (⟨#[]⟩ : ByteArray) (⟨#[]⟩ : ByteArray) = some (r1, r2, r3, r4, r5, r6, r7, r8, r9, r10, r11)) ∧ Aside0 (kq ≤ k) ∧ Aside0 (wc.heap[gb305]? = some (.cells #[.int .i64 x306000_5, .int .i64 x306001_5, .string x306002_5, .string x306003_5, .string x306004_5, .string x306005_5, .string x306006_5, .string x306007_5, .string x306008_5, (.slice none 0 0)] 64 (0, 0))) ∧ Aside0 (wc.heap[gb307]? = some (.cells #[.int .i64 2, .int .i64 a2, .string ⟨#[]⟩, .string ⟨#[]⟩, .string ⟨#[]⟩, .string t306, .string x308006_5, .string ⟨#[]⟩, .string ⟨#[]⟩, (.slice none 0 0)] 64 (0, 0))) ∧ Aside0 (Below w.heap.size w wc))
 case first =>
  have H := HC6.out
  clear HC6
  by_cases c15 : t312.toList = ([] : List UInt8)
  ·rw [if_pos c15] at H
   have c15b0 := beq_iff_eq.mpr c15
   have c15b1 := bne_eq_false_iff_eq.mpr c15
   clear c15
   (first | rw [c15b0] | (simp only [i64_w, i32_w]; rw [c15b0]) | rw [isE_ c15b0] | skip)
   have H' := Aside0.mk H
   clear H
   go_wp2
   go_meet
   case rel => exact ⟨_, (a1), (0), (0), ((⟨#[]⟩ : ByteArray)), ((⟨#[]⟩ : ByteArray)), ((⟨#[]⟩ : ByteArray)), ((⟨#[]⟩ : ByteArray)), ((⟨#[]⟩ : ByteArray)), ((⟨#[]⟩ : ByteArray)), ((⟨#[]⟩ : ByteArray)), ((⟨#[]⟩ : ByteArray)), zS, H', ⟨by first | omega | exact Nat.le_refl _⟩, ⟨zK BK305.out⟩, ⟨zK BK307.out⟩, ⟨zL HB.out⟩⟩
  rw [if_neg c15] at H
  have c15b0 := beq_eq_false_iff_ne.mpr c15
  have c15b1 := bne_iff_ne.mpr c15
  (first | rw [c15b0] | (simp only [i64_w, i32_w]; rw [c15b0]) | rw [isE_ c15b0] | skip)
  replace H := Option.bind_eq_some_iff.mp H
  obtain ⟨t314, A160, H⟩ := H
  try dsimp only at H
  have A16 := Aside0.mk A160
  clear A160
  by_cases c17 : t314.toList = ([] : List UInt8)
  ·rw [if_pos c17] at H
   have c17b0 := beq_iff_eq.mpr c17
   have c17b1 := bne_eq_false_iff_eq.mpr c17
   clear c17
   simp only [Option.some.injEq, Prod.mk.injEq] at H
   obtain ⟨rfl, rfl, rfl, rfl, rfl, rfl, rfl, rfl, rfl, rfl, rfl⟩ := H
   go_wp2_with (first | ((with_reducible refine gate_callee (f := 40) rfl ?_); refine goesL_ (some 35) rfl rfl Tryd.func40 (by kernel_rfl) rfl #[.string t311] rfl zA ?_; (with_reducible refine (cooperageref1_Trim.calls k t311 t314 _ A16.out).mono ?_); rintro e w' ⟨rfl, ⟨nd, rfl⟩⟩; refine ⟨_, rfl, ?_⟩; (try (rw [drewN_self w14]; generalize hq_ : World.drewN w14 _ = w14; have n0_ : Aside0 (Kd.R Kd.string 9 w14 w.heap.size (fun _ => True) (.slice Ao13 y308.length co13) y308) := ⟨by rw [← hq_]; exact (zR HO310.out)⟩; have n1_ : Aside0 (w14.heap[gb305]? = some (.cells #[.int .i64 0, .int .i64 0, .string ⟨#[]⟩, .string ⟨#[]⟩, .string ⟨#[]⟩, .string ⟨#[]⟩, .string ⟨#[]⟩, .string ⟨#[]⟩, .string ⟨#[]⟩, .slice none 0 0] 64 (0, 0))) := ⟨by rw [← hq_]; exact (zK BK305.out)⟩; have n2_ : Aside0 (w14.heap[gb307]? = some (.cells #[.int .i64 2, .int .i64 a2, .string ⟨#[]⟩, .string ⟨#[]⟩, .string ⟨#[]⟩, .string t306, .string ⟨#[]⟩, .string ⟨#[]⟩, .string ⟨#[]⟩, .slice none 0 0] 64 (0, 0))) := ⟨by rw [← hq_]; exact (zK BK307.out)⟩; have n3_ : Aside0 (Below w.heap.size w w14) := ⟨by rw [← hq_]; exact (zL HB.out)⟩; clear HO310 BK305 BK307 HB hq_; have HO310 := n0_; have BK305 := n1_; have BK307 := n2_; have HB := n3_; clear n0_ n1_ n2_ n3_; (try (obtain ⟨hcz10_0, hcz10_1, hcz10_2, hcz10_3, hcz10_4, hcz10_5, hcz10_6, hcz10_7, hcz10_8, hcz10_9, hfz10_0, hfz10_1, hfz10_2, hfz10_3, hfz10_4, hfz10_5, hfz10_6, hfz10_7, hfz10_8, hfz10_9⟩ := zC10 BK307.out)))); have hnb18 := NB307_305.out; have hnc18 := NB305_307.out; obtain ⟨hcz19_0, hcz19_1, hcz19_2, hcz19_3, hcz19_4, hcz19_5, hcz19_6, hcz19_7, hcz19_8, hcz19_9, hfz19_0, hfz19_1, hfz19_2, hfz19_3, hfz19_4, hfz19_5, hfz19_6, hfz19_7, hfz19_8, hfz19_9⟩ := zC10 BK307.out; obtain ⟨hcz20_0, hcz20_1, hcz20_2, hcz20_3, hcz20_4, hcz20_5, hcz20_6, hcz20_7, hcz20_8, hcz20_9, hfz20_0, hfz20_1, hfz20_2, hfz20_3, hfz20_4, hfz20_5, hfz20_6, hfz20_7, hfz20_8, hfz20_9⟩ := zC10 BK305.out))
   refine bodyPost_ret (results_ct rfl _ _ gb305 64 #[.int .i64 2, .int .i64 a2, .string ⟨#[]⟩, .string ⟨#[]⟩, .string ⟨#[]⟩, .string t306, .string t314, .string ⟨#[]⟩, .string ⟨#[]⟩, .slice none 0 0] (0, 0) _ rfl (zP10 BK305.out) Tryd.underlying64 rfl (by kernel_rfl)) rfl ?_
   exact ⟨_, zE, by first | exact Kd.R_nil _ _ _ _ _ | exact Kd.N_nil _ _ _ _ _ | exact Kd.V_nil _ _ _ _ _ | exact Kd.Q_nil _ _ _ _ _ | exact Kd.S_nil _ _ _ _ _, zL HB.out⟩
  rw [if_neg c17] at H
  have c17b0 := beq_eq_false_iff_ne.mpr c17
  have c17b1 := bne_iff_ne.mpr c17
  have H' := Aside0.mk H
  clear H
  go_wp2_with (first | ((with_reducible refine gate_callee (f := 40) rfl ?_); refine goesL_ (some 35) rfl rfl Tryd.func40 (by kernel_rfl) rfl #[.string t311] rfl zA ?_; (with_reducible refine (cooperageref1_Trim.calls k t311 t314 _ A16.out).mono ?_); rintro e w' ⟨rfl, ⟨nd, rfl⟩⟩; refine ⟨_, rfl, ?_⟩; (try (rw [drewN_self w14]; generalize hq_ : World.drewN w14 _ = w14; have n0_ : Aside0 (Kd.R Kd.string 9 w14 w.heap.size (fun _ => True) (.slice Ao13 y308.length co13) y308) := ⟨by rw [← hq_]; exact (zR HO310.out)⟩; have n1_ : Aside0 (w14.heap[gb305]? = some (.cells #[.int .i64 0, .int .i64 0, .string ⟨#[]⟩, .string ⟨#[]⟩, .string ⟨#[]⟩, .string ⟨#[]⟩, .string ⟨#[]⟩, .string ⟨#[]⟩, .string ⟨#[]⟩, .slice none 0 0] 64 (0, 0))) := ⟨by rw [← hq_]; exact (zK BK305.out)⟩; have n2_ : Aside0 (w14.heap[gb307]? = some (.cells #[.int .i64 2, .int .i64 a2, .string ⟨#[]⟩, .string ⟨#[]⟩, .string ⟨#[]⟩, .string t306, .string ⟨#[]⟩, .string ⟨#[]⟩, .string ⟨#[]⟩, .slice none 0 0] 64 (0, 0))) := ⟨by rw [← hq_]; exact (zK BK307.out)⟩; have n3_ : Aside0 (Below w.heap.size w w14) := ⟨by rw [← hq_]; exact (zL HB.out)⟩; clear HO310 BK305 BK307 HB hq_; have HO310 := n0_; have BK305 := n1_; have BK307 := n2_; have HB := n3_; clear n0_ n1_ n2_ n3_; (try (obtain ⟨hcz20_0, hcz20_1, hcz20_2, hcz20_3, hcz20_4, hcz20_5, hcz20_6, hcz20_7, hcz20_8, hcz20_9, hfz20_0, hfz20_1, hfz20_2, hfz20_3, hfz20_4, hfz20_5, hfz20_6, hfz20_7, hfz20_8, hfz20_9⟩ := zC10 BK305.out)); (try (obtain ⟨hcz19_0, hcz19_1, hcz19_2, hcz19_3, hcz19_4, hcz19_5, hcz19_6, hcz19_7, hcz19_8, hcz19_9, hfz19_0, hfz19_1, hfz19_2, hfz19_3, hfz19_4, hfz19_5, hfz19_6, hfz19_7, hfz19_8, hfz19_9⟩ := zC10 BK307.out)))); have hnb21 := NB307_305.out; have hnc21 := NB305_307.out; obtain ⟨hcz22_0, hcz22_1, hcz22_2, hcz22_3, hcz22_4, hcz22_5, hcz22_6, hcz22_7, hcz22_8, hcz22_9, hfz22_0, hfz22_1, hfz22_2, hfz22_3, hfz22_4, hfz22_5, hfz22_6, hfz22_7, hfz22_8, hfz22_9⟩ := zC10 BK307.out))
  go_meet
  case rel => exact ⟨_, (t313), (0), (0), ((⟨#[]⟩ : ByteArray)), ((⟨#[]⟩ : ByteArray)), ((⟨#[]⟩ : ByteArray)), ((⟨#[]⟩ : ByteArray)), ((⟨#[]⟩ : ByteArray)), ((⟨#[]⟩ : ByteArray)), ((⟨#[]⟩ : ByteArray)), (t314), zS, H', ⟨by first | omega | exact Nat.le_refl _⟩, ⟨zK BK305.out⟩, ⟨by (with_reducible repeat (first | refine blk_drewN ?_ _ | refine blk_drew ?_ | refine blk_alloc ?_ _)); refine blk_put (cs := #[.int .i64 2, .int .i64 a2, .string ⟨#[]⟩, .string ⟨#[]⟩, .string ⟨#[]⟩, .string t306, .string ⟨#[]⟩, .string ⟨#[]⟩, .string ⟨#[]⟩, .slice none 0 0]) ?_ 6 _ rfl; (with_reducible repeat (first | refine blk_drewN ?_ _ | refine blk_drew ?_ | refine blk_alloc ?_ _)); exact BK307.out⟩, ⟨zL HB.out⟩⟩
 case rest =>
  clear HC6
  try clear hcz10_0 hcz10_1 hcz10_2 hcz10_3 hcz10_4 hcz10_5 hcz10_6 hcz10_7 hcz10_8 hcz10_9
  try clear hfz10_0 hfz10_1 hfz10_2 hfz10_3 hfz10_4 hfz10_5 hfz10_6 hfz10_7 hfz10_8 hfz10_9
  obtain ⟨kq, x1_5, x306000_5, x306001_5, x306002_5, x306003_5, x306004_5, x306005_5, x306006_5, x306007_5, x306008_5, x308006_5, rfl, HA, HJ5, BK305, BK307, HB⟩ := hcut
  cases kq with
  | zero => exact absurd HA.out (by simp [cooperageref9_rule.j0])
  | succ kj5 =>
   have H := HA.out
   clear HA
   simp only [cooperageref9_rule.j0] at H
   obtain ⟨y315, hy315⟩ : ∃ y_ : List ByteArray, y_ = (([(⟨#[58]⟩ : ByteArray)] : List ByteArray)) := ⟨_, rfl⟩
   replace H : ((cooperageref9_Cut.f kj5 x1_5 y315).bind fun bt318 => ((cooperageref9_Cut.f kj5 x1_5 (([(⟨#[124]⟩ : ByteArray)] : List ByteArray))).bind fun bt324 => ((cooperageref9_Cut.f kj5 bt324.2.2 (([(⟨#[124]⟩ : ByteArray)] : List ByteArray))).bind fun bt330 => ((cooperageref1_Trim.f kj5 bt324.1).bind fun t333 => ((cooperageref1_Trim.f kj5 bt324.2.2).bind fun t334 => (if t306.toList = ([] : List UInt8) then (some (2, a2, (⟨#[]⟩ : ByteArray), (⟨#[]⟩ : ByteArray), (⟨#[]⟩ : ByteArray), t306, x308006_5, t333, t334, ([] : List ByteArray), false)) else (if bt318.2.1.toList = ([] : List UInt8) then (if bt324.2.1.toList = ([] : List UInt8) then (some (2, a2, (⟨#[]⟩ : ByteArray), (⟨#[]⟩ : ByteArray), (⟨#[]⟩ : ByteArray), t306, x308006_5, t333, t334, ([] : List ByteArray), true)) else (some (2, a2, (⟨#[]⟩ : ByteArray), (⟨#[]⟩ : ByteArray), (⟨#[]⟩ : ByteArray), t306, x308006_5, t333, t334, ([] : List ByteArray), (bt330.2.1.toList == ([] : List UInt8))))) else (some (2, a2, (⟨#[]⟩ : ByteArray), (⟨#[]⟩ : ByteArray), (⟨#[]⟩ : ByteArray), t306, x308006_5, t333, t334, ([] : List ByteArray), false))))))))) = some (r1, r2, r3, r4, r5, r6, r7, r8, r9, r10, r11) := zH hy315 H
   have Ny315 := Aside0.mk hy315
   clear hy315
   replace H := Option.bind_eq_some_iff.mp H
   obtain ⟨⟨t318, t319, t320⟩, A230, H⟩ := H
   try dsimp only at H
   have A23 := Aside0.mk A230
   clear A230
   obtain ⟨y321, hy321⟩ : ∃ y_ : List ByteArray, y_ = (([(⟨#[124]⟩ : ByteArray)] : List ByteArray)) := ⟨_, rfl⟩
   replace H : ((cooperageref9_Cut.f kj5 x1_5 y321).bind fun bt324 => ((cooperageref9_Cut.f kj5 bt324.2.2 (([(⟨#[124]⟩ : ByteArray)] : List ByteArray))).bind fun bt330 => ((cooperageref1_Trim.f kj5 bt324.1).bind fun t333 => ((cooperageref1_Trim.f kj5 bt324.2.2).bind fun t334 => (if t306.toList = ([] : List UInt8) then (some (2, a2, (⟨#[]⟩ : ByteArray), (⟨#[]⟩ : ByteArray), (⟨#[]⟩ : ByteArray), t306, x308006_5, t333, t334, ([] : List ByteArray), false)) else (if t319.toList = ([] : List UInt8) then (if bt324.2.1.toList = ([] : List UInt8) then (some (2, a2, (⟨#[]⟩ : ByteArray), (⟨#[]⟩ : ByteArray), (⟨#[]⟩ : ByteArray), t306, x308006_5, t333, t334, ([] : List ByteArray), true)) else (some (2, a2, (⟨#[]⟩ : ByteArray), (⟨#[]⟩ : ByteArray), (⟨#[]⟩ : ByteArray), t306, x308006_5, t333, t334, ([] : List ByteArray), (bt330.2.1.toList == ([] : List UInt8))))) else (some (2, a2, (⟨#[]⟩ : ByteArray), (⟨#[]⟩ : ByteArray), (⟨#[]⟩ : ByteArray), t306, x308006_5, t333, t334, ([] : List ByteArray), false)))))))) = some (r1, r2, r3, r4, r5, r6, r7, r8, r9, r10, r11) := zH hy321 H
   have Ny321 := Aside0.mk hy321
   clear hy321
   replace H := Option.bind_eq_some_iff.mp H
   obtain ⟨⟨t324, t325, t326⟩, A240, H⟩ := H
   try dsimp only at H
   have A24 := Aside0.mk A240
   clear A240
   obtain ⟨y327, hy327⟩ : ∃ y_ : List ByteArray, y_ = (([(⟨#[124]⟩ : ByteArray)] : List ByteArray)) := ⟨_, rfl⟩
   replace H : ((cooperageref9_Cut.f kj5 t326 y327).bind fun bt330 => ((cooperageref1_Trim.f kj5 t324).bind fun t333 => ((cooperageref1_Trim.f kj5 t326).bind fun t334 => (if t306.toList = ([] : List UInt8) then (some (2, a2, (⟨#[]⟩ : ByteArray), (⟨#[]⟩ : ByteArray), (⟨#[]⟩ : ByteArray), t306, x308006_5, t333, t334, ([] : List ByteArray), false)) else (if t319.toList = ([] : List UInt8) then (if t325.toList = ([] : List UInt8) then (some (2, a2, (⟨#[]⟩ : ByteArray), (⟨#[]⟩ : ByteArray), (⟨#[]⟩ : ByteArray), t306, x308006_5, t333, t334, ([] : List ByteArray), true)) else (some (2, a2, (⟨#[]⟩ : ByteArray), (⟨#[]⟩ : ByteArray), (⟨#[]⟩ : ByteArray), t306, x308006_5, t333, t334, ([] : List ByteArray), (bt330.2.1.toList == ([] : List UInt8))))) else (some (2, a2, (⟨#[]⟩ : ByteArray), (⟨#[]⟩ : ByteArray), (⟨#[]⟩ : ByteArray), t306, x308006_5, t333, t334, ([] : List ByteArray), false))))))) = some (r1, r2, r3, r4, r5, r6, r7, r8, r9, r10, r11) := zH hy327 H
   have Ny327 := Aside0.mk hy327
   clear hy327
   replace H := Option.bind_eq_some_iff.mp H
   obtain ⟨⟨t330, t331, t332⟩, A250, H⟩ := H
   try dsimp only at H
   have A25 := Aside0.mk A250
   clear A250
   replace H := Option.bind_eq_some_iff.mp H
   obtain ⟨t333, A260, H⟩ := H
   try dsimp only at H
   have A26 := Aside0.mk A260
   clear A260
   replace H := Option.bind_eq_some_iff.mp H
   obtain ⟨t334, A270, H⟩ := H
   try dsimp only at H
   have A27 := Aside0.mk A270
   clear A270
   by_cases c28 : t306.toList = ([] : List UInt8)
   case' pos =>
    rw [if_pos c28] at H
    have c28b0 := beq_iff_eq.mpr c28
    have c28b1 := bne_eq_false_iff_eq.mpr c28
    clear c28
   case' neg =>
    rw [if_neg c28] at H
    have c28b0 := beq_eq_false_iff_ne.mpr c28
    have c28b1 := bne_iff_ne.mpr c28
    by_cases c44 : t319.toList = ([] : List UInt8)
    case' neg =>
     rw [if_neg c44] at H
     have c44b0 := beq_eq_false_iff_ne.mpr c44
     have c44b1 := bne_iff_ne.mpr c44
    case' pos =>
     rw [if_pos c44] at H
     have c44b0 := beq_iff_eq.mpr c44
     have c44b1 := bne_eq_false_iff_eq.mpr c44
     clear c44
     by_cases c45 : t325.toList = ([] : List UInt8)
     case' pos =>
      rw [if_pos c45] at H
      have c45b0 := beq_iff_eq.mpr c45
      have c45b1 := bne_eq_false_iff_eq.mpr c45
      clear c45
     case' neg =>
      rw [if_neg c45] at H
      have c45b0 := beq_eq_false_iff_ne.mpr c45
      have c45b1 := bne_iff_ne.mpr c45
   all_goals
    simp only [Option.some.injEq, Prod.mk.injEq] at H
    obtain ⟨rfl, rfl, rfl, rfl, rfl, rfl, rfl, rfl, rfl, rfl, rfl⟩ := H
    go_wp2_with (first | ((with_reducible refine gate_dst (N := 44) rfl ?_); refine Kd.R_lit Kd.string _ 9 ?hg (N := 44) ?hd (xs := ([(⟨#[58]⟩ : ByteArray)] : List ByteArray)) (inner := [.string ⟨#[58]⟩]) (ok := fun _ => True) (okp := fun _ => True) ?hr ?hp (fun _ hk => hk) trivial (Below.refl _ _) (Nat.le_refl _) (by simp) ?_; (case hd => rfl); (case hg => rfl); (case hr => (go_simp; try rfl)); (case hp => exact (Reps.one (show Kd.M Kd.string _ _ _ (⟨#[58]⟩ : ByteArray) [.string ⟨#[58]⟩] from rfl) (Reps.none _ _))); intro v316 w29 ho30 hb hg_ hnew_; clear hg_ hnew_; (first | rw [← Ny315.out] at ho30 | (simp only [Int.reduceToNat] at ho30; rw [← Ny315.out] at ho30)); have HO317 := Aside0.mk (Kd.R_lower ho30 (below_size (zL HB.out))); replace BK305 := Aside0.mk (zB BK305.out hb); replace BK307 := Aside0.mk (zB BK307.out hb); replace HB := Aside0.mk (below_step (zL HB.out) hb); clear hb ho30; obtain ⟨Ao31, co31, eo31⟩ := Kd.R_slice HO317.out; subst eo31) | ((with_reducible refine gate_callee (f := 18) rfl ?_); refine goesL_ (some 45) rfl rfl Tryd.func18 (by kernel_rfl) rfl #[.string x1_5, .slice Ao31 y315.length co31] rfl zA ?_; (with_reducible refine (cooperageref9_Cut.calls kj5 x1_5 _ _ y315 t318 t319 t320 _ ?side1 ?side2 A23.out).mono ?_); (case side1 => exact zCS (Kd.R_reads' HO317.out).2.2); (case side2 => exact (Kd.R_reads' HO317.out).2.1); rintro e w32 ⟨rfl, hb⟩; refine ⟨_, rfl, ?_⟩; replace HO317 := Aside0.mk (Kd.R_below (zR HO317.out) hb); replace BK305 := Aside0.mk (zB BK305.out hb); replace BK307 := Aside0.mk (zB BK307.out hb); replace HB := Aside0.mk (below_step (zL HB.out) hb); (try clear hb); (try clear hb2); (try clear hk); (try clear hi)) | ((with_reducible refine gate_dst (N := 51) rfl ?_); refine Kd.R_lit Kd.string _ 9 ?hg (N := 51) ?hd (xs := ([(⟨#[124]⟩ : ByteArray)] : List ByteArray)) (inner := [.string ⟨#[124]⟩]) (ok := fun _ => True) (okp := fun _ => True) ?hr ?hp (fun _ hk => hk) trivial (Below.refl _ _) (Nat.le_refl _) (by simp) ?_; (case hd => rfl); (case hg => rfl); (case hr => (go_simp; try rfl)); (case hp => exact (Reps.one (show Kd.M Kd.string _ _ _ (⟨#[124]⟩ : ByteArray) [.string ⟨#[124]⟩] from rfl) (Reps.none _ _))); intro v322 w33 ho34 hb hg_ hnew_; clear hg_ hnew_; (first | rw [← Ny321.out] at ho34 | (simp only [Int.reduceToNat] at ho34; rw [← Ny321.out] at ho34)); have HO323 := Aside0.mk (Kd.R_lower (Kd.R_new' ho34 (Kd.R_lt (zR HO317.out))) (below_size (zL HB.out))); replace HO317 := Aside0.mk (Kd.R_elder' (zR HO317.out) (Kd.R_base ho34) hb); replace BK305 := Aside0.mk (zB BK305.out hb); replace BK307 := Aside0.mk (zB BK307.out hb); replace HB := Aside0.mk (below_step (zL HB.out) hb); clear hb ho34; obtain ⟨Ao35, co35, eo35⟩ := Kd.R_slice HO323.out; subst eo35) | ((with_reducible refine gate_callee (f := 18) rfl ?_); refine goesL_ (some 52) rfl rfl Tryd.func18 (by kernel_rfl) rfl #[.string x1_5, .slice Ao35 y321.length co35] rfl zA ?_; (with_reducible refine (cooperageref9_Cut.calls kj5 x1_5 _ _ y321 t324 t325 t326 _ ?side1 ?side2 A24.out).mono ?_); (case side1 => exact zCS (Kd.R_reads' HO323.out).2.2); (case side2 => exact (Kd.R_reads' HO323.out).2.1); rintro e w36 ⟨rfl, hb⟩; refine ⟨_, rfl, ?_⟩; replace HO317 := Aside0.mk (Kd.R_below (zR HO317.out) hb); replace HO323 := Aside0.mk (Kd.R_below (zR HO323.out) hb); replace BK305 := Aside0.mk (zB BK305.out hb); replace BK307 := Aside0.mk (zB BK307.out hb); replace HB := Aside0.mk (below_step (zL HB.out) hb); (try clear hb); (try clear hb2); (try clear hk); (try clear hi)) | ((with_reducible refine gate_dst (N := 58) rfl ?_); refine Kd.R_lit Kd.string _ 9 ?hg (N := 58) ?hd (xs := ([(⟨#[124]⟩ : ByteArray)] : List ByteArray)) (inner := [.string ⟨#[124]⟩]) (ok := fun _ => True) (okp := fun _ => True) ?hr ?hp (fun _ hk => hk) trivial (Below.refl _ _) (Nat.le_refl _) (by simp) ?_; (case hd => rfl); (case hg => rfl); (case hr => (go_simp; try rfl)); (case hp => exact (Reps.one (show Kd.M Kd.string _ _ _ (⟨#[124]⟩ : ByteArray) [.string ⟨#[124]⟩] from rfl) (Reps.none _ _))); intro v328 w37 ho38 hb hg_ hnew_; clear hg_ hnew_; (first | rw [← Ny327.out] at ho38 | (simp only [Int.reduceToNat] at ho38; rw [← Ny327.out] at ho38)); have HO329 := Aside0.mk (Kd.R_lower (Kd.R_new' (Kd.R_new' ho38 (Kd.R_lt (zR HO317.out))) (Kd.R_lt (zR HO323.out))) (below_size (zL HB.out))); replace HO317 := Aside0.mk (Kd.R_elder' (zR HO317.out) (Kd.R_base ho38) hb); replace HO323 := Aside0.mk (Kd.R_elder' (zR HO323.out) (Kd.R_base ho38) hb); replace BK305 := Aside0.mk (zB BK305.out hb); replace BK307 := Aside0.mk (zB BK307.out hb); replace HB := Aside0.mk (below_step (zL HB.out) hb); clear hb ho38; obtain ⟨Ao39, co39, eo39⟩ := Kd.R_slice HO329.out; subst eo39) | ((with_reducible refine gate_callee (f := 18) rfl ?_); refine goesL_ (some 59) rfl rfl Tryd.func18 (by kernel_rfl) rfl #[.string t326, .slice Ao39 y327.length co39] rfl zA ?_; (with_reducible refine (cooperageref9_Cut.calls kj5 t326 _ _ y327 t330 t331 t332 _ ?side1 ?side2 A25.out).mono ?_); (case side1 => exact zCS (Kd.R_reads' HO329.out).2.2); (case side2 => exact (Kd.R_reads' HO329.out).2.1); rintro e w40 ⟨rfl, hb⟩; refine ⟨_, rfl, ?_⟩; replace HO317 := Aside0.mk (Kd.R_below (zR HO317.out) hb); replace HO323 := Aside0.mk (Kd.R_below (zR HO323.out) hb); replace HO329 := Aside0.mk (Kd.R_below (zR HO329.out) hb); replace BK305 := Aside0.mk (zB BK305.out hb); replace BK307 := Aside0.mk (zB BK307.out hb); replace HB := Aside0.mk (below_step (zL HB.out) hb); (try clear hb); (try clear hb2); (try clear hk); (try clear hi)) | ((with_reducible refine gate_callee (f := 40) rfl ?_); refine goesL_ (some 64) rfl rfl Tryd.func40 (by kernel_rfl) rfl #[.string t324] rfl zA ?_; (with_reducible refine (cooperageref1_Trim.calls kj5 t324 t333 _ A26.out).mono ?_); rintro e w' ⟨rfl, ⟨nd, rfl⟩⟩; refine ⟨_, rfl, ?_⟩; (try (rw [drewN_self w40]; generalize hq_ : World.drewN w40 _ = w40; have n0_ : Aside0 (Kd.R Kd.string 9 w40 w.heap.size (fun k_ => some k_ ≠ (.slice Ao35 y321.length co35 : Value).ownBlock ∧ some k_ ≠ (.slice Ao39 y327.length co39 : Value).ownBlock) (.slice Ao31 y315.length co31) y315) := ⟨by rw [← hq_]; exact (by (with_reducible repeat (first | apply Kd.R_alloc | apply Kd.R_drewN | apply Kd.R_drew)); exact Kd.R_mono HO317.out (fun _ hk => ⟨hk.1.2, hk.2⟩))⟩; have n1_ : Aside0 (Kd.R Kd.string 9 w40 w.heap.size (fun k_ => some k_ ≠ (.slice Ao31 y315.length co31 : Value).ownBlock ∧ some k_ ≠ (.slice Ao39 y327.length co39 : Value).ownBlock) (.slice Ao35 y321.length co35) y321) := ⟨by rw [← hq_]; exact (by (with_reducible repeat (first | apply Kd.R_alloc | apply Kd.R_drewN | apply Kd.R_drew)); exact Kd.R_mono HO323.out (fun _ hk => ⟨hk.1.2, hk.2⟩))⟩; have n2_ : Aside0 (Kd.R Kd.string 9 w40 w.heap.size (fun k_ => some k_ ≠ (.slice Ao31 y315.length co31 : Value).ownBlock ∧ some k_ ≠ (.slice Ao35 y321.length co35 : Value).ownBlock) (.slice Ao39 y327.length co39) y327) := ⟨by rw [← hq_]; exact (by (with_reducible repeat (first | apply Kd.R_alloc | apply Kd.R_drewN | apply Kd.R_drew)); exact Kd.R_mono HO329.out (fun _ hk => ⟨hk.1.2, hk.2⟩))⟩; have n3_ : Aside0 (w40.heap[gb305]? = some (.cells #[.int .i64 x306000_5, .int .i64 x306001_5, .string x306002_5, .string x306003_5, .string x306004_5, .string x306005_5, .string x306006_5, .string x306007_5, .string x306008_5, .slice none 0 0] 64 (0, 0))) := ⟨by rw [← hq_]; exact (zK BK305.out)⟩; have n4_ : Aside0 (w40.heap[gb307]? = some (.cells #[.int .i64 2, .int .i64 a2, .string ⟨#[]⟩, .string ⟨#[]⟩, .string ⟨#[]⟩, .string t306, .string x308006_5, .string ⟨#[]⟩, .string ⟨#[]⟩, .slice none 0 0] 64 (0, 0))) := ⟨by rw [← hq_]; exact (zK BK307.out)⟩; have n5_ : Aside0 (Below w.heap.size w w40) := ⟨by rw [← hq_]; exact (zL HB.out)⟩; clear HO317 HO323 HO329 BK305 BK307 HB hq_; have HO317 := n0_; have HO323 := n1_; have HO329 := n2_; have BK305 := n3_; have BK307 := n4_; have HB := n5_; clear n0_ n1_ n2_ n3_ n4_ n5_; (try (obtain ⟨hcz20_0, hcz20_1, hcz20_2, hcz20_3, hcz20_4, hcz20_5, hcz20_6, hcz20_7, hcz20_8, hcz20_9, hfz20_0, hfz20_1, hfz20_2, hfz20_3, hfz20_4, hfz20_5, hfz20_6, hfz20_7, hfz20_8, hfz20_9⟩ := zC10 BK305.out)); (try (obtain ⟨hcz22_0, hcz22_1, hcz22_2, hcz22_3, hcz22_4, hcz22_5, hcz22_6, hcz22_7, hcz22_8, hcz22_9, hfz22_0, hfz22_1, hfz22_2, hfz22_3, hfz22_4, hfz22_5, hfz22_6, hfz22_7, hfz22_8, hfz22_9⟩ := zC10 BK307.out)))); have hnb41 := NB307_305.out; have hnc41 := NB305_307.out; obtain ⟨hcz42_0, hcz42_1, hcz42_2, hcz42_3, hcz42_4, hcz42_5, hcz42_6, hcz42_7, hcz42_8, hcz42_9, hfz42_0, hfz42_1, hfz42_2, hfz42_3, hfz42_4, hfz42_5, hfz42_6, hfz42_7, hfz42_8, hfz42_9⟩ := zC10 BK307.out) | ((with_reducible refine gate_callee (f := 40) rfl ?_); refine goesL_ (some 67) rfl rfl Tryd.func40 (by kernel_rfl) rfl #[.string t326] rfl zA ?_; (with_reducible refine (cooperageref1_Trim.calls kj5 t326 t334 _ A27.out).mono ?_); rintro e w' ⟨rfl, ⟨nd, rfl⟩⟩; refine ⟨_, rfl, ?_⟩; obtain ⟨hcz43_0, hcz43_1, hcz43_2, hcz43_3, hcz43_4, hcz43_5, hcz43_6, hcz43_7, hcz43_8, hcz43_9, hfz43_0, hfz43_1, hfz43_2, hfz43_3, hfz43_4, hfz43_5, hfz43_6, hfz43_7, hfz43_8, hfz43_9⟩ := zC10 BK305.out))
    refine bodyPost_ret (results_ct rfl _ _ gb305 64 #[.int .i64 2, .int .i64 a2, .string ⟨#[]⟩, .string ⟨#[]⟩, .string ⟨#[]⟩, .string t306, .string x308006_5, .string t333, .string t334, .slice none 0 0] (0, 0) _ rfl (zP10 BK305.out) Tryd.underlying64 rfl (by kernel_rfl)) rfl ?_
    exact ⟨_, zE, by first | exact Kd.R_nil _ _ _ _ _ | exact Kd.N_nil _ _ _ _ _ | exact Kd.V_nil _ _ _ _ _ | exact Kd.Q_nil _ _ _ _ _ | exact Kd.S_nil _ _ _ _ _, zL HB.out⟩

end Go.Proofs.YthnholondnfjoaaDoor.PParse
