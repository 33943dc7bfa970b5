-- Written by a program of this session (wip/tools/ext.py, over the kit's printer); not trusted: Lean checks it.
import Derived.Test.YtjdadmjomjhpcaaDoorPLeasex0
namespace Go.Proofs.YtjdadmjomjhpcaaDoor.PLease
open Go.RowKit Go.Proofs.YtjdadmjomjhpcaaDoorW.PrintWords Go.Proofs.YtjdadmjomjhpcaaDoorW.PrintLast Go.Proofs.YtjdadmjomjhpcaaDoorW.PrintMore
attribute [local go_sem] max2_int min2_int max_two min_two max_three min_three max_four min_four
set_option linter.unusedVariables false
set_option linter.unusedSimpArgs false
set_option maxHeartbeats 8000000
set_option maxRecDepth 100000

/-! ### text_plain: function 47 -/
mutual
def text_plain.j0 : Nat → Int → Bool → Option (Bool)
 | 0, _, _ => none
 | k + 1, x0, x3 => if x3 = true then (some true) else (if x0 ≥ 97 then (text_plain.j1 k x0 (decide (x0 ≤ 122))) else (text_plain.j1 k x0 false))
def text_plain.j1 : Nat → Int → Bool → Option (Bool)
 | 0, _, _ => none
 | k + 1, x0, x3 => if x3 = true then (some true) else (if x0 ≥ 48 then (if x0 ≤ 57 then (some true) else (if x0 = 95 then (some true) else (if x0 = 45 then (some true) else (if x0 = 46 then (some true) else (if x0 = 47 then (some true) else (some (x0 == 43))))))) else (if x0 = 95 then (some true) else (if x0 = 45 then (some true) else (if x0 = 46 then (some true) else (if x0 = 47 then (some true) else (some (x0 == 43)))))))
end
def text_plain.f (k : Nat) (a0 : Int) : Option (Bool) := if a0 ≥ 65 then (text_plain.j0 k a0 (decide (a0 ≤ 90))) else (text_plain.j0 k a0 false)
theorem text_plain.mono_l : ∀ k, (∀ y0 y1, LeO (text_plain.j0 k y0 y1) (text_plain.j0 (k + 1) y0 y1)) ∧ (∀ y0 y1, LeO (text_plain.j1 k y0 y1) (text_plain.j1 (k + 1) y0 y1))
 | 0 => ⟨fun _ _ r h => by simp [text_plain.j0] at h, fun _ _ r h => by simp [text_plain.j1] at h⟩
 | k + 1 => by
  obtain ⟨ih0, ih1⟩ := text_plain.mono_l k
  refine ⟨?_, ?_⟩
  ·intros
   unfold text_plain.j0
   exact zLe
  ·intros
   unfold text_plain.j1
   exact zLe
theorem text_plain.mono : ∀ a0 k, LeO (text_plain.f k a0) (text_plain.f (k + 1) a0) := by
 intro a0 k
 obtain ⟨ih0, ih1⟩ := text_plain.mono_l k
 unfold text_plain.f
 exact zLe
theorem text_plain.calls (k : Nat) (a0 : Int) (r : Bool) (w : World) (h : text_plain.f k a0 = some r) :
  Calls Tryd.prog 47 #[.int .u8 a0] w fun e w' => e = .returned (.bool r) ∧ Drawn0 w w' := by
 have H : (if a0 ≥ 65 then (text_plain.j0 k a0 (decide (a0 ≤ 90))) else (text_plain.j0 k a0 false)) = some r := h
 clear h
 have HC2 := ka H
 clear H
 go_enter Tryd.func47, Tryd.ntmps47
 go_upto_region 1 with (fail)
 go_cut [3] (fun v3 wc => ∃ (kq : Nat) (x3_1 : Bool), v3 = .bool x3_1 ∧ Aside0 (text_plain.j0 kq a0 x3_1 = some r) ∧ Aside0 (kq ≤ k) ∧ Drawn0 w wc)
 case first =>
  have H := HC2.out
  clear HC2
  by_cases c3 : a0 ≥ 65
  ·rw [if_pos c3] at H
   have c3b0 : decide (65 ≤ a0) = true := zdt c3
   clear c3
   (first | rw [c3b0] | (simp only [i64_w, i32_w]; rw [c3b0]) | rw [isE_ c3b0] | skip)
   have H' := ka H
   clear H
   go_wp2
   go_meet
   case rel => exact ⟨_, (decide (a0 ≤ 90)), zS, H', ⟨by first | omega | exact Nat.le_refl _⟩, zd0⟩
  rw [if_neg c3] at H
  have c3b0 : decide (65 ≤ a0) = false := zdf c3
  clear c3
  (first | rw [c3b0] | (simp only [i64_w, i32_w]; rw [c3b0]) | rw [isE_ c3b0] | skip)
  have H' := ka H
  clear H
  go_wp2
  go_meet
  case rel => exact ⟨_, (false), zS, H', ⟨by first | omega | exact Nat.le_refl _⟩, zd0⟩
 case rest =>
  clear HC2
  obtain ⟨kq, x3_1, rfl, HA, HJ1, ⟨mc1, rfl⟩⟩ := hcut
  cases kq with
  | zero => exact absurd HA.out (by simp [text_plain.j0])
  | succ kj1 =>
   have H := HA.out
   clear HA
   simp only [text_plain.j0] at H
   by_cases c4 : x3_1 = true
   ·subst c4
    rw [if_pos rfl] at H
    obtain rfl := Option.some.inj H
    go_wp2
    go_ret
    exact ⟨by first | rfl | (simp; done) | (simp [*]; done), zd0⟩
   replace c4 := Bool.eq_false_iff.mpr c4
   subst c4
   rw [if_neg (show ¬ (false = true) by decide)] at H
   have HC5 := ka H
   clear H
   go_upto_region 2 with (fail)
   go_cut [3] (fun v3 wc => ∃ (kq : Nat) (x3_4 : Bool), v3 = .bool x3_4 ∧ Aside0 (text_plain.j1 kq a0 x3_4 = some r) ∧ Aside0 (kq ≤ kj1) ∧ Drawn0 w wc)
   case first =>
    have H := HC5.out
    clear HC5
    by_cases c6 : a0 ≥ 97
    ·rw [if_pos c6] at H
     have c6b0 : decide (97 ≤ a0) = true := zdt c6
     clear c6
     (first | rw [c6b0] | (simp only [i64_w, i32_w]; rw [c6b0]) | rw [isE_ c6b0] | skip)
     have H' := ka H
     clear H
     go_wp2
     go_meet
     case rel => exact ⟨_, (decide (a0 ≤ 122)), zS, H', ⟨by have := HJ1.out; first | omega | exact Nat.le_refl _⟩, zd0⟩
    rw [if_neg c6] at H
    have c6b0 : decide (97 ≤ a0) = false := zdf c6
    clear c6
    (first | rw [c6b0] | (simp only [i64_w, i32_w]; rw [c6b0]) | rw [isE_ c6b0] | skip)
    have H' := ka H
    clear H
    go_wp2
    go_meet
    case rel => exact ⟨_, (false), zS, H', ⟨by have := HJ1.out; first | omega | exact Nat.le_refl _⟩, zd0⟩
   case rest =>
    clear HC5
    try clear c4
    obtain ⟨kq, x3_4, rfl, HA, HJ4, ⟨mc4, rfl⟩⟩ := hcut
    cases kq with
    | zero => exact absurd HA.out (by simp [text_plain.j1])
    | succ kj4 =>
     have H := HA.out
     clear HA
     simp only [text_plain.j1] at H
     by_cases c7 : x3_4 = true
     case pos =>
      subst c7
      rw [if_pos rfl] at H
      obtain rfl := Option.some.inj H
      go_wp2
      go_ret
      exact ⟨by first | rfl | (simp; done) | (simp [*]; done), zd0⟩
     case' neg =>
      replace c7 := Bool.eq_false_iff.mpr c7
      subst c7
      rw [if_neg (show ¬ (false = true) by decide)] at H
      by_cases c8 : a0 ≥ 48
      case neg =>
       rw [if_neg c8] at H
       have c8b0 : decide (48 ≤ a0) = false := zdf c8
       clear c8
       by_cases c14 : a0 = 95
       ·rw [if_pos c14] at H
        have c14b0 := zb0 c14
        have c14b1 := zb1 c14
        clear c14
        obtain rfl := Option.some.inj H
        go_wp2
        go_ret
        exact ⟨by first | rfl | (simp; done) | (simp [*]; done), zd0⟩
       ·rw [if_neg c14] at H
        have c14b0 := zn0 c14
        have c14b1 := zn1 c14
        by_cases c15 : a0 = 45
        ·rw [if_pos c15] at H
         have c15b0 := zb0 c15
         have c15b1 := zb1 c15
         clear c15
         obtain rfl := Option.some.inj H
         go_wp2
         go_ret
         exact ⟨by first | rfl | (simp; done) | (simp [*]; done), zd0⟩
        ·rw [if_neg c15] at H
         have c15b0 := zn0 c15
         have c15b1 := zn1 c15
         by_cases c16 : a0 = 46
         ·rw [if_pos c16] at H
          have c16b0 := zb0 c16
          have c16b1 := zb1 c16
          clear c16
          obtain rfl := Option.some.inj H
          go_wp2
          go_ret
          exact ⟨by first | rfl | (simp; done) | (simp [*]; done), zd0⟩
         ·rw [if_neg c16] at H
          have c16b0 := zn0 c16
          have c16b1 := zn1 c16
          by_cases c17 : a0 = 47
          ·rw [if_pos c17] at H
           have c17b0 := zb0 c17
           have c17b1 := zb1 c17
           clear c17
           obtain rfl := Option.some.inj H
           go_wp2
           go_ret
           exact ⟨by first | rfl | (simp; done) | (simp [*]; done), zd0⟩
          ·rw [if_neg c17] at H
           have c17b0 := zn0 c17
           have c17b1 := zn1 c17
           obtain rfl := Option.some.inj H
           go_wp2
           go_ret
           exact ⟨by first | rfl | (simp; done) | (simp [*]; done), zd0⟩
      case' pos =>
       rw [if_pos c8] at H
       have c8b0 : decide (48 ≤ a0) = true := zdt c8
       clear c8
       by_cases c9 : a0 ≤ 57
       case' pos =>
        rw [if_pos c9] at H
        have c9b0 := zdt c9
        clear c9
       case' neg =>
        rw [if_neg c9] at H
        have c9b0 := zdf c9
        clear c9
        by_cases c10 : a0 = 95
        case' pos =>
         rw [if_pos c10] at H
         have c10b0 := zb0 c10
         have c10b1 := zb1 c10
         clear c10
        case' neg =>
         rw [if_neg c10] at H
         have c10b0 := zn0 c10
         have c10b1 := zn1 c10
         by_cases c11 : a0 = 45
         case' pos =>
          rw [if_pos c11] at H
          have c11b0 := zb0 c11
          have c11b1 := zb1 c11
          clear c11
         case' neg =>
          rw [if_neg c11] at H
          have c11b0 := zn0 c11
          have c11b1 := zn1 c11
          by_cases c12 : a0 = 46
          case' pos =>
           rw [if_pos c12] at H
           have c12b0 := zb0 c12
           have c12b1 := zb1 c12
           clear c12
          case' neg =>
           rw [if_neg c12] at H
           have c12b0 := zn0 c12
           have c12b1 := zn1 c12
           by_cases c13 : a0 = 47
           case' pos =>
            rw [if_pos c13] at H
            have c13b0 := zb0 c13
            have c13b1 := zb1 c13
            clear c13
           case' neg =>
            rw [if_neg c13] at H
            have c13b0 := zn0 c13
            have c13b1 := zn1 c13
     all_goals
      obtain rfl := Option.some.inj H
      go_wp2
      go_ret
      exact ⟨by first | rfl | (simp; done) | (simp [*]; done), zd0⟩

/-! ### strings_explode: function 57 -/
/-- strings.explode is never come to: no answer is told. -/
def strings_explode.f (_a0 : ByteArray) (_a1 : Int) : Option (List ByteArray) := none
theorem strings_explode.calls (a0 : ByteArray) (a1 : Int) (r : List ByteArray) (w : World) (h : strings_explode.f a0 a1 = some r) :
    Calls Tryd.prog 57 #[.string a0, .int .i64 a1] w fun e w' => ∃ v0_ : Value, e = .returned (v0_) ∧ Kd.R Kd.string 9 w' w.heap.size (fun _ => True) v0_ r ∧ Below w.heap.size w w' := by
  exact absurd h (by simp [strings_explode.f])



/-! ### strings_Count: function 58 -/
/-- strings.Count at a substr of one byte. -/
def strings_Count.f (a0 : ByteArray) (a1 : ByteArray) : Option (Int) := if a1.size = 1 then some ((Lib.countByte a0.data.toList (a1.data.toList.headD 0) : Nat) : Int) else none
set_option maxHeartbeats 1000000 in
theorem strings_Count.one (a0 : ByteArray) (c : UInt8) (w : World) :
    Calls Tryd.prog 58 #[.string a0, .string ⟨#[c]⟩] w fun e w' => e = .returned (.int .i64 (Lib.countByte a0.data.toList c)) ∧ Drawn0 w w' := by
  go_enter Tryd.func58, Tryd.ntmps58
  go_wp2_with fail
  rw [run_callFunc_extern Tryd.func63 (by kernel_rfl) (by kernel_rfl) (by kernel_rfl) (e := Extern.BytealgCount.count) (by kernel_rfl), Lib.run_countString]
  simp only [Result.andThen]
  rw [Oper.upon_value]
  go_wp2
  go_ret
  exact ⟨by first | rfl | (simp; rfl), Drawn0.refl _⟩
theorem one_byte' (a1 : ByteArray) (h : a1.size = 1) : ∃ c : UInt8, a1 = ⟨#[c]⟩ := by
  obtain ⟨d⟩ := a1
  obtain ⟨l⟩ := d
  match l, h with
  | [c], _ => exact ⟨c, rfl⟩
theorem strings_Count.calls (a0 : ByteArray) (a1 : ByteArray) (r : Int) (w : World) (h : strings_Count.f a0 a1 = some r) :
    Calls Tryd.prog 58 #[.string a0, .string a1] w fun e w' => e = .returned (.int .i64 r) ∧ Drawn0 w w' := by
  unfold strings_Count.f at h
  by_cases c : a1.size = 1
  · rw [if_pos c] at h
    obtain rfl := Option.some.inj h
    obtain ⟨b, rfl⟩ := one_byte' a1 c
    exact strings_Count.one a0 b w
  · rw [if_neg c] at h
    exact absurd h (by simp)



/-! ### stringslite_IndexByte: function 66 -/
def stringslite_IndexByte.f (a0 : ByteArray) (a1 : Int) : Option (Int) := some (Lib.indexByte a0.data.toList a1.toNat.toUInt8)
set_option maxHeartbeats 1000000 in
theorem stringslite_IndexByte.calls (a0 : ByteArray) (a1 : Int) (r : Int) (w : World) (h : stringslite_IndexByte.f a0 a1 = some r) :
    Calls Tryd.prog 66 #[.string a0, .int .u8 a1] w fun e w' => e = .returned (.int .i64 r) ∧ Drawn0 w w' := by
  have H : (some (Lib.indexByte a0.data.toList a1.toNat.toUInt8)) = some r := h
  clear h
  obtain rfl := Option.some.inj H
  clear H
  go_enter Tryd.func66, Tryd.ntmps66
  go_wp2_with fail
  rw [run_callFunc_extern Tryd.func70 (by kernel_rfl) (by kernel_rfl) (by kernel_rfl) (e := Extern.BytealgIndexByte.indexByte) (by kernel_rfl), Lib.run_indexByteString]
  simp only [Result.andThen]
  rw [Oper.upon_value]
  go_wp2
  go_ret
  exact ⟨rfl, Drawn0.refl _⟩



/-! ### stringslite_Index: function 64 -/
/-- strings.Index at a sub of one byte: where it first is. -/
def stringslite_Index.f (a0 : ByteArray) (a1 : ByteArray) : Option (Int) := if a1.size = 1 then some (Lib.indexByte a0.data.toList (a1.data.toList.headD 0)) else none
theorem one_byte (a1 : ByteArray) (h : a1.size = 1) : ∃ c : UInt8, a1 = ⟨#[c]⟩ := by
  obtain ⟨d⟩ := a1
  obtain ⟨l⟩ := d
  match l, h with
  | [c], _ => exact ⟨c, rfl⟩
set_option maxHeartbeats 1000000 in
theorem stringslite_Index.one (a0 : ByteArray) (c : UInt8) (w : World) :
    Calls Tryd.prog 64 #[.string a0, .string ⟨#[c]⟩] w fun e w' => e = .returned (.int .i64 (Lib.indexByte a0.data.toList c)) ∧ Drawn0 w w' := by
  go_enter Tryd.func64, Tryd.ntmps64
  go_wp2_with (go_at_call 66; (with_reducible refine (stringslite_IndexByte.calls _ _ _ _ rfl).mono ?_); rintro e w' ⟨rfl, ⟨nd, rfl⟩⟩)
  · have h : ([c] == a0.toList) = true := by assumption
    go_ret
    refine ⟨?_, Drawn0.refl _⟩
    have e : a0.data.toList = [c] := by rw [← Lib.toList_data]; exact (beq_iff_eq.1 h).symm
    rw [e]
    simp [Lib.indexByte]
  · go_ret
    exact ⟨by first | rfl | (simp; rfl), zd0⟩
theorem stringslite_Index.calls (a0 : ByteArray) (a1 : ByteArray) (r : Int) (w : World) (h : stringslite_Index.f a0 a1 = some r) :
    Calls Tryd.prog 64 #[.string a0, .string a1] w fun e w' => e = .returned (.int .i64 r) ∧ Drawn0 w w' := by
  unfold stringslite_Index.f at h
  by_cases c : a1.size = 1
  · rw [if_pos c] at h
    obtain rfl := Option.some.inj h
    obtain ⟨b, rfl⟩ := one_byte a1 c
    exact stringslite_Index.one a0 b w
  · rw [if_neg c] at h
    exact absurd h (by simp)



/-! ### strings_Index: function 59 -/
def strings_Index.f (a0 : ByteArray) (a1 : ByteArray) : Option (Int) := (stringslite_Index.f a0 a1).bind fun t211 => (some t211)
theorem strings_Index.calls (a0 : ByteArray) (a1 : ByteArray) (r : Int) (w : World) (h : strings_Index.f a0 a1 = some r) :
  Calls Tryd.prog 59 #[.string a0, .string a1] w fun e w' => e = .returned (.int .i64 r) ∧ Drawn0 w w' := by
 have H : ((stringslite_Index.f a0 a1).bind fun t211 => (some t211)) = some r := h
 clear h
 replace H := Option.bind_eq_some_iff.mp H
 obtain ⟨t211, A30, H⟩ := H
 try dsimp only at H
 have A3 := ka A30
 clear A30
 obtain rfl := Option.some.inj H
 go_enter Tryd.func59, Tryd.ntmps59
 go_wp2_with (first | ((with_reducible refine gate_callee (f := 64) rfl ?_); refine goesL_ (some 7) rfl rfl Tryd.func64 (by kernel_rfl) rfl #[.string a0, .string a1] rfl zA ?_; (with_reducible refine (stringslite_Index.calls a0 a1 t211 _ A3.out).mono ?_); rintro e w' ⟨rfl, ⟨nd, rfl⟩⟩; refine ⟨_, rfl, ?_⟩))
 go_ret
 exact ⟨by first | rfl | (simp; done) | (simp [*]; done), zd0⟩

/-! ### strings_genSplit: function 52 -/
mutual
def strings_genSplit.j0 : Nat → ByteArray → ByteArray → Int → Int → Option (List ByteArray)
 | 0, _, _, _, _ => none
 | k + 1, x0, x1, x2, x3 => if 0 ≤ (mn x3 (wrap64 ((x0.size : Int) + 1))) then (if (mn x3 (wrap64 ((x0.size : Int) + 1)) : Int).toNat ≤ 17592186044416 then (strings_genSplit.l0 k x0 x1 x2 (wrap64 ((mn x3 (wrap64 ((x0.size : Int) + 1))) - 1)) (List.replicate (mn x3 (wrap64 ((x0.size : Int) + 1)) : Int).toNat (⟨#[]⟩ : ByteArray)) 0) else (none)) else (none)
def strings_genSplit.l0 : Nat → ByteArray → ByteArray → Int → Int → List ByteArray → Int → Option (List ByteArray)
 | 0, _, _, _, _, _, _ => none
 | k + 1, x0, x1, x2, x3, x9, x10 => if x10 < x3 then ((strings_Index.f x0 x1).bind fun t219 => (if t219 < 0 then (if 0 ≤ x10 then (if x10 < (x9.length : Int) then (if 0 ≤ (wrap64 (x10 + 1)) then (if (wrap64 (x10 + 1)) ≤ (x9.length : Int) then (some ((x9.set (x10 : Int).toNat x0).take ((wrap64 (x10 + 1)) : Int).toNat)) else (none)) else (none)) else (none)) else (none)) else (if 0 ≤ (wrap64 (t219 + x2)) then (if (wrap64 (t219 + x2)) ≤ (x0.size : Int) then (if 0 ≤ x10 then (if x10 < (x9.length : Int) then (if 0 ≤ (wrap64 (t219 + (x1.size : Int))) then (if (wrap64 (t219 + (x1.size : Int))) ≤ (x0.size : Int) then (strings_genSplit.l0 k (x0.extract ((wrap64 (t219 + (x1.size : Int))) : Int).toNat x0.size) x1 x2 x3 (x9.set (x10 : Int).toNat (x0.extract 0 ((wrap64 (t219 + x2)) : Int).toNat)) (wrap64 (x10 + 1))) else (none)) else (none)) else (none)) else (none)) else (none)) else (none)))) else (if 0 ≤ x10 then (if x10 < (x9.length : Int) then (if 0 ≤ (wrap64 (x10 + 1)) then (if (wrap64 (x10 + 1)) ≤ (x9.length : Int) then (some ((x9.set (x10 : Int).toNat x0).take ((wrap64 (x10 + 1)) : Int).toNat)) else (none)) else (none)) else (none)) else (none))
end
def strings_genSplit.f (k : Nat) (a0 : ByteArray) (a1 : ByteArray) (a2 : Int) (a3 : Int) : Option (List ByteArray) := if a3 = 0 then (some ([] : List ByteArray)) else (if a1.toList = ([] : List UInt8) then ((strings_explode.f a0 a3).bind fun t212 => (some t212)) else (if a3 < 0 then ((strings_Count.f a0 a1).bind fun t215 => (strings_genSplit.j0 k a0 a1 a2 (wrap64 (t215 + 1)))) else (strings_genSplit.j0 k a0 a1 a2 a3)))
theorem strings_genSplit.mono_l : ∀ k, (∀ y0 y1 y2 y3, LeO (strings_genSplit.j0 k y0 y1 y2 y3) (strings_genSplit.j0 (k + 1) y0 y1 y2 y3)) ∧ (∀ y0 y1 y2 y3 y4 y5, LeO (strings_genSplit.l0 k y0 y1 y2 y3 y4 y5) (strings_genSplit.l0 (k + 1) y0 y1 y2 y3 y4 y5))
 | 0 => ⟨fun _ _ _ _ r h => by simp [strings_genSplit.j0] at h, fun _ _ _ _ _ _ r h => by simp [strings_genSplit.l0] at h⟩
 | k + 1 => by
  obtain ⟨ih0, ih1⟩ := strings_genSplit.mono_l k
  refine ⟨?_, ?_⟩
  ·intros
   unfold strings_genSplit.j0
   exact zLe
  ·intros
   unfold strings_genSplit.l0
   exact zLe
theorem strings_genSplit.mono : ∀ a0 a1 a2 a3 k, LeO (strings_genSplit.f k a0 a1 a2 a3) (strings_genSplit.f (k + 1) a0 a1 a2 a3) := by
 intro a0 a1 a2 a3 k
 obtain ⟨ih0, ih1⟩ := strings_genSplit.mono_l k
 unfold strings_genSplit.f
 exact zLe
theorem strings_genSplit.calls (k : Nat) (a0 : ByteArray) (a1 : ByteArray) (a2 : Int) (a3 : Int) (r : List ByteArray) (w : World) (h : strings_genSplit.f k a0 a1 a2 a3 = some r) :
  Calls Tryd.prog 52 #[.string a0, .string a1, .int .i64 a2, .int .i64 a3] w fun e w' => ∃ v0_ : Value, e = .returned (v0_) ∧ Kd.R Kd.string 9 w' w.heap.size (fun _ => True) v0_ r ∧ Below w.heap.size w w' := by
 have HB := ka (Below.refl w.heap.size w)
 have H : (if a3 = 0 then (some ([] : List ByteArray)) else (if a1.toList = ([] : List UInt8) then ((strings_explode.f a0 a3).bind fun t212 => (some t212)) else (if a3 < 0 then ((strings_Count.f a0 a1).bind fun t215 => (strings_genSplit.j0 k a0 a1 a2 (wrap64 (t215 + 1)))) else (strings_genSplit.j0 k a0 a1 a2 a3)))) = some r := h
 clear h
 by_cases c5 : a3 = 0
 ·rw [if_pos c5] at H
  have c5b0 := zb0 c5
  have c5b1 := zb1 c5
  clear c5
  obtain rfl := Option.some.inj H
  go_enter Tryd.func52, Tryd.ntmps52
  go_wp2
  go_ret
  exact ⟨_, zE, zNl, zL HB.out⟩
 rw [if_neg c5] at H
 have c5b0 := zn0 c5
 have c5b1 := zn1 c5
 by_cases c6 : a1.toList = ([] : List UInt8)
 ·rw [if_pos c6] at H
  have c6b0 := zb0 c6
  have c6b1 := zb1 c6
  clear c6
  replace H := Option.bind_eq_some_iff.mp H
  obtain ⟨t212, A70, H⟩ := H
  try dsimp only at H
  have A7 := ka A70
  clear A70
  obtain rfl := Option.some.inj H
  go_enter Tryd.func52, Tryd.ntmps52
  go_wp2_with (first | ((with_reducible refine gate_callee (f := 57) rfl ?_); refine goesL_ (some 18) rfl rfl Tryd.func57 (by kernel_rfl) rfl #[.string a0, .int .i64 a3] rfl zA ?_; (with_reducible refine (strings_explode.calls a0 a3 t212 _ A7.out).mono ?_); rintro e w8 ⟨v213, rfl, ho0, hb⟩; refine ⟨_, rfl, ?_⟩; have HO214 := ka (Kd.R_lower ho0 (below_size (zL HB.out))); replace HB := ka (below_step (zL HB.out) hb); (try clear hb); (try clear hb2); (try clear hk); (try clear hi); (try clear ho0)))
  go_ret
  exact ⟨_, zE, by (with_reducible repeat (first | apply Kd.R_alloc | apply Kd.R_drewN | apply Kd.R_drew)); exact HO214.out, zL HB.out⟩
 rw [if_neg c6] at H
 have c6b0 := zn0 c6
 have c6b1 := zn1 c6
 have HC9 := ka H
 clear H
 go_enter Tryd.func52, Tryd.ntmps52
 go_upto_if 20 with (fail)
 go_cut [3] (fun v3 wc => ∃ (kq : Nat) (x3_8 : Int), v3 = .int .i64 x3_8 ∧ Aside0 (strings_genSplit.j0 kq a0 a1 a2 x3_8 = some r) ∧ Aside0 (kq ≤ k) ∧ Aside0 (Below w.heap.size w wc))
 case first =>
  have H := HC9.out
  clear HC9
  by_cases c10 : a3 < 0
  ·rw [if_pos c10] at H
   have c10b0 := zdt c10
   clear c10
   (first | rw [c10b0] | (simp only [i64_w, i32_w]; rw [c10b0]) | rw [isE_ c10b0] | skip)
   replace H := Option.bind_eq_some_iff.mp H
   obtain ⟨t215, A110, H⟩ := H
   try dsimp only at H
   have A11 := ka A110
   clear A110
   have H' := ka H
   clear H
   go_wp2_with (first | ((with_reducible refine gate_callee (f := 58) rfl ?_); refine goesL_ (some 23) rfl rfl Tryd.func58 (by kernel_rfl) rfl #[.string a0, .string a1] rfl zA ?_; (with_reducible refine (strings_Count.calls a0 a1 t215 _ A11.out).mono ?_); rintro e w' ⟨rfl, ⟨nd, rfl⟩⟩; refine ⟨_, rfl, ?_⟩))
   go_meet
   case rel => exact ⟨_, (wrap64 (t215 + 1)), zS, H', ⟨by first | omega | exact Nat.le_refl _⟩, ⟨zL HB.out⟩⟩
  rw [if_neg c10] at H
  have c10b0 := zdf c10
  clear c10
  (first | rw [c10b0] | (simp only [i64_w, i32_w]; rw [c10b0]) | rw [isE_ c10b0] | skip)
  have H' := ka H
  clear H
  go_wp2
  go_meet
  case rel => exact ⟨_, (a3), zS, H', ⟨by first | omega | exact Nat.le_refl _⟩, ⟨zL HB.out⟩⟩
 case rest =>
  clear HC9
  try clear c5
  try clear c5b0
  try clear c5b1
  try clear c6
  try clear c6b0
  try clear c6b1
  obtain ⟨kq, x3_8, rfl, HA, HJ8, HB⟩ := hcut
  cases kq with
  | zero => exact absurd HA.out (by simp [strings_genSplit.j0])
  | succ kj8 =>
   have H := HA.out
   clear HA
   simp only [strings_genSplit.j0] at H
   obtain ⟨ji12, hji12⟩ : ∃ j_ : Int, (mn x3_8 (wrap64 ((a0.size : Int) + 1))) = j_ := ⟨_, rfl⟩
   replace H : (if 0 ≤ (ji12) then (if (ji12 : Int).toNat ≤ 17592186044416 then (strings_genSplit.l0 kj8 a0 a1 a2 (wrap64 ((ji12) - 1)) (List.replicate (ji12 : Int).toNat (⟨#[]⟩ : ByteArray)) 0) else (none)) else (none)) = some r := by first | (rw [hji12] at H; exact H) | (simp only [hji12] at H ⊢; exact H)
   have hji12_ : (if (wrap64 ((a0.size : Int) + 1)) < x3_8 then (wrap64 ((a0.size : Int) + 1)) else x3_8) = ji12 := hji12
   replace H := zif H
   obtain ⟨c13, H⟩ := H
   have c13b0 := eq_true c13
   have c13b1 := zdt c13
   clear c13
   replace H := zif H
   obtain ⟨c14, H⟩ := H
   have c14b0 := eq_true c14
   have c14b1 := zdt c14
   clear c14
   obtain ⟨y216, hy216⟩ : ∃ y_ : List ByteArray, y_ = (List.replicate (ji12 : Int).toNat (⟨#[]⟩ : ByteArray)) := ⟨_, rfl⟩
   replace H : (strings_genSplit.l0 kj8 a0 a1 a2 (wrap64 ((ji12) - 1)) y216 0) = some r := zH hy216 H
   have Ny216 := ka hy216
   clear hy216
   have H' := ka H
   clear H
   go_wp2_with (first | ((with_reducible refine gate_dst (N := 31) rfl ?_); refine Kd.R_make Kd.string _ 9 rfl (N := 31) rfl 85 _ _ rfl ji12 rfl rfl Tryd.underlying85 (.string ⟨#[]⟩) 16 info9 rfl (by decide) (by omega) (⟨#[]⟩ : ByteArray) (ok := fun _ => True) (okp := fun _ => True) rfl (fun _ hk => hk) trivial zD (Nat.le_trans (Nat.mul_le_mul_right _ (zD : ji12.toNat ≤ 17592186044416)) (by omega)) (Below.refl _ _) (Nat.le_refl _) ?_; intro v217 w15 ho16 hb hg_ hnew_; clear hg_ hnew_; (first | rw [← Ny216.out] at ho16 | (simp only [Int.reduceToNat] at ho16; rw [← Ny216.out] at ho16)); have HO218 := ka (Kd.R_lower ho16 (below_size (zL HB.out))); replace HB := ka (below_step (zL HB.out) hb); clear hb ho16))
   go_loopg [0, 10] kj8 (fun kq v0 v10 w' => ∃ (x0_2 : ByteArray) (x9_2 : List ByteArray) (x10_2 : Int), v0 = .string x0_2 ∧ v10 = .int .i64 x10_2 ∧ Aside0 (strings_genSplit.l0 kq x0_2 a1 a2 (wrap64 ((ji12) - 1)) x9_2 x10_2 = some r) ∧ Aside0 (kq ≤ kj8) ∧ Aside0 (Kd.R Kd.string 9 w' w.heap.size (fun _ => True) v217 x9_2) ∧ Aside0 (Below w.heap.size w w'))
   case atStart => exact ⟨(a0), (y216), (0), zS, zS, H', ⟨Nat.le_refl _⟩, ⟨zR HO218.out⟩, ⟨zL HB.out⟩⟩
   case round =>
    clear H'
    try clear c5
    try clear c5b0
    try clear c5b1
    try clear c6
    try clear c6b0
    try clear c6b1
    try clear c13
    try clear c13b0
    try clear c13b1
    try clear c14
    try clear c14b0
    try clear c14b1
    obtain ⟨x0_2, x9_2, x10_2, rfl, rfl, HA, HK2, HO_9, HB⟩ := hrel
    cases gk with
    | zero => exact absurd HA.out (by simp [strings_genSplit.l0])
    | succ k2 =>
     have H := HA.out
     clear HA
     simp only [strings_genSplit.l0] at H
     by_cases c17 : x10_2 < (wrap64 ((ji12) - 1))
     ·rw [if_pos c17] at H
      have c17b0 := zdt c17
      clear c17
      replace H := Option.bind_eq_some_iff.mp H
      obtain ⟨t219, A180, H⟩ := H
      try dsimp only at H
      have A18 := ka A180
      clear A180
      by_cases c19 : t219 < 0
      ·rw [if_pos c19] at H
       have c19b0 := zdt c19
       clear c19
       replace H := zif H
       obtain ⟨c20, H⟩ := H
       have c20b0 := zdt c20
       clear c20
       replace H := zif H
       obtain ⟨c21, H⟩ := H
       have c21b0 := zdt c21
       clear c21
       obtain ⟨y220, hy220⟩ : ∃ y_ : List ByteArray, y_ = (x9_2.set (x10_2 : Int).toNat x0_2) := ⟨_, rfl⟩
       replace H : (if 0 ≤ (wrap64 (x10_2 + 1)) then (if (wrap64 (x10_2 + 1)) ≤ (x9_2.length : Int) then (some (y220.take ((wrap64 (x10_2 + 1)) : Int).toNat)) else (none)) else (none)) = some r := zH hy220 H
       have Ny220 := ka hy220
       clear hy220
       obtain ⟨ji23, hji23⟩ : ∃ j_ : Int, (wrap64 (x10_2 + 1)) = j_ := ⟨_, rfl⟩
       replace H : (if 0 ≤ (ji23) then (if (ji23) ≤ (x9_2.length : Int) then (some (y220.take ((ji23) : Int).toNat)) else (none)) else (none)) = some r := by first | (rw [hji23] at H; exact H) | (simp only [hji23] at H ⊢; exact H)
       (try rw [hji23] at A18)
       have hji23w : (IntKind.i64.wrap (x10_2 + 1)) = ji23 := (i64_w _).trans hji23
       replace H := zif H
       obtain ⟨c24, H⟩ := H
       have c24b0 := eq_true c24
       have c24b1 := zdt c24
       clear c24
       replace H := zif H
       obtain ⟨c25, H⟩ := H
       have c25b0 := eq_true c25
       have c25b1 := zdt c25
       clear c25
       obtain ⟨y221, hy221⟩ : ∃ y_ : List ByteArray, y_ = (y220.take ((ji23) : Int).toNat) := ⟨_, rfl⟩
       replace H : (some y221) = some r := zH hy221 H
       have Ny221 := ka hy221
       clear hy221
       obtain rfl := Option.some.inj H
       go_wp2_with (first | ((with_reducible refine gate_callee (f := 59) rfl ?_); refine goesL_ (some 39) rfl rfl Tryd.func59 (by kernel_rfl) rfl #[.string x0_2, .string a1] rfl zA ?_; (with_reducible refine (strings_Index.calls x0_2 a1 t219 _ A18.out).mono ?_); rintro e w' ⟨rfl, ⟨nd, rfl⟩⟩; refine ⟨_, rfl, ?_⟩; (try (rw [drewN_self wr]; generalize hq_ : World.drewN wr _ = wr; have n0_ : Aside0 (Kd.R Kd.string 9 wr w.heap.size (fun _ => True) v217 x9_2) := ⟨by rw [← hq_]; exact (zR HO_9.out)⟩; have n1_ : Aside0 (Below w.heap.size w wr) := ⟨by rw [← hq_]; exact (zL HB.out)⟩; clear HO_9 HB hq_; have HO_9 := n0_; have HB := n1_; clear n0_ n1_)); have p22 : 0 ≤ (x10_2 : Int) := zD; have q22 : (x10_2 : Int) < ((x9_2.length : Int) : Int) := zD; obtain ⟨go22, co22, eo22, gb22, gl22, cl22, HG22⟩ := Kd.R_form HO_9.out (by omega); (first | cases eo22 | (injection eo22 with ea_ en_ ec_; (first | subst ea_ | (injection ea_ with ea_; subst ea_)); subst ec_; clear en_)); have GB22 := ka gb22; have GG22 := ka HG22; clear gb22 gl22 HG22; obtain ⟨hx22_0, hf22_0⟩ := Kd.R_celln (⟨#[]⟩ : ByteArray) HO_9.out (x10_2 : Int) p22 q22; replace p22 := eq_true p22; replace q22 := eq_true q22; obtain ⟨hy26_, hz26_⟩ := Kd.R_celln (⟨#[]⟩ : ByteArray) HO_9.out (x10_2 : Int) zD zD; have HP26 := Kd.R_putg HO_9.out (x10_2 : Int) x0_2) | ((with_reducible refine gate_store (t := 9) (p := 61) rfl ?_); refine store_event (t := 9) (p := 61) (v := ?vo_w27) (w1 := (wr.setCell ⟨go22, (x10_2 : Int).toNat, none⟩ (.string x0_2))) ?hg ?ho ?hn ?hr ?_; (case ho => rfl); (case hg => rfl); (case hn => rfl); (case hr => (go_simp; try rfl)); intro w27 hw; have hg : wr.grownBy w27 (some go22) := (by rw [hw]; exact HP26.2); have hp_ : Kd.R Kd.string 9 w27 w.heap.size (fun _ => True) (.slice (some ⟨go22, 0, none⟩) x9_2.length co22) y220 := (by rw [hw, Ny220.out]; exact HP26.1); clear HP26; replace HO_9 := ka (hp_); replace HB := ka ((by rw [hw]; exact below_set (HB.out) GB22.out : Below w.heap.size w w27)); clear hg hw hp_; have hlx28 := ka (Kd.R_reads' HO_9.out).1; have hlx_ := hlx28.out; have q28 : ((ji23) : Int) ≤ ((x9_2.length : Int) : Int) := zD; obtain ⟨i028, hi028, _, hsz28, _⟩ := info_parts info9; have hcut28 := cut_to (P := Tryd.prog) 85 9 .i64 Tryd.underlying85 hi028 (some ⟨go22, 0, none⟩) x9_2.length co22 (ji23) zD q28 (Kd.R_reads' HO_9.out).2.1; have hr28 := Kd.R_take (m := ((ji23) : Int).toNat) HO_9.out (by omega); have hy28 : y221.length = ((ji23) : Int).toNat := (by rw [Ny221.out, List.length_take]; omega); rw [← Ny221.out] at hr28; rw [← hy28] at hr28 hcut28; clear hy28 hi028 hsz28 HO_9; have HO223 := ka hr28; clear hr28; replace q28 := eq_true q28; clear hlx_))
       go_ret
       exact ⟨_, by first | rfl | (simp [errW_none, errW_some] <;> rfl) | (simp only [← hji12, ← hji23]; first | rfl | (simp [errW_none, errW_some] <;> rfl)) | (simp [*, errW_none, errW_some] <;> rfl), by (with_reducible repeat (first | apply Kd.R_alloc | apply Kd.R_drewN | apply Kd.R_drew)); exact HO223.out, zL HB.out⟩
      rw [if_neg c19] at H
      have c19b0 := zdf c19
      clear c19
      obtain ⟨ji29, hji29⟩ : ∃ j_ : Int, (wrap64 (t219 + a2)) = j_ := ⟨_, rfl⟩
      replace H : (if 0 ≤ (ji29) then (if (ji29) ≤ (x0_2.size : Int) then (if 0 ≤ x10_2 then (if x10_2 < (x9_2.length : Int) then (if 0 ≤ (wrap64 (t219 + (a1.size : Int))) then (if (wrap64 (t219 + (a1.size : Int))) ≤ (x0_2.size : Int) then (strings_genSplit.l0 k2 (x0_2.extract ((wrap64 (t219 + (a1.size : Int))) : Int).toNat x0_2.size) a1 a2 (wrap64 ((ji12) - 1)) (x9_2.set (x10_2 : Int).toNat (x0_2.extract 0 ((ji29) : Int).toNat)) (wrap64 (x10_2 + 1))) else (none)) else (none)) else (none)) else (none)) else (none)) else (none)) = some r := by first | (rw [hji29] at H; exact H) | (simp only [hji29] at H ⊢; exact H)
      (try rw [hji29] at A18)
      have hji29w : (IntKind.i64.wrap (t219 + a2)) = ji29 := (i64_w _).trans hji29
      replace H := zif H
      obtain ⟨c30, H⟩ := H
      have c30b0 := eq_true c30
      have c30b1 := zdt c30
      clear c30
      replace H := zif H
      obtain ⟨c31, H⟩ := H
      have c31b0 := eq_true c31
      have c31b1 := zdt c31
      clear c31
      replace H := zif H
      obtain ⟨c32, H⟩ := H
      have c32b0 := zdt c32
      clear c32
      replace H := zif H
      obtain ⟨c33, H⟩ := H
      have c33b0 := zdt c33
      clear c33
      obtain ⟨y224, hy224⟩ : ∃ y_ : List ByteArray, y_ = (x9_2.set (x10_2 : Int).toNat (x0_2.extract 0 ((ji29) : Int).toNat)) := ⟨_, rfl⟩
      replace H : (if 0 ≤ (wrap64 (t219 + (a1.size : Int))) then (if (wrap64 (t219 + (a1.size : Int))) ≤ (x0_2.size : Int) then (strings_genSplit.l0 k2 (x0_2.extract ((wrap64 (t219 + (a1.size : Int))) : Int).toNat x0_2.size) a1 a2 (wrap64 ((ji12) - 1)) y224 (wrap64 (x10_2 + 1))) else (none)) else (none)) = some r := zH hy224 H
      have Ny224 := ka hy224
      clear hy224
      obtain ⟨ji35, hji35⟩ : ∃ j_ : Int, (wrap64 (t219 + (a1.size : Int))) = j_ := ⟨_, rfl⟩
      replace H : (if 0 ≤ (ji35) then (if (ji35) ≤ (x0_2.size : Int) then (strings_genSplit.l0 k2 (x0_2.extract ((ji35) : Int).toNat x0_2.size) a1 a2 (wrap64 ((ji12) - 1)) y224 (wrap64 (x10_2 + 1))) else (none)) else (none)) = some r := by first | (rw [hji35] at H; exact H) | (simp only [hji35] at H ⊢; exact H)
      (try rw [hji35] at A18)
      have hji35w : (IntKind.i64.wrap (t219 + (a1.size : Int))) = ji35 := (i64_w _).trans hji35
      replace H := zif H
      obtain ⟨c36, H⟩ := H
      have c36b0 := eq_true c36
      have c36b1 := zdt c36
      clear c36
      replace H := zif H
      obtain ⟨c37, H⟩ := H
      have c37b0 := eq_true c37
      have c37b1 := zdt c37
      clear c37
      have H' := ka H
      clear H
      go_wp2_with (first | ((with_reducible refine gate_callee (f := 59) rfl ?_); refine goesL_ (some 39) rfl rfl Tryd.func59 (by kernel_rfl) rfl #[.string x0_2, .string a1] rfl zA ?_; (with_reducible refine (strings_Index.calls x0_2 a1 t219 _ A18.out).mono ?_); rintro e w' ⟨rfl, ⟨nd, rfl⟩⟩; refine ⟨_, rfl, ?_⟩; (try (rw [drewN_self wr]; generalize hq_ : World.drewN wr _ = wr; have n0_ : Aside0 (Kd.R Kd.string 9 wr w.heap.size (fun _ => True) v217 x9_2) := ⟨by rw [← hq_]; exact (zR HO_9.out)⟩; have n1_ : Aside0 (Below w.heap.size w wr) := ⟨by rw [← hq_]; exact (zL HB.out)⟩; clear HO_9 HB hq_; have HO_9 := n0_; have HB := n1_; clear n0_ n1_)); have p34 : 0 ≤ (x10_2 : Int) := zD; have q34 : (x10_2 : Int) < ((x9_2.length : Int) : Int) := zD; obtain ⟨go34, co34, eo34, gb34, gl34, cl34, HG34⟩ := Kd.R_form HO_9.out (by omega); (first | cases eo34 | (injection eo34 with ea_ en_ ec_; (first | subst ea_ | (injection ea_ with ea_; subst ea_)); subst ec_; clear en_)); have GB34 := ka gb34; have GG34 := ka HG34; clear gb34 gl34 HG34; obtain ⟨hx34_0, hf34_0⟩ := Kd.R_celln (⟨#[]⟩ : ByteArray) HO_9.out (x10_2 : Int) p34 q34; replace p34 := eq_true p34; replace q34 := eq_true q34; obtain ⟨hy38_, hz38_⟩ := Kd.R_celln (⟨#[]⟩ : ByteArray) HO_9.out (x10_2 : Int) zD zD; have HP38 := Kd.R_putg HO_9.out (x10_2 : Int) (x0_2.extract 0 ((ji29) : Int).toNat)) | ((with_reducible refine gate_store (t := 9) (p := 49) rfl ?_); refine store_event (t := 9) (p := 49) (v := ?vo_w39) (w1 := (wr.setCell ⟨go34, (x10_2 : Int).toNat, none⟩ (.string (x0_2.extract 0 ((ji29) : Int).toNat)))) ?hg ?ho ?hn ?hr ?_; (case ho => rfl); (case hg => rfl); (case hn => rfl); (case hr => (go_simp; try rfl)); intro w39 hw; have hg : wr.grownBy w39 (some go34) := (by rw [hw]; exact HP38.2); have hp_ : Kd.R Kd.string 9 w39 w.heap.size (fun _ => True) (.slice (some ⟨go34, 0, none⟩) x9_2.length co34) y224 := (by rw [hw, Ny224.out]; exact HP38.1); clear HP38; replace HO_9 := ka (hp_); replace HB := ka ((by rw [hw]; exact below_set (HB.out) GB34.out : Below w.heap.size w w39)); clear hg hw hp_))
      go_roundg k2
      case measure => have := HJ8.out; have := HK2.out; omega
      case rel => exact ⟨(x0_2.extract ((ji35) : Int).toNat x0_2.size), (y224), (wrap64 (x10_2 + 1)), (by first | rfl | (simp; done) | (simp only [← hji35] <;> (first | rfl | simp)) | (simp [*]; done)), zS, H', ⟨by have := HJ8.out; have := HK2.out; omega⟩, ⟨zR HO_9.out⟩, ⟨zL HB.out⟩⟩
     rw [if_neg c17] at H
     have c17b0 := zdf c17
     clear c17
     replace H := zif H
     obtain ⟨c40, H⟩ := H
     have c40b0 := zdt c40
     clear c40
     replace H := zif H
     obtain ⟨c41, H⟩ := H
     have c41b0 := zdt c41
     clear c41
     obtain ⟨y225, hy225⟩ : ∃ y_ : List ByteArray, y_ = (x9_2.set (x10_2 : Int).toNat x0_2) := ⟨_, rfl⟩
     replace H : (if 0 ≤ (wrap64 (x10_2 + 1)) then (if (wrap64 (x10_2 + 1)) ≤ (x9_2.length : Int) then (some (y225.take ((wrap64 (x10_2 + 1)) : Int).toNat)) else (none)) else (none)) = some r := zH hy225 H
     have Ny225 := ka hy225
     clear hy225
     obtain ⟨ji43, hji43⟩ : ∃ j_ : Int, (wrap64 (x10_2 + 1)) = j_ := ⟨_, rfl⟩
     replace H : (if 0 ≤ (ji43) then (if (ji43) ≤ (x9_2.length : Int) then (some (y225.take ((ji43) : Int).toNat)) else (none)) else (none)) = some r := by first | (rw [hji43] at H; exact H) | (simp only [hji43] at H ⊢; exact H)
     have hji43w : (IntKind.i64.wrap (x10_2 + 1)) = ji43 := (i64_w _).trans hji43
     replace H := zif H
     obtain ⟨c44, H⟩ := H
     have c44b0 := eq_true c44
     have c44b1 := zdt c44
     clear c44
     replace H := zif H
     obtain ⟨c45, H⟩ := H
     have c45b0 := eq_true c45
     have c45b1 := zdt c45
     clear c45
     obtain ⟨y226, hy226⟩ : ∃ y_ : List ByteArray, y_ = (y225.take ((ji43) : Int).toNat) := ⟨_, rfl⟩
     replace H : (some y226) = some r := zH hy226 H
     have Ny226 := ka hy226
     clear hy226
     obtain rfl := Option.some.inj H
     have p42 : 0 ≤ (x10_2 : Int) := zD
     have q42 : (x10_2 : Int) < ((x9_2.length : Int) : Int) := zD
     obtain ⟨go42, co42, eo42, gb42, gl42, cl42, HG42⟩ := Kd.R_form HO_9.out (by omega)
     (first | cases eo42 | (injection eo42 with ea_ en_ ec_; (first | subst ea_ | (injection ea_ with ea_; subst ea_)); subst ec_; clear en_))
     have GB42 := ka gb42
     have GG42 := ka HG42
     clear gb42 gl42 HG42
     obtain ⟨hx42_0, hf42_0⟩ := Kd.R_celln (⟨#[]⟩ : ByteArray) HO_9.out (x10_2 : Int) p42 q42
     replace p42 := eq_true p42
     replace q42 := eq_true q42
     have HP46 := Kd.R_putg HO_9.out (x10_2 : Int) x0_2
     go_wp2_with (first | ((with_reducible refine gate_store (t := 9) (p := 61) rfl ?_); refine store_event (t := 9) (p := 61) (v := ?vo_w47) (w1 := (wr.setCell ⟨go42, (x10_2 : Int).toNat, none⟩ (.string x0_2))) ?hg ?ho ?hn ?hr ?_; (case ho => rfl); (case hg => rfl); (case hn => rfl); (case hr => (go_simp; try rfl)); intro w47 hw; have hg : wr.grownBy w47 (some go42) := (by rw [hw]; exact HP46.2); have hp_ : Kd.R Kd.string 9 w47 w.heap.size (fun _ => True) (.slice (some ⟨go42, 0, none⟩) x9_2.length co42) y225 := (by rw [hw, Ny225.out]; exact HP46.1); clear HP46; replace HO_9 := ka (hp_); replace HB := ka ((by rw [hw]; exact below_set (HB.out) GB42.out : Below w.heap.size w w47)); clear hg hw hp_; have hlx48 := ka (Kd.R_reads' HO_9.out).1; have hlx_ := hlx48.out; have q48 : ((ji43) : Int) ≤ ((x9_2.length : Int) : Int) := zD; obtain ⟨i048, hi048, _, hsz48, _⟩ := info_parts info9; have hcut48 := cut_to (P := Tryd.prog) 85 9 .i64 Tryd.underlying85 hi048 (some ⟨go42, 0, none⟩) x9_2.length co42 (ji43) zD q48 (Kd.R_reads' HO_9.out).2.1; have hr48 := Kd.R_take (m := ((ji43) : Int).toNat) HO_9.out (by omega); have hy48 : y226.length = ((ji43) : Int).toNat := (by rw [Ny226.out, List.length_take]; omega); rw [← Ny226.out] at hr48; rw [← hy48] at hr48 hcut48; clear hy48 hi048 hsz48 HO_9; have HO228 := ka hr48; clear hr48; replace q48 := eq_true q48; clear hlx_))
     go_ret
     exact ⟨_, by first | rfl | (simp [errW_none, errW_some] <;> rfl) | (simp only [← hji12, ← hji43]; first | rfl | (simp [errW_none, errW_some] <;> rfl)) | (simp [*, errW_none, errW_some] <;> rfl), by (with_reducible repeat (first | apply Kd.R_alloc | apply Kd.R_drewN | apply Kd.R_drew)); exact HO228.out, zL HB.out⟩

/-! ### strings_Split: function 48 -/
def strings_Split.f (k : Nat) (a0 : ByteArray) (a1 : ByteArray) : Option (List ByteArray) := (strings_genSplit.f k a0 a1 0 (-1)).bind fun t229 => (some t229)
theorem strings_Split.mono : ∀ a0 a1 k, LeO (strings_Split.f k a0 a1) (strings_Split.f (k + 1) a0 a1) := by
 intro a0 a1 k
 unfold strings_Split.f
 have m0 := @strings_genSplit.mono
 exact zLe
theorem strings_Split.calls (k : Nat) (a0 : ByteArray) (a1 : ByteArray) (r : List ByteArray) (w : World) (h : strings_Split.f k a0 a1 = some r) :
  Calls Tryd.prog 48 #[.string a0, .string a1] w fun e w' => ∃ v0_ : Value, e = .returned (v0_) ∧ Kd.R Kd.string 9 w' w.heap.size (fun _ => True) v0_ r ∧ Below w.heap.size w w' := by
 have HB := ka (Below.refl w.heap.size w)
 have H : ((strings_genSplit.f k a0 a1 0 (-1)).bind fun t229 => (some t229)) = some r := h
 clear h
 replace H := Option.bind_eq_some_iff.mp H
 obtain ⟨t229, A30, H⟩ := H
 try dsimp only at H
 have A3 := ka A30
 clear A30
 obtain rfl := Option.some.inj H
 go_enter Tryd.func48, Tryd.ntmps48
 go_wp2_with (first | ((with_reducible refine gate_callee (f := 52) rfl ?_); refine goesL_ (some 7) rfl rfl Tryd.func52 (by kernel_rfl) rfl #[.string a0, .string a1, .int .i64 0, .int .i64 (-1)] rfl zA ?_; (with_reducible refine (strings_genSplit.calls k a0 a1 0 (-1) t229 _ A3.out).mono ?_); rintro e w4 ⟨v230, rfl, ho0, hb⟩; refine ⟨_, rfl, ?_⟩; have HO231 := ka (Kd.R_lower ho0 (below_size (zL HB.out))); replace HB := ka (below_step (zL HB.out) hb); (try clear hb); (try clear hb2); (try clear hk); (try clear hi); (try clear ho0)))
 go_ret
 exact ⟨_, zE, by (with_reducible repeat (first | apply Kd.R_alloc | apply Kd.R_drewN | apply Kd.R_drew)); exact HO231.out, zL HB.out⟩

end Go.Proofs.YtjdadmjomjhpcaaDoor.PLease
