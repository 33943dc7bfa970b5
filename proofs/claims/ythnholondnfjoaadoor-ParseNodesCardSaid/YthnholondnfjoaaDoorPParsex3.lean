-- Written by a program of this session (wip/tools/ext.py, over the kit's printer); not trusted: Lean checks it.
import Derived.Test.YthnholondnfjoaaDoorPParsex0
import Derived.Test.YthnholondnfjoaaDoorPParsex2
namespace Go.Proofs.YthnholondnfjoaaDoor.PParse
open Go.RowKit Go.Proofs.YthnholondnfjoaaDoorW.PrintWords Go.Proofs.YthnholondnfjoaaDoorW.PrintLast Go.Proofs.YthnholondnfjoaaDoorW.PrintMore
attribute [local go_sem] max2_int min2_int max_two min_two max_three min_three max_four min_four
set_option linter.unusedVariables false
set_option linter.unusedSimpArgs false
set_option maxHeartbeats 8000000
set_option maxRecDepth 100000

/-! ### parse_Cut: function 17 -/
mutual
def parse_Cut.l0 : Nat → ByteArray → List ByteArray → List Int → Int → Option (ByteArray × ByteArray × ByteArray)
 | 0, _, _, _, _ => none
 | k + 1, x0, x1, x7, x8 => if x8 < (x0.size : Int) then (if 0 ≤ x8 then (if x8 ≤ (x0.size : Int) then ((parse_stack_step.f x7 (x0.extract (x8 : Int).toNat x0.size)).bind fun bt116 => (if bt116.2.2 = true then (parse_Cut.l1 k x0 x1 x8 (x0.extract (x8 : Int).toNat x0.size) bt116.1 bt116.2.1 x1 (x1.length : Int) 0) else (parse_Cut.l0 k x0 x1 bt116.1 (wrap64 (x8 + bt116.2.1))))) else (none)) else (none)) else (some (x0, (⟨#[]⟩ : ByteArray), (⟨#[]⟩ : ByteArray)))
def parse_Cut.l1 : Nat → ByteArray → List ByteArray → Int → ByteArray → List Int → Int → List ByteArray → Int → Int → Option (ByteArray × ByteArray × ByteArray)
 | 0, _, _, _, _, _, _, _, _, _ => none
 | k + 1, x0, x1, x8, x9, x10, x11, x30, x31, x32 => if x32 < x31 then (if 0 ≤ x32 then (if x32 < (x30.length : Int) then (if (rdOf ByteArray.empty x30 x32).toList = ([] : List UInt8) then (parse_Cut.l1 k x0 x1 x8 x9 x10 x11 x30 x31 (wrap64 (x32 + 1))) else ((strings_HasPrefix.f x9 (rdOf ByteArray.empty x30 x32)).bind fun t122 => (if t122 = true then (if 0 ≤ x8 then (if x8 ≤ (x0.size : Int) then (if 0 ≤ ((rdOf ByteArray.empty x30 x32).size : Int) then (if ((rdOf ByteArray.empty x30 x32).size : Int) ≤ (x9.size : Int) then (some (x0.extract 0 (x8 : Int).toNat, rdOf ByteArray.empty x30 x32, x9.extract (((rdOf ByteArray.empty x30 x32).size : Int) : Int).toNat x9.size)) else (none)) else (none)) else (none)) else (none)) else (parse_Cut.l1 k x0 x1 x8 x9 x10 x11 x30 x31 (wrap64 (x32 + 1)))))) else (none)) else (none)) else (parse_Cut.l0 k x0 x1 x10 (wrap64 (x8 + x11)))
end
def parse_Cut.f (k : Nat) (a0 : ByteArray) (l1 : List ByteArray) : Option (ByteArray × ByteArray × ByteArray) := parse_Cut.l0 k a0 l1 ([] : List Int) 0
theorem parse_Cut.mono_l : ∀ k, (∀ y0 y1 y2 y3, LeO (parse_Cut.l0 k y0 y1 y2 y3) (parse_Cut.l0 (k + 1) y0 y1 y2 y3)) ∧ (∀ y0 y1 y2 y3 y4 y5 y6 y7 y8, LeO (parse_Cut.l1 k y0 y1 y2 y3 y4 y5 y6 y7 y8) (parse_Cut.l1 (k + 1) y0 y1 y2 y3 y4 y5 y6 y7 y8))
 | 0 => ⟨fun _ _ _ _ r h => by simp [parse_Cut.l0] at h, fun _ _ _ _ _ _ _ _ _ r h => by simp [parse_Cut.l1] at h⟩
 | k + 1 => by
  obtain ⟨ih0, ih1⟩ := parse_Cut.mono_l k
  refine ⟨?_, ?_⟩
  ·intros
   unfold parse_Cut.l0
   exact zLe
  ·intros
   unfold parse_Cut.l1
   exact zLe
theorem parse_Cut.mono : ∀ a0 a1 k, LeO (parse_Cut.f k a0 a1) (parse_Cut.f (k + 1) a0 a1) := by
 intro a0 a1 k
 obtain ⟨ih0, ih1⟩ := parse_Cut.mono_l k
 unfold parse_Cut.f
 exact zLe
theorem parse_Cut.calls (k : Nat) (a0 : ByteArray) (A1 : Option Addr) (c1 : Nat) (l1 : List ByteArray) (r1 : ByteArray) (r2 : ByteArray) (r3 : ByteArray) (w : World) (hr1 : Kd.C Kd.string w A1 l1.length l1) (hc1 : l1.length ≤ c1) (h : parse_Cut.f k a0 l1 = some (r1, r2, r3)) :
  Calls Tryd.prog 17 #[.string a0, .slice A1 l1.length c1] w fun e w' => e = .returned (.tuple #[.string r1, .string r2, .string r3]) ∧ Below w.heap.size w w' := by
 have HR1 := ka hr1
 have HC1 := ka hc1
 clear hr1 hc1
 have HB := ka (Below.refl w.heap.size w)
 have H : (parse_Cut.l0 k a0 l1 ([] : List Int) 0) = some (r1, r2, r3) := h
 clear h
 have H' := ka H
 clear H
 go_enter Tryd.func17, Tryd.ntmps17
 go_wp2
 repeat (go_quiet (fail); try go_wp2)
 go_loopg [7, 8] k (fun kq v7 v8 w' => ∃ (x7_1 : List Int) (x8_1 : Int), v8 = .int .i64 x8_1 ∧ Aside0 (parse_Cut.l0 kq a0 l1 x7_1 x8_1 = some (r1, r2, r3)) ∧ Aside0 (kq ≤ k) ∧ Aside0 (Kd.V (Kd.int .u8) 5 w' w.heap.size (fun _ => True) v7 x7_1) ∧ Aside0 (Below w.heap.size w w'))
 case atStart => exact ⟨(([] : List Int)), (0), zS, H', ⟨Nat.le_refl _⟩, ⟨Kd.V_nil _ _ _ _ _⟩, ⟨zL HB.out⟩⟩
 case round =>
  clear H'
  obtain ⟨x7_1, x8_1, rfl, HA, HK1, HO_7, HB⟩ := hrel
  cases gk with
  | zero => exact absurd HA.out (by simp [parse_Cut.l0])
  | succ k1 =>
   have H := HA.out
   clear HA
   simp only [parse_Cut.l0] at H
   by_cases c3 : x8_1 < (a0.size : Int)
   ·rw [if_pos c3] at H
    have c3b0 := zdt c3
    clear c3
    replace H := zif H
    obtain ⟨c4, H⟩ := H
    have c4b0 := eq_true c4
    have c4b1 := zdt c4
    clear c4
    replace H := zif H
    obtain ⟨c5, H⟩ := H
    have c5b0 := eq_true c5
    have c5b1 := zdt c5
    clear c5
    replace H := Option.bind_eq_some_iff.mp H
    obtain ⟨⟨t116, t119, t120⟩, A60, H⟩ := H
    try dsimp only at H
    have A6 := ka A60
    clear A60
    by_cases c7 : t120 = true
    ·subst c7
     rw [if_pos rfl] at H
     have H' := ka H
     clear H
     obtain ⟨Ao8, co8, eo8⟩ := Kd.V_slice HO_7.out
     subst eo8
     have F_ := trivial
     repeat ((first | clear F_ | go_quiet (first | (go_at_call 27; (with_reducible refine (parse_stack_step.calls (fun k_ => True) _ _ x7_1 (a0.extract (x8_1 : Int).toNat a0.size) t116 t119 true _ ?side1 A6.out).mono ?_); (case side1 => exact HO_7.out); rintro e w9 ⟨v117, rfl, ho0, hb⟩; replace HO_7 := ka (Kd.V_below (zV HO_7.out) hb); have HO118 := ka (Kd.V_lower (Kd.V_mono (ok' := fun k_ => True) ho0 (fun k_ hk_ => trivial)) (below_size (zL HB.out))); replace HB := ka (below_step (zL HB.out) hb); (try clear hb); (try clear hb2); (try clear hk); (try clear hi); (try clear ho0)))); try go_wp2_with (first | (go_at_call 27; (with_reducible refine (parse_stack_step.calls (fun k_ => True) _ _ x7_1 (a0.extract (x8_1 : Int).toNat a0.size) t116 t119 true _ ?side1 A6.out).mono ?_); (case side1 => exact HO_7.out); rintro e w9 ⟨v117, rfl, ho0, hb⟩; replace HO_7 := ka (Kd.V_below (zV HO_7.out) hb); have HO118 := ka (Kd.V_lower (Kd.V_mono (ok' := fun k_ => True) ho0 (fun k_ hk_ => trivial)) (below_size (zL HB.out))); replace HB := ka (below_step (zL HB.out) hb); (try clear hb); (try clear hb2); (try clear hk); (try clear hi); (try clear ho0))))
     go_loopg [32] k1 (fun kq v32 w' => ∃ (x32_2 : Int), v32 = .int .i64 x32_2 ∧ Aside0 (parse_Cut.l1 kq a0 l1 x8_1 (a0.extract (x8_1 : Int).toNat a0.size) t116 t119 l1 (l1.length : Int) x32_2 = some (r1, r2, r3)) ∧ Aside0 (kq ≤ k1) ∧ Aside0 (Kd.V (Kd.int .u8) 5 w' w.heap.size (fun _ => True) v117 t116) ∧ Aside0 (Below w.heap.size w w'))
     case atStart => exact ⟨(0), zS, H', ⟨Nat.le_refl _⟩, ⟨zV HO118.out⟩, ⟨zL HB.out⟩⟩
     case round =>
      clear H'
      try clear c3
      try clear c3b0
      try clear c4
      try clear c4b0
      try clear c4b1
      try clear c5
      try clear c5b0
      try clear c5b1
      try clear c7
      obtain ⟨x32_2, rfl, HA, HK2, HO_10, HB⟩ := hrel
      cases gk with
      | zero => exact absurd HA.out (by simp [parse_Cut.l1])
      | succ k2 =>
       have H := HA.out
       clear HA
       simp only [parse_Cut.l1] at H
       by_cases c10 : x32_2 < (l1.length : Int)
       ·rw [if_pos c10] at H
        have c10b0 := zdt c10
        clear c10
        replace H := zif H
        obtain ⟨c11, H⟩ := H
        have c11b0 := zdt c11
        clear c11
        replace H := zif H
        obtain ⟨c12, H⟩ := H
        have c12b0 := zdt c12
        clear c12
        by_cases c13 : (rdOf ByteArray.empty l1 x32_2).toList = ([] : List UInt8)
        ·rw [if_pos c13] at H
         have c13b0 := zb0 c13
         have c13b1 := zb1 c13
         clear c13
         have H' := ka H
         clear H
         have p121 : 0 ≤ (x32_2 : Int) := zD
         have q121 : x32_2 < (l1.length : Int) := zD
         obtain ⟨ad121, e121, hx121_0⟩ := Kd.at_string HR1.out x32_2 p121 q121
         cases e121
         replace hx121_0 := zX HB.out hx121_0
         replace p121 := eq_true p121
         replace q121 := eq_true q121
         go_wp2
         repeat (go_quiet (fail); try go_wp2)
         go_roundg k2
         case measure => have := HK1.out; have := HK2.out; omega
         case rel => exact ⟨(wrap64 (x32_2 + 1)), zS, H', ⟨by have := HK1.out; have := HK2.out; omega⟩, ⟨zV HO_10.out⟩, ⟨zL HB.out⟩⟩
        rw [if_neg c13] at H
        have c13b0 := zn0 c13
        have c13b1 := zn1 c13
        replace H := Option.bind_eq_some_iff.mp H
        obtain ⟨t122, A140, H⟩ := H
        try dsimp only at H
        have A14 := ka A140
        clear A140
        by_cases c15 : t122 = true
        ·subst c15
         rw [if_pos rfl] at H
         replace H := zif H
         obtain ⟨c16, H⟩ := H
         have c16b0 := eq_true c16
         have c16b1 := zdt c16
         clear c16
         replace H := zif H
         obtain ⟨c17, H⟩ := H
         have c17b0 := eq_true c17
         have c17b1 := zdt c17
         clear c17
         replace H := zif H
         obtain ⟨c18, H⟩ := H
         have c18b0 := eq_true c18
         have c18b1 := zdt c18
         clear c18
         replace H := zif H
         obtain ⟨c19, H⟩ := H
         have c19b0 := eq_true c19
         try (have c19b0e := c19b0; simp only [ByteArray.size_extract, Nat.min_self] at c19b0e)
         have c19b1 := zdt c19
         try (have c19b1e := c19b1; simp only [ByteArray.size_extract, Nat.min_self] at c19b1e)
         clear c19
         replace H := zs3 H
         obtain ⟨rfl, rfl, rfl⟩ := H
         have p121 : 0 ≤ (x32_2 : Int) := zD
         have q121 : x32_2 < (l1.length : Int) := zD
         obtain ⟨ad121, e121, hx121_0⟩ := Kd.at_string HR1.out x32_2 p121 q121
         cases e121
         replace hx121_0 := zX HB.out hx121_0
         replace p121 := eq_true p121
         replace q121 := eq_true q121
         have F_ := trivial
         repeat ((first | clear F_ | go_quiet (first | (go_at_call 28; (with_reducible refine (strings_HasPrefix.calls (a0.extract (x8_1 : Int).toNat a0.size) (rdOf ByteArray.empty l1 x32_2) true _ A14.out).mono ?_); rintro e w' ⟨rfl, ⟨nd, rfl⟩⟩; (try exact zDr)))); try go_wp2_with (first | (go_at_call 28; (with_reducible refine (strings_HasPrefix.calls (a0.extract (x8_1 : Int).toNat a0.size) (rdOf ByteArray.empty l1 x32_2) true _ A14.out).mono ?_); rintro e w' ⟨rfl, ⟨nd, rfl⟩⟩; (try exact zDr))))
         go_ret3
         exact ⟨zE, zL HB.out⟩
        replace c15 := Bool.eq_false_iff.mpr c15
        subst c15
        rw [if_neg (show ¬ (false = true) by decide)] at H
        have H' := ka H
        clear H
        have p121 : 0 ≤ (x32_2 : Int) := zD
        have q121 : x32_2 < (l1.length : Int) := zD
        obtain ⟨ad121, e121, hx121_0⟩ := Kd.at_string HR1.out x32_2 p121 q121
        cases e121
        replace hx121_0 := zX HB.out hx121_0
        replace p121 := eq_true p121
        replace q121 := eq_true q121
        have F_ := trivial
        repeat ((first | clear F_ | go_quiet (first | (go_at_call 28; (with_reducible refine (strings_HasPrefix.calls (a0.extract (x8_1 : Int).toNat a0.size) (rdOf ByteArray.empty l1 x32_2) false _ A14.out).mono ?_); rintro e w' ⟨rfl, ⟨nd, rfl⟩⟩; (try exact zDr)))); try go_wp2_with (first | (go_at_call 28; (with_reducible refine (strings_HasPrefix.calls (a0.extract (x8_1 : Int).toNat a0.size) (rdOf ByteArray.empty l1 x32_2) false _ A14.out).mono ?_); rintro e w' ⟨rfl, ⟨nd, rfl⟩⟩; (try exact zDr))))
        go_roundg k2
        case measure => have := HK1.out; have := HK2.out; omega
        case rel => exact ⟨(wrap64 (x32_2 + 1)), zS, H', ⟨by have := HK1.out; have := HK2.out; omega⟩, ⟨zV HO_10.out⟩, ⟨zL HB.out⟩⟩
       rw [if_neg c10] at H
       have c10b0 := zdf c10
       clear c10
       have H' := ka H
       clear H
       go_wp2
       repeat (go_quiet (fail); try go_wp2)
       go_roundg k2
       case measure => have := HK1.out; have := HK2.out; omega
       case rel => exact ⟨(t116), (wrap64 (x8_1 + t119)), zS, H', ⟨by have := HK1.out; have := HK2.out; omega⟩, ⟨zV HO_10.out⟩, ⟨zL HB.out⟩⟩
    replace c7 := Bool.eq_false_iff.mpr c7
    subst c7
    rw [if_neg (show ¬ (false = true) by decide)] at H
    have H' := ka H
    clear H
    obtain ⟨Ao20, co20, eo20⟩ := Kd.V_slice HO_7.out
    subst eo20
    have F_ := trivial
    repeat ((first | clear F_ | go_quiet (first | (go_at_call 27; (with_reducible refine (parse_stack_step.calls (fun k_ => True) _ _ x7_1 (a0.extract (x8_1 : Int).toNat a0.size) t116 t119 false _ ?side1 A6.out).mono ?_); (case side1 => exact HO_7.out); rintro e w21 ⟨v117, rfl, ho0, hb⟩; replace HO_7 := ka (Kd.V_below (zV HO_7.out) hb); have HO118 := ka (Kd.V_lower (Kd.V_mono (ok' := fun k_ => True) ho0 (fun k_ hk_ => trivial)) (below_size (zL HB.out))); replace HB := ka (below_step (zL HB.out) hb); (try clear hb); (try clear hb2); (try clear hk); (try clear hi); (try clear ho0)))); try go_wp2_with (first | (go_at_call 27; (with_reducible refine (parse_stack_step.calls (fun k_ => True) _ _ x7_1 (a0.extract (x8_1 : Int).toNat a0.size) t116 t119 false _ ?side1 A6.out).mono ?_); (case side1 => exact HO_7.out); rintro e w21 ⟨v117, rfl, ho0, hb⟩; replace HO_7 := ka (Kd.V_below (zV HO_7.out) hb); have HO118 := ka (Kd.V_lower (Kd.V_mono (ok' := fun k_ => True) ho0 (fun k_ hk_ => trivial)) (below_size (zL HB.out))); replace HB := ka (below_step (zL HB.out) hb); (try clear hb); (try clear hb2); (try clear hk); (try clear hi); (try clear ho0))))
    go_roundg k1
    case measure => have := HK1.out; omega
    case rel => exact ⟨(t116), (wrap64 (x8_1 + t119)), zS, H', ⟨by have := HK1.out; omega⟩, ⟨zV HO118.out⟩, ⟨zL HB.out⟩⟩
   rw [if_neg c3] at H
   have c3b0 := zdf c3
   clear c3
   replace H := zs3 H
   obtain ⟨rfl, rfl, rfl⟩ := H
   go_wp2
   repeat (go_quiet (fail); try go_wp2)
   go_ret3
   exact ⟨zE, zL HB.out⟩

/-! ### strings_Trim: function 46 -/
/-- strings.Trim at a short cutset of ASCII bytes. -/
def strings_Trim.f (a0 : ByteArray) (a1 : ByteArray) : Option (ByteArray) := if a0.size ≤ 9223372036854775807 ∧ a1.size < 100 ∧ a1.data.toList.all (fun b => decide (b.toNat < 128)) = true then some ⟨(Lib.trimS a0.data.toList a1.data.toList).toArray⟩ else none
def lays160_ren : Go.Shelf.Ren := ⟨fun | 160 => 46 | 232 => 57 | 231 => 53 | 227 => 54 | 234 => 58 | 233 => 55 | 236 => 59 | 235 => 56 | 228 => 70 | 271 => 73 | 151 => 72 | 197 => 71 | 120 => 80 | 152 => 75 | 260 => 79 | 137 => 85 | 119 => 86 | 224 => 83 | 225 => 82 | 217 => 81 | 266 => 88 | n => n, fun | 9 => 9 | 4 => 4 | 3 => 3 | 5 => 5 | 117 => 87 | 116 => 86 | 0 => 0 | 124 => 90 | 21 => 21 | 105 => 94 | 46 => 101 | 119 => 103 | 139 => 106 | 138 => 105 | n => n, fun | 3 => 1 | 4 => 2 | n => n⟩
theorem lays160 : Lays.n160 Tryd.prog lays160_ren := {
  mixed := by kernel_rfl,
  f119 := Tryd.func86.trans (congrArg some (by kernel_rfl)),
  f120 := Tryd.func80.trans (congrArg some (by kernel_rfl)),
  f137 := Tryd.func85.trans (congrArg some (by kernel_rfl)),
  f151 := Tryd.func72.trans (congrArg some (by kernel_rfl)),
  f152 := Tryd.func75.trans (congrArg some (by kernel_rfl)),
  f160 := Tryd.func46.trans (congrArg some (by kernel_rfl)),
  f197 := Tryd.func71.trans (congrArg some (by kernel_rfl)),
  f217 := Tryd.func81.trans (congrArg some (by kernel_rfl)),
  f224 := Tryd.func83.trans (congrArg some (by kernel_rfl)),
  f225 := Tryd.func82.trans (congrArg some (by kernel_rfl)),
  f227 := Tryd.func54.trans (congrArg some (by kernel_rfl)),
  f228 := Tryd.func70.trans (congrArg some (by kernel_rfl)),
  f231 := Tryd.func53.trans (congrArg some (by kernel_rfl)),
  f232 := Tryd.func57.trans (congrArg some (by kernel_rfl)),
  f233 := Tryd.func55.trans (congrArg some (by kernel_rfl)),
  f234 := Tryd.func58.trans (congrArg some (by kernel_rfl)),
  f235 := Tryd.func56.trans (congrArg some (by kernel_rfl)),
  f236 := Tryd.func59.trans (congrArg some (by kernel_rfl)),
  f260 := Tryd.func79.trans (congrArg some (by kernel_rfl)),
  f266 := Tryd.func88.trans (congrArg some (by kernel_rfl)),
  f271 := Tryd.func73.trans (congrArg some (by kernel_rfl)),
  t0 := Tryd.underlying0,
  a0 := Tryd.isAgg0,
  z0 := Tryd.sizeOf0,
  v0 := Tryd.zeroValue0,
  t3 := Tryd.underlying3,
  a3 := Tryd.isAgg3,
  z3 := Tryd.sizeOf3,
  v3 := Tryd.zeroValue3,
  t4 := Tryd.underlying4,
  a4 := Tryd.isAgg4,
  z4 := Tryd.sizeOf4,
  v4 := Tryd.zeroValue4,
  t5 := Tryd.underlying5,
  a5 := Tryd.isAgg5,
  z5 := Tryd.sizeOf5,
  v5 := Tryd.zeroValue5,
  t9 := Tryd.underlying9,
  a9 := Tryd.isAgg9,
  z9 := Tryd.sizeOf9,
  v9 := Tryd.zeroValue9,
  t21 := Tryd.underlying21,
  a21 := Tryd.isAgg21,
  z21 := Tryd.sizeOf21,
  v21 := Tryd.zeroValue21,
  t46 := Tryd.underlying101,
  a46 := Tryd.isAgg101,
  z46 := Tryd.sizeOf101,
  v46 := Tryd.zeroValue101,
  t105 := Tryd.underlying94,
  a105 := Tryd.isAgg94,
  z105 := Tryd.sizeOf94,
  v105 := Tryd.zeroValue94,
  t116 := Tryd.underlying86,
  a116 := Tryd.isAgg86,
  z116 := Tryd.sizeOf86,
  t117 := Tryd.underlying87,
  a117 := Tryd.isAgg87,
  z117 := Tryd.sizeOf87,
  v117 := Tryd.zeroValue87,
  t119 := Tryd.underlying103,
  a119 := Tryd.isAgg103,
  z119 := Tryd.sizeOf103,
  t124 := Tryd.underlying90,
  a124 := Tryd.isAgg90,
  z124 := Tryd.sizeOf90,
  v124 := Tryd.zeroValue90,
  t138 := Tryd.underlying105,
  a138 := Tryd.isAgg105,
  z138 := Tryd.sizeOf105,
  v138 := Tryd.zeroValue105,
  t139 := Tryd.underlying106,
  a139 := Tryd.isAgg106,
  z139 := Tryd.sizeOf106,
  v139 := Tryd.zeroValue106,
  g3 := by kernel_rfl,
  g4 := by kernel_rfl }
set_option maxHeartbeats 1000000 in
theorem strings_Trim.calls (a0 : ByteArray) (a1 : ByteArray) (r : ByteArray) (w : World) (h : strings_Trim.f a0 a1 = some r) :
    Calls Tryd.prog 46 #[.string a0, .string a1] w fun e w' => e = .returned (.string r) ∧ Below w.heap.size w w' := by
  unfold strings_Trim.f at h
  by_cases c : a0.size ≤ 9223372036854775807 ∧ a1.size < 100 ∧ a1.data.toList.all (fun b => decide (b.toNat < 128)) = true
  · rw [if_pos c] at h
    obtain rfl := Option.some.inj h
    have hcon := Any.strings_Trim_laid lays160 (by kernel_rfl) a0 a1 w c.1 (by omega) (ascii_of_all c.2.2)
    exact hcon
  · rw [if_neg c] at h
    exact absurd h (by simp)



/-! ### text_Trim: function 24 -/
def text_Trim.f (a0 : ByteArray) : Option (ByteArray) := (strings_Trim.f a0 (⟨#[32, 9]⟩ : ByteArray)).bind fun t123 => (some t123)
theorem text_Trim.calls (a0 : ByteArray) (r : ByteArray) (w : World) (h : text_Trim.f a0 = some r) :
  Calls Tryd.prog 24 #[.string a0] w fun e w' => e = .returned (.string r) ∧ Below w.heap.size w w' := by
 have HB := ka (Below.refl w.heap.size w)
 have H : ((strings_Trim.f a0 (⟨#[32, 9]⟩ : ByteArray)).bind fun t123 => (some t123)) = some r := h
 clear h
 replace H := Option.bind_eq_some_iff.mp H
 obtain ⟨t123, A20, H⟩ := H
 try dsimp only at H
 have A2 := ka A20
 clear A20
 obtain rfl := Option.some.inj H
 go_enter Tryd.func24, Tryd.ntmps24
 go_wp2_with (first | ((with_reducible refine gate_callee (f := 46) rfl ?_); refine goesL_ (some 4) rfl rfl Tryd.func46 (by kernel_rfl) rfl #[.string a0, .string ⟨#[32, 9]⟩] rfl zA ?_; (with_reducible refine (strings_Trim.calls a0 (⟨#[32, 9]⟩ : ByteArray) t123 _ A2.out).mono ?_); rintro e w3 ⟨rfl, hb⟩; refine ⟨_, rfl, ?_⟩; replace HB := ka (below_step (zL HB.out) hb); (try clear hb); (try clear hb2); (try clear hk); (try clear hi)))
 go_ret
 exact ⟨zE, zL HB.out⟩

/-! ### stringslite_TrimPrefix: function 64 -/
def stringslite_TrimPrefix.f (a0 : ByteArray) (a1 : ByteArray) : Option (ByteArray) := (stringslite_HasPrefix.f a0 a1).bind fun t124 => (if t124 = true then (if 0 ≤ (a1.size : Int) then (if (a1.size : Int) ≤ (a0.size : Int) then (some (a0.extract ((a1.size : Int) : Int).toNat a0.size)) else (none)) else (none)) else (some a0))
theorem stringslite_TrimPrefix.calls (a0 : ByteArray) (a1 : ByteArray) (r : ByteArray) (w : World) (h : stringslite_TrimPrefix.f a0 a1 = some r) :
  Calls Tryd.prog 64 #[.string a0, .string a1] w fun e w' => e = .returned (.string r) ∧ Drawn0 w w' := by
 have H : ((stringslite_HasPrefix.f a0 a1).bind fun t124 => (if t124 = true then (if 0 ≤ (a1.size : Int) then (if (a1.size : Int) ≤ (a0.size : Int) then (some (a0.extract ((a1.size : Int) : Int).toNat a0.size)) else (none)) else (none)) else (some a0))) = some r := h
 clear h
 replace H := Option.bind_eq_some_iff.mp H
 obtain ⟨t124, A30, H⟩ := H
 try dsimp only at H
 have A3 := ka A30
 clear A30
 by_cases c4 : t124 = true
 ·subst c4
  rw [if_pos rfl] at H
  replace H := zif H
  obtain ⟨c5, H⟩ := H
  have c5b0 := eq_true c5
  have c5b1 := zdt c5
  clear c5
  replace H := zif H
  obtain ⟨c6, H⟩ := H
  have c6b0 := eq_true c6
  have c6b1 := zdt c6
  clear c6
  obtain rfl := Option.some.inj H
  go_enter Tryd.func64, Tryd.ntmps64
  go_wp2_with (first | ((with_reducible refine gate_callee (f := 51) rfl ?_); refine goesL_ (some 7) rfl rfl Tryd.func51 (by kernel_rfl) rfl #[.string a0, .string a1] rfl zA ?_; (with_reducible refine (stringslite_HasPrefix.calls a0 a1 true _ A3.out).mono ?_); rintro e w' ⟨rfl, ⟨nd, rfl⟩⟩; refine ⟨_, rfl, ?_⟩))
  go_ret
  exact ⟨by first | rfl | (simp; done) | (simp [*]; done), zd0⟩
 replace c4 := Bool.eq_false_iff.mpr c4
 subst c4
 rw [if_neg (show ¬ (false = true) by decide)] at H
 obtain rfl := Option.some.inj H
 go_enter Tryd.func64, Tryd.ntmps64
 go_wp2_with (first | ((with_reducible refine gate_callee (f := 51) rfl ?_); refine goesL_ (some 7) rfl rfl Tryd.func51 (by kernel_rfl) rfl #[.string a0, .string a1] rfl zA ?_; (with_reducible refine (stringslite_HasPrefix.calls a0 a1 false _ A3.out).mono ?_); rintro e w' ⟨rfl, ⟨nd, rfl⟩⟩; refine ⟨_, rfl, ?_⟩))
 go_ret
 exact ⟨by first | rfl | (simp; done) | (simp [*]; done), zd0⟩

/-! ### strings_TrimPrefix: function 43 -/
def strings_TrimPrefix.f (a0 : ByteArray) (a1 : ByteArray) : Option (ByteArray) := (stringslite_TrimPrefix.f a0 a1).bind fun t125 => (some t125)
theorem strings_TrimPrefix.calls (a0 : ByteArray) (a1 : ByteArray) (r : ByteArray) (w : World) (h : strings_TrimPrefix.f a0 a1 = some r) :
  Calls Tryd.prog 43 #[.string a0, .string a1] w fun e w' => e = .returned (.string r) ∧ Drawn0 w w' := by
 have H : ((stringslite_TrimPrefix.f a0 a1).bind fun t125 => (some t125)) = some r := h
 clear h
 replace H := Option.bind_eq_some_iff.mp H
 obtain ⟨t125, A30, H⟩ := H
 try dsimp only at H
 have A3 := ka A30
 clear A30
 obtain rfl := Option.some.inj H
 go_enter Tryd.func43, Tryd.ntmps43
 go_wp2_with (first | ((with_reducible refine gate_callee (f := 64) rfl ?_); refine goesL_ (some 7) rfl rfl Tryd.func64 (by kernel_rfl) rfl #[.string a0, .string a1] rfl zA ?_; (with_reducible refine (stringslite_TrimPrefix.calls a0 a1 t125 _ A3.out).mono ?_); rintro e w' ⟨rfl, ⟨nd, rfl⟩⟩; refine ⟨_, rfl, ?_⟩))
 go_ret
 exact ⟨by first | rfl | (simp; done) | (simp [*]; done), zd0⟩

/-! ### stringslite_CutPrefix: function 77 -/
def stringslite_CutPrefix.f (a0 : ByteArray) (a1 : ByteArray) : Option (ByteArray × Bool) := (stringslite_HasPrefix.f a0 a1).bind fun t126 => (if t126 = true then (if 0 ≤ (a1.size : Int) then (if (a1.size : Int) ≤ (a0.size : Int) then (some (a0.extract ((a1.size : Int) : Int).toNat a0.size, true)) else (none)) else (none)) else (some (a0, false)))
theorem stringslite_CutPrefix.calls (a0 : ByteArray) (a1 : ByteArray) (r1 : ByteArray) (r2 : Bool) (w : World) (h : stringslite_CutPrefix.f a0 a1 = some (r1, r2)) :
  Calls Tryd.prog 77 #[.string a0, .string a1] w fun e w' => e = .returned (.tuple #[.string r1, .bool r2]) ∧ Drawn0 w w' := by
 have H : ((stringslite_HasPrefix.f a0 a1).bind fun t126 => (if t126 = true then (if 0 ≤ (a1.size : Int) then (if (a1.size : Int) ≤ (a0.size : Int) then (some (a0.extract ((a1.size : Int) : Int).toNat a0.size, true)) else (none)) else (none)) else (some (a0, false)))) = some (r1, r2) := h
 clear h
 replace H := Option.bind_eq_some_iff.mp H
 obtain ⟨t126, A30, H⟩ := H
 try dsimp only at H
 have A3 := ka A30
 clear A30
 by_cases c4 : t126 = true
 ·subst c4
  rw [if_pos rfl] at H
  replace H := zif H
  obtain ⟨c5, H⟩ := H
  have c5b0 := eq_true c5
  have c5b1 := zdt c5
  clear c5
  replace H := zif H
  obtain ⟨c6, H⟩ := H
  have c6b0 := eq_true c6
  have c6b1 := zdt c6
  clear c6
  replace H := zs2 H
  obtain ⟨rfl, rfl⟩ := H
  go_enter Tryd.func77, Tryd.ntmps77
  go_wp2_with (first | ((with_reducible refine gate_callee (f := 51) rfl ?_); refine goesL_ (some 8) rfl rfl Tryd.func51 (by kernel_rfl) rfl #[.string a0, .string a1] rfl zA ?_; (with_reducible refine (stringslite_HasPrefix.calls a0 a1 true _ A3.out).mono ?_); rintro e w' ⟨rfl, ⟨nd, rfl⟩⟩; refine ⟨_, rfl, ?_⟩))
  go_ret2
  exact ⟨by first | rfl | (simp; done) | (simp [*]; done), zd0⟩
 replace c4 := Bool.eq_false_iff.mpr c4
 subst c4
 rw [if_neg (show ¬ (false = true) by decide)] at H
 replace H := zs2 H
 obtain ⟨rfl, rfl⟩ := H
 go_enter Tryd.func77, Tryd.ntmps77
 go_wp2_with (first | ((with_reducible refine gate_callee (f := 51) rfl ?_); refine goesL_ (some 8) rfl rfl Tryd.func51 (by kernel_rfl) rfl #[.string a0, .string a1] rfl zA ?_; (with_reducible refine (stringslite_HasPrefix.calls a0 a1 false _ A3.out).mono ?_); rintro e w' ⟨rfl, ⟨nd, rfl⟩⟩; refine ⟨_, rfl, ?_⟩))
 go_ret2
 exact ⟨by first | rfl | (simp; done) | (simp [*]; done), zd0⟩

/-! ### strings_CutPrefix: function 65 -/
def strings_CutPrefix.f (a0 : ByteArray) (a1 : ByteArray) : Option (ByteArray × Bool) := (stringslite_CutPrefix.f a0 a1).bind fun bt127 => (some (bt127.1, bt127.2))
theorem strings_CutPrefix.calls (a0 : ByteArray) (a1 : ByteArray) (r1 : ByteArray) (r2 : Bool) (w : World) (h : strings_CutPrefix.f a0 a1 = some (r1, r2)) :
  Calls Tryd.prog 65 #[.string a0, .string a1] w fun e w' => e = .returned (.tuple #[.string r1, .bool r2]) ∧ Drawn0 w w' := by
 have H : ((stringslite_CutPrefix.f a0 a1).bind fun bt127 => (some (bt127.1, bt127.2))) = some (r1, r2) := h
 clear h
 replace H := Option.bind_eq_some_iff.mp H
 obtain ⟨⟨t127, t128⟩, A30, H⟩ := H
 try dsimp only at H
 have A3 := ka A30
 clear A30
 replace H := zs2 H
 obtain ⟨rfl, rfl⟩ := H
 go_enter Tryd.func65, Tryd.ntmps65
 go_wp2_with (first | ((with_reducible refine gate_callee (f := 77) rfl ?_); refine goesL_ (some 8) rfl rfl Tryd.func77 (by kernel_rfl) rfl #[.string a0, .string a1] rfl zA ?_; (with_reducible refine (stringslite_CutPrefix.calls a0 a1 t127 t128 _ A3.out).mono ?_); rintro e w' ⟨rfl, ⟨nd, rfl⟩⟩; refine ⟨_, rfl, ?_⟩))
 go_ret2
 exact ⟨by first | rfl | (simp; done) | (simp [*]; done), zd0⟩

/-! ### stringslite_HasSuffix: function 87 -/
def stringslite_HasSuffix.f (a0 : ByteArray) (a1 : ByteArray) : Option (Bool) := if (a0.size : Int) ≥ (a1.size : Int) then (if 0 ≤ (wrap64 ((a0.size : Int) - (a1.size : Int))) then (if (wrap64 ((a0.size : Int) - (a1.size : Int))) ≤ (a0.size : Int) then (some ((a0.extract ((wrap64 ((a0.size : Int) - (a1.size : Int))) : Int).toNat a0.size).toList == a1.toList)) else (none)) else (none)) else (some false)
theorem stringslite_HasSuffix.calls (a0 : ByteArray) (a1 : ByteArray) (r : Bool) (w : World) (h : stringslite_HasSuffix.f a0 a1 = some r) :
  Calls Tryd.prog 87 #[.string a0, .string a1] w fun e w' => e = .returned (.bool r) ∧ Drawn0 w w' := by
 have H : (if (a0.size : Int) ≥ (a1.size : Int) then (if 0 ≤ (wrap64 ((a0.size : Int) - (a1.size : Int))) then (if (wrap64 ((a0.size : Int) - (a1.size : Int))) ≤ (a0.size : Int) then (some ((a0.extract ((wrap64 ((a0.size : Int) - (a1.size : Int))) : Int).toNat a0.size).toList == a1.toList)) else (none)) else (none)) else (some false)) = some r := h
 clear h
 by_cases c3 : (a0.size : Int) ≥ (a1.size : Int)
 ·rw [if_pos c3] at H
  have c3b0 : decide ((a1.size : Int) ≤ (a0.size : Int)) = true := zdt c3
  have c3b1 : decide (a1.size ≤ a0.size) = true := decide_eq_true (Int.ofNat_le.mp c3)
  clear c3
  obtain ⟨ji4, hji4⟩ : ∃ j_ : Int, (wrap64 ((a0.size : Int) - (a1.size : Int))) = j_ := ⟨_, rfl⟩
  replace H : (if 0 ≤ (ji4) then (if (ji4) ≤ (a0.size : Int) then (some ((a0.extract ((ji4) : Int).toNat a0.size).toList == a1.toList)) else (none)) else (none)) = some r := by first | (rw [hji4] at H; exact H) | (simp only [hji4] at H ⊢; exact H)
  have hji4w : (IntKind.i64.wrap ((a0.size : Int) - (a1.size : Int))) = ji4 := (i64_w _).trans hji4
  replace H := zif H
  obtain ⟨c5, H⟩ := H
  have c5b0 := eq_true c5
  have c5b1 := zdt c5
  clear c5
  replace H := zif H
  obtain ⟨c6, H⟩ := H
  have c6b0 := eq_true c6
  have c6b1 := zdt c6
  clear c6
  obtain rfl := Option.some.inj H
  go_enter Tryd.func87, Tryd.ntmps87
  go_wp2
  go_ret
  exact ⟨by first | rfl | (simp; done) | (simp only [← hji4] <;> (first | rfl | simp)) | (simp [*]; done), zd0⟩
 rw [if_neg c3] at H
 have c3b0 : decide ((a1.size : Int) ≤ (a0.size : Int)) = false := zdf c3
 have c3b1 : decide (a1.size ≤ a0.size) = false := decide_eq_false (fun h => c3 (Int.ofNat_le.mpr h))
 clear c3
 obtain rfl := Option.some.inj H
 go_enter Tryd.func87, Tryd.ntmps87
 go_wp2
 go_ret
 exact ⟨by first | rfl | (simp; done) | (simp [*]; done), zd0⟩

/-! ### stringslite_CutSuffix: function 78 -/
def stringslite_CutSuffix.f (a0 : ByteArray) (a1 : ByteArray) : Option (ByteArray × Bool) := (stringslite_HasSuffix.f a0 a1).bind fun t129 => (if t129 = true then (if 0 ≤ (wrap64 ((a0.size : Int) - (a1.size : Int))) then (if (wrap64 ((a0.size : Int) - (a1.size : Int))) ≤ (a0.size : Int) then (some (a0.extract 0 ((wrap64 ((a0.size : Int) - (a1.size : Int))) : Int).toNat, true)) else (none)) else (none)) else (some (a0, false)))
theorem stringslite_CutSuffix.calls (a0 : ByteArray) (a1 : ByteArray) (r1 : ByteArray) (r2 : Bool) (w : World) (h : stringslite_CutSuffix.f a0 a1 = some (r1, r2)) :
  Calls Tryd.prog 78 #[.string a0, .string a1] w fun e w' => e = .returned (.tuple #[.string r1, .bool r2]) ∧ Drawn0 w w' := by
 have H : ((stringslite_HasSuffix.f a0 a1).bind fun t129 => (if t129 = true then (if 0 ≤ (wrap64 ((a0.size : Int) - (a1.size : Int))) then (if (wrap64 ((a0.size : Int) - (a1.size : Int))) ≤ (a0.size : Int) then (some (a0.extract 0 ((wrap64 ((a0.size : Int) - (a1.size : Int))) : Int).toNat, true)) else (none)) else (none)) else (some (a0, false)))) = some (r1, r2) := h
 clear h
 replace H := Option.bind_eq_some_iff.mp H
 obtain ⟨t129, A30, H⟩ := H
 try dsimp only at H
 have A3 := ka A30
 clear A30
 by_cases c4 : t129 = true
 ·subst c4
  rw [if_pos rfl] at H
  obtain ⟨ji5, hji5⟩ : ∃ j_ : Int, (wrap64 ((a0.size : Int) - (a1.size : Int))) = j_ := ⟨_, rfl⟩
  replace H : (if 0 ≤ (ji5) then (if (ji5) ≤ (a0.size : Int) then (some (a0.extract 0 ((ji5) : Int).toNat, true)) else (none)) else (none)) = some (r1, r2) := by first | (rw [hji5] at H; exact H) | (simp only [hji5] at H ⊢; exact H)
  (try rw [hji5] at A3)
  have hji5w : (IntKind.i64.wrap ((a0.size : Int) - (a1.size : Int))) = ji5 := (i64_w _).trans hji5
  replace H := zif H
  obtain ⟨c6, H⟩ := H
  have c6b0 := eq_true c6
  have c6b1 := zdt c6
  clear c6
  replace H := zif H
  obtain ⟨c7, H⟩ := H
  have c7b0 := eq_true c7
  have c7b1 := zdt c7
  clear c7
  replace H := zs2 H
  obtain ⟨rfl, rfl⟩ := H
  go_enter Tryd.func78, Tryd.ntmps78
  go_wp2_with (first | ((with_reducible refine gate_callee (f := 87) rfl ?_); refine goesL_ (some 8) rfl rfl Tryd.func87 (by kernel_rfl) rfl #[.string a0, .string a1] rfl zA ?_; (with_reducible refine (stringslite_HasSuffix.calls a0 a1 true _ A3.out).mono ?_); rintro e w' ⟨rfl, ⟨nd, rfl⟩⟩; refine ⟨_, rfl, ?_⟩))
  go_ret2
  exact ⟨by first | rfl | (simp; done) | (simp only [← hji5] <;> (first | rfl | simp)) | (simp [*]; done), zd0⟩
 replace c4 := Bool.eq_false_iff.mpr c4
 subst c4
 rw [if_neg (show ¬ (false = true) by decide)] at H
 replace H := zs2 H
 obtain ⟨rfl, rfl⟩ := H
 go_enter Tryd.func78, Tryd.ntmps78
 go_wp2_with (first | ((with_reducible refine gate_callee (f := 87) rfl ?_); refine goesL_ (some 8) rfl rfl Tryd.func87 (by kernel_rfl) rfl #[.string a0, .string a1] rfl zA ?_; (with_reducible refine (stringslite_HasSuffix.calls a0 a1 false _ A3.out).mono ?_); rintro e w' ⟨rfl, ⟨nd, rfl⟩⟩; refine ⟨_, rfl, ?_⟩))
 go_ret2
 exact ⟨by first | rfl | (simp; done) | (simp [*]; done), zd0⟩

/-! ### strings_CutSuffix: function 66 -/
def strings_CutSuffix.f (a0 : ByteArray) (a1 : ByteArray) : Option (ByteArray × Bool) := (stringslite_CutSuffix.f a0 a1).bind fun bt130 => (some (bt130.1, bt130.2))
theorem strings_CutSuffix.calls (a0 : ByteArray) (a1 : ByteArray) (r1 : ByteArray) (r2 : Bool) (w : World) (h : strings_CutSuffix.f a0 a1 = some (r1, r2)) :
  Calls Tryd.prog 66 #[.string a0, .string a1] w fun e w' => e = .returned (.tuple #[.string r1, .bool r2]) ∧ Drawn0 w w' := by
 have H : ((stringslite_CutSuffix.f a0 a1).bind fun bt130 => (some (bt130.1, bt130.2))) = some (r1, r2) := h
 clear h
 replace H := Option.bind_eq_some_iff.mp H
 obtain ⟨⟨t130, t131⟩, A30, H⟩ := H
 try dsimp only at H
 have A3 := ka A30
 clear A30
 replace H := zs2 H
 obtain ⟨rfl, rfl⟩ := H
 go_enter Tryd.func66, Tryd.ntmps66
 go_wp2_with (first | ((with_reducible refine gate_callee (f := 78) rfl ?_); refine goesL_ (some 8) rfl rfl Tryd.func78 (by kernel_rfl) rfl #[.string a0, .string a1] rfl zA ?_; (with_reducible refine (stringslite_CutSuffix.calls a0 a1 t130 t131 _ A3.out).mono ?_); rintro e w' ⟨rfl, ⟨nd, rfl⟩⟩; refine ⟨_, rfl, ?_⟩))
 go_ret2
 exact ⟨by first | rfl | (simp; done) | (simp [*]; done), zd0⟩

/-! ### parse_sides: function 67 -/
def parse_sides.f (k : Nat) (a0 : ByteArray) (a1 : ByteArray) : Option (ByteArray × ByteArray × Bool) := (parse_Cut.f k a0 (([a1] : List ByteArray))).bind fun bt135 => ((text_Trim.f bt135.1).bind fun t138 => ((text_Trim.f bt135.2.2).bind fun t139 => (some (t138, t139, (bt135.2.1.toList != ([] : List UInt8))))))
theorem parse_sides.mono : ∀ a0 a1 k, LeO (parse_sides.f k a0 a1) (parse_sides.f (k + 1) a0 a1) := by
 intro a0 a1 k
 unfold parse_sides.f
 have m0 := @parse_Cut.mono
 exact zLe
theorem parse_sides.calls (k : Nat) (a0 : ByteArray) (a1 : ByteArray) (r1 : ByteArray) (r2 : ByteArray) (r3 : Bool) (w : World) (h : parse_sides.f k a0 a1 = some (r1, r2, r3)) :
  Calls Tryd.prog 67 #[.string a0, .string a1] w fun e w' => e = .returned (.tuple #[.string r1, .string r2, .bool r3]) ∧ Below w.heap.size w w' := by
 have HB := ka (Below.refl w.heap.size w)
 have H : ((parse_Cut.f k a0 (([a1] : List ByteArray))).bind fun bt135 => ((text_Trim.f bt135.1).bind fun t138 => ((text_Trim.f bt135.2.2).bind fun t139 => (some (t138, t139, (bt135.2.1.toList != ([] : List UInt8))))))) = some (r1, r2, r3) := h
 clear h
 obtain ⟨y132, hy132⟩ : ∃ y_ : List ByteArray, y_ = (([a1] : List ByteArray)) := ⟨_, rfl⟩
 replace H : ((parse_Cut.f k a0 y132).bind fun bt135 => ((text_Trim.f bt135.1).bind fun t138 => ((text_Trim.f bt135.2.2).bind fun t139 => (some (t138, t139, (bt135.2.1.toList != ([] : List UInt8))))))) = some (r1, r2, r3) := zH hy132 H
 have Ny132 := ka hy132
 clear hy132
 replace H := Option.bind_eq_some_iff.mp H
 obtain ⟨⟨t135, t136, t137⟩, A30, H⟩ := H
 try dsimp only at H
 have A3 := ka A30
 clear A30
 replace H := Option.bind_eq_some_iff.mp H
 obtain ⟨t138, A40, H⟩ := H
 try dsimp only at H
 have A4 := ka A40
 clear A40
 replace H := Option.bind_eq_some_iff.mp H
 obtain ⟨t139, A50, H⟩ := H
 try dsimp only at H
 have A5 := ka A50
 clear A50
 replace H := zs3 H
 obtain ⟨rfl, rfl, rfl⟩ := H
 go_enter Tryd.func67, Tryd.ntmps67
 go_wp2_with (first | ((with_reducible refine gate_dst (N := 13) rfl ?_); refine Kd.R_lit Kd.string _ 9 ?hg (N := 13) ?hd (xs := ([a1] : List ByteArray)) (inner := [.string a1]) (ok := fun _ => True) (okp := fun _ => True) ?hr ?hp (fun _ hk => hk) trivial (Below.refl _ _) (Nat.le_refl _) (by simp) ?_; (case hd => rfl); (case hg => rfl); (case hr => (go_simp; try rfl)); (case hp => exact (Reps.one (show Kd.M Kd.string _ _ _ a1 [.string a1] from rfl) (Reps.none _ _))); intro v133 w6 ho7 hb hg_ hnew_; clear hg_ hnew_; (first | rw [← Ny132.out] at ho7 | (simp only [Int.reduceToNat] at ho7; rw [← Ny132.out] at ho7)); have HO134 := ka (Kd.R_lower ho7 (below_size (zL HB.out))); replace HB := ka (below_step (zL HB.out) hb); clear hb ho7; obtain ⟨Ao8, co8, eo8⟩ := Kd.R_slice HO134.out; subst eo8) | ((with_reducible refine gate_callee (f := 17) rfl ?_); refine goesL_ (some 14) rfl rfl Tryd.func17 (by kernel_rfl) rfl #[.string a0, .slice Ao8 y132.length co8] rfl zA ?_; (with_reducible refine (parse_Cut.calls k a0 _ _ y132 t135 t136 t137 _ ?side1 ?side2 A3.out).mono ?_); (case side1 => exact zCS (Kd.R_reads' HO134.out).2.2); (case side2 => exact (Kd.R_reads' HO134.out).2.1); rintro e w9 ⟨rfl, hb⟩; refine ⟨_, rfl, ?_⟩; replace HO134 := ka (Kd.R_below (zR HO134.out) hb); replace HB := ka (below_step (zL HB.out) hb); (try clear hb); (try clear hb2); (try clear hk); (try clear hi)) | ((with_reducible refine gate_callee (f := 24) rfl ?_); refine goesL_ (some 19) rfl rfl Tryd.func24 (by kernel_rfl) rfl #[.string t135] rfl zA ?_; (with_reducible refine (text_Trim.calls t135 t138 _ A4.out).mono ?_); rintro e w10 ⟨rfl, hb⟩; refine ⟨_, rfl, ?_⟩; replace HO134 := ka (Kd.R_below (zR HO134.out) hb); replace HB := ka (below_step (zL HB.out) hb); (try clear hb); (try clear hb2); (try clear hk); (try clear hi)) | ((with_reducible refine gate_callee (f := 24) rfl ?_); refine goesL_ (some 21) rfl rfl Tryd.func24 (by kernel_rfl) rfl #[.string t137] rfl zA ?_; (with_reducible refine (text_Trim.calls t137 t139 _ A5.out).mono ?_); rintro e w11 ⟨rfl, hb⟩; refine ⟨_, rfl, ?_⟩; replace HO134 := ka (Kd.R_below (zR HO134.out) hb); replace HB := ka (below_step (zL HB.out) hb); (try clear hb); (try clear hb2); (try clear hk); (try clear hi)))
 go_ret3
 exact ⟨zE, zL HB.out⟩

end Go.Proofs.YthnholondnfjoaaDoor.PParse
