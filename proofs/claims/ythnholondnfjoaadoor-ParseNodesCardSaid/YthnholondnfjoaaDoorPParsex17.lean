-- Written by a program of this session (wip/tools/ext.py, over the kit's printer); not trusted: Lean checks it.
import Derived.Test.YthnholondnfjoaaDoorPParsex0
import Derived.Test.YthnholondnfjoaaDoorPParsex11
import Derived.Test.YthnholondnfjoaaDoorPParsex15
import Derived.Test.YthnholondnfjoaaDoorPParsex16
namespace Go.Proofs.YthnholondnfjoaaDoor.PParse
open Go.RowKit Go.Proofs.YthnholondnfjoaaDoorW.PrintWords Go.Proofs.YthnholondnfjoaaDoorW.PrintLast Go.Proofs.YthnholondnfjoaaDoorW.PrintMore
attribute [local go_sem] max2_int min2_int max_two min_two max_three min_three max_four min_four
set_option linter.unusedVariables false
set_option linter.unusedSimpArgs false
set_option maxHeartbeats 8000000
set_option maxRecDepth 100000

/-! ### cooperageref8_Lex: function 21 -/
mutual
def cooperageref8_Lex.l0 : Nat → List ByteArray → List (S53) → Int → Option ((List (S53)) × Int × Int)
 | 0, _, _, _ => none
 | k + 1, x5, x6, x7 => if x7 < (x5.length : Int) then (if 0 ≤ x7 then (if (rdOf ByteArray.empty x5 x7).toList = ([] : List UInt8) then (cooperageref8_Lex.j1 k x5 x6 x7 (wrap64 (x7 + 1)) (rdOf ByteArray.empty x5 x7) false) else (if 0 < ((rdOf ByteArray.empty x5 x7).size : Int) then (cooperageref8_Lex.j1 k x5 x6 x7 (wrap64 (x7 + 1)) (rdOf ByteArray.empty x5 x7) ((bt (rdOf ByteArray.empty x5 x7) 0) == 9)) else (none))) else (none)) else (some (x6, 0, 0))
def cooperageref8_Lex.j1 : Nat → List ByteArray → List (S53) → Int → Int → ByteArray → Bool → Option ((List (S53)) × Int × Int)
 | 0, _, _, _, _, _, _ => none
 | k + 1, x5, x6, x7, x8, x9, x10 => cooperageref8_Lex.l1 k x5 x6 x7 x8 x9 x10
def cooperageref8_Lex.l1 : Nat → List ByteArray → List (S53) → Int → Int → ByteArray → Bool → Option ((List (S53)) × Int × Int)
 | 0, _, _, _, _, _, _ => none
 | k + 1, x5, x6, x7, x8, x9, x10 => if 0 ≤ x7 then (if x7 < (x5.length : Int) then ((cooperageref8_odd.f k (rdOf ByteArray.empty x5 x7)).bind fun t463 => (if t463 = true then (cooperageref8_Lex.j3 k x5 x6 x7 x8 x9 x10 (decide ((wrap64 (x7 + 1)) < (x5.length : Int)))) else (cooperageref8_Lex.j3 k x5 x6 x7 x8 x9 x10 false))) else (none)) else (none)
def cooperageref8_Lex.j3 : Nat → List ByteArray → List (S53) → Int → Int → ByteArray → Bool → Bool → Option ((List (S53)) × Int × Int)
 | 0, _, _, _, _, _, _, _ => none
 | k + 1, x5, x6, x7, x8, x9, x10, x41 => if x41 = true then (if 0 ≤ (wrap64 ((x9.size : Int) - 1)) then (if (wrap64 ((x9.size : Int) - 1)) ≤ (x9.size : Int) then ((cooperageref8_right.f k (x9.extract 0 ((wrap64 ((x9.size : Int) - 1)) : Int).toNat)).bind fun t464 => (if t464.size + 1 ≤ 9223372036854775807 then (if 0 ≤ (wrap64 (x7 + 1)) then (if (wrap64 (x7 + 1)) < (x5.length : Int) then ((cooperageref8_left.f k (rdOf ByteArray.empty x5 (wrap64 (x7 + 1)))).bind fun t466 => (if (t464 ++ (⟨#[32]⟩ : ByteArray)).size + t466.size ≤ 9223372036854775807 then (cooperageref8_Lex.l1 k x5 x6 (wrap64 (x7 + 1)) x8 ((t464 ++ (⟨#[32]⟩ : ByteArray)) ++ t466) x10) else (none))) else (none)) else (none)) else (none))) else (none)) else (none)) else (if 0 ≤ x7 then (if x7 < (x5.length : Int) then ((cooperageref8_odd.f k (rdOf ByteArray.empty x5 x7)).bind fun t468 => (if t468 = true then (if 0 ≤ (wrap64 ((x9.size : Int) - 1)) then (if (wrap64 ((x9.size : Int) - 1)) ≤ (x9.size : Int) then (cooperageref8_Lex.j4 k x5 x6 x7 x8 (x9.extract 0 ((wrap64 ((x9.size : Int) - 1)) : Int).toNat) x10) else (none)) else (none)) else (cooperageref8_Lex.j4 k x5 x6 x7 x8 x9 x10))) else (none)) else (none))
def cooperageref8_Lex.j4 : Nat → List ByteArray → List (S53) → Int → Int → ByteArray → Bool → Option ((List (S53)) × Int × Int)
 | 0, _, _, _, _, _, _ => none
 | k + 1, x5, x6, x7, x8, x9, x10 => if x10 = true then (cooperageref8_Lex.j5 k x5 x6 (wrap64 (x7 + 1)) x8 x9 x10) else ((cooperageref8_bare.f k x9).bind fun t469 => (cooperageref8_Lex.j5 k x5 x6 (wrap64 (x7 + 1)) x8 t469 x10))
def cooperageref8_Lex.j5 : Nat → List ByteArray → List (S53) → Int → Int → ByteArray → Bool → Option ((List (S53)) × Int × Int)
 | 0, _, _, _, _, _, _ => none
 | k + 1, x5, x6, x7, x8, x9, x10 => (cooperageref1_Trim.f k x9).bind fun t470 => (if t470.toList = ([] : List UInt8) then (cooperageref8_Lex.l0 k x5 x6 x7) else (if (t470.size : Int) > 1000 then (some (([] : List (S53)), 3, x8)) else (if (x6.length : Int) ≥ 300 then (some (([] : List (S53)), 3, x8)) else (if x6.length < 4398046511104 then (cooperageref8_Lex.l0 k x5 (x6 ++ [(⟨x8, x10, t470⟩ : S53)]) x7) else (none)))))
end
def cooperageref8_Lex.f (k : Nat) (a0 : ByteArray) : Option ((List (S53)) × Int × Int) := (cooperageref1_Lines.f k a0).bind fun t458 => (cooperageref8_Lex.l0 k t458 ([] : List (S53)) 0)
theorem cooperageref8_Lex.mono_l : ∀ k, (∀ y0 y1 y2, LeO (cooperageref8_Lex.l0 k y0 y1 y2) (cooperageref8_Lex.l0 (k + 1) y0 y1 y2)) ∧ (∀ y0 y1 y2 y3 y4 y5, LeO (cooperageref8_Lex.j1 k y0 y1 y2 y3 y4 y5) (cooperageref8_Lex.j1 (k + 1) y0 y1 y2 y3 y4 y5)) ∧ (∀ y0 y1 y2 y3 y4 y5, LeO (cooperageref8_Lex.l1 k y0 y1 y2 y3 y4 y5) (cooperageref8_Lex.l1 (k + 1) y0 y1 y2 y3 y4 y5)) ∧ (∀ y0 y1 y2 y3 y4 y5 y6, LeO (cooperageref8_Lex.j3 k y0 y1 y2 y3 y4 y5 y6) (cooperageref8_Lex.j3 (k + 1) y0 y1 y2 y3 y4 y5 y6)) ∧ (∀ y0 y1 y2 y3 y4 y5, LeO (cooperageref8_Lex.j4 k y0 y1 y2 y3 y4 y5) (cooperageref8_Lex.j4 (k + 1) y0 y1 y2 y3 y4 y5)) ∧ (∀ y0 y1 y2 y3 y4 y5, LeO (cooperageref8_Lex.j5 k y0 y1 y2 y3 y4 y5) (cooperageref8_Lex.j5 (k + 1) y0 y1 y2 y3 y4 y5))
 | 0 => ⟨fun _ _ _ r h => by simp [cooperageref8_Lex.l0] at h, fun _ _ _ _ _ _ r h => by simp [cooperageref8_Lex.j1] at h, fun _ _ _ _ _ _ r h => by simp [cooperageref8_Lex.l1] at h, fun _ _ _ _ _ _ _ r h => by simp [cooperageref8_Lex.j3] at h, fun _ _ _ _ _ _ r h => by simp [cooperageref8_Lex.j4] at h, fun _ _ _ _ _ _ r h => by simp [cooperageref8_Lex.j5] at h⟩
 | k + 1 => by
  obtain ⟨ih0, ih1, ih2, ih3, ih4, ih5⟩ := cooperageref8_Lex.mono_l k
  have m0 := @cooperageref1_Lines.mono
  have m1 := @cooperageref1_Trim.mono
  have m2 := @cooperageref8_bare.mono
  have m3 := @cooperageref8_left.mono
  have m4 := @cooperageref8_odd.mono
  have m5 := @cooperageref8_right.mono
  refine ⟨?_, ?_, ?_, ?_, ?_, ?_⟩
  ·intros
   unfold cooperageref8_Lex.l0
   exact zLe
  ·intros
   unfold cooperageref8_Lex.j1
   exact zLe
  ·intros
   unfold cooperageref8_Lex.l1
   exact zLe
  ·intros
   unfold cooperageref8_Lex.j3
   exact zLe
  ·intros
   unfold cooperageref8_Lex.j4
   exact zLe
  ·intros
   unfold cooperageref8_Lex.j5
   exact zLe
theorem cooperageref8_Lex.mono : ∀ a0 k, LeO (cooperageref8_Lex.f k a0) (cooperageref8_Lex.f (k + 1) a0) := by
 intro a0 k
 obtain ⟨ih0, ih1, ih2, ih3, ih4, ih5⟩ := cooperageref8_Lex.mono_l k
 unfold cooperageref8_Lex.f
 have m0 := @cooperageref1_Lines.mono
 have m1 := @cooperageref1_Trim.mono
 have m2 := @cooperageref8_bare.mono
 have m3 := @cooperageref8_left.mono
 have m4 := @cooperageref8_odd.mono
 have m5 := @cooperageref8_right.mono
 exact zLe
theorem cooperageref8_Lex.calls (k : Nat) (a0 : ByteArray) (r1 : List (S53)) (r2 : Int) (r3 : Int) (w : World) (h : cooperageref8_Lex.f k a0 = some (r1, r2, r3)) :
  Calls Tryd.prog 21 #[.string a0] w fun e w' => ∃ v0_ : Value, e = .returned (.tuple #[v0_, .int .i64 r2, .int .i64 r3]) ∧ Kd.R k53 53 w' w.heap.size (fun _ => True) v0_ r1 ∧ Below w.heap.size w w' := by
 have hu53 := Tryd.underlying53
 have HB := ka (Below.refl w.heap.size w)
 have H : ((cooperageref1_Lines.f k a0).bind fun t458 => (cooperageref8_Lex.l0 k t458 ([] : List (S53)) 0)) = some (r1, r2, r3) := h
 clear h
 replace H := Option.bind_eq_some_iff.mp H
 obtain ⟨t458, A20, H⟩ := H
 try dsimp only at H
 have A2 := ka A20
 clear A20
 have H' := ka H
 clear H
 go_enter Tryd.func21, Tryd.ntmps21
 have F_ := trivial
 repeat ((first | clear F_ | go_quiet (first | (go_at_call 35; (with_reducible refine (cooperageref1_Lines.calls k a0 t458 _ A2.out).mono ?_); rintro e w3 ⟨v459, rfl, ho0, hb⟩; have HO460 := ka (Kd.R_lower ho0 (below_size (zL HB.out))); replace HB := ka (below_step (zL HB.out) hb); (try clear hb); (try clear hb2); (try clear hk); (try clear hi); (try clear ho0)))); try go_wp2_with (first | (go_at_call 35; (with_reducible refine (cooperageref1_Lines.calls k a0 t458 _ A2.out).mono ?_); rintro e w3 ⟨v459, rfl, ho0, hb⟩; have HO460 := ka (Kd.R_lower ho0 (below_size (zL HB.out))); replace HB := ka (below_step (zL HB.out) hb); (try clear hb); (try clear hb2); (try clear hk); (try clear hi); (try clear ho0))))
 go_loopg [6, 7] k (fun kq v6 v7 w' => ∃ (x6_1 : List (S53)) (x7_1 : Int), v7 = .int .i64 x7_1 ∧ Aside0 (cooperageref8_Lex.l0 kq t458 x6_1 x7_1 = some (r1, r2, r3)) ∧ Aside0 (kq ≤ k) ∧ Aside0 (Kd.R Kd.string 9 w' w.heap.size (fun _ => True) v459 t458) ∧ Aside0 (Kd.R k53 53 w' w.heap.size (fun _ => True) v6 x6_1) ∧ Aside0 (Below w.heap.size w w'))
 case atStart => exact ⟨(([] : List (S53))), (0), zS, H', ⟨Nat.le_refl _⟩, ⟨zR HO460.out⟩, ⟨zNl⟩, ⟨zL HB.out⟩⟩
 case round =>
  clear H'
  obtain ⟨x6_1, x7_1, rfl, HA, HK1, HO_5, HO_6, HB⟩ := hrel
  cases gk with
  | zero => exact absurd HA.out (by simp [cooperageref8_Lex.l0])
  | succ k1 =>
   have H := HA.out
   clear HA
   simp only [cooperageref8_Lex.l0] at H
   by_cases c4 : x7_1 < (t458.length : Int)
   ·rw [if_pos c4] at H
    have c4b0 := zdt c4
    clear c4
    replace H := zif H
    obtain ⟨c5, H⟩ := H
    have c5b0 := zdt c5
    clear c5
    have HC6 := ka H
    clear H
    obtain ⟨Ao7, co7, eo7⟩ := Kd.R_slice HO_5.out
    subst eo7
    have p461 : 0 ≤ (x7_1 : Int) := zD
    have q461 : x7_1 < (t458.length : Int) := zD
    obtain ⟨ad461, e461, hx461_0⟩ := Kd.at_string (Kd.R_reads' HO_5.out).2.2 x7_1 p461 q461
    cases e461
    replace p461 := eq_true p461
    replace q461 := eq_true q461
    go_upto_region 7 with (fail)
    repeat (go_quiet (fail); go_upto_region 7 with (fail))
    go_cut [10] (fun v10 wc => ∃ (kq : Nat) (x10_5 : Bool), v10 = .bool x10_5 ∧ Aside0 (cooperageref8_Lex.j1 kq t458 x6_1 x7_1 (wrap64 (x7_1 + 1)) (rdOf ByteArray.empty t458 x7_1) x10_5 = some (r1, r2, r3)) ∧ Aside0 (kq ≤ k1) ∧ Aside0 (Kd.R Kd.string 9 wc w.heap.size (fun _ => True) (.slice (some ad461) t458.length co7) t458) ∧ Aside0 (Kd.R k53 53 wc w.heap.size (fun _ => True) u6 x6_1) ∧ Aside0 (Below w.heap.size w wc))
    case first =>
     have H := HC6.out
     clear HC6
     by_cases c8 : (rdOf ByteArray.empty t458 x7_1).toList = ([] : List UInt8)
     ·rw [if_pos c8] at H
      have c8b0 := zb0 c8
      have c8b1 := zb1 c8
      clear c8
      (first | rw [c8b0] | (simp only [i64_w, i32_w]; rw [c8b0]) | rw [isE_ c8b0] | skip)
      have H' := ka H
      clear H
      go_wp2
      repeat (go_quiet (fail); try go_wp2)
      go_meet
      case rel => exact ⟨_, (false), zS, H', ⟨by have := HK1.out; first | omega | exact Nat.le_refl _⟩, ⟨zR HO_5.out⟩, ⟨zR HO_6.out⟩, ⟨zL HB.out⟩⟩
     rw [if_neg c8] at H
     have c8b0 := zn0 c8
     have c8b1 := zn1 c8
     (first | rw [c8b0] | (simp only [i64_w, i32_w]; rw [c8b0]) | rw [isE_ c8b0] | skip)
     replace H := zif H
     obtain ⟨c9, H⟩ := H
     have c9b0 := zdt c9
     have c9b1 : decide (0 < (rdOf ByteArray.empty t458 x7_1).size) = true := decide_eq_true (by omega)
     clear c9
     have H' := ka H
     clear H
     have p10 : 0 ≤ (0 : Int) := (by omega)
     have q10 : 0 < (rdOf ByteArray.empty t458 x7_1).size := (by have : (0 : Int) < ((rdOf ByteArray.empty t458 x7_1).size : Int) := zD; omega)
     have hx10 : ∀ h : 0 < (rdOf ByteArray.empty t458 x7_1).size, (((rdOf ByteArray.empty t458 x7_1)[0]'h).toNat : Int) = bt (rdOf ByteArray.empty t458 x7_1) 0 := bt_at (rdOf ByteArray.empty t458 x7_1) 0
     clear p10
     have qi10 : (0 < ((rdOf ByteArray.empty t458 x7_1).size : Int)) = True := eq_true zD
     replace q10 := eq_true q10
     go_wp2
     repeat (go_quiet (fail); try go_wp2)
     go_meet
     case rel => exact ⟨_, (((bt (rdOf ByteArray.empty t458 x7_1) 0) == 9)), zS, H', ⟨by have := HK1.out; first | omega | exact Nat.le_refl _⟩, ⟨zR HO_5.out⟩, ⟨zR HO_6.out⟩, ⟨zL HB.out⟩⟩
    case rest =>
     clear HC6
     try clear c4
     try clear c4b0
     try clear c5
     try clear c5b0
     try clear hx461_0
     try clear p461
     try clear q461
     obtain ⟨kq, x10_5, rfl, HA, HJ5, HO_5, HO_6, HB⟩ := hcut
     cases kq with
     | zero => exact absurd HA.out (by simp [cooperageref8_Lex.j1])
     | succ kj5 =>
      have H := HA.out
      clear HA
      simp only [cooperageref8_Lex.j1] at H
      have H' := ka H
      clear H
      go_wp2
      repeat (go_quiet (fail); try go_wp2)
      go_loopg [7, 9] kj5 (fun kq v7 v9 w' => ∃ (x7_3 : Int) (x9_3 : ByteArray), v7 = .int .i64 x7_3 ∧ v9 = .string x9_3 ∧ Aside0 (cooperageref8_Lex.l1 kq t458 x6_1 x7_3 (wrap64 (x7_1 + 1)) x9_3 x10_5 = some (r1, r2, r3)) ∧ Aside0 (kq ≤ kj5) ∧ Aside0 (Kd.R Kd.string 9 w' w.heap.size (fun _ => True) (.slice (some ad461) t458.length co7) t458) ∧ Aside0 (Kd.R k53 53 w' w.heap.size (fun _ => True) u6 x6_1) ∧ Aside0 (Below w.heap.size w w'))
      case atStart => exact ⟨(x7_1), ((rdOf ByteArray.empty t458 x7_1)), zS, zS, H', ⟨Nat.le_refl _⟩, ⟨zR HO_5.out⟩, ⟨zR HO_6.out⟩, ⟨zL HB.out⟩⟩
      case round =>
       clear H'
       try clear c4
       try clear c4b0
       try clear c5
       try clear c5b0
       try clear hx461_0
       try clear p461
       try clear q461
       obtain ⟨x7_3, x9_3, rfl, rfl, HA, HK3, HO_5, HO_6, HB⟩ := hrel
       cases gk with
       | zero => exact absurd HA.out (by simp [cooperageref8_Lex.l1])
       | succ k3 =>
        have H := HA.out
        clear HA
        simp only [cooperageref8_Lex.l1] at H
        have HC11 := ka H
        clear H
        go_upto_region 8 with (fail)
        repeat (go_quiet (fail); go_upto_region 8 with (fail))
        go_cut [41] (fun v41 wc => ∃ (kq : Nat) (x41_10 : Bool), v41 = .bool x41_10 ∧ Aside0 (cooperageref8_Lex.j3 kq t458 x6_1 x7_3 (wrap64 (x7_1 + 1)) x9_3 x10_5 x41_10 = some (r1, r2, r3)) ∧ Aside0 (kq ≤ k3) ∧ Aside0 (Kd.R Kd.string 9 wc w.heap.size (fun _ => True) (.slice (some ad461) t458.length co7) t458) ∧ Aside0 (Kd.R k53 53 wc w.heap.size (fun _ => True) u6 x6_1) ∧ Aside0 (Below w.heap.size w wc))
        case first =>
         have H := HC11.out
         clear HC11
         replace H := zif H
         obtain ⟨c12, H⟩ := H
         have c12b0 := zdt c12
         clear c12
         (first | rw [c12b0] | (simp only [i64_w, i32_w]; rw [c12b0]) | rw [isE_ c12b0] | skip)
         replace H := zif H
         obtain ⟨c13, H⟩ := H
         have c13b0 := zdt c13
         clear c13
         replace H := Option.bind_eq_some_iff.mp H
         obtain ⟨t463, A140, H⟩ := H
         try dsimp only at H
         have A14 := ka A140
         clear A140
         by_cases c15 : t463 = true
         ·subst c15
          rw [if_pos rfl] at H
          have H' := ka H
          clear H
          have p462 : 0 ≤ (x7_3 : Int) := zD
          have q462 : x7_3 < (t458.length : Int) := zD
          obtain ⟨ad462, e462, hx462_0⟩ := Kd.at_string (Kd.R_reads' HO_5.out).2.2 x7_3 p462 q462
          obtain rfl : ad461 = ad462 := (by injection e462)
          replace p462 := eq_true p462
          replace q462 := eq_true q462
          have F_ := trivial
          repeat ((first | clear F_ | go_quiet (first | (go_at_call 36; (with_reducible refine (cooperageref8_odd.calls k3 (rdOf ByteArray.empty t458 x7_3) true _ A14.out).mono ?_); rintro e w' ⟨rfl, ⟨nd, rfl⟩⟩; (try exact zDr)))); try go_wp2_with (first | (go_at_call 36; (with_reducible refine (cooperageref8_odd.calls k3 (rdOf ByteArray.empty t458 x7_3) true _ A14.out).mono ?_); rintro e w' ⟨rfl, ⟨nd, rfl⟩⟩; (try exact zDr))))
          go_meet
          case rel => exact ⟨_, (decide ((wrap64 (x7_3 + 1)) < (t458.length : Int))), zS, H', ⟨by have := HK1.out; have := HJ5.out; have := HK3.out; first | omega | exact Nat.le_refl _⟩, ⟨zR HO_5.out⟩, ⟨zR HO_6.out⟩, ⟨zL HB.out⟩⟩
         replace c15 := Bool.eq_false_iff.mpr c15
         subst c15
         rw [if_neg (show ¬ (false = true) by decide)] at H
         have H' := ka H
         clear H
         have p462 : 0 ≤ (x7_3 : Int) := zD
         have q462 : x7_3 < (t458.length : Int) := zD
         obtain ⟨ad462, e462, hx462_0⟩ := Kd.at_string (Kd.R_reads' HO_5.out).2.2 x7_3 p462 q462
         obtain rfl : ad461 = ad462 := (by injection e462)
         replace p462 := eq_true p462
         replace q462 := eq_true q462
         have F_ := trivial
         repeat ((first | clear F_ | go_quiet (first | (go_at_call 36; (with_reducible refine (cooperageref8_odd.calls k3 (rdOf ByteArray.empty t458 x7_3) false _ A14.out).mono ?_); rintro e w' ⟨rfl, ⟨nd, rfl⟩⟩; (try exact zDr)))); try go_wp2_with (first | (go_at_call 36; (with_reducible refine (cooperageref8_odd.calls k3 (rdOf ByteArray.empty t458 x7_3) false _ A14.out).mono ?_); rintro e w' ⟨rfl, ⟨nd, rfl⟩⟩; (try exact zDr))))
         go_meet
         case rel => exact ⟨_, (false), zS, H', ⟨by have := HK1.out; have := HJ5.out; have := HK3.out; first | omega | exact Nat.le_refl _⟩, ⟨zR HO_5.out⟩, ⟨zR HO_6.out⟩, ⟨zL HB.out⟩⟩
        case rest =>
         clear HC11
         try clear c4
         try clear c4b0
         try clear c5
         try clear c5b0
         try clear hx461_0
         try clear p461
         try clear q461
         obtain ⟨kq, x41_10, rfl, HA, HJ10, HO_5, HO_6, HB⟩ := hcut
         cases kq with
         | zero => exact absurd HA.out (by simp [cooperageref8_Lex.j3])
         | succ kj10 =>
          have H := HA.out
          clear HA
          simp only [cooperageref8_Lex.j3] at H
          by_cases c16 : x41_10 = true
          ·subst c16
           rw [if_pos rfl] at H
           obtain ⟨ji17, hji17⟩ : ∃ j_ : Int, (wrap64 ((x9_3.size : Int) - 1)) = j_ := ⟨_, rfl⟩
           replace H : (if 0 ≤ (ji17) then (if (ji17) ≤ (x9_3.size : Int) then ((cooperageref8_right.f kj10 (x9_3.extract 0 ((ji17) : Int).toNat)).bind fun t464 => (if t464.size + 1 ≤ 9223372036854775807 then (if 0 ≤ (wrap64 (x7_3 + 1)) then (if (wrap64 (x7_3 + 1)) < (t458.length : Int) then ((cooperageref8_left.f kj10 (rdOf ByteArray.empty t458 (wrap64 (x7_3 + 1)))).bind fun t466 => (if (t464 ++ (⟨#[32]⟩ : ByteArray)).size + t466.size ≤ 9223372036854775807 then (cooperageref8_Lex.l1 kj10 t458 x6_1 (wrap64 (x7_3 + 1)) (wrap64 (x7_1 + 1)) ((t464 ++ (⟨#[32]⟩ : ByteArray)) ++ t466) x10_5) else (none))) else (none)) else (none)) else (none))) else (none)) else (none)) = some (r1, r2, r3) := by first | (rw [hji17] at H; exact H) | (simp only [hji17] at H ⊢; exact H)
           have hji17w : (IntKind.i64.wrap ((x9_3.size : Int) - 1)) = ji17 := (i64_w _).trans hji17
           replace H := zif H
           obtain ⟨c18, H⟩ := H
           have c18b0 := eq_true c18
           have c18b1 := zdt c18
           clear c18
           replace H := zif H
           obtain ⟨c19, H⟩ := H
           have c19b0 := eq_true c19
           have c19b1 := zdt c19
           clear c19
           replace H := Option.bind_eq_some_iff.mp H
           obtain ⟨t464, A200, H⟩ := H
           try dsimp only at H
           have A20 := ka A200
           clear A200
           replace H := zif H
           obtain ⟨c21, H⟩ := H
           have c21b0 := eq_true c21
           have c21b1 := zdt c21
           try have c21b2 : (9223372036854775807 < t464.size + 1) = False := eq_false (Nat.not_lt.2 c21)
           obtain ⟨ji22, hji22⟩ : ∃ j_ : Int, (wrap64 (x7_3 + 1)) = j_ := ⟨_, rfl⟩
           replace H : (if 0 ≤ (ji22) then (if (ji22) < (t458.length : Int) then ((cooperageref8_left.f kj10 (rdOf ByteArray.empty t458 (ji22))).bind fun t466 => (if (t464 ++ (⟨#[32]⟩ : ByteArray)).size + t466.size ≤ 9223372036854775807 then (cooperageref8_Lex.l1 kj10 t458 x6_1 ji22 (wrap64 (x7_1 + 1)) ((t464 ++ (⟨#[32]⟩ : ByteArray)) ++ t466) x10_5) else (none))) else (none)) else (none)) = some (r1, r2, r3) := by first | (rw [hji22] at H; exact H) | (simp only [hji22] at H ⊢; exact H)
           (try rw [hji22] at A20)
           have hji22w : (IntKind.i64.wrap (x7_3 + 1)) = ji22 := (i64_w _).trans hji22
           replace H := zif H
           obtain ⟨c23, H⟩ := H
           have c23b0 := zdt c23
           clear c23
           replace H := zif H
           obtain ⟨c24, H⟩ := H
           have c24b0 := zdt c24
           clear c24
           replace H := Option.bind_eq_some_iff.mp H
           obtain ⟨t466, A250, H⟩ := H
           try dsimp only at H
           have A25 := ka A250
           clear A250
           replace H := zif H
           obtain ⟨c26, H⟩ := H
           have c26b0 := eq_true c26
           try (have c26b0s := c26b0; simp only [ByteArray.size_append, Int.natCast_add, Int.toNat_natCast] at c26b0s)
           try (have c26b0l := c26b0; simp only [ByteArray.size_append, Pl.lit_size, List.size_toArray, List.length_cons, List.length_nil, Nat.reduceAdd, Int.natCast_add, Int.toNat_natCast] at c26b0l)
           have c26b1 := zdt c26
           try (have c26b1s := c26b1; simp only [ByteArray.size_append, Int.natCast_add, Int.toNat_natCast] at c26b1s)
           try (have c26b1l := c26b1; simp only [ByteArray.size_append, Pl.lit_size, List.size_toArray, List.length_cons, List.length_nil, Nat.reduceAdd, Int.natCast_add, Int.toNat_natCast] at c26b1l)
           try have c26b2 : (9223372036854775807 < (t464 ++ (⟨#[32]⟩ : ByteArray)).size + t466.size) = False := eq_false (Nat.not_lt.2 c26)
           try (have c26b2s := c26b2; simp only [ByteArray.size_append, Int.natCast_add, Int.toNat_natCast] at c26b2s)
           try (have c26b2l := c26b2; simp only [ByteArray.size_append, Pl.lit_size, List.size_toArray, List.length_cons, List.length_nil, Nat.reduceAdd, Int.natCast_add, Int.toNat_natCast] at c26b2l)
           have H' := ka H
           clear H
           have F_ := trivial
           repeat ((first | clear F_ | go_quiet (first | (go_at_call 37; (with_reducible refine (cooperageref8_right.calls kj10 (x9_3.extract 0 ((ji17) : Int).toNat) t464 _ A20.out).mono ?_); rintro e w' ⟨rfl, ⟨nd, rfl⟩⟩; (try exact zDr); have p465 : 0 ≤ ((ji22) : Int) := zD; have q465 : (ji22) < (t458.length : Int) := zD; obtain ⟨ad465, e465, hx465_0⟩ := Kd.at_string (Kd.R_reads' HO_5.out).2.2 (ji22) p465 q465; obtain rfl : ad461 = ad465 := (by injection e465); replace p465 := eq_true p465; replace q465 := eq_true q465) | (go_at_call 38; (with_reducible refine (cooperageref8_left.calls kj10 (rdOf ByteArray.empty t458 (ji22)) t466 _ A25.out).mono ?_); rintro e w' ⟨rfl, ⟨nd, rfl⟩⟩; (try exact zDr)))); try go_wp2_with (first | (go_at_call 37; (with_reducible refine (cooperageref8_right.calls kj10 (x9_3.extract 0 ((ji17) : Int).toNat) t464 _ A20.out).mono ?_); rintro e w' ⟨rfl, ⟨nd, rfl⟩⟩; (try exact zDr); have p465 : 0 ≤ ((ji22) : Int) := zD; have q465 : (ji22) < (t458.length : Int) := zD; obtain ⟨ad465, e465, hx465_0⟩ := Kd.at_string (Kd.R_reads' HO_5.out).2.2 (ji22) p465 q465; obtain rfl : ad461 = ad465 := (by injection e465); replace p465 := eq_true p465; replace q465 := eq_true q465) | (go_at_call 38; (with_reducible refine (cooperageref8_left.calls kj10 (rdOf ByteArray.empty t458 (ji22)) t466 _ A25.out).mono ?_); rintro e w' ⟨rfl, ⟨nd, rfl⟩⟩; (try exact zDr))))
           go_roundg kj10
           case measure => have := HK1.out; have := HJ5.out; have := HK3.out; have := HJ10.out; omega
           case rel => exact ⟨(ji22), ((t464 ++ (⟨#[32]⟩ : ByteArray)) ++ t466), (by first | rfl | (simp; done) | (simp only [← hji22] <;> (first | rfl | simp)) | (simp [*]; done)), zS, H', ⟨by have := HK1.out; have := HJ5.out; have := HK3.out; have := HJ10.out; omega⟩, ⟨zR HO_5.out⟩, ⟨zR HO_6.out⟩, ⟨zL HB.out⟩⟩
          replace c16 := Bool.eq_false_iff.mpr c16
          subst c16
          rw [if_neg (show ¬ (false = true) by decide)] at H
          replace H := zif H
          obtain ⟨c27, H⟩ := H
          have c27b0 := zdt c27
          clear c27
          replace H := zif H
          obtain ⟨c28, H⟩ := H
          have c28b0 := zdt c28
          clear c28
          replace H := Option.bind_eq_some_iff.mp H
          obtain ⟨t468, A290, H⟩ := H
          try dsimp only at H
          have A29 := ka A290
          clear A290
          have HC30 := ka H
          clear H
          have p467 : 0 ≤ (x7_3 : Int) := zD
          have q467 : x7_3 < (t458.length : Int) := zD
          obtain ⟨ad467, e467, hx467_0⟩ := Kd.at_string (Kd.R_reads' HO_5.out).2.2 x7_3 p467 q467
          obtain rfl : ad461 = ad467 := (by injection e467)
          replace p467 := eq_true p467
          replace q467 := eq_true q467
          go_upto_if 62 with (first | (go_at_call 36; (with_reducible refine (cooperageref8_odd.calls kj10 (rdOf ByteArray.empty t458 x7_3) t468 _ A29.out).mono ?_); rintro e w' ⟨rfl, ⟨nd, rfl⟩⟩; (try exact zDr)))
          repeat (go_quiet (first | (go_at_call 36; (with_reducible refine (cooperageref8_odd.calls kj10 (rdOf ByteArray.empty t458 x7_3) t468 _ A29.out).mono ?_); rintro e w' ⟨rfl, ⟨nd, rfl⟩⟩; (try exact zDr))); go_upto_if 62 with (first | (go_at_call 36; (with_reducible refine (cooperageref8_odd.calls kj10 (rdOf ByteArray.empty t458 x7_3) t468 _ A29.out).mono ?_); rintro e w' ⟨rfl, ⟨nd, rfl⟩⟩; (try exact zDr))))
          (try simp only [Act.put, List.setIfInBounds_toArray, List.set_cons_zero, List.set_cons_succ])
          go_cut [9] (fun v9 wc => ∃ (kq : Nat) (x9_29 : ByteArray), v9 = .string x9_29 ∧ Aside0 (cooperageref8_Lex.j4 kq t458 x6_1 x7_3 (wrap64 (x7_1 + 1)) x9_29 x10_5 = some (r1, r2, r3)) ∧ Aside0 (kq ≤ kj10) ∧ Aside0 (Kd.R Kd.string 9 wc w.heap.size (fun _ => True) (.slice (some ad461) t458.length co7) t458) ∧ Aside0 (Kd.R k53 53 wc w.heap.size (fun _ => True) u6 x6_1) ∧ Aside0 (Below w.heap.size w wc))
          case first =>
           have H := HC30.out
           clear HC30
           by_cases c31 : t468 = true
           ·subst c31
            rw [if_pos rfl] at H
            obtain ⟨ji32, hji32⟩ : ∃ j_ : Int, (wrap64 ((x9_3.size : Int) - 1)) = j_ := ⟨_, rfl⟩
            replace H : (if 0 ≤ (ji32) then (if (ji32) ≤ (x9_3.size : Int) then (cooperageref8_Lex.j4 kj10 t458 x6_1 x7_3 (wrap64 (x7_1 + 1)) (x9_3.extract 0 ((ji32) : Int).toNat) x10_5) else (none)) else (none)) = some (r1, r2, r3) := by first | (rw [hji32] at H; exact H) | (simp only [hji32] at H ⊢; exact H)
            have hji32w : (IntKind.i64.wrap ((x9_3.size : Int) - 1)) = ji32 := (i64_w _).trans hji32
            replace H := zif H
            obtain ⟨c33, H⟩ := H
            have c33b0 := eq_true c33
            have c33b1 := zdt c33
            clear c33
            replace H := zif H
            obtain ⟨c34, H⟩ := H
            have c34b0 := eq_true c34
            have c34b1 := zdt c34
            clear c34
            have H' := ka H
            clear H
            go_wp2
            repeat (go_quiet (fail); try go_wp2)
            go_meet
            case rel => exact ⟨_, (x9_3.extract 0 ((ji32) : Int).toNat), (by first | rfl | (simp; done) | (simp only [← hji32] <;> (first | rfl | simp)) | (simp [*]; done)), H', ⟨by have := HK1.out; have := HJ5.out; have := HK3.out; have := HJ10.out; first | omega | exact Nat.le_refl _⟩, ⟨zR HO_5.out⟩, ⟨zR HO_6.out⟩, ⟨zL HB.out⟩⟩
           replace c31 := Bool.eq_false_iff.mpr c31
           subst c31
           rw [if_neg (show ¬ (false = true) by decide)] at H
           have H' := ka H
           clear H
           go_wp2
           repeat (go_quiet (fail); try go_wp2)
           go_meet
           case rel => exact ⟨_, (x9_3), zS, H', ⟨by have := HK1.out; have := HJ5.out; have := HK3.out; have := HJ10.out; first | omega | exact Nat.le_refl _⟩, ⟨zR HO_5.out⟩, ⟨zR HO_6.out⟩, ⟨zL HB.out⟩⟩
          case rest =>
           clear HC30
           try clear c4
           try clear c4b0
           try clear c5
           try clear c5b0
           try clear c16
           try clear c27
           try clear c27b0
           try clear c28
           try clear c28b0
           try clear hx461_0
           try clear hx467_0
           try clear p461
           try clear p467
           try clear q461
           try clear q467
           obtain ⟨kq, x9_29, rfl, HA, HJ29, HO_5, HO_6, HB⟩ := hcut
           cases kq with
           | zero => exact absurd HA.out (by simp [cooperageref8_Lex.j4])
           | succ kj29 =>
            have H := HA.out
            clear HA
            simp only [cooperageref8_Lex.j4] at H
            have HC35 := ka H
            clear H
            go_upto_if 71 with (fail)
            repeat (go_quiet (fail); go_upto_if 71 with (fail))
            go_cut [9] (fun v9 wc => ∃ (kq : Nat) (x9_34 : ByteArray), v9 = .string x9_34 ∧ Aside0 (cooperageref8_Lex.j5 kq t458 x6_1 (wrap64 (x7_3 + 1)) (wrap64 (x7_1 + 1)) x9_34 x10_5 = some (r1, r2, r3)) ∧ Aside0 (kq ≤ kj29) ∧ Aside0 (Kd.R Kd.string 9 wc w.heap.size (fun _ => True) (.slice (some ad461) t458.length co7) t458) ∧ Aside0 (Kd.R k53 53 wc w.heap.size (fun _ => True) u6 x6_1) ∧ Aside0 (Below w.heap.size w wc))
            case first =>
             have H := HC35.out
             clear HC35
             by_cases c36 : x10_5 = true
             ·subst c36
              rw [if_pos rfl] at H
              have H' := ka H
              clear H
              go_wp2
              repeat (go_quiet (fail); try go_wp2)
              go_meet
              case rel => exact ⟨_, (x9_29), zS, H', ⟨by have := HK1.out; have := HJ5.out; have := HK3.out; have := HJ10.out; have := HJ29.out; first | omega | exact Nat.le_refl _⟩, ⟨zR HO_5.out⟩, ⟨zR HO_6.out⟩, ⟨zL HB.out⟩⟩
             replace c36 := Bool.eq_false_iff.mpr c36
             subst c36
             rw [if_neg (show ¬ (false = true) by decide)] at H
             replace H := Option.bind_eq_some_iff.mp H
             obtain ⟨t469, A370, H⟩ := H
             try dsimp only at H
             have A37 := ka A370
             clear A370
             have H' := ka H
             clear H
             have F_ := trivial
             repeat ((first | clear F_ | go_quiet (first | (go_at_call 39; (with_reducible refine (cooperageref8_bare.calls kj29 x9_29 t469 _ A37.out).mono ?_); rintro e w' ⟨rfl, ⟨nd, rfl⟩⟩; (try exact zDr)))); try go_wp2_with (first | (go_at_call 39; (with_reducible refine (cooperageref8_bare.calls kj29 x9_29 t469 _ A37.out).mono ?_); rintro e w' ⟨rfl, ⟨nd, rfl⟩⟩; (try exact zDr))))
             go_meet
             case rel => exact ⟨_, (t469), zS, H', ⟨by have := HK1.out; have := HJ5.out; have := HK3.out; have := HJ10.out; have := HJ29.out; first | omega | exact Nat.le_refl _⟩, ⟨zR HO_5.out⟩, ⟨zR HO_6.out⟩, ⟨zL HB.out⟩⟩
            case rest =>
             clear HC35
             try clear c4
             try clear c4b0
             try clear c5
             try clear c5b0
             try clear c16
             try clear c27
             try clear c27b0
             try clear c28
             try clear c28b0
             try clear hx461_0
             try clear hx467_0
             try clear p461
             try clear p467
             try clear q461
             try clear q467
             obtain ⟨kq, x9_34, rfl, HA, HJ34, HO_5, HO_6, HB⟩ := hcut
             cases kq with
             | zero => exact absurd HA.out (by simp [cooperageref8_Lex.j5])
             | succ kj34 =>
              have H := HA.out
              clear HA
              simp only [cooperageref8_Lex.j5] at H
              replace H := Option.bind_eq_some_iff.mp H
              obtain ⟨t470, A380, H⟩ := H
              try dsimp only at H
              have A38 := ka A380
              clear A380
              by_cases c39 : t470.toList = ([] : List UInt8)
              ·rw [if_pos c39] at H
               have c39b0 := zb0 c39
               have c39b1 := zb1 c39
               clear c39
               have H' := ka H
               clear H
               have F_ := trivial
               repeat ((first | clear F_ | go_quiet (first | (go_at_call 40; (with_reducible refine (cooperageref1_Trim.calls kj34 x9_34 t470 _ A38.out).mono ?_); rintro e w' ⟨rfl, ⟨nd, rfl⟩⟩; (try exact zDr)))); try go_wp2_with (first | (go_at_call 40; (with_reducible refine (cooperageref1_Trim.calls kj34 x9_34 t470 _ A38.out).mono ?_); rintro e w' ⟨rfl, ⟨nd, rfl⟩⟩; (try exact zDr))))
               go_roundg kj34
               case measure => have := HK1.out; have := HJ5.out; have := HK3.out; have := HJ10.out; have := HJ29.out; have := HJ34.out; omega
               case rel => exact ⟨(x6_1), ((wrap64 (x7_3 + 1))), zS, H', ⟨by have := HK1.out; have := HJ5.out; have := HK3.out; have := HJ10.out; have := HJ29.out; have := HJ34.out; omega⟩, ⟨zR HO_5.out⟩, ⟨zR HO_6.out⟩, ⟨zL HB.out⟩⟩
              rw [if_neg c39] at H
              have c39b0 := zn0 c39
              have c39b1 := zn1 c39
              by_cases c40 : (t470.size : Int) > 1000
              ·rw [if_pos c40] at H
               have c40b0 : decide (1000 < (t470.size : Int)) = true := zdt c40
               have c40b1 : decide (1000 < t470.size) = true := decide_eq_true (by omega)
               clear c40
               replace H := zs3 H
               obtain ⟨rfl, rfl, rfl⟩ := H
               have F_ := trivial
               repeat ((first | clear F_ | go_quiet (first | (go_at_call 40; (with_reducible refine (cooperageref1_Trim.calls kj34 x9_34 t470 _ A38.out).mono ?_); rintro e w' ⟨rfl, ⟨nd, rfl⟩⟩; (try exact zDr)))); try go_wp2_with (first | (go_at_call 40; (with_reducible refine (cooperageref1_Trim.calls kj34 x9_34 t470 _ A38.out).mono ?_); rintro e w' ⟨rfl, ⟨nd, rfl⟩⟩; (try exact zDr))))
               go_ret3
               exact ⟨_, zE, zNl, zL HB.out⟩
              rw [if_neg c40] at H
              have c40b0 : decide (1000 < (t470.size : Int)) = false := zdf c40
              have c40b1 : decide (1000 < t470.size) = false := decide_eq_false (by omega)
              clear c40
              by_cases c41 : (x6_1.length : Int) ≥ 300
              ·rw [if_pos c41] at H
               have c41b0 : decide (300 ≤ (x6_1.length : Int)) = true := zdt c41
               have c41b1 : decide (300 ≤ x6_1.length) = true := decide_eq_true (by omega)
               clear c41
               replace H := zs3 H
               obtain ⟨rfl, rfl, rfl⟩ := H
               have F_ := trivial
               repeat ((first | clear F_ | go_quiet (first | (go_at_call 40; (with_reducible refine (cooperageref1_Trim.calls kj34 x9_34 t470 _ A38.out).mono ?_); rintro e w' ⟨rfl, ⟨nd, rfl⟩⟩; (try exact zDr); obtain ⟨Ao42, co42, eo42⟩ := Kd.R_slice HO_6.out; subst eo42))); try go_wp2_with (first | (go_at_call 40; (with_reducible refine (cooperageref1_Trim.calls kj34 x9_34 t470 _ A38.out).mono ?_); rintro e w' ⟨rfl, ⟨nd, rfl⟩⟩; (try exact zDr); obtain ⟨Ao42, co42, eo42⟩ := Kd.R_slice HO_6.out; subst eo42)))
               go_ret3
               exact ⟨_, zE, zNl, zL HB.out⟩
              rw [if_neg c41] at H
              have c41b0 : decide (300 ≤ (x6_1.length : Int)) = false := zdf c41
              have c41b1 : decide (300 ≤ x6_1.length) = false := decide_eq_false (by omega)
              clear c41
              replace H := zif H
              obtain ⟨c43, H⟩ := H
              have LMc43 := ka c43
              clear c43
              obtain ⟨y471, hy471⟩ : ∃ y_ : List (S53), y_ = (x6_1 ++ [(⟨(wrap64 (x7_1 + 1)), x10_5, t470⟩ : S53)]) := ⟨_, rfl⟩
              replace H : (cooperageref8_Lex.l0 kj34 t458 y471 (wrap64 (x7_3 + 1))) = some (r1, r2, r3) := zH hy471 H
              have Ny471 := ka hy471
              clear hy471
              have H' := ka H
              clear H
              have F_ := trivial
              repeat ((first | clear F_ | go_quiet (first | (go_at_call 40; (with_reducible refine (cooperageref1_Trim.calls kj34 x9_34 t470 _ A38.out).mono ?_); rintro e w' ⟨rfl, ⟨nd, rfl⟩⟩; (try exact zDr); obtain ⟨Ao44, co44, eo44⟩ := Kd.R_slice HO_6.out; subst eo44))); try go_wp2_with (first | (go_at_call 40; (with_reducible refine (cooperageref1_Trim.calls kj34 x9_34 t470 _ A38.out).mono ?_); rintro e w' ⟨rfl, ⟨nd, rfl⟩⟩; (try exact zDr); obtain ⟨Ao44, co44, eo44⟩ := Kd.R_slice HO_6.out; subst eo44) | ((with_reducible refine gate_builtin (b := .append) (xs := #[.tmp 87, .tmp 92]) rfl ?_); (try (refine gate_guard (by rfl) ?_; dsimp only)); at_builtin; refine Kd.R_append k53 (w0 := w) w.heap.size rfl (.tmp 87) (.tmp 92) 24 53 (.agg #[(.int .i64 0), (.bool false), (.string ⟨#[]⟩)]) 32 rfl Tryd.underlying24 info53 rfl (by decide) (by omega) (.slice Ao44 x6_1.length co44) x6_1 (⟨(wrap64 (x7_1 + 1)), x10_5, t470⟩ : S53) [.int .i64 (wrap64 (x7_1 + 1)), .bool x10_5, .string t470] (fun _ => True) (fun _ => False) rfl rfl ?aP (fun _ hk => hk.elim) ?aF ?aO ?aB ?aS ?aL ?_; (case aP => exact k53_mkM _ _ _ (⟨(wrap64 (x7_1 + 1)), x10_5, t470⟩ : S53)); (case aB => exact (zL HB.out)); (case aF => exact (fun _ _ => trivial)); (case aO => exact (zR HO_6.out)); (case aS => exact (below_size (zL HB.out))); (case aL => have := LMc43.out; omega); intro v472 w45 ho hb hg hat; rw [← Ny471.out] at ho; replace HO_5 := ka (Kd.R_over' (zR HO_5.out) (Kd.R_typed (zR HO_6.out)) (by decide) hg); replace HB := ka (hb); have HO473 := ka (ho); clear HO_6; clear ho hb hg hat)))
              go_roundg kj34
              case measure => have := HK1.out; have := HJ5.out; have := HK3.out; have := HJ10.out; have := HJ29.out; have := HJ34.out; omega
              case rel => exact ⟨(y471), ((wrap64 (x7_3 + 1))), zS, H', ⟨by have := HK1.out; have := HJ5.out; have := HK3.out; have := HJ10.out; have := HJ29.out; have := HJ34.out; omega⟩, ⟨zR HO_5.out⟩, ⟨zR HO473.out⟩, ⟨zL HB.out⟩⟩
   rw [if_neg c4] at H
   have c4b0 := zdf c4
   clear c4
   replace H := zs3 H
   obtain ⟨rfl, rfl, rfl⟩ := H
   obtain ⟨Ao46, co46, eo46⟩ := Kd.R_slice HO_5.out
   subst eo46
   go_wp2
   repeat (go_quiet (fail); try go_wp2)
   go_ret3
   exact ⟨_, zE, by (with_reducible repeat (first | apply Kd.R_alloc | apply Kd.R_drewN | apply Kd.R_drew)); exact HO_6.out, zL HB.out⟩

end Go.Proofs.YthnholondnfjoaaDoor.PParse
