-- Written by a program of this session (wip/tools/ext.py, over the kit's printer); not trusted: Lean checks it.
import Derived.Test.YthnholondnfjoaaDoorPParsex0
import Derived.Test.YthnholondnfjoaaDoorPParsex2
import Derived.Test.YthnholondnfjoaaDoorPParsex7
import Derived.Test.YthnholondnfjoaaDoorPParsex10
namespace Go.Proofs.YthnholondnfjoaaDoor.PParse
open Go.RowKit Go.Proofs.YthnholondnfjoaaDoorW.PrintWords Go.Proofs.YthnholondnfjoaaDoorW.PrintLast Go.Proofs.YthnholondnfjoaaDoorW.PrintMore
attribute [local go_sem] max2_int min2_int max_two min_two max_three min_three max_four min_four   -- for this text's walks alone
set_option linter.unusedVariables false
set_option linter.unusedSimpArgs false

/-! ### cooperagelaw9_ParseCuts: function 4 -/
mutual
def cooperagelaw9_ParseCuts.j0 : Nat → ByteArray → List ByteArray → Bool → Bool → Option (Bool)
 | 0, _, _, _, _ => none
 | k + 1, x0, x1, x5, x25 => if x25 = true then (some x5) else (cooperagelaw9_ParseCuts.l0 k x0 x1 0)
def cooperagelaw9_ParseCuts.l0 : Nat → ByteArray → List ByteArray → Int → Option (Bool)
 | 0, _, _, _ => none
 | k + 1, x0, x1, x6 => if x6 < (x1.length : Int) then (if 0 ≤ x6 then (if ((rdOf ByteArray.empty x1 x6).size : Int) > 20 then (some true) else (cooperagelaw9_ParseCuts.l0 k x0 x1 (wrap64 (x6 + 1)))) else (none)) else ((parse_Cut.f k x0 x1).bind fun bt341 => ((cooperageref9_Cut.f k x0 x1).bind fun bt344 => (if bt341.1.toList = bt344.1.toList then (if bt341.2.1.toList = bt344.2.1.toList then (some (bt341.2.2.toList == bt344.2.2.toList)) else (some false)) else (some false))))
end
def cooperagelaw9_ParseCuts.f (k : Nat) (a0 : ByteArray) (l1 : List ByteArray) : Option (Bool) := (cooperagelaw9_shown.f k).bind fun t339 => (if t339 = true then (if (a0.size : Int) > 1000 then (cooperagelaw9_ParseCuts.j0 k a0 l1 t339 true) else (cooperagelaw9_ParseCuts.j0 k a0 l1 t339 (decide ((l1.length : Int) > 10)))) else (cooperagelaw9_ParseCuts.j0 k a0 l1 t339 true))
theorem cooperagelaw9_ParseCuts.mono_l : ∀ k, (∀ y0 y1 y2 y3, LeO (cooperagelaw9_ParseCuts.j0 k y0 y1 y2 y3) (cooperagelaw9_ParseCuts.j0 (k + 1) y0 y1 y2 y3)) ∧ (∀ y0 y1 y2, LeO (cooperagelaw9_ParseCuts.l0 k y0 y1 y2) (cooperagelaw9_ParseCuts.l0 (k + 1) y0 y1 y2))
 | 0 => ⟨fun _ _ _ _ r h => by simp [cooperagelaw9_ParseCuts.j0] at h, fun _ _ _ r h => by simp [cooperagelaw9_ParseCuts.l0] at h⟩
 | k + 1 => by
  obtain ⟨ih0, ih1⟩ := cooperagelaw9_ParseCuts.mono_l k
  refine ⟨?_, ?_⟩
  ·intro y0 y1 y2 y3
   unfold cooperagelaw9_ParseCuts.j0
   repeat' first
   | (with_reducible exact ih0 _ _ _ _)
   | (with_reducible exact ih1 _ _ _)
   | (with_reducible exact cooperagelaw9_shown.mono _)
   | (with_reducible exact cooperageref9_Cut.mono _ _ _)
   | (with_reducible exact parse_Cut.mono _ _ _)
   | (with_reducible exact LeO.refl _)
   | (with_reducible exact LeO.none _)
   | (with_reducible refine LeO.ite ?_ ?_)
   | (with_reducible refine LeO.bind ?_ (fun _ => ?_))
   | exact ih0 _ _ _ _
   | exact ih1 _ _ _
   | exact cooperagelaw9_shown.mono _
   | exact cooperageref9_Cut.mono _ _ _
   | exact parse_Cut.mono _ _ _
   | exact LeO.none _
   | refine LeO.ite ?_ ?_
   | refine LeO.bind ?_ (fun _ => ?_)
  ·intro y0 y1 y2
   unfold cooperagelaw9_ParseCuts.l0
   repeat' first
   | (with_reducible exact ih0 _ _ _ _)
   | (with_reducible exact ih1 _ _ _)
   | (with_reducible exact cooperagelaw9_shown.mono _)
   | (with_reducible exact cooperageref9_Cut.mono _ _ _)
   | (with_reducible exact parse_Cut.mono _ _ _)
   | (with_reducible exact LeO.refl _)
   | (with_reducible exact LeO.none _)
   | (with_reducible refine LeO.ite ?_ ?_)
   | (with_reducible refine LeO.bind ?_ (fun _ => ?_))
   | exact ih0 _ _ _ _
   | exact ih1 _ _ _
   | exact cooperagelaw9_shown.mono _
   | exact cooperageref9_Cut.mono _ _ _
   | exact parse_Cut.mono _ _ _
   | exact LeO.none _
   | refine LeO.ite ?_ ?_
   | refine LeO.bind ?_ (fun _ => ?_)
theorem cooperagelaw9_ParseCuts.mono : ∀ a0 a1 k, LeO (cooperagelaw9_ParseCuts.f k a0 a1) (cooperagelaw9_ParseCuts.f (k + 1) a0 a1) := by
 intro a0 a1 k
 obtain ⟨ih0, ih1⟩ := cooperagelaw9_ParseCuts.mono_l k
 unfold cooperagelaw9_ParseCuts.f
 repeat' first
   | (with_reducible exact ih0 _ _ _ _)
   | (with_reducible exact ih1 _ _ _)
   | (with_reducible exact cooperagelaw9_shown.mono _)
   | (with_reducible exact cooperageref9_Cut.mono _ _ _)
   | (with_reducible exact parse_Cut.mono _ _ _)
   | (with_reducible exact LeO.refl _)
   | (with_reducible exact LeO.none _)
   | (with_reducible refine LeO.ite ?_ ?_)
   | (with_reducible refine LeO.bind ?_ (fun _ => ?_))
   | exact ih0 _ _ _ _
   | exact ih1 _ _ _
   | exact cooperagelaw9_shown.mono _
   | exact cooperageref9_Cut.mono _ _ _
   | exact parse_Cut.mono _ _ _
   | exact LeO.none _
   | refine LeO.ite ?_ ?_
   | refine LeO.bind ?_ (fun _ => ?_)
set_option maxHeartbeats 8000000 in
set_option maxRecDepth 100000 in
theorem cooperagelaw9_ParseCuts.calls (k : Nat) (a0 : ByteArray) (A1 : Option Addr) (c1 : Nat) (l1 : List ByteArray) (r : Bool) (w : World) (hr1 : Kd.C Kd.string w A1 l1.length l1) (hc1 : l1.length ≤ c1) (h : cooperagelaw9_ParseCuts.f k a0 l1 = some r) :
  Calls Tryd.prog 4 #[.string a0, .slice A1 l1.length c1] w fun e w' => e = .returned (.bool r) ∧ Below w.heap.size w w' := by
 have HR1 := Aside0.mk hr1
 have HC1 := Aside0.mk hc1
 clear hr1 hc1
 have HB := Aside0.mk (Below.refl w.heap.size w)
 have H : ((cooperagelaw9_shown.f k).bind fun t339 => (if t339 = true then (if (a0.size : Int) > 1000 then (cooperagelaw9_ParseCuts.j0 k a0 l1 t339 true) else (cooperagelaw9_ParseCuts.j0 k a0 l1 t339 (decide ((l1.length : Int) > 10)))) else (cooperagelaw9_ParseCuts.j0 k a0 l1 t339 true))) = some r := h
 clear h
 replace H := Option.bind_eq_some_iff.mp H
 obtain ⟨t339, A30, H⟩ := H
 replace H : (if t339 = true then (if (a0.size : Int) > 1000 then (cooperagelaw9_ParseCuts.j0 k a0 l1 t339 true) else (cooperagelaw9_ParseCuts.j0 k a0 l1 t339 (decide ((l1.length : Int) > 10)))) else (cooperagelaw9_ParseCuts.j0 k a0 l1 t339 true)) = some r := H
 have A3 := Aside0.mk A30
 clear A30
 have HC4 := Aside0.mk H
 clear H
 go_enter Tryd.func4, Tryd.ntmps4
 go_upto_region 2 with (first | ((with_reducible refine gate_callee (f := 10) rfl ?_); refine goesL_ (some 13) rfl rfl Tryd.func10 (by kernel_rfl) rfl #[] rfl zA ?_; (with_reducible refine (cooperagelaw9_shown.calls k  t339 _ A3.out).mono ?_); rintro e w5 ⟨rfl, hb⟩; refine ⟨_, rfl, ?_⟩; have n0_ := Aside0.mk (below_step (zL HB.out) hb); revert n0_; clear HB; intro HB; (try clear hb); (try clear hb2); (try clear hk); (try clear hi)))
 (try simp only [Act.put, List.setIfInBounds_toArray, List.set_cons_zero, List.set_cons_succ])
 go_cut [25] (fun v25 wc => ∃ (kq : Nat) (x25_3 : Bool), v25 = .bool x25_3 ∧ Aside0 (cooperagelaw9_ParseCuts.j0 kq a0 l1 t339 x25_3 = some r) ∧ Aside0 (kq ≤ k) ∧ Aside0 (Below w.heap.size w wc))
 case first =>
  have H := HC4.out
  clear HC4
  by_cases c6 : t339 = true
  ·subst c6
   have H1 : (if (a0.size : Int) > 1000 then (cooperagelaw9_ParseCuts.j0 k a0 l1 true true) else (cooperagelaw9_ParseCuts.j0 k a0 l1 true (decide ((l1.length : Int) > 10)))) = some r := by rw [if_pos rfl] at H; exact H
   clear H
   have H := H1
   clear H1
   by_cases c7 : (a0.size : Int) > 1000
   ·rw [if_pos c7] at H
    have c7b0 : decide (1000 < (a0.size : Int)) = true := decide_eq_true c7
    have c7b1 : decide (1000 < a0.size) = true := decide_eq_true (by omega)
    clear c7
    (first | rw [c7b0] | (simp only [i64_w, i32_w]; rw [c7b0]) | skip)
    have H' := Aside0.mk H
    clear H
    go_wp2
    go_meet
    case rel => exact ⟨_, (true), zS, H', ⟨by first | omega | exact Nat.le_refl _⟩, ⟨zL HB.out⟩⟩
   ·rw [if_neg c7] at H
    have c7b0 : decide (1000 < (a0.size : Int)) = false := decide_eq_false c7
    have c7b1 : decide (1000 < a0.size) = false := decide_eq_false (by omega)
    clear c7
    (first | rw [c7b0] | (simp only [i64_w, i32_w]; rw [c7b0]) | skip)
    have H' := Aside0.mk H
    clear H
    go_wp2
    go_meet
    case rel => exact ⟨_, (decide ((l1.length : Int) > 10)), zS, H', ⟨by first | omega | exact Nat.le_refl _⟩, ⟨zL HB.out⟩⟩
  ·replace c6 := Bool.eq_false_iff.mpr c6
   subst c6
   have H1 : (cooperagelaw9_ParseCuts.j0 k a0 l1 false true) = some r := by rw [if_neg (show ¬ (false = true) by decide)] at H; exact H
   clear H
   have H := H1
   clear H1
   have H' := Aside0.mk H
   clear H
   go_wp2
   go_meet
   case rel => exact ⟨_, (true), zS, H', ⟨by first | omega | exact Nat.le_refl _⟩, ⟨zL HB.out⟩⟩
 case rest =>
  clear HC4
  try clear c1
  try clear p2
  try clear c4
  try clear c6
  try clear c7
  try clear c7b0
  try clear c7b1
  obtain ⟨kq, x25_3, rfl, HA, HJ3, HB⟩ := hcut
  cases kq with
  | zero => exact absurd HA.out (by simp [cooperagelaw9_ParseCuts.j0])
  | succ kj3 =>
   have H := HA.out
   clear HA
   simp only [cooperagelaw9_ParseCuts.j0] at H
   by_cases c8 : x25_3 = true
   ·subst c8
    have H1 : (some t339) = some r := by rw [if_pos rfl] at H; exact H
    clear H
    have H := H1
    clear H1
    obtain rfl := Option.some.inj H
    go_wp2
    go_ret
    exact ⟨zE, zL HB.out⟩
   ·replace c8 := Bool.eq_false_iff.mpr c8
    subst c8
    have H1 : (cooperagelaw9_ParseCuts.l0 kj3 a0 l1 0) = some r := by rw [if_neg (show ¬ (false = true) by decide)] at H; exact H
    clear H
    have H := H1
    clear H1
    have H' := Aside0.mk H
    clear H
    go_wp2
    go_loopg [6] kj3 (fun kq v6 w' => ∃ (x6_2 : Int), v6 = .int .i64 x6_2 ∧ Aside0 (cooperagelaw9_ParseCuts.l0 kq a0 l1 x6_2 = some r) ∧ Aside0 (kq ≤ kj3) ∧ Aside0 (Below w.heap.size w w'))
    case atStart => exact ⟨(0), zS, H', ⟨Nat.le_refl _⟩, ⟨zL HB.out⟩⟩
    case round =>
     clear H'
     try clear c1
     try clear p2
     try clear c4
     try clear c6
     try clear c7
     try clear c7b0
     try clear c7b1
     try clear c8
     try clear p2
     obtain ⟨x6_2, rfl, HA, HK2, HB⟩ := hrel
     cases gk with
     | zero => exact absurd HA.out (by simp [cooperagelaw9_ParseCuts.l0])
     | succ k2 =>
      have H := HA.out
      clear HA
      simp only [cooperagelaw9_ParseCuts.l0] at H
      by_cases c9 : x6_2 < (l1.length : Int)
      ·rw [if_pos c9] at H
       have c9b0 : decide (x6_2 < (l1.length : Int)) = true := decide_eq_true c9
       clear c9
       by_cases c10 : 0 ≤ x6_2
       ·rw [if_pos c10] at H
        have c10b0 : decide (0 ≤ x6_2) = true := decide_eq_true c10
        clear c10
        by_cases c11 : ((rdOf ByteArray.empty l1 x6_2).size : Int) > 20
        ·rw [if_pos c11] at H
         have c11b0 : decide (20 < ((rdOf ByteArray.empty l1 x6_2).size : Int)) = true := decide_eq_true c11
         have c11b1 : decide (20 < (rdOf ByteArray.empty l1 x6_2).size) = true := decide_eq_true (by omega)
         clear c11
         obtain rfl := Option.some.inj H
         have p340 : 0 ≤ (x6_2 : Int) := zD
         have q340 : x6_2 < (l1.length : Int) := zD
         obtain ⟨ad340, e340, hx340_0⟩ := Kd.at_string HR1.out x6_2 p340 q340
         cases e340
         replace hx340_0 := zX HB.out hx340_0
         replace p340 := eq_true p340
         replace q340 := eq_true q340
         go_wp2
         go_ret
         exact ⟨zE, zL HB.out⟩
        ·rw [if_neg c11] at H
         have c11b0 : decide (20 < ((rdOf ByteArray.empty l1 x6_2).size : Int)) = false := decide_eq_false c11
         have c11b1 : decide (20 < (rdOf ByteArray.empty l1 x6_2).size) = false := decide_eq_false (by omega)
         clear c11
         have H' := Aside0.mk H
         clear H
         have p340 : 0 ≤ (x6_2 : Int) := zD
         have q340 : x6_2 < (l1.length : Int) := zD
         obtain ⟨ad340, e340, hx340_0⟩ := Kd.at_string HR1.out x6_2 p340 q340
         cases e340
         replace hx340_0 := zX HB.out hx340_0
         replace p340 := eq_true p340
         replace q340 := eq_true q340
         go_wp2
         go_roundg k2
         case measure => have := HJ3.out; have := HK2.out; omega
         case rel => exact ⟨(wrap64 (x6_2 + 1)), zS, H', ⟨by have := HJ3.out; have := HK2.out; omega⟩, ⟨zL HB.out⟩⟩
       ·rw [if_neg c10] at H
        exact absurd H (by simp)
      ·rw [if_neg c9] at H
       have c9b0 : decide (x6_2 < (l1.length : Int)) = false := decide_eq_false c9
       clear c9
       replace H := Option.bind_eq_some_iff.mp H
       obtain ⟨⟨t341, t342, t343⟩, A120, H⟩ := H
       replace H : ((cooperageref9_Cut.f k2 a0 l1).bind fun bt344 => (if t341.toList = bt344.1.toList then (if t342.toList = bt344.2.1.toList then (some (t343.toList == bt344.2.2.toList)) else (some false)) else (some false))) = some r := H
       have A12 := Aside0.mk A120
       clear A120
       replace H := Option.bind_eq_some_iff.mp H
       obtain ⟨⟨t344, t345, t346⟩, A130, H⟩ := H
       replace H : (if t341.toList = t344.toList then (if t342.toList = t345.toList then (some (t343.toList == t346.toList)) else (some false)) else (some false)) = some r := H
       have A13 := Aside0.mk A130
       clear A130
       by_cases c14 : t341.toList = t344.toList
       ·rw [if_pos c14] at H
        have c14b0 : (t341.toList == t344.toList) = true := beq_iff_eq.mpr c14
        have c14b1 : (t341.toList != t344.toList) = false := bne_eq_false_iff_eq.mpr c14
        clear c14
        by_cases c15 : t342.toList = t345.toList
        ·rw [if_pos c15] at H
         have c15b0 : (t342.toList == t345.toList) = true := beq_iff_eq.mpr c15
         have c15b1 : (t342.toList != t345.toList) = false := bne_eq_false_iff_eq.mpr c15
         clear c15
         obtain rfl := Option.some.inj H
         go_wp2_with (first | ((with_reducible refine gate_callee (f := 17) rfl ?_); refine goesL_ (some 42) rfl rfl Tryd.func17 (by kernel_rfl) rfl #[.string a0, .slice A1 l1.length c1] rfl zA ?_; (with_reducible refine (parse_Cut.calls k2 a0 _ _ l1 t341 t342 t343 _ ?side1 ?side2 A12.out).mono ?_); (case side1 => repeat (first | exact (Kd.C_below HR1.out HB.out) | (with_reducible refine Kd.C_alloc ?_ _) | (with_reducible refine Kd.C_drewN ?_ _) | (with_reducible refine Kd.C_drew ?_))); (case side2 => exact HC1.out); rintro e w16 ⟨rfl, hb⟩; refine ⟨_, rfl, ?_⟩; have n0_ := Aside0.mk (below_step (zL HB.out) hb); revert n0_; clear HB; intro HB; (try clear hb); (try clear hb2); (try clear hk); (try clear hi)) | ((with_reducible refine gate_callee (f := 18) rfl ?_); refine goesL_ (some 49) rfl rfl Tryd.func18 (by kernel_rfl) rfl #[.string a0, .slice A1 l1.length c1] rfl zA ?_; (with_reducible refine (cooperageref9_Cut.calls k2 a0 _ _ l1 t344 t345 t346 _ ?side1 ?side2 A13.out).mono ?_); (case side1 => repeat (first | exact (Kd.C_below HR1.out HB.out) | (with_reducible refine Kd.C_alloc ?_ _) | (with_reducible refine Kd.C_drewN ?_ _) | (with_reducible refine Kd.C_drew ?_))); (case side2 => exact HC1.out); rintro e w17 ⟨rfl, hb⟩; refine ⟨_, rfl, ?_⟩; have n0_ := Aside0.mk (below_step (zL HB.out) hb); revert n0_; clear HB; intro HB; (try clear hb); (try clear hb2); (try clear hk); (try clear hi)))
         go_ret
         exact ⟨zE, zL HB.out⟩
        ·rw [if_neg c15] at H
         have c15b0 : (t342.toList == t345.toList) = false := beq_eq_false_iff_ne.mpr c15
         have c15b1 : (t342.toList != t345.toList) = true := bne_iff_ne.mpr c15
         obtain rfl := Option.some.inj H
         go_wp2_with (first | ((with_reducible refine gate_callee (f := 17) rfl ?_); refine goesL_ (some 42) rfl rfl Tryd.func17 (by kernel_rfl) rfl #[.string a0, .slice A1 l1.length c1] rfl zA ?_; (with_reducible refine (parse_Cut.calls k2 a0 _ _ l1 t341 t342 t343 _ ?side1 ?side2 A12.out).mono ?_); (case side1 => repeat (first | exact (Kd.C_below HR1.out HB.out) | (with_reducible refine Kd.C_alloc ?_ _) | (with_reducible refine Kd.C_drewN ?_ _) | (with_reducible refine Kd.C_drew ?_))); (case side2 => exact HC1.out); rintro e w18 ⟨rfl, hb⟩; refine ⟨_, rfl, ?_⟩; have n0_ := Aside0.mk (below_step (zL HB.out) hb); revert n0_; clear HB; intro HB; (try clear hb); (try clear hb2); (try clear hk); (try clear hi)) | ((with_reducible refine gate_callee (f := 18) rfl ?_); refine goesL_ (some 49) rfl rfl Tryd.func18 (by kernel_rfl) rfl #[.string a0, .slice A1 l1.length c1] rfl zA ?_; (with_reducible refine (cooperageref9_Cut.calls k2 a0 _ _ l1 t344 t345 t346 _ ?side1 ?side2 A13.out).mono ?_); (case side1 => repeat (first | exact (Kd.C_below HR1.out HB.out) | (with_reducible refine Kd.C_alloc ?_ _) | (with_reducible refine Kd.C_drewN ?_ _) | (with_reducible refine Kd.C_drew ?_))); (case side2 => exact HC1.out); rintro e w19 ⟨rfl, hb⟩; refine ⟨_, rfl, ?_⟩; have n0_ := Aside0.mk (below_step (zL HB.out) hb); revert n0_; clear HB; intro HB; (try clear hb); (try clear hb2); (try clear hk); (try clear hi)))
         go_ret
         exact ⟨zE, zL HB.out⟩
       ·rw [if_neg c14] at H
        have c14b0 : (t341.toList == t344.toList) = false := beq_eq_false_iff_ne.mpr c14
        have c14b1 : (t341.toList != t344.toList) = true := bne_iff_ne.mpr c14
        obtain rfl := Option.some.inj H
        go_wp2_with (first | ((with_reducible refine gate_callee (f := 17) rfl ?_); refine goesL_ (some 42) rfl rfl Tryd.func17 (by kernel_rfl) rfl #[.string a0, .slice A1 l1.length c1] rfl zA ?_; (with_reducible refine (parse_Cut.calls k2 a0 _ _ l1 t341 t342 t343 _ ?side1 ?side2 A12.out).mono ?_); (case side1 => repeat (first | exact (Kd.C_below HR1.out HB.out) | (with_reducible refine Kd.C_alloc ?_ _) | (with_reducible refine Kd.C_drewN ?_ _) | (with_reducible refine Kd.C_drew ?_))); (case side2 => exact HC1.out); rintro e w20 ⟨rfl, hb⟩; refine ⟨_, rfl, ?_⟩; have n0_ := Aside0.mk (below_step (zL HB.out) hb); revert n0_; clear HB; intro HB; (try clear hb); (try clear hb2); (try clear hk); (try clear hi)) | ((with_reducible refine gate_callee (f := 18) rfl ?_); refine goesL_ (some 49) rfl rfl Tryd.func18 (by kernel_rfl) rfl #[.string a0, .slice A1 l1.length c1] rfl zA ?_; (with_reducible refine (cooperageref9_Cut.calls k2 a0 _ _ l1 t344 t345 t346 _ ?side1 ?side2 A13.out).mono ?_); (case side1 => repeat (first | exact (Kd.C_below HR1.out HB.out) | (with_reducible refine Kd.C_alloc ?_ _) | (with_reducible refine Kd.C_drewN ?_ _) | (with_reducible refine Kd.C_drew ?_))); (case side2 => exact HC1.out); rintro e w21 ⟨rfl, hb⟩; refine ⟨_, rfl, ?_⟩; have n0_ := Aside0.mk (below_step (zL HB.out) hb); revert n0_; clear HB; intro HB; (try clear hb); (try clear hb2); (try clear hk); (try clear hi)))
        go_ret
        exact ⟨zE, zL HB.out⟩

/-- THE ONE PURE STATEMENT of cooperagelaw9_ParseCuts. -/
def cooperagelaw9_ParseCuts.Pure : Prop := ∀ (a0 : ByteArray) (l1 : List ByteArray), a0.size ≤ 140737488351232 → l1.length ≤ 9223372036854775807 → l1.length * 16 ≤ 140737488351232 → (∀ x ∈ l1, x.size ≤ 9223372036854775807) → ∃ k, cooperagelaw9_ParseCuts.f k a0 l1 = some true
theorem cooperagelaw9_ParseCuts.walk (P : cooperagelaw9_ParseCuts.Pure) (a0 : ByteArray) (A1 : Option Addr) (c1 : Nat) (l1 : List ByteArray) (w : World) (w0 : a0.size ≤ 140737488351232) (r1 : Kd.C Kd.string w A1 l1.length l1) (q1 : l1.length ≤ c1) (m1 : l1.length ≤ 9223372036854775807) (y1 : l1.length * 16 ≤ 140737488351232) (e1 : ∀ x ∈ l1, x.size ≤ 9223372036854775807) :
  Calls Tryd.prog 4 #[.string a0, .slice A1 l1.length c1] w fun e w' => e = .returned (.bool true) ∧ Below w.heap.size w w' := by
 obtain ⟨k, h⟩ := P a0 l1 w0 m1 y1 e1
 refine (cooperagelaw9_ParseCuts.calls k a0 _ _ l1 true w r1 q1 h).mono ?_
 rintro e w' ⟨rfl, hd⟩
 exact ⟨rfl, hd⟩

end Go.Proofs.YthnholondnfjoaaDoor.PParse
