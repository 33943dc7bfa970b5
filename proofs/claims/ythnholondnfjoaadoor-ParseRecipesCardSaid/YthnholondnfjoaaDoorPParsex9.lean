-- Written by a program of this session (wip/tools/ext.py, over the kit's printer); not trusted: Lean checks it.
import Derived.Test.YthnholondnfjoaaDoorPParsex0
import Derived.Test.YthnholondnfjoaaDoorPParsex1
import Derived.Test.YthnholondnfjoaaDoorPParsex6
import Derived.Test.YthnholondnfjoaaDoorPParsex7
namespace Go.Proofs.YthnholondnfjoaaDoor.PParse
open Go.RowKit Go.Proofs.YthnholondnfjoaaDoorW.PrintWords Go.Proofs.YthnholondnfjoaaDoorW.PrintLast Go.Proofs.YthnholondnfjoaaDoorW.PrintMore
attribute [local go_sem] max2_int min2_int max_two min_two max_three min_three max_four min_four   -- for this text's walks alone
set_option linter.unusedVariables false
set_option linter.unusedSimpArgs false

/-! ### cooperagelaw9_ParseRecipes: function 8 -/
mutual
def cooperagelaw9_ParseRecipes.j0 : Nat → ByteArray → List ByteArray → Bool → Bool → Option (Bool)
 | 0, _, _, _, _ => none
 | k + 1, x0, x1, x5, x59 => if x59 = true then (some x5) else (if x0.size + 3 ≤ 9223372036854775807 then (cooperagelaw9_ParseRecipes.l0 k x0 x1 (([(⟨1, false, x0 ++ (⟨#[58, 32, 120]⟩ : ByteArray)⟩ : S43)] : List (S43))) ([] : List (S43)) 0) else (none))
def cooperagelaw9_ParseRecipes.l0 : Nat → ByteArray → List ByteArray → List (S43) → List (S43) → Int → Option (Bool)
 | 0, _, _, _, _, _ => none
 | k + 1, x0, x1, x6, x7, x8 => if x8 < (x1.length : Int) then (if 0 ≤ x8 then (if ((rdOf ByteArray.empty x1 x8).size : Int) > 300 then (some true) else (if x6.length < 4398046511104 then (if x7.length < 4398046511104 then (cooperagelaw9_ParseRecipes.l0 k x0 x1 (x6 ++ [(⟨wrap64 (x8 + 2), true, rdOf ByteArray.empty x1 x8⟩ : S43)]) (x7 ++ [(⟨wrap64 (x8 + 2), true, rdOf ByteArray.empty x1 x8⟩ : S43)]) (wrap64 (x8 + 1))) else (none)) else (none))) else (none)) else ((parse_Parse.f k x6).bind fun bt303 => ((parse_Parse.f k x7).bind fun bt308 => (if bt303.2.1 = 0 then (if (bt303.1.length : Int) = 1 then (if 0 < (bt303.1.length : Int) then (if ((rd_T45 bt303.1 0).f5).toList = x0.toList then (if ((rd_T45 bt303.1 0).f7).toList = ([120] : List UInt8) then ((cooperagelaw9_sames.f k ((rd_T45 bt303.1 0).f9) x1).bind fun t316 => (if t316 = true then (if (((x1.length : Int) == 0) == (bt308.2.1 == 0)) = true then (if (x1.length : Int) = 0 then (some true) else (if bt308.2.1 = 2 then (some (bt308.2.2 == 2)) else (some false))) else (some false)) else (some false))) else (some false)) else (some false)) else (none)) else (some false)) else (some false))))
end
def cooperagelaw9_ParseRecipes.f (k : Nat) (a0 : ByteArray) (l1 : List ByteArray) : Option (Bool) := (cooperagelaw9_shown.f k).bind fun t289 => (if t289 = true then (if (l1.length : Int) > 40 then (cooperagelaw9_ParseRecipes.j0 k a0 l1 t289 true) else ((parse_Name.f k a0).bind fun t290 => (if t290 = true then (if a0.toList = ([101, 108, 115, 101] : List UInt8) then (cooperagelaw9_ParseRecipes.j0 k a0 l1 t289 true) else (if a0.toList = ([101, 110, 100, 105, 102] : List UInt8) then (cooperagelaw9_ParseRecipes.j0 k a0 l1 t289 true) else (if a0.toList = ([105, 110, 99, 108, 117, 100, 101] : List UInt8) then (cooperagelaw9_ParseRecipes.j0 k a0 l1 t289 true) else (if a0.toList = ([45, 105, 110, 99, 108, 117, 100, 101] : List UInt8) then (cooperagelaw9_ParseRecipes.j0 k a0 l1 t289 true) else (if a0.toList = ([105, 102, 101, 113] : List UInt8) then (cooperagelaw9_ParseRecipes.j0 k a0 l1 t289 true) else (if a0.toList = ([105, 102, 110, 101, 113] : List UInt8) then (cooperagelaw9_ParseRecipes.j0 k a0 l1 t289 true) else (if a0.toList = ([105, 102, 100, 101, 102] : List UInt8) then (cooperagelaw9_ParseRecipes.j0 k a0 l1 t289 true) else (cooperagelaw9_ParseRecipes.j0 k a0 l1 t289 (a0.toList == ([105, 102, 110, 100, 101, 102] : List UInt8)))))))))) else (cooperagelaw9_ParseRecipes.j0 k a0 l1 t289 true)))) else (cooperagelaw9_ParseRecipes.j0 k a0 l1 t289 true))
theorem cooperagelaw9_ParseRecipes.mono_l : ∀ k, (∀ y0 y1 y2 y3, LeO (cooperagelaw9_ParseRecipes.j0 k y0 y1 y2 y3) (cooperagelaw9_ParseRecipes.j0 (k + 1) y0 y1 y2 y3)) ∧ (∀ y0 y1 y2 y3 y4, LeO (cooperagelaw9_ParseRecipes.l0 k y0 y1 y2 y3 y4) (cooperagelaw9_ParseRecipes.l0 (k + 1) y0 y1 y2 y3 y4))
 | 0 => ⟨fun _ _ _ _ r h => by simp [cooperagelaw9_ParseRecipes.j0] at h, fun _ _ _ _ _ r h => by simp [cooperagelaw9_ParseRecipes.l0] at h⟩
 | k + 1 => by
  obtain ⟨ih0, ih1⟩ := cooperagelaw9_ParseRecipes.mono_l k
  refine ⟨?_, ?_⟩
  ·intro y0 y1 y2 y3
   unfold cooperagelaw9_ParseRecipes.j0
   repeat' first
   | (with_reducible exact ih0 _ _ _ _)
   | (with_reducible exact ih1 _ _ _ _ _)
   | (with_reducible exact cooperagelaw9_sames.mono _ _ _)
   | (with_reducible exact cooperagelaw9_shown.mono _)
   | (with_reducible exact parse_Name.mono _ _)
   | (with_reducible exact parse_Parse.mono _ _)
   | (with_reducible exact LeO.refl _)
   | (with_reducible exact LeO.none _)
   | (with_reducible refine LeO.ite ?_ ?_)
   | (with_reducible refine LeO.bind ?_ (fun _ => ?_))
   | exact ih0 _ _ _ _
   | exact ih1 _ _ _ _ _
   | exact cooperagelaw9_sames.mono _ _ _
   | exact cooperagelaw9_shown.mono _
   | exact parse_Name.mono _ _
   | exact parse_Parse.mono _ _
   | exact LeO.none _
   | refine LeO.ite ?_ ?_
   | refine LeO.bind ?_ (fun _ => ?_)
  ·intro y0 y1 y2 y3 y4
   unfold cooperagelaw9_ParseRecipes.l0
   repeat' first
   | (with_reducible exact ih0 _ _ _ _)
   | (with_reducible exact ih1 _ _ _ _ _)
   | (with_reducible exact cooperagelaw9_sames.mono _ _ _)
   | (with_reducible exact cooperagelaw9_shown.mono _)
   | (with_reducible exact parse_Name.mono _ _)
   | (with_reducible exact parse_Parse.mono _ _)
   | (with_reducible exact LeO.refl _)
   | (with_reducible exact LeO.none _)
   | (with_reducible refine LeO.ite ?_ ?_)
   | (with_reducible refine LeO.bind ?_ (fun _ => ?_))
   | exact ih0 _ _ _ _
   | exact ih1 _ _ _ _ _
   | exact cooperagelaw9_sames.mono _ _ _
   | exact cooperagelaw9_shown.mono _
   | exact parse_Name.mono _ _
   | exact parse_Parse.mono _ _
   | exact LeO.none _
   | refine LeO.ite ?_ ?_
   | refine LeO.bind ?_ (fun _ => ?_)
theorem cooperagelaw9_ParseRecipes.mono : ∀ a0 a1 k, LeO (cooperagelaw9_ParseRecipes.f k a0 a1) (cooperagelaw9_ParseRecipes.f (k + 1) a0 a1) := by
 intro a0 a1 k
 obtain ⟨ih0, ih1⟩ := cooperagelaw9_ParseRecipes.mono_l k
 unfold cooperagelaw9_ParseRecipes.f
 repeat' first
   | (with_reducible exact ih0 _ _ _ _)
   | (with_reducible exact ih1 _ _ _ _ _)
   | (with_reducible exact cooperagelaw9_sames.mono _ _ _)
   | (with_reducible exact cooperagelaw9_shown.mono _)
   | (with_reducible exact parse_Name.mono _ _)
   | (with_reducible exact parse_Parse.mono _ _)
   | (with_reducible exact LeO.refl _)
   | (with_reducible exact LeO.none _)
   | (with_reducible refine LeO.ite ?_ ?_)
   | (with_reducible refine LeO.bind ?_ (fun _ => ?_))
   | exact ih0 _ _ _ _
   | exact ih1 _ _ _ _ _
   | exact cooperagelaw9_sames.mono _ _ _
   | exact cooperagelaw9_shown.mono _
   | exact parse_Name.mono _ _
   | exact parse_Parse.mono _ _
   | exact LeO.none _
   | refine LeO.ite ?_ ?_
   | refine LeO.bind ?_ (fun _ => ?_)
set_option maxHeartbeats 8000000 in
set_option maxRecDepth 100000 in
theorem cooperagelaw9_ParseRecipes.calls (k : Nat) (a0 : ByteArray) (A1 : Option Addr) (c1 : Nat) (l1 : List ByteArray) (r : Bool) (w : World) (hr1 : Kd.C Kd.string w A1 l1.length l1) (hc1 : l1.length ≤ c1) (h : cooperagelaw9_ParseRecipes.f k a0 l1 = some r) :
  Calls Tryd.prog 8 #[.string a0, .slice A1 l1.length c1] w fun e w' => e = .returned (.bool r) ∧ Below w.heap.size w w' := by
 have hu43 := Tryd.underlying43
 have HR1 := Aside0.mk hr1
 have HC1 := Aside0.mk hc1
 clear hr1 hc1
 have HB := Aside0.mk (Below.refl w.heap.size w)
 have H : ((cooperagelaw9_shown.f k).bind fun t289 => (if t289 = true then (if (l1.length : Int) > 40 then (cooperagelaw9_ParseRecipes.j0 k a0 l1 t289 true) else ((parse_Name.f k a0).bind fun t290 => (if t290 = true then (if a0.toList = ([101, 108, 115, 101] : List UInt8) then (cooperagelaw9_ParseRecipes.j0 k a0 l1 t289 true) else (if a0.toList = ([101, 110, 100, 105, 102] : List UInt8) then (cooperagelaw9_ParseRecipes.j0 k a0 l1 t289 true) else (if a0.toList = ([105, 110, 99, 108, 117, 100, 101] : List UInt8) then (cooperagelaw9_ParseRecipes.j0 k a0 l1 t289 true) else (if a0.toList = ([45, 105, 110, 99, 108, 117, 100, 101] : List UInt8) then (cooperagelaw9_ParseRecipes.j0 k a0 l1 t289 true) else (if a0.toList = ([105, 102, 101, 113] : List UInt8) then (cooperagelaw9_ParseRecipes.j0 k a0 l1 t289 true) else (if a0.toList = ([105, 102, 110, 101, 113] : List UInt8) then (cooperagelaw9_ParseRecipes.j0 k a0 l1 t289 true) else (if a0.toList = ([105, 102, 100, 101, 102] : List UInt8) then (cooperagelaw9_ParseRecipes.j0 k a0 l1 t289 true) else (cooperagelaw9_ParseRecipes.j0 k a0 l1 t289 (a0.toList == ([105, 102, 110, 100, 101, 102] : List UInt8)))))))))) else (cooperagelaw9_ParseRecipes.j0 k a0 l1 t289 true)))) else (cooperagelaw9_ParseRecipes.j0 k a0 l1 t289 true))) = some r := h
 clear h
 replace H := Option.bind_eq_some_iff.mp H
 obtain ⟨t289, A30, H⟩ := H
 replace H : (if t289 = true then (if (l1.length : Int) > 40 then (cooperagelaw9_ParseRecipes.j0 k a0 l1 t289 true) else ((parse_Name.f k a0).bind fun t290 => (if t290 = true then (if a0.toList = ([101, 108, 115, 101] : List UInt8) then (cooperagelaw9_ParseRecipes.j0 k a0 l1 t289 true) else (if a0.toList = ([101, 110, 100, 105, 102] : List UInt8) then (cooperagelaw9_ParseRecipes.j0 k a0 l1 t289 true) else (if a0.toList = ([105, 110, 99, 108, 117, 100, 101] : List UInt8) then (cooperagelaw9_ParseRecipes.j0 k a0 l1 t289 true) else (if a0.toList = ([45, 105, 110, 99, 108, 117, 100, 101] : List UInt8) then (cooperagelaw9_ParseRecipes.j0 k a0 l1 t289 true) else (if a0.toList = ([105, 102, 101, 113] : List UInt8) then (cooperagelaw9_ParseRecipes.j0 k a0 l1 t289 true) else (if a0.toList = ([105, 102, 110, 101, 113] : List UInt8) then (cooperagelaw9_ParseRecipes.j0 k a0 l1 t289 true) else (if a0.toList = ([105, 102, 100, 101, 102] : List UInt8) then (cooperagelaw9_ParseRecipes.j0 k a0 l1 t289 true) else (cooperagelaw9_ParseRecipes.j0 k a0 l1 t289 (a0.toList == ([105, 102, 110, 100, 101, 102] : List UInt8)))))))))) else (cooperagelaw9_ParseRecipes.j0 k a0 l1 t289 true)))) else (cooperagelaw9_ParseRecipes.j0 k a0 l1 t289 true)) = some r := H
 have A3 := Aside0.mk A30
 clear A30
 have HC4 := Aside0.mk H
 clear H
 go_enter Tryd.func8, Tryd.ntmps8
 go_upto_region 2 with (first | ((with_reducible refine gate_callee (f := 10) rfl ?_); refine goesL_ (some 15) rfl rfl Tryd.func10 (by kernel_rfl) rfl #[] rfl zA ?_; (with_reducible refine (cooperagelaw9_shown.calls k  t289 _ A3.out).mono ?_); rintro e w5 ⟨rfl, hb⟩; refine ⟨_, rfl, ?_⟩; have n0_ := Aside0.mk (below_step (zL HB.out) hb); revert n0_; clear HB; intro HB; (try clear hb); (try clear hb2); (try clear hk); (try clear hi)))
 (try simp only [Act.put, List.setIfInBounds_toArray, List.set_cons_zero, List.set_cons_succ])
 go_cut [59] (fun v59 wc => ∃ (kq : Nat) (x59_3 : Bool), v59 = .bool x59_3 ∧ Aside0 (cooperagelaw9_ParseRecipes.j0 kq a0 l1 t289 x59_3 = some r) ∧ Aside0 (kq ≤ k) ∧ Aside0 (Below w.heap.size w wc))
 case first =>
  have H := HC4.out
  clear HC4
  by_cases c6 : t289 = true
  ·subst c6
   have H1 : (if (l1.length : Int) > 40 then (cooperagelaw9_ParseRecipes.j0 k a0 l1 true true) else ((parse_Name.f k a0).bind fun t290 => (if t290 = true then (if a0.toList = ([101, 108, 115, 101] : List UInt8) then (cooperagelaw9_ParseRecipes.j0 k a0 l1 true true) else (if a0.toList = ([101, 110, 100, 105, 102] : List UInt8) then (cooperagelaw9_ParseRecipes.j0 k a0 l1 true true) else (if a0.toList = ([105, 110, 99, 108, 117, 100, 101] : List UInt8) then (cooperagelaw9_ParseRecipes.j0 k a0 l1 true true) else (if a0.toList = ([45, 105, 110, 99, 108, 117, 100, 101] : List UInt8) then (cooperagelaw9_ParseRecipes.j0 k a0 l1 true true) else (if a0.toList = ([105, 102, 101, 113] : List UInt8) then (cooperagelaw9_ParseRecipes.j0 k a0 l1 true true) else (if a0.toList = ([105, 102, 110, 101, 113] : List UInt8) then (cooperagelaw9_ParseRecipes.j0 k a0 l1 true true) else (if a0.toList = ([105, 102, 100, 101, 102] : List UInt8) then (cooperagelaw9_ParseRecipes.j0 k a0 l1 true true) else (cooperagelaw9_ParseRecipes.j0 k a0 l1 true (a0.toList == ([105, 102, 110, 100, 101, 102] : List UInt8)))))))))) else (cooperagelaw9_ParseRecipes.j0 k a0 l1 true true)))) = some r := by rw [if_pos rfl] at H; exact H
   clear H
   have H := H1
   clear H1
   by_cases c7 : (l1.length : Int) > 40
   ·rw [if_pos c7] at H
    have c7b0 : decide (40 < (l1.length : Int)) = true := decide_eq_true c7
    have c7b1 : decide (40 < l1.length) = true := decide_eq_true (by omega)
    clear c7
    (first | rw [c7b0] | (simp only [i64_w, i32_w]; rw [c7b0]) | skip)
    have H' := Aside0.mk H
    clear H
    go_wp2
    go_meet
    case rel => exact ⟨_, (true), zS, H', ⟨by first | omega | exact Nat.le_refl _⟩, ⟨zL HB.out⟩⟩
   ·rw [if_neg c7] at H
    have c7b0 : decide (40 < (l1.length : Int)) = false := decide_eq_false c7
    have c7b1 : decide (40 < l1.length) = false := decide_eq_false (by omega)
    clear c7
    (first | rw [c7b0] | (simp only [i64_w, i32_w]; rw [c7b0]) | skip)
    replace H := Option.bind_eq_some_iff.mp H
    obtain ⟨t290, A80, H⟩ := H
    replace H : (if t290 = true then (if a0.toList = ([101, 108, 115, 101] : List UInt8) then (cooperagelaw9_ParseRecipes.j0 k a0 l1 true true) else (if a0.toList = ([101, 110, 100, 105, 102] : List UInt8) then (cooperagelaw9_ParseRecipes.j0 k a0 l1 true true) else (if a0.toList = ([105, 110, 99, 108, 117, 100, 101] : List UInt8) then (cooperagelaw9_ParseRecipes.j0 k a0 l1 true true) else (if a0.toList = ([45, 105, 110, 99, 108, 117, 100, 101] : List UInt8) then (cooperagelaw9_ParseRecipes.j0 k a0 l1 true true) else (if a0.toList = ([105, 102, 101, 113] : List UInt8) then (cooperagelaw9_ParseRecipes.j0 k a0 l1 true true) else (if a0.toList = ([105, 102, 110, 101, 113] : List UInt8) then (cooperagelaw9_ParseRecipes.j0 k a0 l1 true true) else (if a0.toList = ([105, 102, 100, 101, 102] : List UInt8) then (cooperagelaw9_ParseRecipes.j0 k a0 l1 true true) else (cooperagelaw9_ParseRecipes.j0 k a0 l1 true (a0.toList == ([105, 102, 110, 100, 101, 102] : List UInt8)))))))))) else (cooperagelaw9_ParseRecipes.j0 k a0 l1 true true)) = some r := H
    have A8 := Aside0.mk A80
    clear A80
    by_cases c9 : t290 = true
    ·subst c9
     have H1 : (if a0.toList = ([101, 108, 115, 101] : List UInt8) then (cooperagelaw9_ParseRecipes.j0 k a0 l1 true true) else (if a0.toList = ([101, 110, 100, 105, 102] : List UInt8) then (cooperagelaw9_ParseRecipes.j0 k a0 l1 true true) else (if a0.toList = ([105, 110, 99, 108, 117, 100, 101] : List UInt8) then (cooperagelaw9_ParseRecipes.j0 k a0 l1 true true) else (if a0.toList = ([45, 105, 110, 99, 108, 117, 100, 101] : List UInt8) then (cooperagelaw9_ParseRecipes.j0 k a0 l1 true true) else (if a0.toList = ([105, 102, 101, 113] : List UInt8) then (cooperagelaw9_ParseRecipes.j0 k a0 l1 true true) else (if a0.toList = ([105, 102, 110, 101, 113] : List UInt8) then (cooperagelaw9_ParseRecipes.j0 k a0 l1 true true) else (if a0.toList = ([105, 102, 100, 101, 102] : List UInt8) then (cooperagelaw9_ParseRecipes.j0 k a0 l1 true true) else (cooperagelaw9_ParseRecipes.j0 k a0 l1 true (a0.toList == ([105, 102, 110, 100, 101, 102] : List UInt8)))))))))) = some r := by rw [if_pos rfl] at H; exact H
     clear H
     have H := H1
     clear H1
     by_cases c10 : a0.toList = ([101, 108, 115, 101] : List UInt8)
     ·rw [if_pos c10] at H
      have c10b0 : (a0.toList == ([101, 108, 115, 101] : List UInt8)) = true := beq_iff_eq.mpr c10
      have c10b1 : (a0.toList != ([101, 108, 115, 101] : List UInt8)) = false := bne_eq_false_iff_eq.mpr c10
      clear c10
      have H' := Aside0.mk H
      clear H
      go_wp2_with (first | (go_at_call 15; (with_reducible refine (parse_Name.calls k a0 true _ A8.out).mono ?_); rintro e w11 ⟨rfl, hb⟩; have n0_ := Aside0.mk (below_step (zL HB.out) hb); revert n0_; clear HB; intro HB; (try clear hb); (try clear hb2); (try clear hk); (try clear hi)))
      go_meet
      case rel => exact ⟨_, (true), zS, H', ⟨by first | omega | exact Nat.le_refl _⟩, ⟨zL HB.out⟩⟩
     ·rw [if_neg c10] at H
      have c10b0 : (a0.toList == ([101, 108, 115, 101] : List UInt8)) = false := beq_eq_false_iff_ne.mpr c10
      have c10b1 : (a0.toList != ([101, 108, 115, 101] : List UInt8)) = true := bne_iff_ne.mpr c10
      by_cases c12 : a0.toList = ([101, 110, 100, 105, 102] : List UInt8)
      ·rw [if_pos c12] at H
       have c12b0 : (a0.toList == ([101, 110, 100, 105, 102] : List UInt8)) = true := beq_iff_eq.mpr c12
       have c12b1 : (a0.toList != ([101, 110, 100, 105, 102] : List UInt8)) = false := bne_eq_false_iff_eq.mpr c12
       clear c12
       have H' := Aside0.mk H
       clear H
       go_wp2_with (first | (go_at_call 15; (with_reducible refine (parse_Name.calls k a0 true _ A8.out).mono ?_); rintro e w13 ⟨rfl, hb⟩; have n0_ := Aside0.mk (below_step (zL HB.out) hb); revert n0_; clear HB; intro HB; (try clear hb); (try clear hb2); (try clear hk); (try clear hi)))
       go_meet
       case rel => exact ⟨_, (true), zS, H', ⟨by first | omega | exact Nat.le_refl _⟩, ⟨zL HB.out⟩⟩
      ·rw [if_neg c12] at H
       have c12b0 : (a0.toList == ([101, 110, 100, 105, 102] : List UInt8)) = false := beq_eq_false_iff_ne.mpr c12
       have c12b1 : (a0.toList != ([101, 110, 100, 105, 102] : List UInt8)) = true := bne_iff_ne.mpr c12
       by_cases c14 : a0.toList = ([105, 110, 99, 108, 117, 100, 101] : List UInt8)
       ·rw [if_pos c14] at H
        have c14b0 : (a0.toList == ([105, 110, 99, 108, 117, 100, 101] : List UInt8)) = true := beq_iff_eq.mpr c14
        have c14b1 : (a0.toList != ([105, 110, 99, 108, 117, 100, 101] : List UInt8)) = false := bne_eq_false_iff_eq.mpr c14
        clear c14
        have H' := Aside0.mk H
        clear H
        go_wp2_with (first | (go_at_call 15; (with_reducible refine (parse_Name.calls k a0 true _ A8.out).mono ?_); rintro e w15 ⟨rfl, hb⟩; have n0_ := Aside0.mk (below_step (zL HB.out) hb); revert n0_; clear HB; intro HB; (try clear hb); (try clear hb2); (try clear hk); (try clear hi)))
        go_meet
        case rel => exact ⟨_, (true), zS, H', ⟨by first | omega | exact Nat.le_refl _⟩, ⟨zL HB.out⟩⟩
       ·rw [if_neg c14] at H
        have c14b0 : (a0.toList == ([105, 110, 99, 108, 117, 100, 101] : List UInt8)) = false := beq_eq_false_iff_ne.mpr c14
        have c14b1 : (a0.toList != ([105, 110, 99, 108, 117, 100, 101] : List UInt8)) = true := bne_iff_ne.mpr c14
        by_cases c16 : a0.toList = ([45, 105, 110, 99, 108, 117, 100, 101] : List UInt8)
        ·rw [if_pos c16] at H
         have c16b0 : (a0.toList == ([45, 105, 110, 99, 108, 117, 100, 101] : List UInt8)) = true := beq_iff_eq.mpr c16
         have c16b1 : (a0.toList != ([45, 105, 110, 99, 108, 117, 100, 101] : List UInt8)) = false := bne_eq_false_iff_eq.mpr c16
         clear c16
         have H' := Aside0.mk H
         clear H
         go_wp2_with (first | (go_at_call 15; (with_reducible refine (parse_Name.calls k a0 true _ A8.out).mono ?_); rintro e w17 ⟨rfl, hb⟩; have n0_ := Aside0.mk (below_step (zL HB.out) hb); revert n0_; clear HB; intro HB; (try clear hb); (try clear hb2); (try clear hk); (try clear hi)))
         go_meet
         case rel => exact ⟨_, (true), zS, H', ⟨by first | omega | exact Nat.le_refl _⟩, ⟨zL HB.out⟩⟩
        ·rw [if_neg c16] at H
         have c16b0 : (a0.toList == ([45, 105, 110, 99, 108, 117, 100, 101] : List UInt8)) = false := beq_eq_false_iff_ne.mpr c16
         have c16b1 : (a0.toList != ([45, 105, 110, 99, 108, 117, 100, 101] : List UInt8)) = true := bne_iff_ne.mpr c16
         by_cases c18 : a0.toList = ([105, 102, 101, 113] : List UInt8)
         ·rw [if_pos c18] at H
          have c18b0 : (a0.toList == ([105, 102, 101, 113] : List UInt8)) = true := beq_iff_eq.mpr c18
          have c18b1 : (a0.toList != ([105, 102, 101, 113] : List UInt8)) = false := bne_eq_false_iff_eq.mpr c18
          clear c18
          have H' := Aside0.mk H
          clear H
          go_wp2_with (first | (go_at_call 15; (with_reducible refine (parse_Name.calls k a0 true _ A8.out).mono ?_); rintro e w19 ⟨rfl, hb⟩; have n0_ := Aside0.mk (below_step (zL HB.out) hb); revert n0_; clear HB; intro HB; (try clear hb); (try clear hb2); (try clear hk); (try clear hi)))
          go_meet
          case rel => exact ⟨_, (true), zS, H', ⟨by first | omega | exact Nat.le_refl _⟩, ⟨zL HB.out⟩⟩
         ·rw [if_neg c18] at H
          have c18b0 : (a0.toList == ([105, 102, 101, 113] : List UInt8)) = false := beq_eq_false_iff_ne.mpr c18
          have c18b1 : (a0.toList != ([105, 102, 101, 113] : List UInt8)) = true := bne_iff_ne.mpr c18
          by_cases c20 : a0.toList = ([105, 102, 110, 101, 113] : List UInt8)
          ·rw [if_pos c20] at H
           have c20b0 : (a0.toList == ([105, 102, 110, 101, 113] : List UInt8)) = true := beq_iff_eq.mpr c20
           have c20b1 : (a0.toList != ([105, 102, 110, 101, 113] : List UInt8)) = false := bne_eq_false_iff_eq.mpr c20
           clear c20
           have H' := Aside0.mk H
           clear H
           go_wp2_with (first | (go_at_call 15; (with_reducible refine (parse_Name.calls k a0 true _ A8.out).mono ?_); rintro e w21 ⟨rfl, hb⟩; have n0_ := Aside0.mk (below_step (zL HB.out) hb); revert n0_; clear HB; intro HB; (try clear hb); (try clear hb2); (try clear hk); (try clear hi)))
           go_meet
           case rel => exact ⟨_, (true), zS, H', ⟨by first | omega | exact Nat.le_refl _⟩, ⟨zL HB.out⟩⟩
          ·rw [if_neg c20] at H
           have c20b0 : (a0.toList == ([105, 102, 110, 101, 113] : List UInt8)) = false := beq_eq_false_iff_ne.mpr c20
           have c20b1 : (a0.toList != ([105, 102, 110, 101, 113] : List UInt8)) = true := bne_iff_ne.mpr c20
           by_cases c22 : a0.toList = ([105, 102, 100, 101, 102] : List UInt8)
           ·rw [if_pos c22] at H
            have c22b0 : (a0.toList == ([105, 102, 100, 101, 102] : List UInt8)) = true := beq_iff_eq.mpr c22
            have c22b1 : (a0.toList != ([105, 102, 100, 101, 102] : List UInt8)) = false := bne_eq_false_iff_eq.mpr c22
            clear c22
            have H' := Aside0.mk H
            clear H
            go_wp2_with (first | (go_at_call 15; (with_reducible refine (parse_Name.calls k a0 true _ A8.out).mono ?_); rintro e w23 ⟨rfl, hb⟩; have n0_ := Aside0.mk (below_step (zL HB.out) hb); revert n0_; clear HB; intro HB; (try clear hb); (try clear hb2); (try clear hk); (try clear hi)))
            go_meet
            case rel => exact ⟨_, (true), zS, H', ⟨by first | omega | exact Nat.le_refl _⟩, ⟨zL HB.out⟩⟩
           ·rw [if_neg c22] at H
            have c22b0 : (a0.toList == ([105, 102, 100, 101, 102] : List UInt8)) = false := beq_eq_false_iff_ne.mpr c22
            have c22b1 : (a0.toList != ([105, 102, 100, 101, 102] : List UInt8)) = true := bne_iff_ne.mpr c22
            have H' := Aside0.mk H
            clear H
            go_wp2_with (first | (go_at_call 15; (with_reducible refine (parse_Name.calls k a0 true _ A8.out).mono ?_); rintro e w24 ⟨rfl, hb⟩; have n0_ := Aside0.mk (below_step (zL HB.out) hb); revert n0_; clear HB; intro HB; (try clear hb); (try clear hb2); (try clear hk); (try clear hi)))
            go_meet
            case rel => exact ⟨_, ((a0.toList == ([105, 102, 110, 100, 101, 102] : List UInt8))), zS, H', ⟨by first | omega | exact Nat.le_refl _⟩, ⟨zL HB.out⟩⟩
    ·replace c9 := Bool.eq_false_iff.mpr c9
     subst c9
     have H1 : (cooperagelaw9_ParseRecipes.j0 k a0 l1 true true) = some r := by rw [if_neg (show ¬ (false = true) by decide)] at H; exact H
     clear H
     have H := H1
     clear H1
     have H' := Aside0.mk H
     clear H
     go_wp2_with (first | (go_at_call 15; (with_reducible refine (parse_Name.calls k a0 false _ A8.out).mono ?_); rintro e w25 ⟨rfl, hb⟩; have n0_ := Aside0.mk (below_step (zL HB.out) hb); revert n0_; clear HB; intro HB; (try clear hb); (try clear hb2); (try clear hk); (try clear hi)))
     go_meet
     case rel => exact ⟨_, (true), zS, H', ⟨by first | omega | exact Nat.le_refl _⟩, ⟨zL HB.out⟩⟩
  ·replace c6 := Bool.eq_false_iff.mpr c6
   subst c6
   have H1 : (cooperagelaw9_ParseRecipes.j0 k a0 l1 false true) = some r := by rw [if_neg (show ¬ (false = true) by decide)] at H; exact H
   clear H
   have H := H1
   clear H1
   have H' := Aside0.mk H
   clear H
   go_wp2
   go_meet
   case rel => exact ⟨_, (true), zS, H', ⟨by first | omega | exact Nat.le_refl _⟩, ⟨zL HB.out⟩⟩
 case rest =>
  clear HC4
  try clear c1
  try clear c2
  try clear p2
  try clear c6
  try clear c7
  try clear c7b0
  try clear c7b1
  try clear c8
  try clear c9
  try clear c10
  try clear c10b0
  try clear c10b1
  try clear c12
  try clear c12b0
  try clear c12b1
  try clear c14
  try clear c14b0
  try clear c14b1
  try clear c16
  try clear c16b0
  try clear c16b1
  try clear c18
  try clear c18b0
  try clear c18b1
  try clear c20
  try clear c20b0
  try clear c20b1
  try clear c22
  try clear c22b0
  try clear c22b1
  obtain ⟨kq, x59_3, rfl, HA, HJ3, HB⟩ := hcut
  cases kq with
  | zero => exact absurd HA.out (by simp [cooperagelaw9_ParseRecipes.j0])
  | succ kj3 =>
   have H := HA.out
   clear HA
   simp only [cooperagelaw9_ParseRecipes.j0] at H
   by_cases c26 : x59_3 = true
   ·subst c26
    have H1 : (some t289) = some r := by rw [if_pos rfl] at H; exact H
    clear H
    have H := H1
    clear H1
    obtain rfl := Option.some.inj H
    go_wp2
    go_ret
    exact ⟨zE, zL HB.out⟩
   ·replace c26 := Bool.eq_false_iff.mpr c26
    subst c26
    have H1 : (if a0.size + 3 ≤ 9223372036854775807 then (cooperagelaw9_ParseRecipes.l0 kj3 a0 l1 (([(⟨1, false, a0 ++ (⟨#[58, 32, 120]⟩ : ByteArray)⟩ : S43)] : List (S43))) ([] : List (S43)) 0) else (none)) = some r := by rw [if_neg (show ¬ (false = true) by decide)] at H; exact H
    clear H
    have H := H1
    clear H1
    by_cases c27 : a0.size + 3 ≤ 9223372036854775807
    ·rw [if_pos c27] at H
     have c27b0 := eq_true c27
     have c27b1 : decide (a0.size + 3 ≤ 9223372036854775807) = true := decide_eq_true c27
     try have c27b2 : (9223372036854775807 < a0.size + 3) = False := eq_false (Nat.not_lt.2 c27)
     obtain ⟨y291, hy291⟩ : ∃ y_ : List (S43), y_ = (([(⟨1, false, a0 ++ (⟨#[58, 32, 120]⟩ : ByteArray)⟩ : S43)] : List (S43))) := ⟨_, rfl⟩
     replace H : (cooperagelaw9_ParseRecipes.l0 kj3 a0 l1 y291 ([] : List (S43)) 0) = some r := zH hy291 H
     have Ny291 := Aside0.mk hy291
     clear hy291
     have H' := Aside0.mk H
     clear H
     go_wp2_with (first | ((with_reducible refine gate_dst (N := 64) rfl ?_); (try (refine gate_guard (by rfl) ?_; dsimp only)); refine Kd.R_lit k43 _ 43 ?hg (N := 64) ?hd (xs := ([(⟨1, false, a0 ++ (⟨#[58, 32, 120]⟩ : ByteArray)⟩ : S43)] : List (S43))) (inner := [.int .i64 1, .bool false, .string (a0 ++ (⟨#[58, 32, 120]⟩ : ByteArray))]) (ok := fun _ => True) (okp := fun _ => True) ?hr ?hp (fun _ hk => hk) trivial (Below.refl _ _) (Nat.le_refl _) (by simp) ?_; (case hd => rfl); (case hg => rfl); (case hr => first | (go_simp; done) | (go_simp; rfl)); (case hp => exact (Reps.c3 (show Kd.M k43 _ _ _ (⟨1, false, a0 ++ (⟨#[58, 32, 120]⟩ : ByteArray)⟩ : S43) [.int .i64 1, .bool false, .string (a0 ++ (⟨#[58, 32, 120]⟩ : ByteArray))] from (k43_mkM _ _ _ (⟨1, false, a0 ++ (⟨#[58, 32, 120]⟩ : ByteArray)⟩ : S43) )) (Reps.none _ _))); intro v292 w28 ho29 hb hg_ hnew_; clear hg_ hnew_; (first | rw [← Ny291.out] at ho29 | (simp only [Int.reduceToNat] at ho29; rw [← Ny291.out] at ho29)); have n0_ := Aside0.mk (Kd.R_lower ho29 (below_size (zL HB.out))); have n1_ := Aside0.mk (below_step (zL HB.out) hb); revert n0_ n1_; clear HB; intro HO293 HB; clear hb ho29))
     go_loopg [6, 7, 8] kj3 (fun kq v6 v7 v8 w' => ∃ (x6_2 : List (S43)) (x7_2 : List (S43)) (x8_2 : Int), v8 = .int .i64 x8_2 ∧ Aside0 (cooperagelaw9_ParseRecipes.l0 kq a0 l1 x6_2 x7_2 x8_2 = some r) ∧ Aside0 (kq ≤ kj3) ∧ Aside0 (Kd.R k43 43 w' w.heap.size (fun k_ => some k_ ≠ (v7 : Value).ownBlock) v6 x6_2) ∧ Aside0 (Kd.R k43 43 w' w.heap.size (fun k_ => some k_ ≠ (v6 : Value).ownBlock) v7 x7_2) ∧ Aside0 (Below w.heap.size w w'))
     case atStart => exact ⟨(y291), (([] : List (S43))), (0), zS, H', ⟨Nat.le_refl _⟩, ⟨by (with_reducible repeat (first | apply Kd.R_alloc | apply Kd.R_drewN | apply Kd.R_drew)); exact Kd.R_mono HO293.out (fun _ hk => (by simp [Value.ownBlock]))⟩, ⟨by first | exact Kd.R_nil _ _ _ _ _ | exact Kd.N_nil _ _ _ _ _ | exact Kd.V_nil _ _ _ _ _ | exact Kd.Q_nil _ _ _ _ _ | exact Kd.S_nil _ _ _ _ _⟩, ⟨zL HB.out⟩⟩
     case round =>
      clear H'
      try clear c1
      try clear c2
      try clear p2
      try clear c3
      try clear c6
      try clear c7
      try clear c7b0
      try clear c7b1
      try clear c8
      try clear c9
      try clear c10
      try clear c10b0
      try clear c10b1
      try clear c12
      try clear c12b0
      try clear c12b1
      try clear c14
      try clear c14b0
      try clear c14b1
      try clear c16
      try clear c16b0
      try clear c16b1
      try clear c18
      try clear c18b0
      try clear c18b1
      try clear c20
      try clear c20b0
      try clear c20b1
      try clear c22
      try clear c22b0
      try clear c22b1
      try clear c26
      try clear c27
      try clear c27b0
      try clear c27b1
      try clear c27b2
      try clear p2
      obtain ⟨x6_2, x7_2, x8_2, rfl, HA, HK2, HO_6, HO_7, HB⟩ := hrel
      cases gk with
      | zero => exact absurd HA.out (by simp [cooperagelaw9_ParseRecipes.l0])
      | succ k2 =>
       have H := HA.out
       clear HA
       simp only [cooperagelaw9_ParseRecipes.l0] at H
       by_cases c30 : x8_2 < (l1.length : Int)
       ·rw [if_pos c30] at H
        have c30b0 : decide (x8_2 < (l1.length : Int)) = true := decide_eq_true c30
        clear c30
        by_cases c31 : 0 ≤ x8_2
        ·rw [if_pos c31] at H
         have c31b0 : decide (0 ≤ x8_2) = true := decide_eq_true c31
         clear c31
         by_cases c32 : ((rdOf ByteArray.empty l1 x8_2).size : Int) > 300
         ·rw [if_pos c32] at H
          have c32b0 : decide (300 < ((rdOf ByteArray.empty l1 x8_2).size : Int)) = true := decide_eq_true c32
          have c32b1 : decide (300 < (rdOf ByteArray.empty l1 x8_2).size) = true := decide_eq_true (by omega)
          clear c32
          obtain rfl := Option.some.inj H
          have p294 : 0 ≤ (x8_2 : Int) := zD
          have q294 : x8_2 < (l1.length : Int) := zD
          obtain ⟨ad294, e294, hx294_0⟩ := Kd.at_string HR1.out x8_2 p294 q294
          cases e294
          replace hx294_0 := zX HB.out hx294_0
          replace p294 := eq_true p294
          replace q294 := eq_true q294
          go_wp2
          go_ret
          exact ⟨zE, zL HB.out⟩
         ·rw [if_neg c32] at H
          have c32b0 : decide (300 < ((rdOf ByteArray.empty l1 x8_2).size : Int)) = false := decide_eq_false c32
          have c32b1 : decide (300 < (rdOf ByteArray.empty l1 x8_2).size) = false := decide_eq_false (by omega)
          clear c32
          by_cases c33 : x6_2.length < 4398046511104
          ·rw [if_pos c33] at H
           have LMc33 := Aside0.mk c33
           clear c33
           obtain ⟨y296, hy296⟩ : ∃ y_ : List (S43), y_ = (x6_2 ++ [(⟨wrap64 (x8_2 + 2), true, rdOf ByteArray.empty l1 x8_2⟩ : S43)]) := ⟨_, rfl⟩
           replace H : (if x7_2.length < 4398046511104 then (cooperagelaw9_ParseRecipes.l0 k2 a0 l1 y296 (x7_2 ++ [(⟨wrap64 (x8_2 + 2), true, rdOf ByteArray.empty l1 x8_2⟩ : S43)]) (wrap64 (x8_2 + 1))) else (none)) = some r := zH hy296 H
           have Ny296 := Aside0.mk hy296
           clear hy296
           by_cases c34 : x7_2.length < 4398046511104
           ·rw [if_pos c34] at H
            have LMc34 := Aside0.mk c34
            clear c34
            obtain ⟨y300, hy300⟩ : ∃ y_ : List (S43), y_ = (x7_2 ++ [(⟨wrap64 (x8_2 + 2), true, rdOf ByteArray.empty l1 x8_2⟩ : S43)]) := ⟨_, rfl⟩
            replace H : (cooperagelaw9_ParseRecipes.l0 k2 a0 l1 y296 y300 (wrap64 (x8_2 + 1))) = some r := zH hy300 H
            have Ny300 := Aside0.mk hy300
            clear hy300
            have H' := Aside0.mk H
            clear H
            have p294 : 0 ≤ (x8_2 : Int) := zD
            have q294 : x8_2 < (l1.length : Int) := zD
            obtain ⟨ad294, e294, hx294_0⟩ := Kd.at_string HR1.out x8_2 p294 q294
            cases e294
            replace hx294_0 := zX HB.out hx294_0
            replace p294 := eq_true p294
            replace q294 := eq_true q294
            have p295 : 0 ≤ (x8_2 : Int) := zD
            have q295 : x8_2 < (l1.length : Int) := zD
            obtain ⟨ad295, e295, hx295_0⟩ := Kd.at_string HR1.out x8_2 p295 q295
            obtain rfl : ad294 = ad295 := (by injection e295)
            replace hx295_0 := zX HB.out hx295_0
            replace p295 := eq_true p295
            replace q295 := eq_true q295
            go_wp2_with (first | ((with_reducible refine gate_builtin (b := .append) (xs := #[.tmp 77, .tmp 85]) rfl ?_); (try (refine gate_guard (by rfl) ?_; dsimp only)); at_builtin; refine Kd.R_append k43 (w0 := w) w.heap.size rfl (.tmp 77) (.tmp 85) 22 43 (.agg #[(.int .i64 0), (.bool false), (.string ⟨#[]⟩)]) 32 rfl Tryd.underlying22 info43 rfl (by decide) (by omega) u6 x6_2 (⟨wrap64 (x8_2 + 2), true, rdOf ByteArray.empty l1 x8_2⟩ : S43) [.int .i64 (wrap64 (x8_2 + 2)), .bool true, .string (rdOf ByteArray.empty l1 x8_2)] (fun k_ => some k_ ≠ (u7 : Value).ownBlock) (fun _ => False) rfl rfl ?aP (fun _ hk => hk.elim) ?aF ?aO ?aB ?aS ?aL ?_; (case aP => exact k43_mkM _ _ _ (⟨wrap64 (x8_2 + 2), true, rdOf ByteArray.empty l1 x8_2⟩ : S43)); (case aB => exact (zL HB.out)); (case aF => exact (fun k_ hk => Kd.fresh' (Kd.R_lt (zR HO_7.out)) k_ hk)); (case aO => exact (zR HO_6.out)); (case aS => exact (below_size (zL HB.out))); (case aL => have := LMc33.out; omega); intro v297 w35 ho hb hg hat; rw [← Ny296.out] at ho; have n0_ := Aside0.mk (Kd.R_after (ok := (fun _ => True)) (by (with_reducible repeat (first | apply Kd.R_alloc | apply Kd.R_drewN | apply Kd.R_drew)); exact Kd.R_mono HO_7.out (fun _ hk => ⟨trivial, hk⟩)) hg hat); have n1_ := Aside0.mk (hb); have n2_ := Aside0.mk (ho); revert n0_ n1_ n2_; clear HO_7 HB HO_6; intro HO_7 HB HO298; clear ho hb hg hat; have p299 : 0 ≤ (x8_2 : Int) := zD; have q299 : x8_2 < (l1.length : Int) := zD; obtain ⟨ad299, e299, hx299_0⟩ := Kd.at_string HR1.out x8_2 p299 q299; obtain rfl : ad294 = ad299 := (by injection e299); replace hx299_0 := zX HB.out hx299_0; replace p299 := eq_true p299; replace q299 := eq_true q299) | ((with_reducible refine gate_builtin (b := .append) (xs := #[.tmp 87, .tmp 95]) rfl ?_); (try (refine gate_guard (by rfl) ?_; dsimp only)); at_builtin; refine Kd.R_append k43 (w0 := w) w.heap.size rfl (.tmp 87) (.tmp 95) 22 43 (.agg #[(.int .i64 0), (.bool false), (.string ⟨#[]⟩)]) 32 rfl Tryd.underlying22 info43 rfl (by decide) (by omega) u7 x7_2 (⟨wrap64 (x8_2 + 2), true, rdOf ByteArray.empty l1 x8_2⟩ : S43) [.int .i64 (wrap64 (x8_2 + 2)), .bool true, .string (rdOf ByteArray.empty l1 x8_2)] (fun k_ => some k_ ≠ (v297 : Value).ownBlock) (fun _ => False) rfl rfl ?aP (fun _ hk => hk.elim) ?aF ?aO ?aB ?aS ?aL ?_; (case aP => exact k43_mkM _ _ _ (⟨wrap64 (x8_2 + 2), true, rdOf ByteArray.empty l1 x8_2⟩ : S43)); (case aB => exact (zL HB.out)); (case aF => exact (fun k_ hk => Kd.fresh' (Kd.R_lt (zR HO298.out)) k_ hk)); (case aO => exact (by (with_reducible repeat (first | apply Kd.R_alloc | apply Kd.R_drewN | apply Kd.R_drew)); exact Kd.R_mono HO_7.out (fun _ hk => hk.2))); (case aS => exact (below_size (zL HB.out))); (case aL => have := LMc34.out; omega); intro v301 w36 ho hb hg hat; rw [← Ny300.out] at ho; have n0_ := Aside0.mk (Kd.R_after (ok := (fun _ => True)) (by (with_reducible repeat (first | apply Kd.R_alloc | apply Kd.R_drewN | apply Kd.R_drew)); exact Kd.R_mono HO298.out (fun _ hk => ⟨trivial, hk⟩)) hg hat); have n1_ := Aside0.mk (hb); have n2_ := Aside0.mk (ho); revert n0_ n1_ n2_; clear HO298 HB HO_7; intro HO298 HB HO302; clear ho hb hg hat))
            go_roundg k2
            case measure => have := HJ3.out; have := HK2.out; omega
            case rel => exact ⟨(y296), (y300), (wrap64 (x8_2 + 1)), zS, H', ⟨by have := HJ3.out; have := HK2.out; omega⟩, ⟨by (with_reducible repeat (first | apply Kd.R_alloc | apply Kd.R_drewN | apply Kd.R_drew)); exact Kd.R_mono HO298.out (fun _ hk => hk.2)⟩, ⟨by (with_reducible repeat (first | apply Kd.R_alloc | apply Kd.R_drewN | apply Kd.R_drew)); exact HO302.out⟩, ⟨zL HB.out⟩⟩
           ·rw [if_neg c34] at H
            exact absurd H (by simp)
          ·rw [if_neg c33] at H
           exact absurd H (by simp)
        ·rw [if_neg c31] at H
         exact absurd H (by simp)
       ·rw [if_neg c30] at H
        have c30b0 : decide (x8_2 < (l1.length : Int)) = false := decide_eq_false c30
        clear c30
        replace H := Option.bind_eq_some_iff.mp H
        obtain ⟨⟨t303, t304, t305⟩, A370, H⟩ := H
        replace H : ((parse_Parse.f k2 x7_2).bind fun bt308 => (if t304 = 0 then (if (t303.length : Int) = 1 then (if 0 < (t303.length : Int) then (if ((rd_T45 t303 0).f5).toList = a0.toList then (if ((rd_T45 t303 0).f7).toList = ([120] : List UInt8) then ((cooperagelaw9_sames.f k2 ((rd_T45 t303 0).f9) l1).bind fun t316 => (if t316 = true then (if (((l1.length : Int) == 0) == (bt308.2.1 == 0)) = true then (if (l1.length : Int) = 0 then (some true) else (if bt308.2.1 = 2 then (some (bt308.2.2 == 2)) else (some false))) else (some false)) else (some false))) else (some false)) else (some false)) else (none)) else (some false)) else (some false))) = some r := H
        have A37 := Aside0.mk A370
        clear A370
        replace H := Option.bind_eq_some_iff.mp H
        obtain ⟨⟨t308, t309, t310⟩, A380, H⟩ := H
        replace H : (if t304 = 0 then (if (t303.length : Int) = 1 then (if 0 < (t303.length : Int) then (if ((rd_T45 t303 0).f5).toList = a0.toList then (if ((rd_T45 t303 0).f7).toList = ([120] : List UInt8) then ((cooperagelaw9_sames.f k2 ((rd_T45 t303 0).f9) l1).bind fun t316 => (if t316 = true then (if (((l1.length : Int) == 0) == (t309 == 0)) = true then (if (l1.length : Int) = 0 then (some true) else (if t309 = 2 then (some (t310 == 2)) else (some false))) else (some false)) else (some false))) else (some false)) else (some false)) else (none)) else (some false)) else (some false)) = some r := H
        have A38 := Aside0.mk A380
        clear A380
        by_cases c39 : t304 = 0
        ·rw [if_pos c39] at H
         have c39b0 : (t304 == 0) = true := beq_iff_eq.mpr c39
         have c39b1 : (t304 != 0) = false := bne_eq_false_iff_eq.mpr c39
         clear c39
         by_cases c40 : (t303.length : Int) = 1
         ·rw [if_pos c40] at H
          have c40b0 : ((t303.length : Int) == 1) = true := beq_iff_eq.mpr c40
          have c40b1 : ((t303.length : Int) != 1) = false := bne_eq_false_iff_eq.mpr c40
          clear c40
          by_cases c41 : 0 < (t303.length : Int)
          ·rw [if_pos c41] at H
           have c41b0 : decide (0 < (t303.length : Int)) = true := decide_eq_true c41
           have c41b1 : decide (0 < t303.length) = true := decide_eq_true (by omega)
           clear c41
           by_cases c42 : ((rd_T45 t303 0).f5).toList = a0.toList
           ·rw [if_pos c42] at H
            have c42b0 : (((rd_T45 t303 0).f5).toList == a0.toList) = true := beq_iff_eq.mpr c42
            have c42b1 : (((rd_T45 t303 0).f5).toList != a0.toList) = false := bne_eq_false_iff_eq.mpr c42
            clear c42
            by_cases c43 : ((rd_T45 t303 0).f7).toList = ([120] : List UInt8)
            ·rw [if_pos c43] at H
             have c43b0 : (((rd_T45 t303 0).f7).toList == ([120] : List UInt8)) = true := beq_iff_eq.mpr c43
             have c43b1 : (((rd_T45 t303 0).f7).toList != ([120] : List UInt8)) = false := bne_eq_false_iff_eq.mpr c43
             clear c43
             replace H := Option.bind_eq_some_iff.mp H
             obtain ⟨t316, A440, H⟩ := H
             replace H : (if t316 = true then (if (((l1.length : Int) == 0) == (t309 == 0)) = true then (if (l1.length : Int) = 0 then (some true) else (if t309 = 2 then (some (t310 == 2)) else (some false))) else (some false)) else (some false)) = some r := H
             have A44 := Aside0.mk A440
             clear A440
             by_cases c45 : t316 = true
             ·subst c45
              have H1 : (if (((l1.length : Int) == 0) == (t309 == 0)) = true then (if (l1.length : Int) = 0 then (some true) else (if t309 = 2 then (some (t310 == 2)) else (some false))) else (some false)) = some r := by rw [if_pos rfl] at H; exact H
              clear H
              have H := H1
              clear H1
              by_cases c46 : (((l1.length : Int) == 0) == (t309 == 0)) = true
              ·rw [if_pos c46] at H
               have c46b0 : (((l1.length : Int) == 0) == (t309 == 0)) = true := c46
               (try (have c46b1 : decide (((l1.length : Int) == 0) = (t309 == 0)) = true := by simpa using c46))
               (try (have c46b2 : (((l1.length : Int) == 0) == (t309 == 0)) = true := by simpa using c46))
               clear c46
               by_cases c47 : (l1.length : Int) = 0
               ·rw [if_pos c47] at H
                have c47b0 : ((l1.length : Int) == 0) = true := beq_iff_eq.mpr c47
                try (have c46b0v := c46b0; rw [c47b0] at c46b0v; simp only [Bool.true_beq, Bool.false_beq, Bool.not_eq_true', Bool.not_eq_eq_eq_not, Bool.not_true, Bool.not_false] at c46b0v)
                try (have c46b2v := c46b2; rw [c47b0] at c46b2v; simp only [Bool.true_beq, Bool.false_beq, Bool.not_eq_true', Bool.not_eq_eq_eq_not, Bool.not_true, Bool.not_false] at c46b2v)
                have c47b1 : ((l1.length : Int) != 0) = false := bne_eq_false_iff_eq.mpr c47
                clear c47
                obtain rfl := Option.some.inj H
                obtain ⟨Ao48, co48, eo48⟩ := Kd.R_slice HO_6.out
                subst eo48
                go_wp2_with (first | ((with_reducible refine gate_callee (f := 12) rfl ?_); refine goesL_ (some 99) rfl rfl Tryd.func12 (by kernel_rfl) rfl #[.slice Ao48 x6_2.length co48] rfl zA ?_; (with_reducible refine (parse_Parse.calls k2 _ _ x6_2 t303 t304 t305 _ ?side1 ?side2 A37.out).mono ?_); (case side1 => repeat (first | exact (Kd.R_reads' HO_6.out).2.2 | (with_reducible refine Kd.C_alloc ?_ _) | (with_reducible refine Kd.C_drewN ?_ _) | (with_reducible refine Kd.C_drew ?_))); (case side2 => exact (Kd.R_reads' HO_6.out).2.1); rintro e w49 ⟨v306, rfl, ho0, hb⟩; refine ⟨_, rfl, ?_⟩; have n0_ := Aside0.mk (Kd.R_below (zR HO_6.out) hb); have n1_ := Aside0.mk (Kd.R_below (zR HO_7.out) hb); have n2_ := Aside0.mk (Kd.S_lower ho0 (below_size (zL HB.out))); have n3_ := Aside0.mk (below_step (zL HB.out) hb); revert n0_ n1_ n2_ n3_; clear HO_6 HO_7 HB; intro HO_6 HO_7 HO307 HB; (try clear hb); (try clear hb2); (try clear hk); (try clear hi); (try clear ho0); obtain ⟨Ao50, co50, eo50⟩ := Kd.R_slice HO_7.out; subst eo50) | ((with_reducible refine gate_callee (f := 12) rfl ?_); refine goesL_ (some 105) rfl rfl Tryd.func12 (by kernel_rfl) rfl #[.slice Ao50 x7_2.length co50] rfl zA ?_; (with_reducible refine (parse_Parse.calls k2 _ _ x7_2 t308 t309 t310 _ ?side1 ?side2 A38.out).mono ?_); (case side1 => repeat (first | exact (Kd.R_reads' HO_7.out).2.2 | (with_reducible refine Kd.C_alloc ?_ _) | (with_reducible refine Kd.C_drewN ?_ _) | (with_reducible refine Kd.C_drew ?_))); (case side2 => exact (Kd.R_reads' HO_7.out).2.1); rintro e w51 ⟨v311, rfl, ho0, hb⟩; refine ⟨_, rfl, ?_⟩; have n0_ := Aside0.mk (Kd.R_below (zR HO_6.out) hb); have n1_ := Aside0.mk (Kd.R_below (zR HO_7.out) hb); have n2_ := Aside0.mk (Kd.S_elder' (by (with_reducible repeat (first | apply Kd.S_alloc | apply Kd.S_drewN | apply Kd.S_drew)); exact HO307.out) (Kd.S_base ho0) hb); have n3_ := Aside0.mk (Kd.S_lower (Kd.S_new' ho0 (Kd.S_lt (by (with_reducible repeat (first | apply Kd.S_alloc | apply Kd.S_drewN | apply Kd.S_drew)); exact HO307.out))) (below_size (zL HB.out))); have n4_ := Aside0.mk (below_step (zL HB.out) hb); revert n0_ n1_ n2_ n3_ n4_; clear HO_6 HO_7 HO307 HB; intro HO_6 HO_7 HO307 HO312 HB; (try clear hb); (try clear hb2); (try clear hk); (try clear hi); (try clear ho0); obtain ⟨Ao52, co52, eo52⟩ := Kd.S_slice HO307.out; subst eo52; have p313 : 0 ≤ (0 : Int) := (by omega); have q313 : 0 < (t303.length : Int) := zD; obtain ⟨ad313, A313_9, c313_9, e313, hx313_0, hx313_1, hx313_2, hx313_3, hx313_4, hx313_5, hx313_6, hx313_7, hx313_8, hx313_9, hl313_9, hi313_9⟩ := at_T45 (Kd.S_reads' HO307.out).2.2 0 p313 q313; cases e313; obtain ⟨ce313, hce313, hMe313, hcc313⟩ := Kd.S_get HO307.out z45 0 p313 (by first | exact q313 | exact zD | (have e_ := (Kd.S_reads' HO307.out).1; omega)); obtain ⟨ve313_9, rfl, ge313_9⟩ := k45_openM hMe313; have hv313_9 := hcc313 9 _ rfl; rw [add_field _ _ 9 (by omega)] at hv313_9; replace hv313_9 := Option.some.inj (hv313_9.symm.trans hx313_9); rw [hv313_9] at ge313_9; have HL313_9 := Aside0.mk (show Kd.R Kd.string 9 _ _ _ _ ((rd_T45 t303 0).f9) from ge313_9); clear hv313_9 ge313_9; clear hcc313 hce313; have qi313 : (0 < t303.length) = True := eq_true (by omega); (try simp only [show ((0 : Int)).toNat = 0 from rfl, show 0 * 10 = 0 from rfl, Addr.add_zero'] at hx313_0 hx313_1 hx313_2 hx313_3 hx313_4 hx313_5 hx313_6 hx313_7 hx313_8 hx313_9); have HR313_9 := Aside0.mk hi313_9; have HC313_9 := Aside0.mk hl313_9; clear hi313_9 hl313_9; replace p313 := eq_true p313; replace q313 := eq_true q313; have p314 : 0 ≤ (0 : Int) := (by omega); have q314 : 0 < (t303.length : Int) := zD; obtain ⟨ad314, A314_9, c314_9, e314, hx314_0, hx314_1, hx314_2, hx314_3, hx314_4, hx314_5, hx314_6, hx314_7, hx314_8, hx314_9, hl314_9, hi314_9⟩ := at_T45 (Kd.S_reads' HO307.out).2.2 0 p314 q314; obtain rfl : ad313 = ad314 := (by injection e314); obtain ⟨ce314, hce314, hMe314, hcc314⟩ := Kd.S_get HO307.out z45 0 p314 (by first | exact q314 | exact zD | (have e_ := (Kd.S_reads' HO307.out).1; omega)); obtain ⟨ve314_9, rfl, ge314_9⟩ := k45_openM hMe314; have hv314_9 := hcc314 9 _ rfl; rw [add_field _ _ 9 (by omega)] at hv314_9; replace hv314_9 := Option.some.inj (hv314_9.symm.trans hx314_9); rw [hv314_9] at ge314_9; have HL314_9 := Aside0.mk (show Kd.R Kd.string 9 _ _ _ _ ((rd_T45 t303 0).f9) from ge314_9); clear hv314_9 ge314_9; clear hcc314 hce314; have qi314 : (0 < t303.length) = True := eq_true (by omega); (try simp only [show ((0 : Int)).toNat = 0 from rfl, show 0 * 10 = 0 from rfl, Addr.add_zero'] at hx314_0 hx314_1 hx314_2 hx314_3 hx314_4 hx314_5 hx314_6 hx314_7 hx314_8 hx314_9); have HR314_9 := Aside0.mk hi314_9; have HC314_9 := Aside0.mk hl314_9; clear hi314_9 hl314_9; replace p314 := eq_true p314; replace q314 := eq_true q314; have ea_ := Option.some.inj (hx313_9.symm.trans hx314_9); injection ea_ with ea_ en_ ec_; subst ea_; subst ec_; clear en_; have p315 : 0 ≤ (0 : Int) := (by omega); have q315 : 0 < (t303.length : Int) := zD; obtain ⟨ad315, A315_9, c315_9, e315, hx315_0, hx315_1, hx315_2, hx315_3, hx315_4, hx315_5, hx315_6, hx315_7, hx315_8, hx315_9, hl315_9, hi315_9⟩ := at_T45 (Kd.S_reads' HO307.out).2.2 0 p315 q315; obtain rfl : ad313 = ad315 := (by injection e315); obtain ⟨ce315, hce315, hMe315, hcc315⟩ := Kd.S_get HO307.out z45 0 p315 (by first | exact q315 | exact zD | (have e_ := (Kd.S_reads' HO307.out).1; omega)); obtain ⟨ve315_9, rfl, ge315_9⟩ := k45_openM hMe315; have hv315_9 := hcc315 9 _ rfl; rw [add_field _ _ 9 (by omega)] at hv315_9; replace hv315_9 := Option.some.inj (hv315_9.symm.trans hx315_9); rw [hv315_9] at ge315_9; have HL315_9 := Aside0.mk (show Kd.R Kd.string 9 _ _ _ _ ((rd_T45 t303 0).f9) from ge315_9); clear hv315_9 ge315_9; clear hcc315 hce315; have qi315 : (0 < t303.length) = True := eq_true (by omega); (try simp only [show ((0 : Int)).toNat = 0 from rfl, show 0 * 10 = 0 from rfl, Addr.add_zero'] at hx315_0 hx315_1 hx315_2 hx315_3 hx315_4 hx315_5 hx315_6 hx315_7 hx315_8 hx315_9); have HR315_9 := Aside0.mk hi315_9; have HC315_9 := Aside0.mk hl315_9; clear hi315_9 hl315_9; replace p315 := eq_true p315; replace q315 := eq_true q315; have ea_ := Option.some.inj (hx313_9.symm.trans hx315_9); injection ea_ with ea_ en_ ec_; subst ea_; subst ec_; clear en_) | (go_at_call 19; (with_reducible refine (cooperagelaw9_sames.calls k2 _ _ ((rd_T45 t303 0).f9) _ _ l1 true _ ?side1 ?side2 ?side3 ?side4 A44.out).mono ?_); (case side1 => repeat (first | exact (by repeat (first | (with_reducible exact HR315_9.out) | (with_reducible refine Kd.C_alloc ?_ _) | (with_reducible refine Kd.C_drewN ?_ _) | (with_reducible refine Kd.C_drew ?_) | exact HR315_9.out)) | (with_reducible refine Kd.C_alloc ?_ _) | (with_reducible refine Kd.C_drewN ?_ _) | (with_reducible refine Kd.C_drew ?_))); (case side2 => exact HC315_9.out); (case side3 => repeat (first | exact (Kd.C_below HR1.out HB.out) | (with_reducible refine Kd.C_alloc ?_ _) | (with_reducible refine Kd.C_drewN ?_ _) | (with_reducible refine Kd.C_drew ?_))); (case side4 => exact HC1.out); rintro e w' ⟨rfl, ⟨nd, rfl⟩⟩))
                go_ret
                exact ⟨zE, zL HB.out⟩
               ·rw [if_neg c47] at H
                have c47b0 : ((l1.length : Int) == 0) = false := beq_eq_false_iff_ne.mpr c47
                try (have c46b0v := c46b0; rw [c47b0] at c46b0v; simp only [Bool.true_beq, Bool.false_beq, Bool.not_eq_true', Bool.not_eq_eq_eq_not, Bool.not_true, Bool.not_false] at c46b0v)
                try (have c46b2v := c46b2; rw [c47b0] at c46b2v; simp only [Bool.true_beq, Bool.false_beq, Bool.not_eq_true', Bool.not_eq_eq_eq_not, Bool.not_true, Bool.not_false] at c46b2v)
                have c47b1 : ((l1.length : Int) != 0) = true := bne_iff_ne.mpr c47
                have c47b2 : ¬ (l1 = []) := fun h_ => c47 (by rw [h_]; rfl)
                by_cases c53 : t309 = 2
                ·rw [if_pos c53] at H
                 have c53b0 : (t309 == 2) = true := beq_iff_eq.mpr c53
                 have c53b1 : (t309 != 2) = false := bne_eq_false_iff_eq.mpr c53
                 clear c53
                 obtain rfl := Option.some.inj H
                 obtain ⟨Ao54, co54, eo54⟩ := Kd.R_slice HO_6.out
                 subst eo54
                 go_wp2_with (first | ((with_reducible refine gate_callee (f := 12) rfl ?_); refine goesL_ (some 99) rfl rfl Tryd.func12 (by kernel_rfl) rfl #[.slice Ao54 x6_2.length co54] rfl zA ?_; (with_reducible refine (parse_Parse.calls k2 _ _ x6_2 t303 t304 t305 _ ?side1 ?side2 A37.out).mono ?_); (case side1 => repeat (first | exact (Kd.R_reads' HO_6.out).2.2 | (with_reducible refine Kd.C_alloc ?_ _) | (with_reducible refine Kd.C_drewN ?_ _) | (with_reducible refine Kd.C_drew ?_))); (case side2 => exact (Kd.R_reads' HO_6.out).2.1); rintro e w55 ⟨v306, rfl, ho0, hb⟩; refine ⟨_, rfl, ?_⟩; have n0_ := Aside0.mk (Kd.R_below (zR HO_6.out) hb); have n1_ := Aside0.mk (Kd.R_below (zR HO_7.out) hb); have n2_ := Aside0.mk (Kd.S_lower ho0 (below_size (zL HB.out))); have n3_ := Aside0.mk (below_step (zL HB.out) hb); revert n0_ n1_ n2_ n3_; clear HO_6 HO_7 HB; intro HO_6 HO_7 HO307 HB; (try clear hb); (try clear hb2); (try clear hk); (try clear hi); (try clear ho0); obtain ⟨Ao56, co56, eo56⟩ := Kd.R_slice HO_7.out; subst eo56) | ((with_reducible refine gate_callee (f := 12) rfl ?_); refine goesL_ (some 105) rfl rfl Tryd.func12 (by kernel_rfl) rfl #[.slice Ao56 x7_2.length co56] rfl zA ?_; (with_reducible refine (parse_Parse.calls k2 _ _ x7_2 t308 t309 t310 _ ?side1 ?side2 A38.out).mono ?_); (case side1 => repeat (first | exact (Kd.R_reads' HO_7.out).2.2 | (with_reducible refine Kd.C_alloc ?_ _) | (with_reducible refine Kd.C_drewN ?_ _) | (with_reducible refine Kd.C_drew ?_))); (case side2 => exact (Kd.R_reads' HO_7.out).2.1); rintro e w57 ⟨v311, rfl, ho0, hb⟩; refine ⟨_, rfl, ?_⟩; have n0_ := Aside0.mk (Kd.R_below (zR HO_6.out) hb); have n1_ := Aside0.mk (Kd.R_below (zR HO_7.out) hb); have n2_ := Aside0.mk (Kd.S_elder' (by (with_reducible repeat (first | apply Kd.S_alloc | apply Kd.S_drewN | apply Kd.S_drew)); exact HO307.out) (Kd.S_base ho0) hb); have n3_ := Aside0.mk (Kd.S_lower (Kd.S_new' ho0 (Kd.S_lt (by (with_reducible repeat (first | apply Kd.S_alloc | apply Kd.S_drewN | apply Kd.S_drew)); exact HO307.out))) (below_size (zL HB.out))); have n4_ := Aside0.mk (below_step (zL HB.out) hb); revert n0_ n1_ n2_ n3_ n4_; clear HO_6 HO_7 HO307 HB; intro HO_6 HO_7 HO307 HO312 HB; (try clear hb); (try clear hb2); (try clear hk); (try clear hi); (try clear ho0); obtain ⟨Ao58, co58, eo58⟩ := Kd.S_slice HO307.out; subst eo58; have p313 : 0 ≤ (0 : Int) := (by omega); have q313 : 0 < (t303.length : Int) := zD; obtain ⟨ad313, A313_9, c313_9, e313, hx313_0, hx313_1, hx313_2, hx313_3, hx313_4, hx313_5, hx313_6, hx313_7, hx313_8, hx313_9, hl313_9, hi313_9⟩ := at_T45 (Kd.S_reads' HO307.out).2.2 0 p313 q313; cases e313; obtain ⟨ce313, hce313, hMe313, hcc313⟩ := Kd.S_get HO307.out z45 0 p313 (by first | exact q313 | exact zD | (have e_ := (Kd.S_reads' HO307.out).1; omega)); obtain ⟨ve313_9, rfl, ge313_9⟩ := k45_openM hMe313; have hv313_9 := hcc313 9 _ rfl; rw [add_field _ _ 9 (by omega)] at hv313_9; replace hv313_9 := Option.some.inj (hv313_9.symm.trans hx313_9); rw [hv313_9] at ge313_9; have HL313_9 := Aside0.mk (show Kd.R Kd.string 9 _ _ _ _ ((rd_T45 t303 0).f9) from ge313_9); clear hv313_9 ge313_9; clear hcc313 hce313; have qi313 : (0 < t303.length) = True := eq_true (by omega); (try simp only [show ((0 : Int)).toNat = 0 from rfl, show 0 * 10 = 0 from rfl, Addr.add_zero'] at hx313_0 hx313_1 hx313_2 hx313_3 hx313_4 hx313_5 hx313_6 hx313_7 hx313_8 hx313_9); have HR313_9 := Aside0.mk hi313_9; have HC313_9 := Aside0.mk hl313_9; clear hi313_9 hl313_9; replace p313 := eq_true p313; replace q313 := eq_true q313; have p314 : 0 ≤ (0 : Int) := (by omega); have q314 : 0 < (t303.length : Int) := zD; obtain ⟨ad314, A314_9, c314_9, e314, hx314_0, hx314_1, hx314_2, hx314_3, hx314_4, hx314_5, hx314_6, hx314_7, hx314_8, hx314_9, hl314_9, hi314_9⟩ := at_T45 (Kd.S_reads' HO307.out).2.2 0 p314 q314; obtain rfl : ad313 = ad314 := (by injection e314); obtain ⟨ce314, hce314, hMe314, hcc314⟩ := Kd.S_get HO307.out z45 0 p314 (by first | exact q314 | exact zD | (have e_ := (Kd.S_reads' HO307.out).1; omega)); obtain ⟨ve314_9, rfl, ge314_9⟩ := k45_openM hMe314; have hv314_9 := hcc314 9 _ rfl; rw [add_field _ _ 9 (by omega)] at hv314_9; replace hv314_9 := Option.some.inj (hv314_9.symm.trans hx314_9); rw [hv314_9] at ge314_9; have HL314_9 := Aside0.mk (show Kd.R Kd.string 9 _ _ _ _ ((rd_T45 t303 0).f9) from ge314_9); clear hv314_9 ge314_9; clear hcc314 hce314; have qi314 : (0 < t303.length) = True := eq_true (by omega); (try simp only [show ((0 : Int)).toNat = 0 from rfl, show 0 * 10 = 0 from rfl, Addr.add_zero'] at hx314_0 hx314_1 hx314_2 hx314_3 hx314_4 hx314_5 hx314_6 hx314_7 hx314_8 hx314_9); have HR314_9 := Aside0.mk hi314_9; have HC314_9 := Aside0.mk hl314_9; clear hi314_9 hl314_9; replace p314 := eq_true p314; replace q314 := eq_true q314; have ea_ := Option.some.inj (hx313_9.symm.trans hx314_9); injection ea_ with ea_ en_ ec_; subst ea_; subst ec_; clear en_; have p315 : 0 ≤ (0 : Int) := (by omega); have q315 : 0 < (t303.length : Int) := zD; obtain ⟨ad315, A315_9, c315_9, e315, hx315_0, hx315_1, hx315_2, hx315_3, hx315_4, hx315_5, hx315_6, hx315_7, hx315_8, hx315_9, hl315_9, hi315_9⟩ := at_T45 (Kd.S_reads' HO307.out).2.2 0 p315 q315; obtain rfl : ad313 = ad315 := (by injection e315); obtain ⟨ce315, hce315, hMe315, hcc315⟩ := Kd.S_get HO307.out z45 0 p315 (by first | exact q315 | exact zD | (have e_ := (Kd.S_reads' HO307.out).1; omega)); obtain ⟨ve315_9, rfl, ge315_9⟩ := k45_openM hMe315; have hv315_9 := hcc315 9 _ rfl; rw [add_field _ _ 9 (by omega)] at hv315_9; replace hv315_9 := Option.some.inj (hv315_9.symm.trans hx315_9); rw [hv315_9] at ge315_9; have HL315_9 := Aside0.mk (show Kd.R Kd.string 9 _ _ _ _ ((rd_T45 t303 0).f9) from ge315_9); clear hv315_9 ge315_9; clear hcc315 hce315; have qi315 : (0 < t303.length) = True := eq_true (by omega); (try simp only [show ((0 : Int)).toNat = 0 from rfl, show 0 * 10 = 0 from rfl, Addr.add_zero'] at hx315_0 hx315_1 hx315_2 hx315_3 hx315_4 hx315_5 hx315_6 hx315_7 hx315_8 hx315_9); have HR315_9 := Aside0.mk hi315_9; have HC315_9 := Aside0.mk hl315_9; clear hi315_9 hl315_9; replace p315 := eq_true p315; replace q315 := eq_true q315; have ea_ := Option.some.inj (hx313_9.symm.trans hx315_9); injection ea_ with ea_ en_ ec_; subst ea_; subst ec_; clear en_) | (go_at_call 19; (with_reducible refine (cooperagelaw9_sames.calls k2 _ _ ((rd_T45 t303 0).f9) _ _ l1 true _ ?side1 ?side2 ?side3 ?side4 A44.out).mono ?_); (case side1 => repeat (first | exact (by repeat (first | (with_reducible exact HR315_9.out) | (with_reducible refine Kd.C_alloc ?_ _) | (with_reducible refine Kd.C_drewN ?_ _) | (with_reducible refine Kd.C_drew ?_) | exact HR315_9.out)) | (with_reducible refine Kd.C_alloc ?_ _) | (with_reducible refine Kd.C_drewN ?_ _) | (with_reducible refine Kd.C_drew ?_))); (case side2 => exact HC315_9.out); (case side3 => repeat (first | exact (Kd.C_below HR1.out HB.out) | (with_reducible refine Kd.C_alloc ?_ _) | (with_reducible refine Kd.C_drewN ?_ _) | (with_reducible refine Kd.C_drew ?_))); (case side4 => exact HC1.out); rintro e w' ⟨rfl, ⟨nd, rfl⟩⟩))
                 go_ret
                 exact ⟨zE, zL HB.out⟩
                ·rw [if_neg c53] at H
                 have c53b0 : (t309 == 2) = false := beq_eq_false_iff_ne.mpr c53
                 have c53b1 : (t309 != 2) = true := bne_iff_ne.mpr c53
                 obtain rfl := Option.some.inj H
                 obtain ⟨Ao59, co59, eo59⟩ := Kd.R_slice HO_6.out
                 subst eo59
                 go_wp2_with (first | ((with_reducible refine gate_callee (f := 12) rfl ?_); refine goesL_ (some 99) rfl rfl Tryd.func12 (by kernel_rfl) rfl #[.slice Ao59 x6_2.length co59] rfl zA ?_; (with_reducible refine (parse_Parse.calls k2 _ _ x6_2 t303 t304 t305 _ ?side1 ?side2 A37.out).mono ?_); (case side1 => repeat (first | exact (Kd.R_reads' HO_6.out).2.2 | (with_reducible refine Kd.C_alloc ?_ _) | (with_reducible refine Kd.C_drewN ?_ _) | (with_reducible refine Kd.C_drew ?_))); (case side2 => exact (Kd.R_reads' HO_6.out).2.1); rintro e w60 ⟨v306, rfl, ho0, hb⟩; refine ⟨_, rfl, ?_⟩; have n0_ := Aside0.mk (Kd.R_below (zR HO_6.out) hb); have n1_ := Aside0.mk (Kd.R_below (zR HO_7.out) hb); have n2_ := Aside0.mk (Kd.S_lower ho0 (below_size (zL HB.out))); have n3_ := Aside0.mk (below_step (zL HB.out) hb); revert n0_ n1_ n2_ n3_; clear HO_6 HO_7 HB; intro HO_6 HO_7 HO307 HB; (try clear hb); (try clear hb2); (try clear hk); (try clear hi); (try clear ho0); obtain ⟨Ao61, co61, eo61⟩ := Kd.R_slice HO_7.out; subst eo61) | ((with_reducible refine gate_callee (f := 12) rfl ?_); refine goesL_ (some 105) rfl rfl Tryd.func12 (by kernel_rfl) rfl #[.slice Ao61 x7_2.length co61] rfl zA ?_; (with_reducible refine (parse_Parse.calls k2 _ _ x7_2 t308 t309 t310 _ ?side1 ?side2 A38.out).mono ?_); (case side1 => repeat (first | exact (Kd.R_reads' HO_7.out).2.2 | (with_reducible refine Kd.C_alloc ?_ _) | (with_reducible refine Kd.C_drewN ?_ _) | (with_reducible refine Kd.C_drew ?_))); (case side2 => exact (Kd.R_reads' HO_7.out).2.1); rintro e w62 ⟨v311, rfl, ho0, hb⟩; refine ⟨_, rfl, ?_⟩; have n0_ := Aside0.mk (Kd.R_below (zR HO_6.out) hb); have n1_ := Aside0.mk (Kd.R_below (zR HO_7.out) hb); have n2_ := Aside0.mk (Kd.S_elder' (by (with_reducible repeat (first | apply Kd.S_alloc | apply Kd.S_drewN | apply Kd.S_drew)); exact HO307.out) (Kd.S_base ho0) hb); have n3_ := Aside0.mk (Kd.S_lower (Kd.S_new' ho0 (Kd.S_lt (by (with_reducible repeat (first | apply Kd.S_alloc | apply Kd.S_drewN | apply Kd.S_drew)); exact HO307.out))) (below_size (zL HB.out))); have n4_ := Aside0.mk (below_step (zL HB.out) hb); revert n0_ n1_ n2_ n3_ n4_; clear HO_6 HO_7 HO307 HB; intro HO_6 HO_7 HO307 HO312 HB; (try clear hb); (try clear hb2); (try clear hk); (try clear hi); (try clear ho0); obtain ⟨Ao63, co63, eo63⟩ := Kd.S_slice HO307.out; subst eo63; have p313 : 0 ≤ (0 : Int) := (by omega); have q313 : 0 < (t303.length : Int) := zD; obtain ⟨ad313, A313_9, c313_9, e313, hx313_0, hx313_1, hx313_2, hx313_3, hx313_4, hx313_5, hx313_6, hx313_7, hx313_8, hx313_9, hl313_9, hi313_9⟩ := at_T45 (Kd.S_reads' HO307.out).2.2 0 p313 q313; cases e313; obtain ⟨ce313, hce313, hMe313, hcc313⟩ := Kd.S_get HO307.out z45 0 p313 (by first | exact q313 | exact zD | (have e_ := (Kd.S_reads' HO307.out).1; omega)); obtain ⟨ve313_9, rfl, ge313_9⟩ := k45_openM hMe313; have hv313_9 := hcc313 9 _ rfl; rw [add_field _ _ 9 (by omega)] at hv313_9; replace hv313_9 := Option.some.inj (hv313_9.symm.trans hx313_9); rw [hv313_9] at ge313_9; have HL313_9 := Aside0.mk (show Kd.R Kd.string 9 _ _ _ _ ((rd_T45 t303 0).f9) from ge313_9); clear hv313_9 ge313_9; clear hcc313 hce313; have qi313 : (0 < t303.length) = True := eq_true (by omega); (try simp only [show ((0 : Int)).toNat = 0 from rfl, show 0 * 10 = 0 from rfl, Addr.add_zero'] at hx313_0 hx313_1 hx313_2 hx313_3 hx313_4 hx313_5 hx313_6 hx313_7 hx313_8 hx313_9); have HR313_9 := Aside0.mk hi313_9; have HC313_9 := Aside0.mk hl313_9; clear hi313_9 hl313_9; replace p313 := eq_true p313; replace q313 := eq_true q313; have p314 : 0 ≤ (0 : Int) := (by omega); have q314 : 0 < (t303.length : Int) := zD; obtain ⟨ad314, A314_9, c314_9, e314, hx314_0, hx314_1, hx314_2, hx314_3, hx314_4, hx314_5, hx314_6, hx314_7, hx314_8, hx314_9, hl314_9, hi314_9⟩ := at_T45 (Kd.S_reads' HO307.out).2.2 0 p314 q314; obtain rfl : ad313 = ad314 := (by injection e314); obtain ⟨ce314, hce314, hMe314, hcc314⟩ := Kd.S_get HO307.out z45 0 p314 (by first | exact q314 | exact zD | (have e_ := (Kd.S_reads' HO307.out).1; omega)); obtain ⟨ve314_9, rfl, ge314_9⟩ := k45_openM hMe314; have hv314_9 := hcc314 9 _ rfl; rw [add_field _ _ 9 (by omega)] at hv314_9; replace hv314_9 := Option.some.inj (hv314_9.symm.trans hx314_9); rw [hv314_9] at ge314_9; have HL314_9 := Aside0.mk (show Kd.R Kd.string 9 _ _ _ _ ((rd_T45 t303 0).f9) from ge314_9); clear hv314_9 ge314_9; clear hcc314 hce314; have qi314 : (0 < t303.length) = True := eq_true (by omega); (try simp only [show ((0 : Int)).toNat = 0 from rfl, show 0 * 10 = 0 from rfl, Addr.add_zero'] at hx314_0 hx314_1 hx314_2 hx314_3 hx314_4 hx314_5 hx314_6 hx314_7 hx314_8 hx314_9); have HR314_9 := Aside0.mk hi314_9; have HC314_9 := Aside0.mk hl314_9; clear hi314_9 hl314_9; replace p314 := eq_true p314; replace q314 := eq_true q314; have ea_ := Option.some.inj (hx313_9.symm.trans hx314_9); injection ea_ with ea_ en_ ec_; subst ea_; subst ec_; clear en_; have p315 : 0 ≤ (0 : Int) := (by omega); have q315 : 0 < (t303.length : Int) := zD; obtain ⟨ad315, A315_9, c315_9, e315, hx315_0, hx315_1, hx315_2, hx315_3, hx315_4, hx315_5, hx315_6, hx315_7, hx315_8, hx315_9, hl315_9, hi315_9⟩ := at_T45 (Kd.S_reads' HO307.out).2.2 0 p315 q315; obtain rfl : ad313 = ad315 := (by injection e315); obtain ⟨ce315, hce315, hMe315, hcc315⟩ := Kd.S_get HO307.out z45 0 p315 (by first | exact q315 | exact zD | (have e_ := (Kd.S_reads' HO307.out).1; omega)); obtain ⟨ve315_9, rfl, ge315_9⟩ := k45_openM hMe315; have hv315_9 := hcc315 9 _ rfl; rw [add_field _ _ 9 (by omega)] at hv315_9; replace hv315_9 := Option.some.inj (hv315_9.symm.trans hx315_9); rw [hv315_9] at ge315_9; have HL315_9 := Aside0.mk (show Kd.R Kd.string 9 _ _ _ _ ((rd_T45 t303 0).f9) from ge315_9); clear hv315_9 ge315_9; clear hcc315 hce315; have qi315 : (0 < t303.length) = True := eq_true (by omega); (try simp only [show ((0 : Int)).toNat = 0 from rfl, show 0 * 10 = 0 from rfl, Addr.add_zero'] at hx315_0 hx315_1 hx315_2 hx315_3 hx315_4 hx315_5 hx315_6 hx315_7 hx315_8 hx315_9); have HR315_9 := Aside0.mk hi315_9; have HC315_9 := Aside0.mk hl315_9; clear hi315_9 hl315_9; replace p315 := eq_true p315; replace q315 := eq_true q315; have ea_ := Option.some.inj (hx313_9.symm.trans hx315_9); injection ea_ with ea_ en_ ec_; subst ea_; subst ec_; clear en_) | (go_at_call 19; (with_reducible refine (cooperagelaw9_sames.calls k2 _ _ ((rd_T45 t303 0).f9) _ _ l1 true _ ?side1 ?side2 ?side3 ?side4 A44.out).mono ?_); (case side1 => repeat (first | exact (by repeat (first | (with_reducible exact HR315_9.out) | (with_reducible refine Kd.C_alloc ?_ _) | (with_reducible refine Kd.C_drewN ?_ _) | (with_reducible refine Kd.C_drew ?_) | exact HR315_9.out)) | (with_reducible refine Kd.C_alloc ?_ _) | (with_reducible refine Kd.C_drewN ?_ _) | (with_reducible refine Kd.C_drew ?_))); (case side2 => exact HC315_9.out); (case side3 => repeat (first | exact (Kd.C_below HR1.out HB.out) | (with_reducible refine Kd.C_alloc ?_ _) | (with_reducible refine Kd.C_drewN ?_ _) | (with_reducible refine Kd.C_drew ?_))); (case side4 => exact HC1.out); rintro e w' ⟨rfl, ⟨nd, rfl⟩⟩))
                 go_ret
                 exact ⟨zE, zL HB.out⟩
              ·rw [if_neg c46] at H
               have c46b0 : (((l1.length : Int) == 0) == (t309 == 0)) = false := by simpa using c46
               (try (have c46b1 : decide (((l1.length : Int) == 0) = (t309 == 0)) = false := by simpa using c46))
               (try (have c46b2 : (((l1.length : Int) == 0) == (t309 == 0)) = false := by simpa using c46))
               (try (have c46b3 : ¬ (((l1.length : Int) == 0) = (t309 == 0)) := by simpa using c46))
               clear c46
               obtain rfl := Option.some.inj H
               obtain ⟨Ao64, co64, eo64⟩ := Kd.R_slice HO_6.out
               subst eo64
               go_wp2_with (first | ((with_reducible refine gate_callee (f := 12) rfl ?_); refine goesL_ (some 99) rfl rfl Tryd.func12 (by kernel_rfl) rfl #[.slice Ao64 x6_2.length co64] rfl zA ?_; (with_reducible refine (parse_Parse.calls k2 _ _ x6_2 t303 t304 t305 _ ?side1 ?side2 A37.out).mono ?_); (case side1 => repeat (first | exact (Kd.R_reads' HO_6.out).2.2 | (with_reducible refine Kd.C_alloc ?_ _) | (with_reducible refine Kd.C_drewN ?_ _) | (with_reducible refine Kd.C_drew ?_))); (case side2 => exact (Kd.R_reads' HO_6.out).2.1); rintro e w65 ⟨v306, rfl, ho0, hb⟩; refine ⟨_, rfl, ?_⟩; have n0_ := Aside0.mk (Kd.R_below (zR HO_6.out) hb); have n1_ := Aside0.mk (Kd.R_below (zR HO_7.out) hb); have n2_ := Aside0.mk (Kd.S_lower ho0 (below_size (zL HB.out))); have n3_ := Aside0.mk (below_step (zL HB.out) hb); revert n0_ n1_ n2_ n3_; clear HO_6 HO_7 HB; intro HO_6 HO_7 HO307 HB; (try clear hb); (try clear hb2); (try clear hk); (try clear hi); (try clear ho0); obtain ⟨Ao66, co66, eo66⟩ := Kd.R_slice HO_7.out; subst eo66) | ((with_reducible refine gate_callee (f := 12) rfl ?_); refine goesL_ (some 105) rfl rfl Tryd.func12 (by kernel_rfl) rfl #[.slice Ao66 x7_2.length co66] rfl zA ?_; (with_reducible refine (parse_Parse.calls k2 _ _ x7_2 t308 t309 t310 _ ?side1 ?side2 A38.out).mono ?_); (case side1 => repeat (first | exact (Kd.R_reads' HO_7.out).2.2 | (with_reducible refine Kd.C_alloc ?_ _) | (with_reducible refine Kd.C_drewN ?_ _) | (with_reducible refine Kd.C_drew ?_))); (case side2 => exact (Kd.R_reads' HO_7.out).2.1); rintro e w67 ⟨v311, rfl, ho0, hb⟩; refine ⟨_, rfl, ?_⟩; have n0_ := Aside0.mk (Kd.R_below (zR HO_6.out) hb); have n1_ := Aside0.mk (Kd.R_below (zR HO_7.out) hb); have n2_ := Aside0.mk (Kd.S_elder' (by (with_reducible repeat (first | apply Kd.S_alloc | apply Kd.S_drewN | apply Kd.S_drew)); exact HO307.out) (Kd.S_base ho0) hb); have n3_ := Aside0.mk (Kd.S_lower (Kd.S_new' ho0 (Kd.S_lt (by (with_reducible repeat (first | apply Kd.S_alloc | apply Kd.S_drewN | apply Kd.S_drew)); exact HO307.out))) (below_size (zL HB.out))); have n4_ := Aside0.mk (below_step (zL HB.out) hb); revert n0_ n1_ n2_ n3_ n4_; clear HO_6 HO_7 HO307 HB; intro HO_6 HO_7 HO307 HO312 HB; (try clear hb); (try clear hb2); (try clear hk); (try clear hi); (try clear ho0); obtain ⟨Ao68, co68, eo68⟩ := Kd.S_slice HO307.out; subst eo68; have p313 : 0 ≤ (0 : Int) := (by omega); have q313 : 0 < (t303.length : Int) := zD; obtain ⟨ad313, A313_9, c313_9, e313, hx313_0, hx313_1, hx313_2, hx313_3, hx313_4, hx313_5, hx313_6, hx313_7, hx313_8, hx313_9, hl313_9, hi313_9⟩ := at_T45 (Kd.S_reads' HO307.out).2.2 0 p313 q313; cases e313; obtain ⟨ce313, hce313, hMe313, hcc313⟩ := Kd.S_get HO307.out z45 0 p313 (by first | exact q313 | exact zD | (have e_ := (Kd.S_reads' HO307.out).1; omega)); obtain ⟨ve313_9, rfl, ge313_9⟩ := k45_openM hMe313; have hv313_9 := hcc313 9 _ rfl; rw [add_field _ _ 9 (by omega)] at hv313_9; replace hv313_9 := Option.some.inj (hv313_9.symm.trans hx313_9); rw [hv313_9] at ge313_9; have HL313_9 := Aside0.mk (show Kd.R Kd.string 9 _ _ _ _ ((rd_T45 t303 0).f9) from ge313_9); clear hv313_9 ge313_9; clear hcc313 hce313; have qi313 : (0 < t303.length) = True := eq_true (by omega); (try simp only [show ((0 : Int)).toNat = 0 from rfl, show 0 * 10 = 0 from rfl, Addr.add_zero'] at hx313_0 hx313_1 hx313_2 hx313_3 hx313_4 hx313_5 hx313_6 hx313_7 hx313_8 hx313_9); have HR313_9 := Aside0.mk hi313_9; have HC313_9 := Aside0.mk hl313_9; clear hi313_9 hl313_9; replace p313 := eq_true p313; replace q313 := eq_true q313; have p314 : 0 ≤ (0 : Int) := (by omega); have q314 : 0 < (t303.length : Int) := zD; obtain ⟨ad314, A314_9, c314_9, e314, hx314_0, hx314_1, hx314_2, hx314_3, hx314_4, hx314_5, hx314_6, hx314_7, hx314_8, hx314_9, hl314_9, hi314_9⟩ := at_T45 (Kd.S_reads' HO307.out).2.2 0 p314 q314; obtain rfl : ad313 = ad314 := (by injection e314); obtain ⟨ce314, hce314, hMe314, hcc314⟩ := Kd.S_get HO307.out z45 0 p314 (by first | exact q314 | exact zD | (have e_ := (Kd.S_reads' HO307.out).1; omega)); obtain ⟨ve314_9, rfl, ge314_9⟩ := k45_openM hMe314; have hv314_9 := hcc314 9 _ rfl; rw [add_field _ _ 9 (by omega)] at hv314_9; replace hv314_9 := Option.some.inj (hv314_9.symm.trans hx314_9); rw [hv314_9] at ge314_9; have HL314_9 := Aside0.mk (show Kd.R Kd.string 9 _ _ _ _ ((rd_T45 t303 0).f9) from ge314_9); clear hv314_9 ge314_9; clear hcc314 hce314; have qi314 : (0 < t303.length) = True := eq_true (by omega); (try simp only [show ((0 : Int)).toNat = 0 from rfl, show 0 * 10 = 0 from rfl, Addr.add_zero'] at hx314_0 hx314_1 hx314_2 hx314_3 hx314_4 hx314_5 hx314_6 hx314_7 hx314_8 hx314_9); have HR314_9 := Aside0.mk hi314_9; have HC314_9 := Aside0.mk hl314_9; clear hi314_9 hl314_9; replace p314 := eq_true p314; replace q314 := eq_true q314; have ea_ := Option.some.inj (hx313_9.symm.trans hx314_9); injection ea_ with ea_ en_ ec_; subst ea_; subst ec_; clear en_; have p315 : 0 ≤ (0 : Int) := (by omega); have q315 : 0 < (t303.length : Int) := zD; obtain ⟨ad315, A315_9, c315_9, e315, hx315_0, hx315_1, hx315_2, hx315_3, hx315_4, hx315_5, hx315_6, hx315_7, hx315_8, hx315_9, hl315_9, hi315_9⟩ := at_T45 (Kd.S_reads' HO307.out).2.2 0 p315 q315; obtain rfl : ad313 = ad315 := (by injection e315); obtain ⟨ce315, hce315, hMe315, hcc315⟩ := Kd.S_get HO307.out z45 0 p315 (by first | exact q315 | exact zD | (have e_ := (Kd.S_reads' HO307.out).1; omega)); obtain ⟨ve315_9, rfl, ge315_9⟩ := k45_openM hMe315; have hv315_9 := hcc315 9 _ rfl; rw [add_field _ _ 9 (by omega)] at hv315_9; replace hv315_9 := Option.some.inj (hv315_9.symm.trans hx315_9); rw [hv315_9] at ge315_9; have HL315_9 := Aside0.mk (show Kd.R Kd.string 9 _ _ _ _ ((rd_T45 t303 0).f9) from ge315_9); clear hv315_9 ge315_9; clear hcc315 hce315; have qi315 : (0 < t303.length) = True := eq_true (by omega); (try simp only [show ((0 : Int)).toNat = 0 from rfl, show 0 * 10 = 0 from rfl, Addr.add_zero'] at hx315_0 hx315_1 hx315_2 hx315_3 hx315_4 hx315_5 hx315_6 hx315_7 hx315_8 hx315_9); have HR315_9 := Aside0.mk hi315_9; have HC315_9 := Aside0.mk hl315_9; clear hi315_9 hl315_9; replace p315 := eq_true p315; replace q315 := eq_true q315; have ea_ := Option.some.inj (hx313_9.symm.trans hx315_9); injection ea_ with ea_ en_ ec_; subst ea_; subst ec_; clear en_) | (go_at_call 19; (with_reducible refine (cooperagelaw9_sames.calls k2 _ _ ((rd_T45 t303 0).f9) _ _ l1 true _ ?side1 ?side2 ?side3 ?side4 A44.out).mono ?_); (case side1 => repeat (first | exact (by repeat (first | (with_reducible exact HR315_9.out) | (with_reducible refine Kd.C_alloc ?_ _) | (with_reducible refine Kd.C_drewN ?_ _) | (with_reducible refine Kd.C_drew ?_) | exact HR315_9.out)) | (with_reducible refine Kd.C_alloc ?_ _) | (with_reducible refine Kd.C_drewN ?_ _) | (with_reducible refine Kd.C_drew ?_))); (case side2 => exact HC315_9.out); (case side3 => repeat (first | exact (Kd.C_below HR1.out HB.out) | (with_reducible refine Kd.C_alloc ?_ _) | (with_reducible refine Kd.C_drewN ?_ _) | (with_reducible refine Kd.C_drew ?_))); (case side4 => exact HC1.out); rintro e w' ⟨rfl, ⟨nd, rfl⟩⟩))
               go_ret
               exact ⟨zE, zL HB.out⟩
             ·replace c45 := Bool.eq_false_iff.mpr c45
              subst c45
              have H1 : (some false) = some r := by rw [if_neg (show ¬ (false = true) by decide)] at H; exact H
              clear H
              have H := H1
              clear H1
              obtain rfl := Option.some.inj H
              obtain ⟨Ao69, co69, eo69⟩ := Kd.R_slice HO_6.out
              subst eo69
              go_wp2_with (first | ((with_reducible refine gate_callee (f := 12) rfl ?_); refine goesL_ (some 99) rfl rfl Tryd.func12 (by kernel_rfl) rfl #[.slice Ao69 x6_2.length co69] rfl zA ?_; (with_reducible refine (parse_Parse.calls k2 _ _ x6_2 t303 t304 t305 _ ?side1 ?side2 A37.out).mono ?_); (case side1 => repeat (first | exact (Kd.R_reads' HO_6.out).2.2 | (with_reducible refine Kd.C_alloc ?_ _) | (with_reducible refine Kd.C_drewN ?_ _) | (with_reducible refine Kd.C_drew ?_))); (case side2 => exact (Kd.R_reads' HO_6.out).2.1); rintro e w70 ⟨v306, rfl, ho0, hb⟩; refine ⟨_, rfl, ?_⟩; have n0_ := Aside0.mk (Kd.R_below (zR HO_6.out) hb); have n1_ := Aside0.mk (Kd.R_below (zR HO_7.out) hb); have n2_ := Aside0.mk (Kd.S_lower ho0 (below_size (zL HB.out))); have n3_ := Aside0.mk (below_step (zL HB.out) hb); revert n0_ n1_ n2_ n3_; clear HO_6 HO_7 HB; intro HO_6 HO_7 HO307 HB; (try clear hb); (try clear hb2); (try clear hk); (try clear hi); (try clear ho0); obtain ⟨Ao71, co71, eo71⟩ := Kd.R_slice HO_7.out; subst eo71) | ((with_reducible refine gate_callee (f := 12) rfl ?_); refine goesL_ (some 105) rfl rfl Tryd.func12 (by kernel_rfl) rfl #[.slice Ao71 x7_2.length co71] rfl zA ?_; (with_reducible refine (parse_Parse.calls k2 _ _ x7_2 t308 t309 t310 _ ?side1 ?side2 A38.out).mono ?_); (case side1 => repeat (first | exact (Kd.R_reads' HO_7.out).2.2 | (with_reducible refine Kd.C_alloc ?_ _) | (with_reducible refine Kd.C_drewN ?_ _) | (with_reducible refine Kd.C_drew ?_))); (case side2 => exact (Kd.R_reads' HO_7.out).2.1); rintro e w72 ⟨v311, rfl, ho0, hb⟩; refine ⟨_, rfl, ?_⟩; have n0_ := Aside0.mk (Kd.R_below (zR HO_6.out) hb); have n1_ := Aside0.mk (Kd.R_below (zR HO_7.out) hb); have n2_ := Aside0.mk (Kd.S_elder' (by (with_reducible repeat (first | apply Kd.S_alloc | apply Kd.S_drewN | apply Kd.S_drew)); exact HO307.out) (Kd.S_base ho0) hb); have n3_ := Aside0.mk (Kd.S_lower (Kd.S_new' ho0 (Kd.S_lt (by (with_reducible repeat (first | apply Kd.S_alloc | apply Kd.S_drewN | apply Kd.S_drew)); exact HO307.out))) (below_size (zL HB.out))); have n4_ := Aside0.mk (below_step (zL HB.out) hb); revert n0_ n1_ n2_ n3_ n4_; clear HO_6 HO_7 HO307 HB; intro HO_6 HO_7 HO307 HO312 HB; (try clear hb); (try clear hb2); (try clear hk); (try clear hi); (try clear ho0); obtain ⟨Ao73, co73, eo73⟩ := Kd.S_slice HO307.out; subst eo73; have p313 : 0 ≤ (0 : Int) := (by omega); have q313 : 0 < (t303.length : Int) := zD; obtain ⟨ad313, A313_9, c313_9, e313, hx313_0, hx313_1, hx313_2, hx313_3, hx313_4, hx313_5, hx313_6, hx313_7, hx313_8, hx313_9, hl313_9, hi313_9⟩ := at_T45 (Kd.S_reads' HO307.out).2.2 0 p313 q313; cases e313; obtain ⟨ce313, hce313, hMe313, hcc313⟩ := Kd.S_get HO307.out z45 0 p313 (by first | exact q313 | exact zD | (have e_ := (Kd.S_reads' HO307.out).1; omega)); obtain ⟨ve313_9, rfl, ge313_9⟩ := k45_openM hMe313; have hv313_9 := hcc313 9 _ rfl; rw [add_field _ _ 9 (by omega)] at hv313_9; replace hv313_9 := Option.some.inj (hv313_9.symm.trans hx313_9); rw [hv313_9] at ge313_9; have HL313_9 := Aside0.mk (show Kd.R Kd.string 9 _ _ _ _ ((rd_T45 t303 0).f9) from ge313_9); clear hv313_9 ge313_9; clear hcc313 hce313; have qi313 : (0 < t303.length) = True := eq_true (by omega); (try simp only [show ((0 : Int)).toNat = 0 from rfl, show 0 * 10 = 0 from rfl, Addr.add_zero'] at hx313_0 hx313_1 hx313_2 hx313_3 hx313_4 hx313_5 hx313_6 hx313_7 hx313_8 hx313_9); have HR313_9 := Aside0.mk hi313_9; have HC313_9 := Aside0.mk hl313_9; clear hi313_9 hl313_9; replace p313 := eq_true p313; replace q313 := eq_true q313; have p314 : 0 ≤ (0 : Int) := (by omega); have q314 : 0 < (t303.length : Int) := zD; obtain ⟨ad314, A314_9, c314_9, e314, hx314_0, hx314_1, hx314_2, hx314_3, hx314_4, hx314_5, hx314_6, hx314_7, hx314_8, hx314_9, hl314_9, hi314_9⟩ := at_T45 (Kd.S_reads' HO307.out).2.2 0 p314 q314; obtain rfl : ad313 = ad314 := (by injection e314); obtain ⟨ce314, hce314, hMe314, hcc314⟩ := Kd.S_get HO307.out z45 0 p314 (by first | exact q314 | exact zD | (have e_ := (Kd.S_reads' HO307.out).1; omega)); obtain ⟨ve314_9, rfl, ge314_9⟩ := k45_openM hMe314; have hv314_9 := hcc314 9 _ rfl; rw [add_field _ _ 9 (by omega)] at hv314_9; replace hv314_9 := Option.some.inj (hv314_9.symm.trans hx314_9); rw [hv314_9] at ge314_9; have HL314_9 := Aside0.mk (show Kd.R Kd.string 9 _ _ _ _ ((rd_T45 t303 0).f9) from ge314_9); clear hv314_9 ge314_9; clear hcc314 hce314; have qi314 : (0 < t303.length) = True := eq_true (by omega); (try simp only [show ((0 : Int)).toNat = 0 from rfl, show 0 * 10 = 0 from rfl, Addr.add_zero'] at hx314_0 hx314_1 hx314_2 hx314_3 hx314_4 hx314_5 hx314_6 hx314_7 hx314_8 hx314_9); have HR314_9 := Aside0.mk hi314_9; have HC314_9 := Aside0.mk hl314_9; clear hi314_9 hl314_9; replace p314 := eq_true p314; replace q314 := eq_true q314; have ea_ := Option.some.inj (hx313_9.symm.trans hx314_9); injection ea_ with ea_ en_ ec_; subst ea_; subst ec_; clear en_; have p315 : 0 ≤ (0 : Int) := (by omega); have q315 : 0 < (t303.length : Int) := zD; obtain ⟨ad315, A315_9, c315_9, e315, hx315_0, hx315_1, hx315_2, hx315_3, hx315_4, hx315_5, hx315_6, hx315_7, hx315_8, hx315_9, hl315_9, hi315_9⟩ := at_T45 (Kd.S_reads' HO307.out).2.2 0 p315 q315; obtain rfl : ad313 = ad315 := (by injection e315); obtain ⟨ce315, hce315, hMe315, hcc315⟩ := Kd.S_get HO307.out z45 0 p315 (by first | exact q315 | exact zD | (have e_ := (Kd.S_reads' HO307.out).1; omega)); obtain ⟨ve315_9, rfl, ge315_9⟩ := k45_openM hMe315; have hv315_9 := hcc315 9 _ rfl; rw [add_field _ _ 9 (by omega)] at hv315_9; replace hv315_9 := Option.some.inj (hv315_9.symm.trans hx315_9); rw [hv315_9] at ge315_9; have HL315_9 := Aside0.mk (show Kd.R Kd.string 9 _ _ _ _ ((rd_T45 t303 0).f9) from ge315_9); clear hv315_9 ge315_9; clear hcc315 hce315; have qi315 : (0 < t303.length) = True := eq_true (by omega); (try simp only [show ((0 : Int)).toNat = 0 from rfl, show 0 * 10 = 0 from rfl, Addr.add_zero'] at hx315_0 hx315_1 hx315_2 hx315_3 hx315_4 hx315_5 hx315_6 hx315_7 hx315_8 hx315_9); have HR315_9 := Aside0.mk hi315_9; have HC315_9 := Aside0.mk hl315_9; clear hi315_9 hl315_9; replace p315 := eq_true p315; replace q315 := eq_true q315; have ea_ := Option.some.inj (hx313_9.symm.trans hx315_9); injection ea_ with ea_ en_ ec_; subst ea_; subst ec_; clear en_) | (go_at_call 19; (with_reducible refine (cooperagelaw9_sames.calls k2 _ _ ((rd_T45 t303 0).f9) _ _ l1 false _ ?side1 ?side2 ?side3 ?side4 A44.out).mono ?_); (case side1 => repeat (first | exact (by repeat (first | (with_reducible exact HR315_9.out) | (with_reducible refine Kd.C_alloc ?_ _) | (with_reducible refine Kd.C_drewN ?_ _) | (with_reducible refine Kd.C_drew ?_) | exact HR315_9.out)) | (with_reducible refine Kd.C_alloc ?_ _) | (with_reducible refine Kd.C_drewN ?_ _) | (with_reducible refine Kd.C_drew ?_))); (case side2 => exact HC315_9.out); (case side3 => repeat (first | exact (Kd.C_below HR1.out HB.out) | (with_reducible refine Kd.C_alloc ?_ _) | (with_reducible refine Kd.C_drewN ?_ _) | (with_reducible refine Kd.C_drew ?_))); (case side4 => exact HC1.out); rintro e w' ⟨rfl, ⟨nd, rfl⟩⟩))
              go_ret
              exact ⟨zE, zL HB.out⟩
            ·rw [if_neg c43] at H
             have c43b0 : (((rd_T45 t303 0).f7).toList == ([120] : List UInt8)) = false := beq_eq_false_iff_ne.mpr c43
             have c43b1 : (((rd_T45 t303 0).f7).toList != ([120] : List UInt8)) = true := bne_iff_ne.mpr c43
             obtain rfl := Option.some.inj H
             obtain ⟨Ao74, co74, eo74⟩ := Kd.R_slice HO_6.out
             subst eo74
             go_wp2_with (first | ((with_reducible refine gate_callee (f := 12) rfl ?_); refine goesL_ (some 99) rfl rfl Tryd.func12 (by kernel_rfl) rfl #[.slice Ao74 x6_2.length co74] rfl zA ?_; (with_reducible refine (parse_Parse.calls k2 _ _ x6_2 t303 t304 t305 _ ?side1 ?side2 A37.out).mono ?_); (case side1 => repeat (first | exact (Kd.R_reads' HO_6.out).2.2 | (with_reducible refine Kd.C_alloc ?_ _) | (with_reducible refine Kd.C_drewN ?_ _) | (with_reducible refine Kd.C_drew ?_))); (case side2 => exact (Kd.R_reads' HO_6.out).2.1); rintro e w75 ⟨v306, rfl, ho0, hb⟩; refine ⟨_, rfl, ?_⟩; have n0_ := Aside0.mk (Kd.R_below (zR HO_6.out) hb); have n1_ := Aside0.mk (Kd.R_below (zR HO_7.out) hb); have n2_ := Aside0.mk (Kd.S_lower ho0 (below_size (zL HB.out))); have n3_ := Aside0.mk (below_step (zL HB.out) hb); revert n0_ n1_ n2_ n3_; clear HO_6 HO_7 HB; intro HO_6 HO_7 HO307 HB; (try clear hb); (try clear hb2); (try clear hk); (try clear hi); (try clear ho0); obtain ⟨Ao76, co76, eo76⟩ := Kd.R_slice HO_7.out; subst eo76) | ((with_reducible refine gate_callee (f := 12) rfl ?_); refine goesL_ (some 105) rfl rfl Tryd.func12 (by kernel_rfl) rfl #[.slice Ao76 x7_2.length co76] rfl zA ?_; (with_reducible refine (parse_Parse.calls k2 _ _ x7_2 t308 t309 t310 _ ?side1 ?side2 A38.out).mono ?_); (case side1 => repeat (first | exact (Kd.R_reads' HO_7.out).2.2 | (with_reducible refine Kd.C_alloc ?_ _) | (with_reducible refine Kd.C_drewN ?_ _) | (with_reducible refine Kd.C_drew ?_))); (case side2 => exact (Kd.R_reads' HO_7.out).2.1); rintro e w77 ⟨v311, rfl, ho0, hb⟩; refine ⟨_, rfl, ?_⟩; have n0_ := Aside0.mk (Kd.R_below (zR HO_6.out) hb); have n1_ := Aside0.mk (Kd.R_below (zR HO_7.out) hb); have n2_ := Aside0.mk (Kd.S_elder' (by (with_reducible repeat (first | apply Kd.S_alloc | apply Kd.S_drewN | apply Kd.S_drew)); exact HO307.out) (Kd.S_base ho0) hb); have n3_ := Aside0.mk (Kd.S_lower (Kd.S_new' ho0 (Kd.S_lt (by (with_reducible repeat (first | apply Kd.S_alloc | apply Kd.S_drewN | apply Kd.S_drew)); exact HO307.out))) (below_size (zL HB.out))); have n4_ := Aside0.mk (below_step (zL HB.out) hb); revert n0_ n1_ n2_ n3_ n4_; clear HO_6 HO_7 HO307 HB; intro HO_6 HO_7 HO307 HO312 HB; (try clear hb); (try clear hb2); (try clear hk); (try clear hi); (try clear ho0); obtain ⟨Ao78, co78, eo78⟩ := Kd.S_slice HO307.out; subst eo78; have p313 : 0 ≤ (0 : Int) := (by omega); have q313 : 0 < (t303.length : Int) := zD; obtain ⟨ad313, A313_9, c313_9, e313, hx313_0, hx313_1, hx313_2, hx313_3, hx313_4, hx313_5, hx313_6, hx313_7, hx313_8, hx313_9, hl313_9, hi313_9⟩ := at_T45 (Kd.S_reads' HO307.out).2.2 0 p313 q313; cases e313; obtain ⟨ce313, hce313, hMe313, hcc313⟩ := Kd.S_get HO307.out z45 0 p313 (by first | exact q313 | exact zD | (have e_ := (Kd.S_reads' HO307.out).1; omega)); obtain ⟨ve313_9, rfl, ge313_9⟩ := k45_openM hMe313; have hv313_9 := hcc313 9 _ rfl; rw [add_field _ _ 9 (by omega)] at hv313_9; replace hv313_9 := Option.some.inj (hv313_9.symm.trans hx313_9); rw [hv313_9] at ge313_9; have HL313_9 := Aside0.mk (show Kd.R Kd.string 9 _ _ _ _ ((rd_T45 t303 0).f9) from ge313_9); clear hv313_9 ge313_9; clear hcc313 hce313; have qi313 : (0 < t303.length) = True := eq_true (by omega); (try simp only [show ((0 : Int)).toNat = 0 from rfl, show 0 * 10 = 0 from rfl, Addr.add_zero'] at hx313_0 hx313_1 hx313_2 hx313_3 hx313_4 hx313_5 hx313_6 hx313_7 hx313_8 hx313_9); have HR313_9 := Aside0.mk hi313_9; have HC313_9 := Aside0.mk hl313_9; clear hi313_9 hl313_9; replace p313 := eq_true p313; replace q313 := eq_true q313; have p314 : 0 ≤ (0 : Int) := (by omega); have q314 : 0 < (t303.length : Int) := zD; obtain ⟨ad314, A314_9, c314_9, e314, hx314_0, hx314_1, hx314_2, hx314_3, hx314_4, hx314_5, hx314_6, hx314_7, hx314_8, hx314_9, hl314_9, hi314_9⟩ := at_T45 (Kd.S_reads' HO307.out).2.2 0 p314 q314; obtain rfl : ad313 = ad314 := (by injection e314); obtain ⟨ce314, hce314, hMe314, hcc314⟩ := Kd.S_get HO307.out z45 0 p314 (by first | exact q314 | exact zD | (have e_ := (Kd.S_reads' HO307.out).1; omega)); obtain ⟨ve314_9, rfl, ge314_9⟩ := k45_openM hMe314; have hv314_9 := hcc314 9 _ rfl; rw [add_field _ _ 9 (by omega)] at hv314_9; replace hv314_9 := Option.some.inj (hv314_9.symm.trans hx314_9); rw [hv314_9] at ge314_9; have HL314_9 := Aside0.mk (show Kd.R Kd.string 9 _ _ _ _ ((rd_T45 t303 0).f9) from ge314_9); clear hv314_9 ge314_9; clear hcc314 hce314; have qi314 : (0 < t303.length) = True := eq_true (by omega); (try simp only [show ((0 : Int)).toNat = 0 from rfl, show 0 * 10 = 0 from rfl, Addr.add_zero'] at hx314_0 hx314_1 hx314_2 hx314_3 hx314_4 hx314_5 hx314_6 hx314_7 hx314_8 hx314_9); have HR314_9 := Aside0.mk hi314_9; have HC314_9 := Aside0.mk hl314_9; clear hi314_9 hl314_9; replace p314 := eq_true p314; replace q314 := eq_true q314; have ea_ := Option.some.inj (hx313_9.symm.trans hx314_9); injection ea_ with ea_ en_ ec_; subst ea_; subst ec_; clear en_))
             go_ret
             exact ⟨zE, zL HB.out⟩
           ·rw [if_neg c42] at H
            have c42b0 : (((rd_T45 t303 0).f5).toList == a0.toList) = false := beq_eq_false_iff_ne.mpr c42
            have c42b1 : (((rd_T45 t303 0).f5).toList != a0.toList) = true := bne_iff_ne.mpr c42
            obtain rfl := Option.some.inj H
            obtain ⟨Ao79, co79, eo79⟩ := Kd.R_slice HO_6.out
            subst eo79
            go_wp2_with (first | ((with_reducible refine gate_callee (f := 12) rfl ?_); refine goesL_ (some 99) rfl rfl Tryd.func12 (by kernel_rfl) rfl #[.slice Ao79 x6_2.length co79] rfl zA ?_; (with_reducible refine (parse_Parse.calls k2 _ _ x6_2 t303 t304 t305 _ ?side1 ?side2 A37.out).mono ?_); (case side1 => repeat (first | exact (Kd.R_reads' HO_6.out).2.2 | (with_reducible refine Kd.C_alloc ?_ _) | (with_reducible refine Kd.C_drewN ?_ _) | (with_reducible refine Kd.C_drew ?_))); (case side2 => exact (Kd.R_reads' HO_6.out).2.1); rintro e w80 ⟨v306, rfl, ho0, hb⟩; refine ⟨_, rfl, ?_⟩; have n0_ := Aside0.mk (Kd.R_below (zR HO_6.out) hb); have n1_ := Aside0.mk (Kd.R_below (zR HO_7.out) hb); have n2_ := Aside0.mk (Kd.S_lower ho0 (below_size (zL HB.out))); have n3_ := Aside0.mk (below_step (zL HB.out) hb); revert n0_ n1_ n2_ n3_; clear HO_6 HO_7 HB; intro HO_6 HO_7 HO307 HB; (try clear hb); (try clear hb2); (try clear hk); (try clear hi); (try clear ho0); obtain ⟨Ao81, co81, eo81⟩ := Kd.R_slice HO_7.out; subst eo81) | ((with_reducible refine gate_callee (f := 12) rfl ?_); refine goesL_ (some 105) rfl rfl Tryd.func12 (by kernel_rfl) rfl #[.slice Ao81 x7_2.length co81] rfl zA ?_; (with_reducible refine (parse_Parse.calls k2 _ _ x7_2 t308 t309 t310 _ ?side1 ?side2 A38.out).mono ?_); (case side1 => repeat (first | exact (Kd.R_reads' HO_7.out).2.2 | (with_reducible refine Kd.C_alloc ?_ _) | (with_reducible refine Kd.C_drewN ?_ _) | (with_reducible refine Kd.C_drew ?_))); (case side2 => exact (Kd.R_reads' HO_7.out).2.1); rintro e w82 ⟨v311, rfl, ho0, hb⟩; refine ⟨_, rfl, ?_⟩; have n0_ := Aside0.mk (Kd.R_below (zR HO_6.out) hb); have n1_ := Aside0.mk (Kd.R_below (zR HO_7.out) hb); have n2_ := Aside0.mk (Kd.S_elder' (by (with_reducible repeat (first | apply Kd.S_alloc | apply Kd.S_drewN | apply Kd.S_drew)); exact HO307.out) (Kd.S_base ho0) hb); have n3_ := Aside0.mk (Kd.S_lower (Kd.S_new' ho0 (Kd.S_lt (by (with_reducible repeat (first | apply Kd.S_alloc | apply Kd.S_drewN | apply Kd.S_drew)); exact HO307.out))) (below_size (zL HB.out))); have n4_ := Aside0.mk (below_step (zL HB.out) hb); revert n0_ n1_ n2_ n3_ n4_; clear HO_6 HO_7 HO307 HB; intro HO_6 HO_7 HO307 HO312 HB; (try clear hb); (try clear hb2); (try clear hk); (try clear hi); (try clear ho0); obtain ⟨Ao83, co83, eo83⟩ := Kd.S_slice HO307.out; subst eo83; have p313 : 0 ≤ (0 : Int) := (by omega); have q313 : 0 < (t303.length : Int) := zD; obtain ⟨ad313, A313_9, c313_9, e313, hx313_0, hx313_1, hx313_2, hx313_3, hx313_4, hx313_5, hx313_6, hx313_7, hx313_8, hx313_9, hl313_9, hi313_9⟩ := at_T45 (Kd.S_reads' HO307.out).2.2 0 p313 q313; cases e313; obtain ⟨ce313, hce313, hMe313, hcc313⟩ := Kd.S_get HO307.out z45 0 p313 (by first | exact q313 | exact zD | (have e_ := (Kd.S_reads' HO307.out).1; omega)); obtain ⟨ve313_9, rfl, ge313_9⟩ := k45_openM hMe313; have hv313_9 := hcc313 9 _ rfl; rw [add_field _ _ 9 (by omega)] at hv313_9; replace hv313_9 := Option.some.inj (hv313_9.symm.trans hx313_9); rw [hv313_9] at ge313_9; have HL313_9 := Aside0.mk (show Kd.R Kd.string 9 _ _ _ _ ((rd_T45 t303 0).f9) from ge313_9); clear hv313_9 ge313_9; clear hcc313 hce313; have qi313 : (0 < t303.length) = True := eq_true (by omega); (try simp only [show ((0 : Int)).toNat = 0 from rfl, show 0 * 10 = 0 from rfl, Addr.add_zero'] at hx313_0 hx313_1 hx313_2 hx313_3 hx313_4 hx313_5 hx313_6 hx313_7 hx313_8 hx313_9); have HR313_9 := Aside0.mk hi313_9; have HC313_9 := Aside0.mk hl313_9; clear hi313_9 hl313_9; replace p313 := eq_true p313; replace q313 := eq_true q313))
            go_ret
            exact ⟨zE, zL HB.out⟩
          ·rw [if_neg c41] at H
           exact absurd H (by simp)
         ·rw [if_neg c40] at H
          have c40b0 : ((t303.length : Int) == 1) = false := beq_eq_false_iff_ne.mpr c40
          have c40b1 : ((t303.length : Int) != 1) = true := bne_iff_ne.mpr c40
          obtain rfl := Option.some.inj H
          obtain ⟨Ao84, co84, eo84⟩ := Kd.R_slice HO_6.out
          subst eo84
          go_wp2_with (first | ((with_reducible refine gate_callee (f := 12) rfl ?_); refine goesL_ (some 99) rfl rfl Tryd.func12 (by kernel_rfl) rfl #[.slice Ao84 x6_2.length co84] rfl zA ?_; (with_reducible refine (parse_Parse.calls k2 _ _ x6_2 t303 t304 t305 _ ?side1 ?side2 A37.out).mono ?_); (case side1 => repeat (first | exact (Kd.R_reads' HO_6.out).2.2 | (with_reducible refine Kd.C_alloc ?_ _) | (with_reducible refine Kd.C_drewN ?_ _) | (with_reducible refine Kd.C_drew ?_))); (case side2 => exact (Kd.R_reads' HO_6.out).2.1); rintro e w85 ⟨v306, rfl, ho0, hb⟩; refine ⟨_, rfl, ?_⟩; have n0_ := Aside0.mk (Kd.R_below (zR HO_6.out) hb); have n1_ := Aside0.mk (Kd.R_below (zR HO_7.out) hb); have n2_ := Aside0.mk (Kd.S_lower ho0 (below_size (zL HB.out))); have n3_ := Aside0.mk (below_step (zL HB.out) hb); revert n0_ n1_ n2_ n3_; clear HO_6 HO_7 HB; intro HO_6 HO_7 HO307 HB; (try clear hb); (try clear hb2); (try clear hk); (try clear hi); (try clear ho0); obtain ⟨Ao86, co86, eo86⟩ := Kd.R_slice HO_7.out; subst eo86) | ((with_reducible refine gate_callee (f := 12) rfl ?_); refine goesL_ (some 105) rfl rfl Tryd.func12 (by kernel_rfl) rfl #[.slice Ao86 x7_2.length co86] rfl zA ?_; (with_reducible refine (parse_Parse.calls k2 _ _ x7_2 t308 t309 t310 _ ?side1 ?side2 A38.out).mono ?_); (case side1 => repeat (first | exact (Kd.R_reads' HO_7.out).2.2 | (with_reducible refine Kd.C_alloc ?_ _) | (with_reducible refine Kd.C_drewN ?_ _) | (with_reducible refine Kd.C_drew ?_))); (case side2 => exact (Kd.R_reads' HO_7.out).2.1); rintro e w87 ⟨v311, rfl, ho0, hb⟩; refine ⟨_, rfl, ?_⟩; have n0_ := Aside0.mk (Kd.R_below (zR HO_6.out) hb); have n1_ := Aside0.mk (Kd.R_below (zR HO_7.out) hb); have n2_ := Aside0.mk (Kd.S_elder' (by (with_reducible repeat (first | apply Kd.S_alloc | apply Kd.S_drewN | apply Kd.S_drew)); exact HO307.out) (Kd.S_base ho0) hb); have n3_ := Aside0.mk (Kd.S_lower (Kd.S_new' ho0 (Kd.S_lt (by (with_reducible repeat (first | apply Kd.S_alloc | apply Kd.S_drewN | apply Kd.S_drew)); exact HO307.out))) (below_size (zL HB.out))); have n4_ := Aside0.mk (below_step (zL HB.out) hb); revert n0_ n1_ n2_ n3_ n4_; clear HO_6 HO_7 HO307 HB; intro HO_6 HO_7 HO307 HO312 HB; (try clear hb); (try clear hb2); (try clear hk); (try clear hi); (try clear ho0); obtain ⟨Ao88, co88, eo88⟩ := Kd.S_slice HO307.out; subst eo88))
          go_ret
          exact ⟨zE, zL HB.out⟩
        ·rw [if_neg c39] at H
         have c39b0 : (t304 == 0) = false := beq_eq_false_iff_ne.mpr c39
         have c39b1 : (t304 != 0) = true := bne_iff_ne.mpr c39
         obtain rfl := Option.some.inj H
         obtain ⟨Ao89, co89, eo89⟩ := Kd.R_slice HO_6.out
         subst eo89
         go_wp2_with (first | ((with_reducible refine gate_callee (f := 12) rfl ?_); refine goesL_ (some 99) rfl rfl Tryd.func12 (by kernel_rfl) rfl #[.slice Ao89 x6_2.length co89] rfl zA ?_; (with_reducible refine (parse_Parse.calls k2 _ _ x6_2 t303 t304 t305 _ ?side1 ?side2 A37.out).mono ?_); (case side1 => repeat (first | exact (Kd.R_reads' HO_6.out).2.2 | (with_reducible refine Kd.C_alloc ?_ _) | (with_reducible refine Kd.C_drewN ?_ _) | (with_reducible refine Kd.C_drew ?_))); (case side2 => exact (Kd.R_reads' HO_6.out).2.1); rintro e w90 ⟨v306, rfl, ho0, hb⟩; refine ⟨_, rfl, ?_⟩; have n0_ := Aside0.mk (Kd.R_below (zR HO_6.out) hb); have n1_ := Aside0.mk (Kd.R_below (zR HO_7.out) hb); have n2_ := Aside0.mk (Kd.S_lower ho0 (below_size (zL HB.out))); have n3_ := Aside0.mk (below_step (zL HB.out) hb); revert n0_ n1_ n2_ n3_; clear HO_6 HO_7 HB; intro HO_6 HO_7 HO307 HB; (try clear hb); (try clear hb2); (try clear hk); (try clear hi); (try clear ho0); obtain ⟨Ao91, co91, eo91⟩ := Kd.R_slice HO_7.out; subst eo91) | ((with_reducible refine gate_callee (f := 12) rfl ?_); refine goesL_ (some 105) rfl rfl Tryd.func12 (by kernel_rfl) rfl #[.slice Ao91 x7_2.length co91] rfl zA ?_; (with_reducible refine (parse_Parse.calls k2 _ _ x7_2 t308 t309 t310 _ ?side1 ?side2 A38.out).mono ?_); (case side1 => repeat (first | exact (Kd.R_reads' HO_7.out).2.2 | (with_reducible refine Kd.C_alloc ?_ _) | (with_reducible refine Kd.C_drewN ?_ _) | (with_reducible refine Kd.C_drew ?_))); (case side2 => exact (Kd.R_reads' HO_7.out).2.1); rintro e w92 ⟨v311, rfl, ho0, hb⟩; refine ⟨_, rfl, ?_⟩; have n0_ := Aside0.mk (Kd.R_below (zR HO_6.out) hb); have n1_ := Aside0.mk (Kd.R_below (zR HO_7.out) hb); have n2_ := Aside0.mk (Kd.S_elder' (by (with_reducible repeat (first | apply Kd.S_alloc | apply Kd.S_drewN | apply Kd.S_drew)); exact HO307.out) (Kd.S_base ho0) hb); have n3_ := Aside0.mk (Kd.S_lower (Kd.S_new' ho0 (Kd.S_lt (by (with_reducible repeat (first | apply Kd.S_alloc | apply Kd.S_drewN | apply Kd.S_drew)); exact HO307.out))) (below_size (zL HB.out))); have n4_ := Aside0.mk (below_step (zL HB.out) hb); revert n0_ n1_ n2_ n3_ n4_; clear HO_6 HO_7 HO307 HB; intro HO_6 HO_7 HO307 HO312 HB; (try clear hb); (try clear hb2); (try clear hk); (try clear hi); (try clear ho0)))
         go_ret
         exact ⟨zE, zL HB.out⟩
    ·rw [if_neg c27] at H
     exact absurd H (by simp)

/-- THE ONE PURE STATEMENT of cooperagelaw9_ParseRecipes. -/
def cooperagelaw9_ParseRecipes.Pure : Prop := ∀ (a0 : ByteArray) (l1 : List ByteArray), a0.size ≤ 140737488351232 → l1.length ≤ 9223372036854775807 → l1.length * 16 ≤ 140737488351232 → (∀ x ∈ l1, x.size ≤ 9223372036854775807) → ∃ k, cooperagelaw9_ParseRecipes.f k a0 l1 = some true
theorem cooperagelaw9_ParseRecipes.walk (P : cooperagelaw9_ParseRecipes.Pure) (a0 : ByteArray) (A1 : Option Addr) (c1 : Nat) (l1 : List ByteArray) (w : World) (w0 : a0.size ≤ 140737488351232) (r1 : Kd.C Kd.string w A1 l1.length l1) (q1 : l1.length ≤ c1) (m1 : l1.length ≤ 9223372036854775807) (y1 : l1.length * 16 ≤ 140737488351232) (e1 : ∀ x ∈ l1, x.size ≤ 9223372036854775807) :
  Calls Tryd.prog 8 #[.string a0, .slice A1 l1.length c1] w fun e w' => e = .returned (.bool true) ∧ Below w.heap.size w w' := by
 obtain ⟨k, h⟩ := P a0 l1 w0 m1 y1 e1
 refine (cooperagelaw9_ParseRecipes.calls k a0 _ _ l1 true w r1 q1 h).mono ?_
 rintro e w' ⟨rfl, hd⟩
 exact ⟨rfl, hd⟩

end Go.Proofs.YthnholondnfjoaaDoor.PParse
