-- Written by a program of this session (wip/tools/ext.py, over the kit's printer); not trusted: Lean checks it.
import Derived.Test.YthnholondnfjoaaDoorPParsex0
import Derived.Test.YthnholondnfjoaaDoorPParsex7
import Derived.Test.YthnholondnfjoaaDoorPParsex8
import Derived.Test.YthnholondnfjoaaDoorPParsex9
namespace Go.Proofs.YthnholondnfjoaaDoor.PParse
open Go.RowKit Go.Proofs.YthnholondnfjoaaDoorW.PrintWords Go.Proofs.YthnholondnfjoaaDoorW.PrintLast Go.Proofs.YthnholondnfjoaaDoorW.PrintMore
attribute [local go_sem] max2_int min2_int max_two min_two max_three min_three max_four min_four   -- for this text's walks alone
set_option linter.unusedVariables false
set_option linter.unusedSimpArgs false

/-! ### cooperagelaw9_ParseConds: function 7 -/
mutual
def cooperagelaw9_ParseConds.j0 : Nat → List (S43) → Bool → Bool → Option (Bool)
 | 0, _, _, _ => none
 | k + 1, x0, x3, x24 => if x24 = true then (some x3) else ((parse_Parse.f k x0).bind fun bt282 => (if bt282.2.1 = 0 then (cooperagelaw9_ParseConds.l0 k bt282.1 0 0 0 0) else (if (bt282.1.length : Int) = 0 then (if bt282.2.2 = 0 then (some ((bt282.2.1 == 14) == (bt282.2.1 == 14))) else (some (!(bt282.2.1 == 14)))) else (some false))))
def cooperagelaw9_ParseConds.l0 : Nat → List (S45) → Int → Int → Int → Int → Option (Bool)
 | 0, _, _, _, _, _ => none
 | k + 1, x6, x9, x10, x11, x12 => if x12 < (x6.length : Int) then (if 0 ≤ x12 then (if ((rd_T45 x6 x12).f0) = 3 then (cooperagelaw9_ParseConds.j2 k x6 (wrap64 (x9 + 1)) x10 (wrap64 (x11 + 1)) x12) else (cooperagelaw9_ParseConds.j2 k x6 x9 x10 x11 x12)) else (none)) else (if x9 = 0 then (some (decide (x10 ≤ x11))) else (some false))
def cooperagelaw9_ParseConds.j2 : Nat → List (S45) → Int → Int → Int → Int → Option (Bool)
 | 0, _, _, _, _, _ => none
 | k + 1, x6, x9, x10, x11, x12 => if 0 ≤ x12 then (if x12 < (x6.length : Int) then (if ((rd_T45 x6 x12).f0) = 4 then (cooperagelaw9_ParseConds.j3 k x6 x9 (wrap64 (x10 + 1)) x11 x12) else (cooperagelaw9_ParseConds.j3 k x6 x9 x10 x11 x12)) else (none)) else (none)
def cooperagelaw9_ParseConds.j3 : Nat → List (S45) → Int → Int → Int → Int → Option (Bool)
 | 0, _, _, _, _, _ => none
 | k + 1, x6, x9, x10, x11, x12 => if 0 ≤ x12 then (if x12 < (x6.length : Int) then (if ((rd_T45 x6 x12).f0) = 5 then (if (wrap64 (x9 - 1)) < 0 then (some false) else (if (wrap64 (x9 - 1)) > 20 then (some false) else (if ((rd_T45 x6 x12).f0) = 4 then (if (wrap64 (x9 - 1)) = 0 then (some false) else (cooperagelaw9_ParseConds.l0 k x6 (wrap64 (x9 - 1)) x10 x11 (wrap64 (x12 + 1)))) else (cooperagelaw9_ParseConds.l0 k x6 (wrap64 (x9 - 1)) x10 x11 (wrap64 (x12 + 1)))))) else (if x9 < 0 then (some false) else (if x9 > 20 then (some false) else (if ((rd_T45 x6 x12).f0) = 4 then (if x9 = 0 then (some false) else (cooperagelaw9_ParseConds.l0 k x6 x9 x10 x11 (wrap64 (x12 + 1)))) else (cooperagelaw9_ParseConds.l0 k x6 x9 x10 x11 (wrap64 (x12 + 1))))))) else (none)) else (none)
end
def cooperagelaw9_ParseConds.f (k : Nat) (l0 : List (S43)) : Option (Bool) := (cooperagelaw9_shown.f k).bind fun t277 => ((cooperagelaw9_as.f k l0).bind fun bt278 => (if t277 = true then (cooperagelaw9_ParseConds.j0 k l0 t277 (!bt278.2)) else (cooperagelaw9_ParseConds.j0 k l0 t277 true)))
theorem cooperagelaw9_ParseConds.mono_l : ∀ k, (∀ y0 y1 y2, LeO (cooperagelaw9_ParseConds.j0 k y0 y1 y2) (cooperagelaw9_ParseConds.j0 (k + 1) y0 y1 y2)) ∧ (∀ y0 y1 y2 y3 y4, LeO (cooperagelaw9_ParseConds.l0 k y0 y1 y2 y3 y4) (cooperagelaw9_ParseConds.l0 (k + 1) y0 y1 y2 y3 y4)) ∧ (∀ y0 y1 y2 y3 y4, LeO (cooperagelaw9_ParseConds.j2 k y0 y1 y2 y3 y4) (cooperagelaw9_ParseConds.j2 (k + 1) y0 y1 y2 y3 y4)) ∧ (∀ y0 y1 y2 y3 y4, LeO (cooperagelaw9_ParseConds.j3 k y0 y1 y2 y3 y4) (cooperagelaw9_ParseConds.j3 (k + 1) y0 y1 y2 y3 y4))
 | 0 => ⟨fun _ _ _ r h => by simp [cooperagelaw9_ParseConds.j0] at h, fun _ _ _ _ _ r h => by simp [cooperagelaw9_ParseConds.l0] at h, fun _ _ _ _ _ r h => by simp [cooperagelaw9_ParseConds.j2] at h, fun _ _ _ _ _ r h => by simp [cooperagelaw9_ParseConds.j3] at h⟩
 | k + 1 => by
  obtain ⟨ih0, ih1, ih2, ih3⟩ := cooperagelaw9_ParseConds.mono_l k
  refine ⟨?_, ?_, ?_, ?_⟩
  ·intro y0 y1 y2
   unfold cooperagelaw9_ParseConds.j0
   repeat' first
   | (with_reducible exact ih0 _ _ _)
   | (with_reducible exact ih1 _ _ _ _ _)
   | (with_reducible exact ih2 _ _ _ _ _)
   | (with_reducible exact ih3 _ _ _ _ _)
   | (with_reducible exact cooperagelaw9_as.mono _ _)
   | (with_reducible exact cooperagelaw9_shown.mono _)
   | (with_reducible exact parse_Parse.mono _ _)
   | (with_reducible exact LeO.refl _)
   | (with_reducible exact LeO.none _)
   | (with_reducible refine LeO.ite ?_ ?_)
   | (with_reducible refine LeO.bind ?_ (fun _ => ?_))
   | exact ih0 _ _ _
   | exact ih1 _ _ _ _ _
   | exact ih2 _ _ _ _ _
   | exact ih3 _ _ _ _ _
   | exact cooperagelaw9_as.mono _ _
   | exact cooperagelaw9_shown.mono _
   | exact parse_Parse.mono _ _
   | exact LeO.none _
   | refine LeO.ite ?_ ?_
   | refine LeO.bind ?_ (fun _ => ?_)
  ·intro y0 y1 y2 y3 y4
   unfold cooperagelaw9_ParseConds.l0
   repeat' first
   | (with_reducible exact ih0 _ _ _)
   | (with_reducible exact ih1 _ _ _ _ _)
   | (with_reducible exact ih2 _ _ _ _ _)
   | (with_reducible exact ih3 _ _ _ _ _)
   | (with_reducible exact cooperagelaw9_as.mono _ _)
   | (with_reducible exact cooperagelaw9_shown.mono _)
   | (with_reducible exact parse_Parse.mono _ _)
   | (with_reducible exact LeO.refl _)
   | (with_reducible exact LeO.none _)
   | (with_reducible refine LeO.ite ?_ ?_)
   | (with_reducible refine LeO.bind ?_ (fun _ => ?_))
   | exact ih0 _ _ _
   | exact ih1 _ _ _ _ _
   | exact ih2 _ _ _ _ _
   | exact ih3 _ _ _ _ _
   | exact cooperagelaw9_as.mono _ _
   | exact cooperagelaw9_shown.mono _
   | exact parse_Parse.mono _ _
   | exact LeO.none _
   | refine LeO.ite ?_ ?_
   | refine LeO.bind ?_ (fun _ => ?_)
  ·intro y0 y1 y2 y3 y4
   unfold cooperagelaw9_ParseConds.j2
   repeat' first
   | (with_reducible exact ih0 _ _ _)
   | (with_reducible exact ih1 _ _ _ _ _)
   | (with_reducible exact ih2 _ _ _ _ _)
   | (with_reducible exact ih3 _ _ _ _ _)
   | (with_reducible exact cooperagelaw9_as.mono _ _)
   | (with_reducible exact cooperagelaw9_shown.mono _)
   | (with_reducible exact parse_Parse.mono _ _)
   | (with_reducible exact LeO.refl _)
   | (with_reducible exact LeO.none _)
   | (with_reducible refine LeO.ite ?_ ?_)
   | (with_reducible refine LeO.bind ?_ (fun _ => ?_))
   | exact ih0 _ _ _
   | exact ih1 _ _ _ _ _
   | exact ih2 _ _ _ _ _
   | exact ih3 _ _ _ _ _
   | exact cooperagelaw9_as.mono _ _
   | exact cooperagelaw9_shown.mono _
   | exact parse_Parse.mono _ _
   | exact LeO.none _
   | refine LeO.ite ?_ ?_
   | refine LeO.bind ?_ (fun _ => ?_)
  ·intro y0 y1 y2 y3 y4
   unfold cooperagelaw9_ParseConds.j3
   repeat' first
   | (with_reducible exact ih0 _ _ _)
   | (with_reducible exact ih1 _ _ _ _ _)
   | (with_reducible exact ih2 _ _ _ _ _)
   | (with_reducible exact ih3 _ _ _ _ _)
   | (with_reducible exact cooperagelaw9_as.mono _ _)
   | (with_reducible exact cooperagelaw9_shown.mono _)
   | (with_reducible exact parse_Parse.mono _ _)
   | (with_reducible exact LeO.refl _)
   | (with_reducible exact LeO.none _)
   | (with_reducible refine LeO.ite ?_ ?_)
   | (with_reducible refine LeO.bind ?_ (fun _ => ?_))
   | exact ih0 _ _ _
   | exact ih1 _ _ _ _ _
   | exact ih2 _ _ _ _ _
   | exact ih3 _ _ _ _ _
   | exact cooperagelaw9_as.mono _ _
   | exact cooperagelaw9_shown.mono _
   | exact parse_Parse.mono _ _
   | exact LeO.none _
   | refine LeO.ite ?_ ?_
   | refine LeO.bind ?_ (fun _ => ?_)
theorem cooperagelaw9_ParseConds.mono : ∀ a0 k, LeO (cooperagelaw9_ParseConds.f k a0) (cooperagelaw9_ParseConds.f (k + 1) a0) := by
 intro a0 k
 obtain ⟨ih0, ih1, ih2, ih3⟩ := cooperagelaw9_ParseConds.mono_l k
 unfold cooperagelaw9_ParseConds.f
 repeat' first
   | (with_reducible exact ih0 _ _ _)
   | (with_reducible exact ih1 _ _ _ _ _)
   | (with_reducible exact ih2 _ _ _ _ _)
   | (with_reducible exact ih3 _ _ _ _ _)
   | (with_reducible exact cooperagelaw9_as.mono _ _)
   | (with_reducible exact cooperagelaw9_shown.mono _)
   | (with_reducible exact parse_Parse.mono _ _)
   | (with_reducible exact LeO.refl _)
   | (with_reducible exact LeO.none _)
   | (with_reducible refine LeO.ite ?_ ?_)
   | (with_reducible refine LeO.bind ?_ (fun _ => ?_))
   | exact ih0 _ _ _
   | exact ih1 _ _ _ _ _
   | exact ih2 _ _ _ _ _
   | exact ih3 _ _ _ _ _
   | exact cooperagelaw9_as.mono _ _
   | exact cooperagelaw9_shown.mono _
   | exact parse_Parse.mono _ _
   | exact LeO.none _
   | refine LeO.ite ?_ ?_
   | refine LeO.bind ?_ (fun _ => ?_)
set_option maxHeartbeats 8000000 in
set_option maxRecDepth 100000 in
theorem cooperagelaw9_ParseConds.calls (k : Nat) (A0 : Option Addr) (c0 : Nat) (l0 : List (S43)) (r : Bool) (w : World) (hr0 : Kd.C k43 w A0 l0.length l0) (hc0 : l0.length ≤ c0) (h : cooperagelaw9_ParseConds.f k l0 = some r) :
  Calls Tryd.prog 7 #[.slice A0 l0.length c0] w fun e w' => e = .returned (.bool r) ∧ Below w.heap.size w w' := by
 have HR0 := Aside0.mk hr0
 have HC0 := Aside0.mk hc0
 clear hr0 hc0
 have HB := Aside0.mk (Below.refl w.heap.size w)
 have H : ((cooperagelaw9_shown.f k).bind fun t277 => ((cooperagelaw9_as.f k l0).bind fun bt278 => (if t277 = true then (cooperagelaw9_ParseConds.j0 k l0 t277 (!bt278.2)) else (cooperagelaw9_ParseConds.j0 k l0 t277 true)))) = some r := h
 clear h
 replace H := Option.bind_eq_some_iff.mp H
 obtain ⟨t277, A20, H⟩ := H
 replace H : ((cooperagelaw9_as.f k l0).bind fun bt278 => (if t277 = true then (cooperagelaw9_ParseConds.j0 k l0 t277 (!bt278.2)) else (cooperagelaw9_ParseConds.j0 k l0 t277 true))) = some r := H
 have A2 := Aside0.mk A20
 clear A20
 replace H := Option.bind_eq_some_iff.mp H
 obtain ⟨⟨t278, t279⟩, A30, H⟩ := H
 replace H : (if t277 = true then (cooperagelaw9_ParseConds.j0 k l0 t277 (!t279)) else (cooperagelaw9_ParseConds.j0 k l0 t277 true)) = some r := H
 have A3 := Aside0.mk A30
 clear A30
 have HC4 := Aside0.mk H
 clear H
 go_enter Tryd.func7, Tryd.ntmps7
 go_upto_region 3 with (first | ((with_reducible refine gate_callee (f := 10) rfl ?_); refine goesL_ (some 13) rfl rfl Tryd.func10 (by kernel_rfl) rfl #[] rfl zA ?_; (with_reducible refine (cooperagelaw9_shown.calls k  t277 _ A2.out).mono ?_); rintro e w5 ⟨rfl, hb⟩; refine ⟨_, rfl, ?_⟩; have n0_ := Aside0.mk (below_step (zL HB.out) hb); revert n0_; clear HB; intro HB; (try clear hb); (try clear hb2); (try clear hk); (try clear hi)) | ((with_reducible refine gate_callee (f := 11) rfl ?_); refine goesL_ (some 16) rfl rfl Tryd.func11 (by kernel_rfl) rfl #[.slice A0 l0.length c0] rfl zA ?_; (with_reducible refine (cooperagelaw9_as.calls k _ _ l0 t278 t279 _ ?side1 ?side2 A3.out).mono ?_); (case side1 => repeat (first | exact (Kd.C_below HR0.out HB.out) | (with_reducible refine Kd.C_alloc ?_ _) | (with_reducible refine Kd.C_drewN ?_ _) | (with_reducible refine Kd.C_drew ?_))); (case side2 => exact HC0.out); rintro e w6 ⟨v280, rfl, ho0, hb⟩; refine ⟨_, rfl, ?_⟩; have n0_ := Aside0.mk (Kd.R_lower ho0 (below_size (zL HB.out))); have n1_ := Aside0.mk (below_step (zL HB.out) hb); revert n0_ n1_; clear HB; intro HO281 HB; (try clear hb); (try clear hb2); (try clear hk); (try clear hi); (try clear ho0)))
 (try simp only [Act.put, List.setIfInBounds_toArray, List.set_cons_zero, List.set_cons_succ])
 go_cut [24] (fun v24 wc => ∃ (kq : Nat) (x24_3 : Bool), v24 = .bool x24_3 ∧ Aside0 (cooperagelaw9_ParseConds.j0 kq l0 t277 x24_3 = some r) ∧ Aside0 (kq ≤ k) ∧ Aside0 (Below w.heap.size w wc))
 case first =>
  have H := HC4.out
  clear HC4
  by_cases c7 : t277 = true
  ·subst c7
   have H1 : (cooperagelaw9_ParseConds.j0 k l0 true (!t279)) = some r := by rw [if_pos rfl] at H; exact H
   clear H
   have H := H1
   clear H1
   have H' := Aside0.mk H
   clear H
   go_wp2
   go_meet
   case rel => exact ⟨_, (!t279), zS, H', ⟨by first | omega | exact Nat.le_refl _⟩, ⟨zL HB.out⟩⟩
  ·replace c7 := Bool.eq_false_iff.mpr c7
   subst c7
   have H1 : (cooperagelaw9_ParseConds.j0 k l0 false true) = some r := by rw [if_neg (show ¬ (false = true) by decide)] at H; exact H
   clear H
   have H := H1
   clear H1
   have H' := Aside0.mk H
   clear H
   go_wp2
   go_meet
   case rel => exact ⟨_, (true), zS, H', ⟨by first | omega | exact Nat.le_refl _⟩, ⟨zL HB.out⟩⟩
 case rest =>
  clear HC4
  try clear c1
  try clear p2
  try clear c7
  obtain ⟨kq, x24_3, rfl, HA, HJ3, HB⟩ := hcut
  cases kq with
  | zero => exact absurd HA.out (by simp [cooperagelaw9_ParseConds.j0])
  | succ kj3 =>
   have H := HA.out
   clear HA
   simp only [cooperagelaw9_ParseConds.j0] at H
   by_cases c8 : x24_3 = true
   ·subst c8
    have H1 : (some t277) = some r := by rw [if_pos rfl] at H; exact H
    clear H
    have H := H1
    clear H1
    obtain rfl := Option.some.inj H
    go_wp2
    go_ret
    exact ⟨zE, zL HB.out⟩
   ·replace c8 := Bool.eq_false_iff.mpr c8
    subst c8
    have H1 : ((parse_Parse.f kj3 l0).bind fun bt282 => (if bt282.2.1 = 0 then (cooperagelaw9_ParseConds.l0 kj3 bt282.1 0 0 0 0) else (if (bt282.1.length : Int) = 0 then (if bt282.2.2 = 0 then (some ((bt282.2.1 == 14) == (bt282.2.1 == 14))) else (some (!(bt282.2.1 == 14)))) else (some false)))) = some r := by rw [if_neg (show ¬ (false = true) by decide)] at H; exact H
    clear H
    have H := H1
    clear H1
    replace H := Option.bind_eq_some_iff.mp H
    obtain ⟨⟨t282, t283, t284⟩, A90, H⟩ := H
    replace H : (if t283 = 0 then (cooperagelaw9_ParseConds.l0 kj3 t282 0 0 0 0) else (if (t282.length : Int) = 0 then (if t284 = 0 then (some ((t283 == 14) == (t283 == 14))) else (some (!(t283 == 14)))) else (some false))) = some r := H
    have A9 := Aside0.mk A90
    clear A90
    by_cases c10 : t283 = 0
    ·rw [if_pos c10] at H
     have c10b0 : (t283 == 0) = true := beq_iff_eq.mpr c10
     have c10b1 : (t283 != 0) = false := bne_eq_false_iff_eq.mpr c10
     clear c10
     have H' := Aside0.mk H
     clear H
     go_wp2_with (first | ((with_reducible refine gate_callee (f := 12) rfl ?_); refine goesL_ (some 28) rfl rfl Tryd.func12 (by kernel_rfl) rfl #[.slice A0 l0.length c0] rfl zA ?_; (with_reducible refine (parse_Parse.calls kj3 _ _ l0 t282 t283 t284 _ ?side1 ?side2 A9.out).mono ?_); (case side1 => repeat (first | exact (Kd.C_below HR0.out HB.out) | (with_reducible refine Kd.C_alloc ?_ _) | (with_reducible refine Kd.C_drewN ?_ _) | (with_reducible refine Kd.C_drew ?_))); (case side2 => exact HC0.out); rintro e w11 ⟨v285, rfl, ho0, hb⟩; refine ⟨_, rfl, ?_⟩; have n0_ := Aside0.mk (Kd.S_lower ho0 (below_size (zL HB.out))); have n1_ := Aside0.mk (below_step (zL HB.out) hb); revert n0_ n1_; clear HB; intro HO286 HB; (try clear hb); (try clear hb2); (try clear hk); (try clear hi); (try clear ho0)))
     go_loopg [9, 10, 11, 12] kj3 (fun kq v9 v10 v11 v12 w' => ∃ (x9_2 : Int) (x10_2 : Int) (x11_2 : Int) (x12_2 : Int), v9 = .int .i64 x9_2 ∧ v10 = .int .i64 x10_2 ∧ v11 = .int .i64 x11_2 ∧ v12 = .int .i64 x12_2 ∧ Aside0 (cooperagelaw9_ParseConds.l0 kq t282 x9_2 x10_2 x11_2 x12_2 = some r) ∧ Aside0 (kq ≤ kj3) ∧ Aside0 (Kd.S k45 45 w' w.heap.size (fun _ => True) v285 t282) ∧ Aside0 (Below w.heap.size w w'))
     case atStart => exact ⟨(0), (0), (0), (0), zS, zS, zS, zS, H', ⟨Nat.le_refl _⟩, ⟨by (with_reducible repeat (first | apply Kd.S_alloc | apply Kd.S_drewN | apply Kd.S_drew)); exact HO286.out⟩, ⟨zL HB.out⟩⟩
     case round =>
      clear H'
      try clear c1
      try clear p2
      try clear c7
      try clear c8
      try clear c10
      try clear c10b0
      try clear c10b1
      try clear c11
      try clear p2
      obtain ⟨x9_2, x10_2, x11_2, x12_2, rfl, rfl, rfl, rfl, HA, HK2, HO_6, HB⟩ := hrel
      cases gk with
      | zero => exact absurd HA.out (by simp [cooperagelaw9_ParseConds.l0])
      | succ k2 =>
       have H := HA.out
       clear HA
       simp only [cooperagelaw9_ParseConds.l0] at H
       by_cases c12 : x12_2 < (t282.length : Int)
       ·rw [if_pos c12] at H
        have c12b0 : decide (x12_2 < (t282.length : Int)) = true := decide_eq_true c12
        clear c12
        by_cases c13 : 0 ≤ x12_2
        ·rw [if_pos c13] at H
         have c13b0 : decide (0 ≤ x12_2) = true := decide_eq_true c13
         clear c13
         have HC14 := Aside0.mk H
         clear H
         obtain ⟨Ao15, co15, eo15⟩ := Kd.S_slice HO_6.out
         subst eo15
         have p287 : 0 ≤ (x12_2 : Int) := zD
         have q287 : x12_2 < (t282.length : Int) := zD
         obtain ⟨ad287, A287_9, c287_9, e287, hx287_0, hx287_1, hx287_2, hx287_3, hx287_4, hx287_5, hx287_6, hx287_7, hx287_8, hx287_9, hl287_9, hi287_9⟩ := at_T45 (Kd.S_reads' HO_6.out).2.2 x12_2 p287 q287
         cases e287
         obtain ⟨ce287, hce287, hMe287, hcc287⟩ := Kd.S_get HO_6.out z45 x12_2 p287 (by first | exact q287 | exact zD | (have e_ := (Kd.S_reads' HO_6.out).1; omega))
         obtain ⟨ve287_9, rfl, ge287_9⟩ := k45_openM hMe287
         have hv287_9 := hcc287 9 _ rfl
         rw [add_field _ _ 9 (by omega)] at hv287_9
         replace hv287_9 := Option.some.inj (hv287_9.symm.trans hx287_9)
         rw [hv287_9] at ge287_9
         have HL287_9 := Aside0.mk (show Kd.R Kd.string 9 _ _ _ _ ((rd_T45 t282 x12_2).f9) from ge287_9)
         clear hv287_9 ge287_9
         clear hcc287 hce287
         have HR287_9 := Aside0.mk hi287_9
         have HC287_9 := Aside0.mk hl287_9
         clear hi287_9 hl287_9
         replace p287 := eq_true p287
         replace q287 := eq_true q287
         go_upto_if 59 with (fail)
         go_cut [9, 11] (fun v9 v11 wc => ∃ (kq : Nat) (x9_13 : Int) (x11_13 : Int), v9 = .int .i64 x9_13 ∧ v11 = .int .i64 x11_13 ∧ Aside0 (cooperagelaw9_ParseConds.j2 kq t282 x9_13 x10_2 x11_13 x12_2 = some r) ∧ Aside0 (kq ≤ k2) ∧ Aside0 (Kd.S k45 45 wc w.heap.size (fun _ => True) (.slice (some ad287) t282.length co15) t282) ∧ Aside0 (Kd.C Kd.string wc A287_9 ((rd_T45 t282 x12_2).f9).length ((rd_T45 t282 x12_2).f9)) ∧ Aside0 (Below w.heap.size w wc))
         case first =>
          have H := HC14.out
          clear HC14
          by_cases c16 : ((rd_T45 t282 x12_2).f0) = 3
          ·rw [if_pos c16] at H
           have c16b0 : (((rd_T45 t282 x12_2).f0) == 3) = true := beq_iff_eq.mpr c16
           have c16b1 : (((rd_T45 t282 x12_2).f0) != 3) = false := bne_eq_false_iff_eq.mpr c16
           clear c16
           (first | rw [c16b0] | (simp only [i64_w, i32_w]; rw [c16b0]) | skip)
           have H' := Aside0.mk H
           clear H
           go_wp2
           go_meet
           case rel => exact ⟨_, (wrap64 (x9_2 + 1)), (wrap64 (x11_2 + 1)), zS, zS, H', ⟨by have := HJ3.out; have := HK2.out; first | omega | exact Nat.le_refl _⟩, ⟨by (with_reducible repeat (first | apply Kd.S_alloc | apply Kd.S_drewN | apply Kd.S_drew)); exact HO_6.out⟩, ⟨by repeat (first | (with_reducible exact HR287_9.out) | (with_reducible refine Kd.C_alloc ?_ _) | (with_reducible refine Kd.C_drewN ?_ _) | (with_reducible refine Kd.C_drew ?_) | exact HR287_9.out)⟩, ⟨zL HB.out⟩⟩
          ·rw [if_neg c16] at H
           have c16b0 : (((rd_T45 t282 x12_2).f0) == 3) = false := beq_eq_false_iff_ne.mpr c16
           have c16b1 : (((rd_T45 t282 x12_2).f0) != 3) = true := bne_iff_ne.mpr c16
           (first | rw [c16b0] | (simp only [i64_w, i32_w]; rw [c16b0]) | skip)
           have H' := Aside0.mk H
           clear H
           go_wp2
           go_meet
           case rel => exact ⟨_, (x9_2), (x11_2), zS, zS, H', ⟨by have := HJ3.out; have := HK2.out; first | omega | exact Nat.le_refl _⟩, ⟨by (with_reducible repeat (first | apply Kd.S_alloc | apply Kd.S_drewN | apply Kd.S_drew)); exact HO_6.out⟩, ⟨by repeat (first | (with_reducible exact HR287_9.out) | (with_reducible refine Kd.C_alloc ?_ _) | (with_reducible refine Kd.C_drewN ?_ _) | (with_reducible refine Kd.C_drew ?_) | exact HR287_9.out)⟩, ⟨zL HB.out⟩⟩
         case rest =>
          clear HC14
          try clear c1
          try clear c2
          try clear p2
          try clear q2
          try clear hx2
          try clear p6
          try clear c7
          try clear c8
          try clear c10
          try clear c10b0
          try clear c10b1
          try clear c11
          try clear c12
          try clear c12b0
          try clear c13
          try clear c13b0
          try clear c16
          try clear c16b0
          try clear c16b1
          try clear hx287_0
          try clear hx287_1
          try clear hx287_2
          try clear hx287_3
          try clear hx287_4
          try clear hx287_5
          try clear hx287_6
          try clear hx287_7
          try clear hx287_8
          try clear hx287_9
          try clear p2
          try clear p287
          try clear q287
          obtain ⟨kq, x9_13, x11_13, rfl, rfl, HA, HJ13, HO_6, HR287_9, HB⟩ := hcut
          cases kq with
          | zero => exact absurd HA.out (by simp [cooperagelaw9_ParseConds.j2])
          | succ kj13 =>
           have H := HA.out
           clear HA
           simp only [cooperagelaw9_ParseConds.j2] at H
           by_cases c17 : 0 ≤ x12_2
           ·rw [if_pos c17] at H
            have c17b0 : decide (0 ≤ x12_2) = true := decide_eq_true c17
            clear c17
            by_cases c18 : x12_2 < (t282.length : Int)
            ·rw [if_pos c18] at H
             have c18b0 : decide (x12_2 < (t282.length : Int)) = true := decide_eq_true c18
             clear c18
             have HC19 := Aside0.mk H
             clear H
             have p288 : 0 ≤ (x12_2 : Int) := zD
             have q288 : x12_2 < (t282.length : Int) := zD
             obtain ⟨ad288, A288_9, c288_9, e288, hx288_0, hx288_1, hx288_2, hx288_3, hx288_4, hx288_5, hx288_6, hx288_7, hx288_8, hx288_9, hl288_9, hi288_9⟩ := at_T45 (Kd.S_reads' HO_6.out).2.2 x12_2 p288 q288
             obtain rfl : ad287 = ad288 := (by injection e288)
             obtain ⟨ce288, hce288, hMe288, hcc288⟩ := Kd.S_get HO_6.out z45 x12_2 p288 (by first | exact q288 | exact zD | (have e_ := (Kd.S_reads' HO_6.out).1; omega))
             obtain ⟨ve288_9, rfl, ge288_9⟩ := k45_openM hMe288
             have hv288_9 := hcc288 9 _ rfl
             rw [add_field _ _ 9 (by omega)] at hv288_9
             replace hv288_9 := Option.some.inj (hv288_9.symm.trans hx288_9)
             rw [hv288_9] at ge288_9
             have HL288_9 := Aside0.mk (show Kd.R Kd.string 9 _ _ _ _ ((rd_T45 t282 x12_2).f9) from ge288_9)
             clear hv288_9 ge288_9
             clear hcc288 hce288
             have HR288_9 := Aside0.mk hi288_9
             have HC288_9 := Aside0.mk hl288_9
             clear hi288_9 hl288_9
             replace p288 := eq_true p288
             replace q288 := eq_true q288
             go_upto_if 69 with (fail)
             go_cut [10] (fun v10 wc => ∃ (kq : Nat) (x10_18 : Int), v10 = .int .i64 x10_18 ∧ Aside0 (cooperagelaw9_ParseConds.j3 kq t282 x9_13 x10_18 x11_13 x12_2 = some r) ∧ Aside0 (kq ≤ kj13) ∧ Aside0 (Kd.S k45 45 wc w.heap.size (fun _ => True) (.slice (some ad287) t282.length co15) t282) ∧ Aside0 (Kd.C Kd.string wc A287_9 ((rd_T45 t282 x12_2).f9).length ((rd_T45 t282 x12_2).f9)) ∧ Aside0 (Kd.C Kd.string wc A288_9 ((rd_T45 t282 x12_2).f9).length ((rd_T45 t282 x12_2).f9)) ∧ Aside0 (Below w.heap.size w wc))
             case first =>
              have H := HC19.out
              clear HC19
              by_cases c20 : ((rd_T45 t282 x12_2).f0) = 4
              ·rw [if_pos c20] at H
               have c20b0 : (((rd_T45 t282 x12_2).f0) == 4) = true := beq_iff_eq.mpr c20
               have c20b1 : (((rd_T45 t282 x12_2).f0) != 4) = false := bne_eq_false_iff_eq.mpr c20
               clear c20
               (first | rw [c20b0] | (simp only [i64_w, i32_w]; rw [c20b0]) | skip)
               have H' := Aside0.mk H
               clear H
               go_wp2
               go_meet
               case rel => exact ⟨_, (wrap64 (x10_2 + 1)), zS, H', ⟨by have := HJ3.out; have := HK2.out; have := HJ13.out; first | omega | exact Nat.le_refl _⟩, ⟨by (with_reducible repeat (first | apply Kd.S_alloc | apply Kd.S_drewN | apply Kd.S_drew)); exact HO_6.out⟩, ⟨by repeat (first | (with_reducible exact HR287_9.out) | (with_reducible refine Kd.C_alloc ?_ _) | (with_reducible refine Kd.C_drewN ?_ _) | (with_reducible refine Kd.C_drew ?_) | exact HR287_9.out)⟩, ⟨by repeat (first | (with_reducible exact HR288_9.out) | (with_reducible refine Kd.C_alloc ?_ _) | (with_reducible refine Kd.C_drewN ?_ _) | (with_reducible refine Kd.C_drew ?_) | exact HR288_9.out)⟩, ⟨zL HB.out⟩⟩
              ·rw [if_neg c20] at H
               have c20b0 : (((rd_T45 t282 x12_2).f0) == 4) = false := beq_eq_false_iff_ne.mpr c20
               have c20b1 : (((rd_T45 t282 x12_2).f0) != 4) = true := bne_iff_ne.mpr c20
               (first | rw [c20b0] | (simp only [i64_w, i32_w]; rw [c20b0]) | skip)
               have H' := Aside0.mk H
               clear H
               go_wp2
               go_meet
               case rel => exact ⟨_, (x10_2), zS, H', ⟨by have := HJ3.out; have := HK2.out; have := HJ13.out; first | omega | exact Nat.le_refl _⟩, ⟨by (with_reducible repeat (first | apply Kd.S_alloc | apply Kd.S_drewN | apply Kd.S_drew)); exact HO_6.out⟩, ⟨by repeat (first | (with_reducible exact HR287_9.out) | (with_reducible refine Kd.C_alloc ?_ _) | (with_reducible refine Kd.C_drewN ?_ _) | (with_reducible refine Kd.C_drew ?_) | exact HR287_9.out)⟩, ⟨by repeat (first | (with_reducible exact HR288_9.out) | (with_reducible refine Kd.C_alloc ?_ _) | (with_reducible refine Kd.C_drewN ?_ _) | (with_reducible refine Kd.C_drew ?_) | exact HR288_9.out)⟩, ⟨zL HB.out⟩⟩
             case rest =>
              clear HC19
              try clear c1
              try clear c2
              try clear p2
              try clear q2
              try clear hx2
              try clear p6
              try clear c7
              try clear c8
              try clear c10
              try clear c10b0
              try clear c10b1
              try clear c11
              try clear c12
              try clear c12b0
              try clear c13
              try clear c13b0
              try clear c16
              try clear c16b0
              try clear c16b1
              try clear c17
              try clear c17b0
              try clear c18
              try clear c18b0
              try clear c20
              try clear c20b0
              try clear c20b1
              try clear hx287_0
              try clear hx287_1
              try clear hx287_2
              try clear hx287_3
              try clear hx287_4
              try clear hx287_5
              try clear hx287_6
              try clear hx287_7
              try clear hx287_8
              try clear hx287_9
              try clear hx288_0
              try clear hx288_1
              try clear hx288_2
              try clear hx288_3
              try clear hx288_4
              try clear hx288_5
              try clear hx288_6
              try clear hx288_7
              try clear hx288_8
              try clear hx288_9
              try clear p2
              try clear p287
              try clear p288
              try clear p6
              try clear q2
              try clear q287
              try clear q288
              obtain ⟨kq, x10_18, rfl, HA, HJ18, HO_6, HR287_9, HR288_9, HB⟩ := hcut
              cases kq with
              | zero => exact absurd HA.out (by simp [cooperagelaw9_ParseConds.j3])
              | succ kj18 =>
               have H := HA.out
               clear HA
               simp only [cooperagelaw9_ParseConds.j3] at H
               by_cases c21 : 0 ≤ x12_2
               ·rw [if_pos c21] at H
                have c21b0 : decide (0 ≤ x12_2) = true := decide_eq_true c21
                clear c21
                by_cases c22 : x12_2 < (t282.length : Int)
                ·rw [if_pos c22] at H
                 have c22b0 : decide (x12_2 < (t282.length : Int)) = true := decide_eq_true c22
                 clear c22
                 by_cases c23 : ((rd_T45 t282 x12_2).f0) = 5
                 ·rw [if_pos c23] at H
                  have c23b0 : (((rd_T45 t282 x12_2).f0) == 5) = true := beq_iff_eq.mpr c23
                  have c23b1 : (((rd_T45 t282 x12_2).f0) != 5) = false := bne_eq_false_iff_eq.mpr c23
                  clear c23
                  by_cases c24 : (wrap64 (x9_13 - 1)) < 0
                  ·rw [if_pos c24] at H
                   have c24b0 : decide ((wrap64 (x9_13 - 1)) < 0) = true := decide_eq_true c24
                   clear c24
                   obtain rfl := Option.some.inj H
                   have p289 : 0 ≤ (x12_2 : Int) := zD
                   have q289 : x12_2 < (t282.length : Int) := zD
                   obtain ⟨ad289, A289_9, c289_9, e289, hx289_0, hx289_1, hx289_2, hx289_3, hx289_4, hx289_5, hx289_6, hx289_7, hx289_8, hx289_9, hl289_9, hi289_9⟩ := at_T45 (Kd.S_reads' HO_6.out).2.2 x12_2 p289 q289
                   obtain rfl : ad287 = ad289 := (by injection e289)
                   obtain ⟨ce289, hce289, hMe289, hcc289⟩ := Kd.S_get HO_6.out z45 x12_2 p289 (by first | exact q289 | exact zD | (have e_ := (Kd.S_reads' HO_6.out).1; omega))
                   obtain ⟨ve289_9, rfl, ge289_9⟩ := k45_openM hMe289
                   have hv289_9 := hcc289 9 _ rfl
                   rw [add_field _ _ 9 (by omega)] at hv289_9
                   replace hv289_9 := Option.some.inj (hv289_9.symm.trans hx289_9)
                   rw [hv289_9] at ge289_9
                   have HL289_9 := Aside0.mk (show Kd.R Kd.string 9 _ _ _ _ ((rd_T45 t282 x12_2).f9) from ge289_9)
                   clear hv289_9 ge289_9
                   clear hcc289 hce289
                   have HR289_9 := Aside0.mk hi289_9
                   have HC289_9 := Aside0.mk hl289_9
                   clear hi289_9 hl289_9
                   replace p289 := eq_true p289
                   replace q289 := eq_true q289
                   go_wp2
                   go_ret
                   exact ⟨zE, zL HB.out⟩
                  ·rw [if_neg c24] at H
                   have c24b0 : decide ((wrap64 (x9_13 - 1)) < 0) = false := decide_eq_false c24
                   clear c24
                   by_cases c25 : (wrap64 (x9_13 - 1)) > 20
                   ·rw [if_pos c25] at H
                    have c25b0 : decide (20 < (wrap64 (x9_13 - 1))) = true := decide_eq_true c25
                    clear c25
                    obtain rfl := Option.some.inj H
                    have p289 : 0 ≤ (x12_2 : Int) := zD
                    have q289 : x12_2 < (t282.length : Int) := zD
                    obtain ⟨ad289, A289_9, c289_9, e289, hx289_0, hx289_1, hx289_2, hx289_3, hx289_4, hx289_5, hx289_6, hx289_7, hx289_8, hx289_9, hl289_9, hi289_9⟩ := at_T45 (Kd.S_reads' HO_6.out).2.2 x12_2 p289 q289
                    obtain rfl : ad287 = ad289 := (by injection e289)
                    obtain ⟨ce289, hce289, hMe289, hcc289⟩ := Kd.S_get HO_6.out z45 x12_2 p289 (by first | exact q289 | exact zD | (have e_ := (Kd.S_reads' HO_6.out).1; omega))
                    obtain ⟨ve289_9, rfl, ge289_9⟩ := k45_openM hMe289
                    have hv289_9 := hcc289 9 _ rfl
                    rw [add_field _ _ 9 (by omega)] at hv289_9
                    replace hv289_9 := Option.some.inj (hv289_9.symm.trans hx289_9)
                    rw [hv289_9] at ge289_9
                    have HL289_9 := Aside0.mk (show Kd.R Kd.string 9 _ _ _ _ ((rd_T45 t282 x12_2).f9) from ge289_9)
                    clear hv289_9 ge289_9
                    clear hcc289 hce289
                    have HR289_9 := Aside0.mk hi289_9
                    have HC289_9 := Aside0.mk hl289_9
                    clear hi289_9 hl289_9
                    replace p289 := eq_true p289
                    replace q289 := eq_true q289
                    go_wp2
                    go_ret
                    exact ⟨zE, zL HB.out⟩
                   ·rw [if_neg c25] at H
                    have c25b0 : decide (20 < (wrap64 (x9_13 - 1))) = false := decide_eq_false c25
                    clear c25
                    by_cases c26 : ((rd_T45 t282 x12_2).f0) = 4
                    ·rw [if_pos c26] at H
                     have c26b0 : (((rd_T45 t282 x12_2).f0) == 4) = true := beq_iff_eq.mpr c26
                     have c26b1 : (((rd_T45 t282 x12_2).f0) != 4) = false := bne_eq_false_iff_eq.mpr c26
                     clear c26
                     by_cases c27 : (wrap64 (x9_13 - 1)) = 0
                     ·rw [if_pos c27] at H
                      have c27b0 : ((wrap64 (x9_13 - 1)) == 0) = true := beq_iff_eq.mpr c27
                      have c27b1 : ((wrap64 (x9_13 - 1)) != 0) = false := bne_eq_false_iff_eq.mpr c27
                      clear c27
                      obtain rfl := Option.some.inj H
                      have p289 : 0 ≤ (x12_2 : Int) := zD
                      have q289 : x12_2 < (t282.length : Int) := zD
                      obtain ⟨ad289, A289_9, c289_9, e289, hx289_0, hx289_1, hx289_2, hx289_3, hx289_4, hx289_5, hx289_6, hx289_7, hx289_8, hx289_9, hl289_9, hi289_9⟩ := at_T45 (Kd.S_reads' HO_6.out).2.2 x12_2 p289 q289
                      obtain rfl : ad287 = ad289 := (by injection e289)
                      obtain ⟨ce289, hce289, hMe289, hcc289⟩ := Kd.S_get HO_6.out z45 x12_2 p289 (by first | exact q289 | exact zD | (have e_ := (Kd.S_reads' HO_6.out).1; omega))
                      obtain ⟨ve289_9, rfl, ge289_9⟩ := k45_openM hMe289
                      have hv289_9 := hcc289 9 _ rfl
                      rw [add_field _ _ 9 (by omega)] at hv289_9
                      replace hv289_9 := Option.some.inj (hv289_9.symm.trans hx289_9)
                      rw [hv289_9] at ge289_9
                      have HL289_9 := Aside0.mk (show Kd.R Kd.string 9 _ _ _ _ ((rd_T45 t282 x12_2).f9) from ge289_9)
                      clear hv289_9 ge289_9
                      clear hcc289 hce289
                      have HR289_9 := Aside0.mk hi289_9
                      have HC289_9 := Aside0.mk hl289_9
                      clear hi289_9 hl289_9
                      replace p289 := eq_true p289
                      replace q289 := eq_true q289
                      have p290 : 0 ≤ (x12_2 : Int) := zD
                      have q290 : x12_2 < (t282.length : Int) := zD
                      obtain ⟨ad290, A290_9, c290_9, e290, hx290_0, hx290_1, hx290_2, hx290_3, hx290_4, hx290_5, hx290_6, hx290_7, hx290_8, hx290_9, hl290_9, hi290_9⟩ := at_T45 (Kd.S_reads' HO_6.out).2.2 x12_2 p290 q290
                      obtain rfl : ad287 = ad290 := (by injection e290)
                      obtain ⟨ce290, hce290, hMe290, hcc290⟩ := Kd.S_get HO_6.out z45 x12_2 p290 (by first | exact q290 | exact zD | (have e_ := (Kd.S_reads' HO_6.out).1; omega))
                      obtain ⟨ve290_9, rfl, ge290_9⟩ := k45_openM hMe290
                      have hv290_9 := hcc290 9 _ rfl
                      rw [add_field _ _ 9 (by omega)] at hv290_9
                      replace hv290_9 := Option.some.inj (hv290_9.symm.trans hx290_9)
                      rw [hv290_9] at ge290_9
                      have HL290_9 := Aside0.mk (show Kd.R Kd.string 9 _ _ _ _ ((rd_T45 t282 x12_2).f9) from ge290_9)
                      clear hv290_9 ge290_9
                      clear hcc290 hce290
                      have HR290_9 := Aside0.mk hi290_9
                      have HC290_9 := Aside0.mk hl290_9
                      clear hi290_9 hl290_9
                      replace p290 := eq_true p290
                      replace q290 := eq_true q290
                      have ea_ := Option.some.inj (hx289_9.symm.trans hx290_9)
                      injection ea_ with ea_ en_ ec_
                      subst ea_
                      subst ec_
                      clear en_
                      go_wp2
                      go_ret
                      exact ⟨zE, zL HB.out⟩
                     ·rw [if_neg c27] at H
                      have c27b0 : ((wrap64 (x9_13 - 1)) == 0) = false := beq_eq_false_iff_ne.mpr c27
                      have c27b1 : ((wrap64 (x9_13 - 1)) != 0) = true := bne_iff_ne.mpr c27
                      have H' := Aside0.mk H
                      clear H
                      have p289 : 0 ≤ (x12_2 : Int) := zD
                      have q289 : x12_2 < (t282.length : Int) := zD
                      obtain ⟨ad289, A289_9, c289_9, e289, hx289_0, hx289_1, hx289_2, hx289_3, hx289_4, hx289_5, hx289_6, hx289_7, hx289_8, hx289_9, hl289_9, hi289_9⟩ := at_T45 (Kd.S_reads' HO_6.out).2.2 x12_2 p289 q289
                      obtain rfl : ad287 = ad289 := (by injection e289)
                      obtain ⟨ce289, hce289, hMe289, hcc289⟩ := Kd.S_get HO_6.out z45 x12_2 p289 (by first | exact q289 | exact zD | (have e_ := (Kd.S_reads' HO_6.out).1; omega))
                      obtain ⟨ve289_9, rfl, ge289_9⟩ := k45_openM hMe289
                      have hv289_9 := hcc289 9 _ rfl
                      rw [add_field _ _ 9 (by omega)] at hv289_9
                      replace hv289_9 := Option.some.inj (hv289_9.symm.trans hx289_9)
                      rw [hv289_9] at ge289_9
                      have HL289_9 := Aside0.mk (show Kd.R Kd.string 9 _ _ _ _ ((rd_T45 t282 x12_2).f9) from ge289_9)
                      clear hv289_9 ge289_9
                      clear hcc289 hce289
                      have HR289_9 := Aside0.mk hi289_9
                      have HC289_9 := Aside0.mk hl289_9
                      clear hi289_9 hl289_9
                      replace p289 := eq_true p289
                      replace q289 := eq_true q289
                      have p290 : 0 ≤ (x12_2 : Int) := zD
                      have q290 : x12_2 < (t282.length : Int) := zD
                      obtain ⟨ad290, A290_9, c290_9, e290, hx290_0, hx290_1, hx290_2, hx290_3, hx290_4, hx290_5, hx290_6, hx290_7, hx290_8, hx290_9, hl290_9, hi290_9⟩ := at_T45 (Kd.S_reads' HO_6.out).2.2 x12_2 p290 q290
                      obtain rfl : ad287 = ad290 := (by injection e290)
                      obtain ⟨ce290, hce290, hMe290, hcc290⟩ := Kd.S_get HO_6.out z45 x12_2 p290 (by first | exact q290 | exact zD | (have e_ := (Kd.S_reads' HO_6.out).1; omega))
                      obtain ⟨ve290_9, rfl, ge290_9⟩ := k45_openM hMe290
                      have hv290_9 := hcc290 9 _ rfl
                      rw [add_field _ _ 9 (by omega)] at hv290_9
                      replace hv290_9 := Option.some.inj (hv290_9.symm.trans hx290_9)
                      rw [hv290_9] at ge290_9
                      have HL290_9 := Aside0.mk (show Kd.R Kd.string 9 _ _ _ _ ((rd_T45 t282 x12_2).f9) from ge290_9)
                      clear hv290_9 ge290_9
                      clear hcc290 hce290
                      have HR290_9 := Aside0.mk hi290_9
                      have HC290_9 := Aside0.mk hl290_9
                      clear hi290_9 hl290_9
                      replace p290 := eq_true p290
                      replace q290 := eq_true q290
                      have ea_ := Option.some.inj (hx289_9.symm.trans hx290_9)
                      injection ea_ with ea_ en_ ec_
                      subst ea_
                      subst ec_
                      clear en_
                      go_wp2
                      go_roundg kj18
                      case measure => have := HJ3.out; have := HK2.out; have := HJ13.out; have := HJ18.out; omega
                      case rel => exact ⟨(wrap64 (x9_13 - 1)), (x10_18), (x11_13), (wrap64 (x12_2 + 1)), zS, zS, zS, zS, H', ⟨by have := HJ3.out; have := HK2.out; have := HJ13.out; have := HJ18.out; omega⟩, ⟨by (with_reducible repeat (first | apply Kd.S_alloc | apply Kd.S_drewN | apply Kd.S_drew)); exact HO_6.out⟩, ⟨zL HB.out⟩⟩
                    ·rw [if_neg c26] at H
                     have c26b0 : (((rd_T45 t282 x12_2).f0) == 4) = false := beq_eq_false_iff_ne.mpr c26
                     have c26b1 : (((rd_T45 t282 x12_2).f0) != 4) = true := bne_iff_ne.mpr c26
                     have H' := Aside0.mk H
                     clear H
                     have p289 : 0 ≤ (x12_2 : Int) := zD
                     have q289 : x12_2 < (t282.length : Int) := zD
                     obtain ⟨ad289, A289_9, c289_9, e289, hx289_0, hx289_1, hx289_2, hx289_3, hx289_4, hx289_5, hx289_6, hx289_7, hx289_8, hx289_9, hl289_9, hi289_9⟩ := at_T45 (Kd.S_reads' HO_6.out).2.2 x12_2 p289 q289
                     obtain rfl : ad287 = ad289 := (by injection e289)
                     obtain ⟨ce289, hce289, hMe289, hcc289⟩ := Kd.S_get HO_6.out z45 x12_2 p289 (by first | exact q289 | exact zD | (have e_ := (Kd.S_reads' HO_6.out).1; omega))
                     obtain ⟨ve289_9, rfl, ge289_9⟩ := k45_openM hMe289
                     have hv289_9 := hcc289 9 _ rfl
                     rw [add_field _ _ 9 (by omega)] at hv289_9
                     replace hv289_9 := Option.some.inj (hv289_9.symm.trans hx289_9)
                     rw [hv289_9] at ge289_9
                     have HL289_9 := Aside0.mk (show Kd.R Kd.string 9 _ _ _ _ ((rd_T45 t282 x12_2).f9) from ge289_9)
                     clear hv289_9 ge289_9
                     clear hcc289 hce289
                     have HR289_9 := Aside0.mk hi289_9
                     have HC289_9 := Aside0.mk hl289_9
                     clear hi289_9 hl289_9
                     replace p289 := eq_true p289
                     replace q289 := eq_true q289
                     have p290 : 0 ≤ (x12_2 : Int) := zD
                     have q290 : x12_2 < (t282.length : Int) := zD
                     obtain ⟨ad290, A290_9, c290_9, e290, hx290_0, hx290_1, hx290_2, hx290_3, hx290_4, hx290_5, hx290_6, hx290_7, hx290_8, hx290_9, hl290_9, hi290_9⟩ := at_T45 (Kd.S_reads' HO_6.out).2.2 x12_2 p290 q290
                     obtain rfl : ad287 = ad290 := (by injection e290)
                     obtain ⟨ce290, hce290, hMe290, hcc290⟩ := Kd.S_get HO_6.out z45 x12_2 p290 (by first | exact q290 | exact zD | (have e_ := (Kd.S_reads' HO_6.out).1; omega))
                     obtain ⟨ve290_9, rfl, ge290_9⟩ := k45_openM hMe290
                     have hv290_9 := hcc290 9 _ rfl
                     rw [add_field _ _ 9 (by omega)] at hv290_9
                     replace hv290_9 := Option.some.inj (hv290_9.symm.trans hx290_9)
                     rw [hv290_9] at ge290_9
                     have HL290_9 := Aside0.mk (show Kd.R Kd.string 9 _ _ _ _ ((rd_T45 t282 x12_2).f9) from ge290_9)
                     clear hv290_9 ge290_9
                     clear hcc290 hce290
                     have HR290_9 := Aside0.mk hi290_9
                     have HC290_9 := Aside0.mk hl290_9
                     clear hi290_9 hl290_9
                     replace p290 := eq_true p290
                     replace q290 := eq_true q290
                     have ea_ := Option.some.inj (hx289_9.symm.trans hx290_9)
                     injection ea_ with ea_ en_ ec_
                     subst ea_
                     subst ec_
                     clear en_
                     go_wp2
                     go_roundg kj18
                     case measure => have := HJ3.out; have := HK2.out; have := HJ13.out; have := HJ18.out; omega
                     case rel => exact ⟨(wrap64 (x9_13 - 1)), (x10_18), (x11_13), (wrap64 (x12_2 + 1)), zS, zS, zS, zS, H', ⟨by have := HJ3.out; have := HK2.out; have := HJ13.out; have := HJ18.out; omega⟩, ⟨by (with_reducible repeat (first | apply Kd.S_alloc | apply Kd.S_drewN | apply Kd.S_drew)); exact HO_6.out⟩, ⟨zL HB.out⟩⟩
                 ·rw [if_neg c23] at H
                  have c23b0 : (((rd_T45 t282 x12_2).f0) == 5) = false := beq_eq_false_iff_ne.mpr c23
                  have c23b1 : (((rd_T45 t282 x12_2).f0) != 5) = true := bne_iff_ne.mpr c23
                  by_cases c28 : x9_13 < 0
                  ·rw [if_pos c28] at H
                   have c28b0 : decide (x9_13 < 0) = true := decide_eq_true c28
                   clear c28
                   obtain rfl := Option.some.inj H
                   have p289 : 0 ≤ (x12_2 : Int) := zD
                   have q289 : x12_2 < (t282.length : Int) := zD
                   obtain ⟨ad289, A289_9, c289_9, e289, hx289_0, hx289_1, hx289_2, hx289_3, hx289_4, hx289_5, hx289_6, hx289_7, hx289_8, hx289_9, hl289_9, hi289_9⟩ := at_T45 (Kd.S_reads' HO_6.out).2.2 x12_2 p289 q289
                   obtain rfl : ad287 = ad289 := (by injection e289)
                   obtain ⟨ce289, hce289, hMe289, hcc289⟩ := Kd.S_get HO_6.out z45 x12_2 p289 (by first | exact q289 | exact zD | (have e_ := (Kd.S_reads' HO_6.out).1; omega))
                   obtain ⟨ve289_9, rfl, ge289_9⟩ := k45_openM hMe289
                   have hv289_9 := hcc289 9 _ rfl
                   rw [add_field _ _ 9 (by omega)] at hv289_9
                   replace hv289_9 := Option.some.inj (hv289_9.symm.trans hx289_9)
                   rw [hv289_9] at ge289_9
                   have HL289_9 := Aside0.mk (show Kd.R Kd.string 9 _ _ _ _ ((rd_T45 t282 x12_2).f9) from ge289_9)
                   clear hv289_9 ge289_9
                   clear hcc289 hce289
                   have HR289_9 := Aside0.mk hi289_9
                   have HC289_9 := Aside0.mk hl289_9
                   clear hi289_9 hl289_9
                   replace p289 := eq_true p289
                   replace q289 := eq_true q289
                   go_wp2
                   go_ret
                   exact ⟨zE, zL HB.out⟩
                  ·rw [if_neg c28] at H
                   have c28b0 : decide (x9_13 < 0) = false := decide_eq_false c28
                   clear c28
                   by_cases c29 : x9_13 > 20
                   ·rw [if_pos c29] at H
                    have c29b0 : decide (20 < x9_13) = true := decide_eq_true c29
                    clear c29
                    obtain rfl := Option.some.inj H
                    have p289 : 0 ≤ (x12_2 : Int) := zD
                    have q289 : x12_2 < (t282.length : Int) := zD
                    obtain ⟨ad289, A289_9, c289_9, e289, hx289_0, hx289_1, hx289_2, hx289_3, hx289_4, hx289_5, hx289_6, hx289_7, hx289_8, hx289_9, hl289_9, hi289_9⟩ := at_T45 (Kd.S_reads' HO_6.out).2.2 x12_2 p289 q289
                    obtain rfl : ad287 = ad289 := (by injection e289)
                    obtain ⟨ce289, hce289, hMe289, hcc289⟩ := Kd.S_get HO_6.out z45 x12_2 p289 (by first | exact q289 | exact zD | (have e_ := (Kd.S_reads' HO_6.out).1; omega))
                    obtain ⟨ve289_9, rfl, ge289_9⟩ := k45_openM hMe289
                    have hv289_9 := hcc289 9 _ rfl
                    rw [add_field _ _ 9 (by omega)] at hv289_9
                    replace hv289_9 := Option.some.inj (hv289_9.symm.trans hx289_9)
                    rw [hv289_9] at ge289_9
                    have HL289_9 := Aside0.mk (show Kd.R Kd.string 9 _ _ _ _ ((rd_T45 t282 x12_2).f9) from ge289_9)
                    clear hv289_9 ge289_9
                    clear hcc289 hce289
                    have HR289_9 := Aside0.mk hi289_9
                    have HC289_9 := Aside0.mk hl289_9
                    clear hi289_9 hl289_9
                    replace p289 := eq_true p289
                    replace q289 := eq_true q289
                    go_wp2
                    go_ret
                    exact ⟨zE, zL HB.out⟩
                   ·rw [if_neg c29] at H
                    have c29b0 : decide (20 < x9_13) = false := decide_eq_false c29
                    clear c29
                    by_cases c30 : ((rd_T45 t282 x12_2).f0) = 4
                    ·rw [if_pos c30] at H
                     have c30b0 : (((rd_T45 t282 x12_2).f0) == 4) = true := beq_iff_eq.mpr c30
                     have c30b1 : (((rd_T45 t282 x12_2).f0) != 4) = false := bne_eq_false_iff_eq.mpr c30
                     clear c30
                     by_cases c31 : x9_13 = 0
                     ·rw [if_pos c31] at H
                      have c31b0 : (x9_13 == 0) = true := beq_iff_eq.mpr c31
                      have c31b1 : (x9_13 != 0) = false := bne_eq_false_iff_eq.mpr c31
                      clear c31
                      obtain rfl := Option.some.inj H
                      have p289 : 0 ≤ (x12_2 : Int) := zD
                      have q289 : x12_2 < (t282.length : Int) := zD
                      obtain ⟨ad289, A289_9, c289_9, e289, hx289_0, hx289_1, hx289_2, hx289_3, hx289_4, hx289_5, hx289_6, hx289_7, hx289_8, hx289_9, hl289_9, hi289_9⟩ := at_T45 (Kd.S_reads' HO_6.out).2.2 x12_2 p289 q289
                      obtain rfl : ad287 = ad289 := (by injection e289)
                      obtain ⟨ce289, hce289, hMe289, hcc289⟩ := Kd.S_get HO_6.out z45 x12_2 p289 (by first | exact q289 | exact zD | (have e_ := (Kd.S_reads' HO_6.out).1; omega))
                      obtain ⟨ve289_9, rfl, ge289_9⟩ := k45_openM hMe289
                      have hv289_9 := hcc289 9 _ rfl
                      rw [add_field _ _ 9 (by omega)] at hv289_9
                      replace hv289_9 := Option.some.inj (hv289_9.symm.trans hx289_9)
                      rw [hv289_9] at ge289_9
                      have HL289_9 := Aside0.mk (show Kd.R Kd.string 9 _ _ _ _ ((rd_T45 t282 x12_2).f9) from ge289_9)
                      clear hv289_9 ge289_9
                      clear hcc289 hce289
                      have HR289_9 := Aside0.mk hi289_9
                      have HC289_9 := Aside0.mk hl289_9
                      clear hi289_9 hl289_9
                      replace p289 := eq_true p289
                      replace q289 := eq_true q289
                      have p291 : 0 ≤ (x12_2 : Int) := zD
                      have q291 : x12_2 < (t282.length : Int) := zD
                      obtain ⟨ad291, A291_9, c291_9, e291, hx291_0, hx291_1, hx291_2, hx291_3, hx291_4, hx291_5, hx291_6, hx291_7, hx291_8, hx291_9, hl291_9, hi291_9⟩ := at_T45 (Kd.S_reads' HO_6.out).2.2 x12_2 p291 q291
                      obtain rfl : ad287 = ad291 := (by injection e291)
                      obtain ⟨ce291, hce291, hMe291, hcc291⟩ := Kd.S_get HO_6.out z45 x12_2 p291 (by first | exact q291 | exact zD | (have e_ := (Kd.S_reads' HO_6.out).1; omega))
                      obtain ⟨ve291_9, rfl, ge291_9⟩ := k45_openM hMe291
                      have hv291_9 := hcc291 9 _ rfl
                      rw [add_field _ _ 9 (by omega)] at hv291_9
                      replace hv291_9 := Option.some.inj (hv291_9.symm.trans hx291_9)
                      rw [hv291_9] at ge291_9
                      have HL291_9 := Aside0.mk (show Kd.R Kd.string 9 _ _ _ _ ((rd_T45 t282 x12_2).f9) from ge291_9)
                      clear hv291_9 ge291_9
                      clear hcc291 hce291
                      have HR291_9 := Aside0.mk hi291_9
                      have HC291_9 := Aside0.mk hl291_9
                      clear hi291_9 hl291_9
                      replace p291 := eq_true p291
                      replace q291 := eq_true q291
                      have ea_ := Option.some.inj (hx289_9.symm.trans hx291_9)
                      injection ea_ with ea_ en_ ec_
                      subst ea_
                      subst ec_
                      clear en_
                      go_wp2
                      go_ret
                      exact ⟨zE, zL HB.out⟩
                     ·rw [if_neg c31] at H
                      have c31b0 : (x9_13 == 0) = false := beq_eq_false_iff_ne.mpr c31
                      have c31b1 : (x9_13 != 0) = true := bne_iff_ne.mpr c31
                      have H' := Aside0.mk H
                      clear H
                      have p289 : 0 ≤ (x12_2 : Int) := zD
                      have q289 : x12_2 < (t282.length : Int) := zD
                      obtain ⟨ad289, A289_9, c289_9, e289, hx289_0, hx289_1, hx289_2, hx289_3, hx289_4, hx289_5, hx289_6, hx289_7, hx289_8, hx289_9, hl289_9, hi289_9⟩ := at_T45 (Kd.S_reads' HO_6.out).2.2 x12_2 p289 q289
                      obtain rfl : ad287 = ad289 := (by injection e289)
                      obtain ⟨ce289, hce289, hMe289, hcc289⟩ := Kd.S_get HO_6.out z45 x12_2 p289 (by first | exact q289 | exact zD | (have e_ := (Kd.S_reads' HO_6.out).1; omega))
                      obtain ⟨ve289_9, rfl, ge289_9⟩ := k45_openM hMe289
                      have hv289_9 := hcc289 9 _ rfl
                      rw [add_field _ _ 9 (by omega)] at hv289_9
                      replace hv289_9 := Option.some.inj (hv289_9.symm.trans hx289_9)
                      rw [hv289_9] at ge289_9
                      have HL289_9 := Aside0.mk (show Kd.R Kd.string 9 _ _ _ _ ((rd_T45 t282 x12_2).f9) from ge289_9)
                      clear hv289_9 ge289_9
                      clear hcc289 hce289
                      have HR289_9 := Aside0.mk hi289_9
                      have HC289_9 := Aside0.mk hl289_9
                      clear hi289_9 hl289_9
                      replace p289 := eq_true p289
                      replace q289 := eq_true q289
                      have p291 : 0 ≤ (x12_2 : Int) := zD
                      have q291 : x12_2 < (t282.length : Int) := zD
                      obtain ⟨ad291, A291_9, c291_9, e291, hx291_0, hx291_1, hx291_2, hx291_3, hx291_4, hx291_5, hx291_6, hx291_7, hx291_8, hx291_9, hl291_9, hi291_9⟩ := at_T45 (Kd.S_reads' HO_6.out).2.2 x12_2 p291 q291
                      obtain rfl : ad287 = ad291 := (by injection e291)
                      obtain ⟨ce291, hce291, hMe291, hcc291⟩ := Kd.S_get HO_6.out z45 x12_2 p291 (by first | exact q291 | exact zD | (have e_ := (Kd.S_reads' HO_6.out).1; omega))
                      obtain ⟨ve291_9, rfl, ge291_9⟩ := k45_openM hMe291
                      have hv291_9 := hcc291 9 _ rfl
                      rw [add_field _ _ 9 (by omega)] at hv291_9
                      replace hv291_9 := Option.some.inj (hv291_9.symm.trans hx291_9)
                      rw [hv291_9] at ge291_9
                      have HL291_9 := Aside0.mk (show Kd.R Kd.string 9 _ _ _ _ ((rd_T45 t282 x12_2).f9) from ge291_9)
                      clear hv291_9 ge291_9
                      clear hcc291 hce291
                      have HR291_9 := Aside0.mk hi291_9
                      have HC291_9 := Aside0.mk hl291_9
                      clear hi291_9 hl291_9
                      replace p291 := eq_true p291
                      replace q291 := eq_true q291
                      have ea_ := Option.some.inj (hx289_9.symm.trans hx291_9)
                      injection ea_ with ea_ en_ ec_
                      subst ea_
                      subst ec_
                      clear en_
                      go_wp2
                      go_roundg kj18
                      case measure => have := HJ3.out; have := HK2.out; have := HJ13.out; have := HJ18.out; omega
                      case rel => exact ⟨(x9_13), (x10_18), (x11_13), (wrap64 (x12_2 + 1)), zS, zS, zS, zS, H', ⟨by have := HJ3.out; have := HK2.out; have := HJ13.out; have := HJ18.out; omega⟩, ⟨by (with_reducible repeat (first | apply Kd.S_alloc | apply Kd.S_drewN | apply Kd.S_drew)); exact HO_6.out⟩, ⟨zL HB.out⟩⟩
                    ·rw [if_neg c30] at H
                     have c30b0 : (((rd_T45 t282 x12_2).f0) == 4) = false := beq_eq_false_iff_ne.mpr c30
                     have c30b1 : (((rd_T45 t282 x12_2).f0) != 4) = true := bne_iff_ne.mpr c30
                     have H' := Aside0.mk H
                     clear H
                     have p289 : 0 ≤ (x12_2 : Int) := zD
                     have q289 : x12_2 < (t282.length : Int) := zD
                     obtain ⟨ad289, A289_9, c289_9, e289, hx289_0, hx289_1, hx289_2, hx289_3, hx289_4, hx289_5, hx289_6, hx289_7, hx289_8, hx289_9, hl289_9, hi289_9⟩ := at_T45 (Kd.S_reads' HO_6.out).2.2 x12_2 p289 q289
                     obtain rfl : ad287 = ad289 := (by injection e289)
                     obtain ⟨ce289, hce289, hMe289, hcc289⟩ := Kd.S_get HO_6.out z45 x12_2 p289 (by first | exact q289 | exact zD | (have e_ := (Kd.S_reads' HO_6.out).1; omega))
                     obtain ⟨ve289_9, rfl, ge289_9⟩ := k45_openM hMe289
                     have hv289_9 := hcc289 9 _ rfl
                     rw [add_field _ _ 9 (by omega)] at hv289_9
                     replace hv289_9 := Option.some.inj (hv289_9.symm.trans hx289_9)
                     rw [hv289_9] at ge289_9
                     have HL289_9 := Aside0.mk (show Kd.R Kd.string 9 _ _ _ _ ((rd_T45 t282 x12_2).f9) from ge289_9)
                     clear hv289_9 ge289_9
                     clear hcc289 hce289
                     have HR289_9 := Aside0.mk hi289_9
                     have HC289_9 := Aside0.mk hl289_9
                     clear hi289_9 hl289_9
                     replace p289 := eq_true p289
                     replace q289 := eq_true q289
                     have p291 : 0 ≤ (x12_2 : Int) := zD
                     have q291 : x12_2 < (t282.length : Int) := zD
                     obtain ⟨ad291, A291_9, c291_9, e291, hx291_0, hx291_1, hx291_2, hx291_3, hx291_4, hx291_5, hx291_6, hx291_7, hx291_8, hx291_9, hl291_9, hi291_9⟩ := at_T45 (Kd.S_reads' HO_6.out).2.2 x12_2 p291 q291
                     obtain rfl : ad287 = ad291 := (by injection e291)
                     obtain ⟨ce291, hce291, hMe291, hcc291⟩ := Kd.S_get HO_6.out z45 x12_2 p291 (by first | exact q291 | exact zD | (have e_ := (Kd.S_reads' HO_6.out).1; omega))
                     obtain ⟨ve291_9, rfl, ge291_9⟩ := k45_openM hMe291
                     have hv291_9 := hcc291 9 _ rfl
                     rw [add_field _ _ 9 (by omega)] at hv291_9
                     replace hv291_9 := Option.some.inj (hv291_9.symm.trans hx291_9)
                     rw [hv291_9] at ge291_9
                     have HL291_9 := Aside0.mk (show Kd.R Kd.string 9 _ _ _ _ ((rd_T45 t282 x12_2).f9) from ge291_9)
                     clear hv291_9 ge291_9
                     clear hcc291 hce291
                     have HR291_9 := Aside0.mk hi291_9
                     have HC291_9 := Aside0.mk hl291_9
                     clear hi291_9 hl291_9
                     replace p291 := eq_true p291
                     replace q291 := eq_true q291
                     have ea_ := Option.some.inj (hx289_9.symm.trans hx291_9)
                     injection ea_ with ea_ en_ ec_
                     subst ea_
                     subst ec_
                     clear en_
                     go_wp2
                     go_roundg kj18
                     case measure => have := HJ3.out; have := HK2.out; have := HJ13.out; have := HJ18.out; omega
                     case rel => exact ⟨(x9_13), (x10_18), (x11_13), (wrap64 (x12_2 + 1)), zS, zS, zS, zS, H', ⟨by have := HJ3.out; have := HK2.out; have := HJ13.out; have := HJ18.out; omega⟩, ⟨by (with_reducible repeat (first | apply Kd.S_alloc | apply Kd.S_drewN | apply Kd.S_drew)); exact HO_6.out⟩, ⟨zL HB.out⟩⟩
                ·rw [if_neg c22] at H
                 exact absurd H (by simp)
               ·rw [if_neg c21] at H
                exact absurd H (by simp)
            ·rw [if_neg c18] at H
             exact absurd H (by simp)
           ·rw [if_neg c17] at H
            exact absurd H (by simp)
        ·rw [if_neg c13] at H
         exact absurd H (by simp)
       ·rw [if_neg c12] at H
        have c12b0 : decide (x12_2 < (t282.length : Int)) = false := decide_eq_false c12
        clear c12
        by_cases c32 : x9_2 = 0
        ·rw [if_pos c32] at H
         have c32b0 : (x9_2 == 0) = true := beq_iff_eq.mpr c32
         have c32b1 : (x9_2 != 0) = false := bne_eq_false_iff_eq.mpr c32
         clear c32
         obtain rfl := Option.some.inj H
         obtain ⟨Ao33, co33, eo33⟩ := Kd.S_slice HO_6.out
         subst eo33
         go_wp2
         go_ret
         exact ⟨zE, zL HB.out⟩
        ·rw [if_neg c32] at H
         have c32b0 : (x9_2 == 0) = false := beq_eq_false_iff_ne.mpr c32
         have c32b1 : (x9_2 != 0) = true := bne_iff_ne.mpr c32
         obtain rfl := Option.some.inj H
         obtain ⟨Ao34, co34, eo34⟩ := Kd.S_slice HO_6.out
         subst eo34
         go_wp2
         go_ret
         exact ⟨zE, zL HB.out⟩
    ·rw [if_neg c10] at H
     have c10b0 : (t283 == 0) = false := beq_eq_false_iff_ne.mpr c10
     have c10b1 : (t283 != 0) = true := bne_iff_ne.mpr c10
     by_cases c35 : (t282.length : Int) = 0
     ·rw [if_pos c35] at H
      have c35b0 : ((t282.length : Int) == 0) = true := beq_iff_eq.mpr c35
      have c35b1 : ((t282.length : Int) != 0) = false := bne_eq_false_iff_eq.mpr c35
      clear c35
      by_cases c36 : t284 = 0
      ·rw [if_pos c36] at H
       have c36b0 : (t284 == 0) = true := beq_iff_eq.mpr c36
       have c36b1 : (t284 != 0) = false := bne_eq_false_iff_eq.mpr c36
       clear c36
       obtain rfl := Option.some.inj H
       go_wp2_with (first | ((with_reducible refine gate_callee (f := 12) rfl ?_); refine goesL_ (some 28) rfl rfl Tryd.func12 (by kernel_rfl) rfl #[.slice A0 l0.length c0] rfl zA ?_; (with_reducible refine (parse_Parse.calls kj3 _ _ l0 t282 t283 t284 _ ?side1 ?side2 A9.out).mono ?_); (case side1 => repeat (first | exact (Kd.C_below HR0.out HB.out) | (with_reducible refine Kd.C_alloc ?_ _) | (with_reducible refine Kd.C_drewN ?_ _) | (with_reducible refine Kd.C_drew ?_))); (case side2 => exact HC0.out); rintro e w37 ⟨v285, rfl, ho0, hb⟩; refine ⟨_, rfl, ?_⟩; have n0_ := Aside0.mk (Kd.S_lower ho0 (below_size (zL HB.out))); have n1_ := Aside0.mk (below_step (zL HB.out) hb); revert n0_ n1_; clear HB; intro HO286 HB; (try clear hb); (try clear hb2); (try clear hk); (try clear hi); (try clear ho0); obtain ⟨Ao38, co38, eo38⟩ := Kd.S_slice HO286.out; subst eo38))
       go_ret
       exact ⟨zE, zL HB.out⟩
      ·rw [if_neg c36] at H
       have c36b0 : (t284 == 0) = false := beq_eq_false_iff_ne.mpr c36
       have c36b1 : (t284 != 0) = true := bne_iff_ne.mpr c36
       obtain rfl := Option.some.inj H
       go_wp2_with (first | ((with_reducible refine gate_callee (f := 12) rfl ?_); refine goesL_ (some 28) rfl rfl Tryd.func12 (by kernel_rfl) rfl #[.slice A0 l0.length c0] rfl zA ?_; (with_reducible refine (parse_Parse.calls kj3 _ _ l0 t282 t283 t284 _ ?side1 ?side2 A9.out).mono ?_); (case side1 => repeat (first | exact (Kd.C_below HR0.out HB.out) | (with_reducible refine Kd.C_alloc ?_ _) | (with_reducible refine Kd.C_drewN ?_ _) | (with_reducible refine Kd.C_drew ?_))); (case side2 => exact HC0.out); rintro e w39 ⟨v285, rfl, ho0, hb⟩; refine ⟨_, rfl, ?_⟩; have n0_ := Aside0.mk (Kd.S_lower ho0 (below_size (zL HB.out))); have n1_ := Aside0.mk (below_step (zL HB.out) hb); revert n0_ n1_; clear HB; intro HO286 HB; (try clear hb); (try clear hb2); (try clear hk); (try clear hi); (try clear ho0); obtain ⟨Ao40, co40, eo40⟩ := Kd.S_slice HO286.out; subst eo40))
       go_ret
       exact ⟨zE, zL HB.out⟩
     ·rw [if_neg c35] at H
      have c35b0 : ((t282.length : Int) == 0) = false := beq_eq_false_iff_ne.mpr c35
      have c35b1 : ((t282.length : Int) != 0) = true := bne_iff_ne.mpr c35
      have c35b2 : ¬ (t282 = []) := fun h_ => c35 (by rw [h_]; rfl)
      obtain rfl := Option.some.inj H
      go_wp2_with (first | ((with_reducible refine gate_callee (f := 12) rfl ?_); refine goesL_ (some 28) rfl rfl Tryd.func12 (by kernel_rfl) rfl #[.slice A0 l0.length c0] rfl zA ?_; (with_reducible refine (parse_Parse.calls kj3 _ _ l0 t282 t283 t284 _ ?side1 ?side2 A9.out).mono ?_); (case side1 => repeat (first | exact (Kd.C_below HR0.out HB.out) | (with_reducible refine Kd.C_alloc ?_ _) | (with_reducible refine Kd.C_drewN ?_ _) | (with_reducible refine Kd.C_drew ?_))); (case side2 => exact HC0.out); rintro e w41 ⟨v285, rfl, ho0, hb⟩; refine ⟨_, rfl, ?_⟩; have n0_ := Aside0.mk (Kd.S_lower ho0 (below_size (zL HB.out))); have n1_ := Aside0.mk (below_step (zL HB.out) hb); revert n0_ n1_; clear HB; intro HO286 HB; (try clear hb); (try clear hb2); (try clear hk); (try clear hi); (try clear ho0); obtain ⟨Ao42, co42, eo42⟩ := Kd.S_slice HO286.out; subst eo42))
      go_ret
      exact ⟨zE, zL HB.out⟩

/-- THE ONE PURE STATEMENT of cooperagelaw9_ParseConds. -/
def cooperagelaw9_ParseConds.Pure : Prop := ∀ (l0 : List (S43)), l0.length ≤ 9223372036854775807 → l0.length * 32 ≤ 140737488351232 → (∀ x ∈ l0, (Lit.int .i64 x.f0).wf = true ∧ x.f2.size ≤ 9223372036854775807) → ∃ k, cooperagelaw9_ParseConds.f k l0 = some true
theorem cooperagelaw9_ParseConds.walk (P : cooperagelaw9_ParseConds.Pure) (A0 : Option Addr) (c0 : Nat) (l0 : List (S43)) (w : World) (r0 : Kd.C k43 w A0 l0.length l0) (q0 : l0.length ≤ c0) (m0 : l0.length ≤ 9223372036854775807) (y0 : l0.length * 32 ≤ 140737488351232) (e0 : ∀ x ∈ l0, (Lit.int .i64 x.f0).wf = true ∧ x.f2.size ≤ 9223372036854775807) :
  Calls Tryd.prog 7 #[.slice A0 l0.length c0] w fun e w' => e = .returned (.bool true) ∧ Below w.heap.size w w' := by
 obtain ⟨k, h⟩ := P l0 m0 y0 e0
 refine (cooperagelaw9_ParseConds.calls k _ _ l0 true w r0 q0 h).mono ?_
 rintro e w' ⟨rfl, hd⟩
 exact ⟨rfl, hd⟩

end Go.Proofs.YthnholondnfjoaaDoor.PParse
