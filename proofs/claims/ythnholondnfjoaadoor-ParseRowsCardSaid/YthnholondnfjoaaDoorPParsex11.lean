-- Written by a program of this session (wip/tools/ext.py, over the kit's printer); not trusted: Lean checks it.
import Derived.Test.YthnholondnfjoaaDoorPParsex0
import Derived.Test.YthnholondnfjoaaDoorPParsex7
import Derived.Test.YthnholondnfjoaaDoorPParsex8
import Derived.Test.YthnholondnfjoaaDoorPParsex9
namespace Go.Proofs.YthnholondnfjoaaDoor.PParse
open Go.RowKit Go.Proofs.YthnholondnfjoaaDoorW.PrintWords Go.Proofs.YthnholondnfjoaaDoorW.PrintLast Go.Proofs.YthnholondnfjoaaDoorW.PrintMore
attribute [local go_sem] max2_int min2_int max_two min_two max_three min_three max_four min_four   -- for this text's walks alone
set_option linter.unusedVariables false
set_option linter.unusedSimpArgs false

/-! ### cooperagelaw9_ParseRows: function 6 -/
mutual
def cooperagelaw9_ParseRows.j0 : Nat → List (S43) → List (S43) → Bool → Bool → Option (Bool)
 | 0, _, _, _, _ => none
 | k + 1, x0, x1, x5, x42 => if x42 = true then (some x5) else ((parse_Parse.f k x0).bind fun bt301 => ((parse_Parse.f k x1).bind fun bt306 => ((some (([] : List (S43)) : List (S43))).bind fun y311 => (if y311.length + x0.length < 4398046511104 then ((some (y311 ++ x0 : List (S43))).bind fun y314 => (if y314.length + x1.length < 4398046511104 then ((parse_Parse.f k (y314 ++ x1)).bind fun bt320 => (if bt301.2.1 = 0 then (cooperagelaw9_ParseRows.j1 k x0 x1 bt301.1 bt306.1 bt320.1 bt320.2.1 bt320.2.2 (bt306.2.1 != 0)) else (cooperagelaw9_ParseRows.j1 k x0 x1 bt301.1 bt306.1 bt320.1 bt320.2.1 bt320.2.2 true))) else (none))) else (none)))))
def cooperagelaw9_ParseRows.j1 : Nat → List (S43) → List (S43) → List (S45) → List (S45) → List (S45) → Int → Int → Bool → Option (Bool)
 | 0, _, _, _, _, _, _, _, _ => none
 | k + 1, x0, x1, x10, x13, x16, x17, x18, x71 => if x71 = true then (if x17 = 0 then (some true) else (some ((x16.length : Int) == 0))) else (if x17 = 0 then (if x18 = 0 then (cooperagelaw9_ParseRows.j2 k x0 x1 x16 ((x16.length : Int) != (wrap64 ((x10.length : Int) + (x13.length : Int))))) else (cooperagelaw9_ParseRows.j2 k x0 x1 x16 true)) else (cooperagelaw9_ParseRows.j2 k x0 x1 x16 true))
def cooperagelaw9_ParseRows.j2 : Nat → List (S43) → List (S43) → List (S45) → Bool → Option (Bool)
 | 0, _, _, _, _ => none
 | k + 1, x0, x1, x16, x94 => if x94 = true then (some false) else ((some (([] : List (S43)) : List (S43))).bind fun y325 => (if y325.length + x0.length < 4398046511104 then ((some (y325 ++ x0 : List (S43))).bind fun y328 => (if y328.length + x1.length < 4398046511104 then (cooperagelaw9_ParseRows.l0 k x16 0 (y328 ++ x1) 0) else (none))) else (none)))
def cooperagelaw9_ParseRows.l0 : Nat → List (S45) → Int → List (S43) → Int → Option (Bool)
 | 0, _, _, _, _ => none
 | k + 1, x16, x19, x20, x21 => if x21 < (x16.length : Int) then (cooperagelaw9_ParseRows.l1 k x16 x19 x20 x21) else (some true)
def cooperagelaw9_ParseRows.l1 : Nat → List (S45) → Int → List (S43) → Int → Option (Bool)
 | 0, _, _, _, _ => none
 | k + 1, x16, x19, x20, x21 => if x19 < (x20.length : Int) then (if 0 ≤ x19 then (if (rd_T43 x20 x19).f1 = true then (cooperagelaw9_ParseRows.l1 k x16 (wrap64 (x19 + 1)) x20 x21) else (if x19 = (x20.length : Int) then (some false) else (if 0 ≤ x21 then (if x21 < (x16.length : Int) then (if ((rd_T45 x16 x21).f1) = ((rd_T43 x20 x19).f0) then (if ((rd_T45 x16 x21).f0) < 1 then (some false) else (if ((rd_T45 x16 x21).f0) > 6 then (some false) else (cooperagelaw9_ParseRows.l0 k x16 (wrap64 (x19 + 1)) x20 (wrap64 (x21 + 1))))) else (some false)) else (none)) else (none)))) else (none)) else (if x19 = (x20.length : Int) then (some false) else (if 0 ≤ x21 then (if x21 < (x16.length : Int) then (if 0 ≤ x19 then (none) else (none)) else (none)) else (none)))
end
def cooperagelaw9_ParseRows.f (k : Nat) (l0 : List (S43)) (l1 : List (S43)) : Option (Bool) := (cooperagelaw9_shown.f k).bind fun t292 => ((cooperagelaw9_as.f k l0).bind fun bt293 => ((cooperagelaw9_as.f k l1).bind fun bt297 => (if t292 = true then (if bt293.2 = true then (cooperagelaw9_ParseRows.j0 k l0 l1 t292 (!bt297.2)) else (cooperagelaw9_ParseRows.j0 k l0 l1 t292 true)) else (cooperagelaw9_ParseRows.j0 k l0 l1 t292 true))))
theorem cooperagelaw9_ParseRows.mono_l : ∀ k, (∀ y0 y1 y2 y3, LeO (cooperagelaw9_ParseRows.j0 k y0 y1 y2 y3) (cooperagelaw9_ParseRows.j0 (k + 1) y0 y1 y2 y3)) ∧ (∀ y0 y1 y2 y3 y4 y5 y6 y7, LeO (cooperagelaw9_ParseRows.j1 k y0 y1 y2 y3 y4 y5 y6 y7) (cooperagelaw9_ParseRows.j1 (k + 1) y0 y1 y2 y3 y4 y5 y6 y7)) ∧ (∀ y0 y1 y2 y3, LeO (cooperagelaw9_ParseRows.j2 k y0 y1 y2 y3) (cooperagelaw9_ParseRows.j2 (k + 1) y0 y1 y2 y3)) ∧ (∀ y0 y1 y2 y3, LeO (cooperagelaw9_ParseRows.l0 k y0 y1 y2 y3) (cooperagelaw9_ParseRows.l0 (k + 1) y0 y1 y2 y3)) ∧ (∀ y0 y1 y2 y3, LeO (cooperagelaw9_ParseRows.l1 k y0 y1 y2 y3) (cooperagelaw9_ParseRows.l1 (k + 1) y0 y1 y2 y3))
 | 0 => ⟨fun _ _ _ _ r h => by simp [cooperagelaw9_ParseRows.j0] at h, fun _ _ _ _ _ _ _ _ r h => by simp [cooperagelaw9_ParseRows.j1] at h, fun _ _ _ _ r h => by simp [cooperagelaw9_ParseRows.j2] at h, fun _ _ _ _ r h => by simp [cooperagelaw9_ParseRows.l0] at h, fun _ _ _ _ r h => by simp [cooperagelaw9_ParseRows.l1] at h⟩
 | k + 1 => by
  obtain ⟨ih0, ih1, ih2, ih3, ih4⟩ := cooperagelaw9_ParseRows.mono_l k
  refine ⟨?_, ?_, ?_, ?_, ?_⟩
  ·intro y0 y1 y2 y3
   unfold cooperagelaw9_ParseRows.j0
   repeat' first
   | (with_reducible exact ih0 _ _ _ _)
   | (with_reducible exact ih1 _ _ _ _ _ _ _ _)
   | (with_reducible exact ih2 _ _ _ _)
   | (with_reducible exact ih3 _ _ _ _)
   | (with_reducible exact ih4 _ _ _ _)
   | (with_reducible exact cooperagelaw9_as.mono _ _)
   | (with_reducible exact cooperagelaw9_shown.mono _)
   | (with_reducible exact parse_Parse.mono _ _)
   | (with_reducible exact LeO.refl _)
   | (with_reducible exact LeO.none _)
   | (with_reducible refine LeO.ite ?_ ?_)
   | (with_reducible refine LeO.bind ?_ (fun _ => ?_))
   | exact ih0 _ _ _ _
   | exact ih1 _ _ _ _ _ _ _ _
   | exact ih2 _ _ _ _
   | exact ih3 _ _ _ _
   | exact ih4 _ _ _ _
   | exact cooperagelaw9_as.mono _ _
   | exact cooperagelaw9_shown.mono _
   | exact parse_Parse.mono _ _
   | exact LeO.none _
   | refine LeO.ite ?_ ?_
   | refine LeO.bind ?_ (fun _ => ?_)
  ·intro y0 y1 y2 y3 y4 y5 y6 y7
   unfold cooperagelaw9_ParseRows.j1
   repeat' first
   | (with_reducible exact ih0 _ _ _ _)
   | (with_reducible exact ih1 _ _ _ _ _ _ _ _)
   | (with_reducible exact ih2 _ _ _ _)
   | (with_reducible exact ih3 _ _ _ _)
   | (with_reducible exact ih4 _ _ _ _)
   | (with_reducible exact cooperagelaw9_as.mono _ _)
   | (with_reducible exact cooperagelaw9_shown.mono _)
   | (with_reducible exact parse_Parse.mono _ _)
   | (with_reducible exact LeO.refl _)
   | (with_reducible exact LeO.none _)
   | (with_reducible refine LeO.ite ?_ ?_)
   | (with_reducible refine LeO.bind ?_ (fun _ => ?_))
   | exact ih0 _ _ _ _
   | exact ih1 _ _ _ _ _ _ _ _
   | exact ih2 _ _ _ _
   | exact ih3 _ _ _ _
   | exact ih4 _ _ _ _
   | exact cooperagelaw9_as.mono _ _
   | exact cooperagelaw9_shown.mono _
   | exact parse_Parse.mono _ _
   | exact LeO.none _
   | refine LeO.ite ?_ ?_
   | refine LeO.bind ?_ (fun _ => ?_)
  ·intro y0 y1 y2 y3
   unfold cooperagelaw9_ParseRows.j2
   repeat' first
   | (with_reducible exact ih0 _ _ _ _)
   | (with_reducible exact ih1 _ _ _ _ _ _ _ _)
   | (with_reducible exact ih2 _ _ _ _)
   | (with_reducible exact ih3 _ _ _ _)
   | (with_reducible exact ih4 _ _ _ _)
   | (with_reducible exact cooperagelaw9_as.mono _ _)
   | (with_reducible exact cooperagelaw9_shown.mono _)
   | (with_reducible exact parse_Parse.mono _ _)
   | (with_reducible exact LeO.refl _)
   | (with_reducible exact LeO.none _)
   | (with_reducible refine LeO.ite ?_ ?_)
   | (with_reducible refine LeO.bind ?_ (fun _ => ?_))
   | exact ih0 _ _ _ _
   | exact ih1 _ _ _ _ _ _ _ _
   | exact ih2 _ _ _ _
   | exact ih3 _ _ _ _
   | exact ih4 _ _ _ _
   | exact cooperagelaw9_as.mono _ _
   | exact cooperagelaw9_shown.mono _
   | exact parse_Parse.mono _ _
   | exact LeO.none _
   | refine LeO.ite ?_ ?_
   | refine LeO.bind ?_ (fun _ => ?_)
  ·intro y0 y1 y2 y3
   unfold cooperagelaw9_ParseRows.l0
   repeat' first
   | (with_reducible exact ih0 _ _ _ _)
   | (with_reducible exact ih1 _ _ _ _ _ _ _ _)
   | (with_reducible exact ih2 _ _ _ _)
   | (with_reducible exact ih3 _ _ _ _)
   | (with_reducible exact ih4 _ _ _ _)
   | (with_reducible exact cooperagelaw9_as.mono _ _)
   | (with_reducible exact cooperagelaw9_shown.mono _)
   | (with_reducible exact parse_Parse.mono _ _)
   | (with_reducible exact LeO.refl _)
   | (with_reducible exact LeO.none _)
   | (with_reducible refine LeO.ite ?_ ?_)
   | (with_reducible refine LeO.bind ?_ (fun _ => ?_))
   | exact ih0 _ _ _ _
   | exact ih1 _ _ _ _ _ _ _ _
   | exact ih2 _ _ _ _
   | exact ih3 _ _ _ _
   | exact ih4 _ _ _ _
   | exact cooperagelaw9_as.mono _ _
   | exact cooperagelaw9_shown.mono _
   | exact parse_Parse.mono _ _
   | exact LeO.none _
   | refine LeO.ite ?_ ?_
   | refine LeO.bind ?_ (fun _ => ?_)
  ·intro y0 y1 y2 y3
   unfold cooperagelaw9_ParseRows.l1
   repeat' first
   | (with_reducible exact ih0 _ _ _ _)
   | (with_reducible exact ih1 _ _ _ _ _ _ _ _)
   | (with_reducible exact ih2 _ _ _ _)
   | (with_reducible exact ih3 _ _ _ _)
   | (with_reducible exact ih4 _ _ _ _)
   | (with_reducible exact cooperagelaw9_as.mono _ _)
   | (with_reducible exact cooperagelaw9_shown.mono _)
   | (with_reducible exact parse_Parse.mono _ _)
   | (with_reducible exact LeO.refl _)
   | (with_reducible exact LeO.none _)
   | (with_reducible refine LeO.ite ?_ ?_)
   | (with_reducible refine LeO.bind ?_ (fun _ => ?_))
   | exact ih0 _ _ _ _
   | exact ih1 _ _ _ _ _ _ _ _
   | exact ih2 _ _ _ _
   | exact ih3 _ _ _ _
   | exact ih4 _ _ _ _
   | exact cooperagelaw9_as.mono _ _
   | exact cooperagelaw9_shown.mono _
   | exact parse_Parse.mono _ _
   | exact LeO.none _
   | refine LeO.ite ?_ ?_
   | refine LeO.bind ?_ (fun _ => ?_)
theorem cooperagelaw9_ParseRows.mono : ∀ a0 a1 k, LeO (cooperagelaw9_ParseRows.f k a0 a1) (cooperagelaw9_ParseRows.f (k + 1) a0 a1) := by
 intro a0 a1 k
 obtain ⟨ih0, ih1, ih2, ih3, ih4⟩ := cooperagelaw9_ParseRows.mono_l k
 unfold cooperagelaw9_ParseRows.f
 repeat' first
   | (with_reducible exact ih0 _ _ _ _)
   | (with_reducible exact ih1 _ _ _ _ _ _ _ _)
   | (with_reducible exact ih2 _ _ _ _)
   | (with_reducible exact ih3 _ _ _ _)
   | (with_reducible exact ih4 _ _ _ _)
   | (with_reducible exact cooperagelaw9_as.mono _ _)
   | (with_reducible exact cooperagelaw9_shown.mono _)
   | (with_reducible exact parse_Parse.mono _ _)
   | (with_reducible exact LeO.refl _)
   | (with_reducible exact LeO.none _)
   | (with_reducible refine LeO.ite ?_ ?_)
   | (with_reducible refine LeO.bind ?_ (fun _ => ?_))
   | exact ih0 _ _ _ _
   | exact ih1 _ _ _ _ _ _ _ _
   | exact ih2 _ _ _ _
   | exact ih3 _ _ _ _
   | exact ih4 _ _ _ _
   | exact cooperagelaw9_as.mono _ _
   | exact cooperagelaw9_shown.mono _
   | exact parse_Parse.mono _ _
   | exact LeO.none _
   | refine LeO.ite ?_ ?_
   | refine LeO.bind ?_ (fun _ => ?_)
set_option maxHeartbeats 8000000 in
set_option maxRecDepth 100000 in
theorem cooperagelaw9_ParseRows.calls (k : Nat) (A0 : Option Addr) (c0 : Nat) (l0 : List (S43)) (A1 : Option Addr) (c1 : Nat) (l1 : List (S43)) (r : Bool) (w : World) (hr0 : Kd.C k43 w A0 l0.length l0) (hc0 : l0.length ≤ c0) (hr1 : Kd.C k43 w A1 l1.length l1) (hc1 : l1.length ≤ c1) (h : cooperagelaw9_ParseRows.f k l0 l1 = some r) :
  Calls Tryd.prog 6 #[.slice A0 l0.length c0, .slice A1 l1.length c1] w fun e w' => e = .returned (.bool r) ∧ Below w.heap.size w w' := by
 have HR0 := Aside0.mk hr0
 have HC0 := Aside0.mk hc0
 clear hr0 hc0
 have HR1 := Aside0.mk hr1
 have HC1 := Aside0.mk hc1
 clear hr1 hc1
 have HB := Aside0.mk (Below.refl w.heap.size w)
 have H : ((cooperagelaw9_shown.f k).bind fun t292 => ((cooperagelaw9_as.f k l0).bind fun bt293 => ((cooperagelaw9_as.f k l1).bind fun bt297 => (if t292 = true then (if bt293.2 = true then (cooperagelaw9_ParseRows.j0 k l0 l1 t292 (!bt297.2)) else (cooperagelaw9_ParseRows.j0 k l0 l1 t292 true)) else (cooperagelaw9_ParseRows.j0 k l0 l1 t292 true))))) = some r := h
 clear h
 replace H := Option.bind_eq_some_iff.mp H
 obtain ⟨t292, A30, H⟩ := H
 replace H : ((cooperagelaw9_as.f k l0).bind fun bt293 => ((cooperagelaw9_as.f k l1).bind fun bt297 => (if t292 = true then (if bt293.2 = true then (cooperagelaw9_ParseRows.j0 k l0 l1 t292 (!bt297.2)) else (cooperagelaw9_ParseRows.j0 k l0 l1 t292 true)) else (cooperagelaw9_ParseRows.j0 k l0 l1 t292 true)))) = some r := H
 have A3 := Aside0.mk A30
 clear A30
 replace H := Option.bind_eq_some_iff.mp H
 obtain ⟨⟨t293, t294⟩, A40, H⟩ := H
 replace H : ((cooperagelaw9_as.f k l1).bind fun bt297 => (if t292 = true then (if t294 = true then (cooperagelaw9_ParseRows.j0 k l0 l1 t292 (!bt297.2)) else (cooperagelaw9_ParseRows.j0 k l0 l1 t292 true)) else (cooperagelaw9_ParseRows.j0 k l0 l1 t292 true))) = some r := H
 have A4 := Aside0.mk A40
 clear A40
 replace H := Option.bind_eq_some_iff.mp H
 obtain ⟨⟨t297, t298⟩, A50, H⟩ := H
 replace H : (if t292 = true then (if t294 = true then (cooperagelaw9_ParseRows.j0 k l0 l1 t292 (!t298)) else (cooperagelaw9_ParseRows.j0 k l0 l1 t292 true)) else (cooperagelaw9_ParseRows.j0 k l0 l1 t292 true)) = some r := H
 have A5 := Aside0.mk A50
 clear A50
 have HC6 := Aside0.mk H
 clear H
 go_enter Tryd.func6, Tryd.ntmps6
 go_upto_region 4 with (first | (go_at_call 10; (with_reducible refine (cooperagelaw9_shown.calls k  t292 _ A3.out).mono ?_); rintro e w7 ⟨rfl, hb⟩; have n0_ := Aside0.mk (below_step (zL HB.out) hb); revert n0_; clear HB; intro HB; (try clear hb); (try clear hb2); (try clear hk); (try clear hi)) | (go_at_call 11; (with_reducible refine (cooperagelaw9_as.calls k _ _ l0 t293 t294 _ ?side1 ?side2 A4.out).mono ?_); (case side1 => repeat (first | exact (Kd.C_below HR0.out HB.out) | (with_reducible refine Kd.C_alloc ?_ _) | (with_reducible refine Kd.C_drewN ?_ _) | (with_reducible refine Kd.C_drew ?_))); (case side2 => exact HC0.out); rintro e w8 ⟨v295, rfl, ho0, hb⟩; have n0_ := Aside0.mk (Kd.R_lower ho0 (below_size (zL HB.out))); have n1_ := Aside0.mk (below_step (zL HB.out) hb); revert n0_ n1_; clear HB; intro HO296 HB; (try clear hb); (try clear hb2); (try clear hk); (try clear hi); (try clear ho0)) | (go_at_call 11; (with_reducible refine (cooperagelaw9_as.calls k _ _ l1 t297 t298 _ ?side1 ?side2 A5.out).mono ?_); (case side1 => repeat (first | exact (Kd.C_below HR1.out HB.out) | (with_reducible refine Kd.C_alloc ?_ _) | (with_reducible refine Kd.C_drewN ?_ _) | (with_reducible refine Kd.C_drew ?_))); (case side2 => exact HC1.out); rintro e w9 ⟨v299, rfl, ho0, hb⟩; have n0_ := Aside0.mk (Kd.R_elder' (zR HO296.out) (Kd.R_base ho0) hb); have n1_ := Aside0.mk (Kd.R_lower (Kd.R_new' ho0 (Kd.R_lt (zR HO296.out))) (below_size (zL HB.out))); have n2_ := Aside0.mk (below_step (zL HB.out) hb); revert n0_ n1_ n2_; clear HO296 HB; intro HO296 HO300 HB; (try clear hb); (try clear hb2); (try clear hk); (try clear hi); (try clear ho0)))
 repeat (go_quiet (first | (go_at_call 10; (with_reducible refine (cooperagelaw9_shown.calls k  t292 _ A3.out).mono ?_); rintro e w7 ⟨rfl, hb⟩; have n0_ := Aside0.mk (below_step (zL HB.out) hb); revert n0_; clear HB; intro HB; (try clear hb); (try clear hb2); (try clear hk); (try clear hi)) | (go_at_call 11; (with_reducible refine (cooperagelaw9_as.calls k _ _ l0 t293 t294 _ ?side1 ?side2 A4.out).mono ?_); (case side1 => repeat (first | exact (Kd.C_below HR0.out HB.out) | (with_reducible refine Kd.C_alloc ?_ _) | (with_reducible refine Kd.C_drewN ?_ _) | (with_reducible refine Kd.C_drew ?_))); (case side2 => exact HC0.out); rintro e w8 ⟨v295, rfl, ho0, hb⟩; have n0_ := Aside0.mk (Kd.R_lower ho0 (below_size (zL HB.out))); have n1_ := Aside0.mk (below_step (zL HB.out) hb); revert n0_ n1_; clear HB; intro HO296 HB; (try clear hb); (try clear hb2); (try clear hk); (try clear hi); (try clear ho0)) | (go_at_call 11; (with_reducible refine (cooperagelaw9_as.calls k _ _ l1 t297 t298 _ ?side1 ?side2 A5.out).mono ?_); (case side1 => repeat (first | exact (Kd.C_below HR1.out HB.out) | (with_reducible refine Kd.C_alloc ?_ _) | (with_reducible refine Kd.C_drewN ?_ _) | (with_reducible refine Kd.C_drew ?_))); (case side2 => exact HC1.out); rintro e w9 ⟨v299, rfl, ho0, hb⟩; have n0_ := Aside0.mk (Kd.R_elder' (zR HO296.out) (Kd.R_base ho0) hb); have n1_ := Aside0.mk (Kd.R_lower (Kd.R_new' ho0 (Kd.R_lt (zR HO296.out))) (below_size (zL HB.out))); have n2_ := Aside0.mk (below_step (zL HB.out) hb); revert n0_ n1_ n2_; clear HO296 HB; intro HO296 HO300 HB; (try clear hb); (try clear hb2); (try clear hk); (try clear hi); (try clear ho0))); go_upto_region 4 with (first | (go_at_call 10; (with_reducible refine (cooperagelaw9_shown.calls k  t292 _ A3.out).mono ?_); rintro e w7 ⟨rfl, hb⟩; have n0_ := Aside0.mk (below_step (zL HB.out) hb); revert n0_; clear HB; intro HB; (try clear hb); (try clear hb2); (try clear hk); (try clear hi)) | (go_at_call 11; (with_reducible refine (cooperagelaw9_as.calls k _ _ l0 t293 t294 _ ?side1 ?side2 A4.out).mono ?_); (case side1 => repeat (first | exact (Kd.C_below HR0.out HB.out) | (with_reducible refine Kd.C_alloc ?_ _) | (with_reducible refine Kd.C_drewN ?_ _) | (with_reducible refine Kd.C_drew ?_))); (case side2 => exact HC0.out); rintro e w8 ⟨v295, rfl, ho0, hb⟩; have n0_ := Aside0.mk (Kd.R_lower ho0 (below_size (zL HB.out))); have n1_ := Aside0.mk (below_step (zL HB.out) hb); revert n0_ n1_; clear HB; intro HO296 HB; (try clear hb); (try clear hb2); (try clear hk); (try clear hi); (try clear ho0)) | (go_at_call 11; (with_reducible refine (cooperagelaw9_as.calls k _ _ l1 t297 t298 _ ?side1 ?side2 A5.out).mono ?_); (case side1 => repeat (first | exact (Kd.C_below HR1.out HB.out) | (with_reducible refine Kd.C_alloc ?_ _) | (with_reducible refine Kd.C_drewN ?_ _) | (with_reducible refine Kd.C_drew ?_))); (case side2 => exact HC1.out); rintro e w9 ⟨v299, rfl, ho0, hb⟩; have n0_ := Aside0.mk (Kd.R_elder' (zR HO296.out) (Kd.R_base ho0) hb); have n1_ := Aside0.mk (Kd.R_lower (Kd.R_new' ho0 (Kd.R_lt (zR HO296.out))) (below_size (zL HB.out))); have n2_ := Aside0.mk (below_step (zL HB.out) hb); revert n0_ n1_ n2_; clear HO296 HB; intro HO296 HO300 HB; (try clear hb); (try clear hb2); (try clear hk); (try clear hi); (try clear ho0))))
 (try simp only [Act.put, List.setIfInBounds_toArray, List.set_cons_zero, List.set_cons_succ])
 go_cut [42] (fun v42 wc => ∃ (kq : Nat) (x42_5 : Bool), v42 = .bool x42_5 ∧ Aside0 (cooperagelaw9_ParseRows.j0 kq l0 l1 t292 x42_5 = some r) ∧ Aside0 (kq ≤ k) ∧ Aside0 (Below w.heap.size w wc))
 case first =>
  have H := HC6.out
  clear HC6
  by_cases c10 : t292 = true
  ·subst c10
   have H1 : (if t294 = true then (cooperagelaw9_ParseRows.j0 k l0 l1 true (!t298)) else (cooperagelaw9_ParseRows.j0 k l0 l1 true true)) = some r := by rw [if_pos rfl] at H; exact H
   clear H
   have H := H1
   clear H1
   by_cases c11 : t294 = true
   ·subst c11
    have H1 : (cooperagelaw9_ParseRows.j0 k l0 l1 true (!t298)) = some r := by rw [if_pos rfl] at H; exact H
    clear H
    have H := H1
    clear H1
    have H' := Aside0.mk H
    clear H
    go_wp2
    repeat (go_quiet (fail); try go_wp2)
    go_meet
    case rel => exact ⟨_, (!t298), zS, H', ⟨by first | omega | exact Nat.le_refl _⟩, ⟨zL HB.out⟩⟩
   ·replace c11 := Bool.eq_false_iff.mpr c11
    subst c11
    have H1 : (cooperagelaw9_ParseRows.j0 k l0 l1 true true) = some r := by rw [if_neg (show ¬ (false = true) by decide)] at H; exact H
    clear H
    have H := H1
    clear H1
    have H' := Aside0.mk H
    clear H
    go_wp2
    repeat (go_quiet (fail); try go_wp2)
    go_meet
    case rel => exact ⟨_, (true), zS, H', ⟨by first | omega | exact Nat.le_refl _⟩, ⟨zL HB.out⟩⟩
  ·replace c10 := Bool.eq_false_iff.mpr c10
   subst c10
   have H1 : (cooperagelaw9_ParseRows.j0 k l0 l1 false true) = some r := by rw [if_neg (show ¬ (false = true) by decide)] at H; exact H
   clear H
   have H := H1
   clear H1
   have H' := Aside0.mk H
   clear H
   go_wp2
   repeat (go_quiet (fail); try go_wp2)
   go_meet
   case rel => exact ⟨_, (true), zS, H', ⟨by first | omega | exact Nat.le_refl _⟩, ⟨zL HB.out⟩⟩
 case rest =>
  clear HC6
  try clear c1
  try clear p2
  try clear c6
  try clear c10
  try clear c11
  obtain ⟨kq, x42_5, rfl, HA, HJ5, HB⟩ := hcut
  cases kq with
  | zero => exact absurd HA.out (by simp [cooperagelaw9_ParseRows.j0])
  | succ kj5 =>
   have H := HA.out
   clear HA
   simp only [cooperagelaw9_ParseRows.j0] at H
   by_cases c12 : x42_5 = true
   ·subst c12
    have H1 : (some t292) = some r := by rw [if_pos rfl] at H; exact H
    clear H
    have H := H1
    clear H1
    obtain rfl := Option.some.inj H
    go_wp2
    repeat (go_quiet (fail); try go_wp2)
    go_ret
    exact ⟨zE, zL HB.out⟩
   ·replace c12 := Bool.eq_false_iff.mpr c12
    subst c12
    have H1 : ((parse_Parse.f kj5 l0).bind fun bt301 => ((parse_Parse.f kj5 l1).bind fun bt306 => ((some (([] : List (S43)) : List (S43))).bind fun y311 => (if y311.length + l0.length < 4398046511104 then ((some (y311 ++ l0 : List (S43))).bind fun y314 => (if y314.length + l1.length < 4398046511104 then ((parse_Parse.f kj5 (y314 ++ l1)).bind fun bt320 => (if bt301.2.1 = 0 then (cooperagelaw9_ParseRows.j1 kj5 l0 l1 bt301.1 bt306.1 bt320.1 bt320.2.1 bt320.2.2 (bt306.2.1 != 0)) else (cooperagelaw9_ParseRows.j1 kj5 l0 l1 bt301.1 bt306.1 bt320.1 bt320.2.1 bt320.2.2 true))) else (none))) else (none))))) = some r := by rw [if_neg (show ¬ (false = true) by decide)] at H; exact H
    clear H
    have H := H1
    clear H1
    replace H := Option.bind_eq_some_iff.mp H
    obtain ⟨⟨t301, t302, t303⟩, A130, H⟩ := H
    replace H : ((parse_Parse.f kj5 l1).bind fun bt306 => ((some (([] : List (S43)) : List (S43))).bind fun y311 => (if y311.length + l0.length < 4398046511104 then ((some (y311 ++ l0 : List (S43))).bind fun y314 => (if y314.length + l1.length < 4398046511104 then ((parse_Parse.f kj5 (y314 ++ l1)).bind fun bt320 => (if t302 = 0 then (cooperagelaw9_ParseRows.j1 kj5 l0 l1 t301 bt306.1 bt320.1 bt320.2.1 bt320.2.2 (bt306.2.1 != 0)) else (cooperagelaw9_ParseRows.j1 kj5 l0 l1 t301 bt306.1 bt320.1 bt320.2.1 bt320.2.2 true))) else (none))) else (none)))) = some r := H
    have A13 := Aside0.mk A130
    clear A130
    replace H := Option.bind_eq_some_iff.mp H
    obtain ⟨⟨t306, t307, t308⟩, A140, H⟩ := H
    replace H : ((some (([] : List (S43)) : List (S43))).bind fun y311 => (if y311.length + l0.length < 4398046511104 then ((some (y311 ++ l0 : List (S43))).bind fun y314 => (if y314.length + l1.length < 4398046511104 then ((parse_Parse.f kj5 (y314 ++ l1)).bind fun bt320 => (if t302 = 0 then (cooperagelaw9_ParseRows.j1 kj5 l0 l1 t301 t306 bt320.1 bt320.2.1 bt320.2.2 (t307 != 0)) else (cooperagelaw9_ParseRows.j1 kj5 l0 l1 t301 t306 bt320.1 bt320.2.1 bt320.2.2 true))) else (none))) else (none))) = some r := H
    have A14 := Aside0.mk A140
    clear A140
    obtain ⟨y311, hy311⟩ : ∃ y_ : List (S43), y_ = (([] : List (S43))) := ⟨_, rfl⟩
    replace H : (if y311.length + l0.length < 4398046511104 then ((some (y311 ++ l0 : List (S43))).bind fun y314 => (if y314.length + l1.length < 4398046511104 then ((parse_Parse.f kj5 (y314 ++ l1)).bind fun bt320 => (if t302 = 0 then (cooperagelaw9_ParseRows.j1 kj5 l0 l1 t301 t306 bt320.1 bt320.2.1 bt320.2.2 (t307 != 0)) else (cooperagelaw9_ParseRows.j1 kj5 l0 l1 t301 t306 bt320.1 bt320.2.1 bt320.2.2 true))) else (none))) else (none)) = some r := zH hy311 H
    have Ny311 := Aside0.mk hy311
    clear hy311
    by_cases c15 : y311.length + l0.length < 4398046511104
    ·rw [if_pos c15] at H
     have LMc15 := Aside0.mk c15
     clear c15
     obtain ⟨y314, hy314⟩ : ∃ y_ : List (S43), y_ = (y311 ++ l0) := ⟨_, rfl⟩
     replace H : (if y314.length + l1.length < 4398046511104 then ((parse_Parse.f kj5 (y314 ++ l1)).bind fun bt320 => (if t302 = 0 then (cooperagelaw9_ParseRows.j1 kj5 l0 l1 t301 t306 bt320.1 bt320.2.1 bt320.2.2 (t307 != 0)) else (cooperagelaw9_ParseRows.j1 kj5 l0 l1 t301 t306 bt320.1 bt320.2.1 bt320.2.2 true))) else (none)) = some r := zH hy314 H
     have Ny314 := Aside0.mk hy314
     clear hy314
     by_cases c16 : y314.length + l1.length < 4398046511104
     ·rw [if_pos c16] at H
      have LMc16 := Aside0.mk c16
      clear c16
      obtain ⟨y317, hy317⟩ : ∃ y_ : List (S43), y_ = (y314 ++ l1) := ⟨_, rfl⟩
      replace H : ((parse_Parse.f kj5 y317).bind fun bt320 => (if t302 = 0 then (cooperagelaw9_ParseRows.j1 kj5 l0 l1 t301 t306 bt320.1 bt320.2.1 bt320.2.2 (t307 != 0)) else (cooperagelaw9_ParseRows.j1 kj5 l0 l1 t301 t306 bt320.1 bt320.2.1 bt320.2.2 true))) = some r := zH hy317 H
      have Ny317 := Aside0.mk hy317
      clear hy317
      replace H := Option.bind_eq_some_iff.mp H
      obtain ⟨⟨t320, t321, t322⟩, A170, H⟩ := H
      replace H : (if t302 = 0 then (cooperagelaw9_ParseRows.j1 kj5 l0 l1 t301 t306 t320 t321 t322 (t307 != 0)) else (cooperagelaw9_ParseRows.j1 kj5 l0 l1 t301 t306 t320 t321 t322 true)) = some r := H
      have A17 := Aside0.mk A170
      clear A170
      have HC18 := Aside0.mk H
      clear H
      go_upto_region 9 with (first | (go_at_call 12; (with_reducible refine (parse_Parse.calls kj5 _ _ l0 t301 t302 t303 _ ?side1 ?side2 A13.out).mono ?_); (case side1 => repeat (first | exact (Kd.C_below HR0.out HB.out) | (with_reducible refine Kd.C_alloc ?_ _) | (with_reducible refine Kd.C_drewN ?_ _) | (with_reducible refine Kd.C_drew ?_))); (case side2 => exact HC0.out); rintro e w19 ⟨v304, rfl, ho0, hb⟩; have n0_ := Aside0.mk (Kd.S_lower ho0 (below_size (zL HB.out))); have n1_ := Aside0.mk (below_step (zL HB.out) hb); revert n0_ n1_; clear HB; intro HO305 HB; (try clear hb); (try clear hb2); (try clear hk); (try clear hi); (try clear ho0)) | (go_at_call 12; (with_reducible refine (parse_Parse.calls kj5 _ _ l1 t306 t307 t308 _ ?side1 ?side2 A14.out).mono ?_); (case side1 => repeat (first | exact (Kd.C_below HR1.out HB.out) | (with_reducible refine Kd.C_alloc ?_ _) | (with_reducible refine Kd.C_drewN ?_ _) | (with_reducible refine Kd.C_drew ?_))); (case side2 => exact HC1.out); rintro e w20 ⟨v309, rfl, ho0, hb⟩; have n0_ := Aside0.mk (Kd.S_elder' (by (with_reducible repeat (first | apply Kd.S_alloc | apply Kd.S_drewN | apply Kd.S_drew)); exact HO305.out) (Kd.S_base ho0) hb); have n1_ := Aside0.mk (Kd.S_lower (Kd.S_new' ho0 (Kd.S_lt (by (with_reducible repeat (first | apply Kd.S_alloc | apply Kd.S_drewN | apply Kd.S_drew)); exact HO305.out))) (below_size (zL HB.out))); have n2_ := Aside0.mk (below_step (zL HB.out) hb); revert n0_ n1_ n2_; clear HO305 HB; intro HO305 HO310 HB; (try clear hb); (try clear hb2); (try clear hk); (try clear hi); (try clear ho0)) | ((with_reducible refine gate_dst (N := 57) rfl ?_); (try (refine gate_guard (by rfl) ?_; dsimp only)); refine Kd.R_lit k43 _ 43 ?hg (N := 57) ?hd (xs := ([] : List (S43))) (inner := []) (ok := fun _ => True) (okp := fun _ => True) ?hr ?hp (fun _ hk => hk) trivial (Below.refl _ _) (Nat.le_refl _) (by simp) ?_; (case hd => rfl); (case hg => rfl); (case hr => first | (go_simp; done) | (go_simp; rfl)); (case hp => exact (Reps.none _ _)); intro v312 w21 ho22 hb hg_ hnew_; clear hg_ hnew_; (first | rw [← Ny311.out] at ho22 | (simp only [Int.reduceToNat] at ho22; rw [← Ny311.out] at ho22)); have n0_ := Aside0.mk (Kd.S_below (by (with_reducible repeat (first | apply Kd.S_alloc | apply Kd.S_drewN | apply Kd.S_drew)); exact HO305.out) hb); have n1_ := Aside0.mk (Kd.S_below (by (with_reducible repeat (first | apply Kd.S_alloc | apply Kd.S_drewN | apply Kd.S_drew)); exact HO310.out) hb); have n2_ := Aside0.mk (Kd.R_lower ho22 (below_size (zL HB.out))); have n3_ := Aside0.mk (below_step (zL HB.out) hb); revert n0_ n1_ n2_ n3_; clear HO305 HO310 HB; intro HO305 HO310 HO313 HB; clear hb ho22) | ((with_reducible refine gate_builtin (b := .append) (xs := #[.tmp 57, .tmp 58]) rfl ?_); (try (refine gate_guard (by rfl) ?_; dsimp only)); at_builtin; refine Kd.R_append_rows k43 (w0 := w) w.heap.size rfl (.tmp 57) (.tmp 58) 22 43 (.agg #[(.int .i64 0), (.bool false), (.string ⟨#[]⟩)]) 32 rfl Tryd.underlying22 info43 rfl (by decide) (by omega) v312 y311 l0 _ _ _ (fun _ => True) (fun _ => False) rfl rfl ?aO ?aR (fun _ _ h => h) (fun _ h => h.elim) ?aF ?aB ?aS ?aL ?_; (case aR => repeat (first | exact (Kd.C_below HR0.out HB.out) | (with_reducible refine Kd.C_alloc ?_ _) | (with_reducible refine Kd.C_drewN ?_ _) | (with_reducible refine Kd.C_drew ?_))); (case aB => exact (zL HB.out)); (case aF => exact (fun _ _ => trivial)); (case aO => exact (zR HO313.out)); (case aS => exact (below_size (zL HB.out))); (case aL => have := LMc15.out; omega); intro v315 w23 ho hb hg hat; rw [← Ny314.out] at ho; have n0_ := Aside0.mk (Kd.S_over' (by (with_reducible repeat (first | apply Kd.S_alloc | apply Kd.S_drewN | apply Kd.S_drew)); exact HO305.out) (Kd.R_typed (zR HO313.out)) (by decide) hg); have n1_ := Aside0.mk (Kd.S_over' (by (with_reducible repeat (first | apply Kd.S_alloc | apply Kd.S_drewN | apply Kd.S_drew)); exact HO310.out) (Kd.R_typed (zR HO313.out)) (by decide) hg); have n2_ := Aside0.mk (hb); have n3_ := Aside0.mk (ho); revert n0_ n1_ n2_ n3_; clear HO305 HO310 HB HO313; intro HO305 HO310 HB HO316; clear ho hb hg hat) | ((with_reducible refine gate_builtin (b := .append) (xs := #[.tmp 59, .tmp 60]) rfl ?_); (try (refine gate_guard (by rfl) ?_; dsimp only)); at_builtin; refine Kd.R_append_rows k43 (w0 := w) w.heap.size rfl (.tmp 59) (.tmp 60) 22 43 (.agg #[(.int .i64 0), (.bool false), (.string ⟨#[]⟩)]) 32 rfl Tryd.underlying22 info43 rfl (by decide) (by omega) v315 y314 l1 _ _ _ (fun _ => True) (fun _ => False) rfl rfl ?aO ?aR (fun _ _ h => h) (fun _ h => h.elim) ?aF ?aB ?aS ?aL ?_; (case aR => repeat (first | exact (Kd.C_below HR1.out HB.out) | (with_reducible refine Kd.C_alloc ?_ _) | (with_reducible refine Kd.C_drewN ?_ _) | (with_reducible refine Kd.C_drew ?_))); (case aB => exact (zL HB.out)); (case aF => exact (fun _ _ => trivial)); (case aO => exact (zR HO316.out)); (case aS => exact (below_size (zL HB.out))); (case aL => have := LMc16.out; omega); intro v318 w24 ho hb hg hat; rw [← Ny317.out] at ho; have n0_ := Aside0.mk (Kd.S_over' (by (with_reducible repeat (first | apply Kd.S_alloc | apply Kd.S_drewN | apply Kd.S_drew)); exact HO305.out) (Kd.R_typed (zR HO316.out)) (by decide) hg); have n1_ := Aside0.mk (Kd.S_over' (by (with_reducible repeat (first | apply Kd.S_alloc | apply Kd.S_drewN | apply Kd.S_drew)); exact HO310.out) (Kd.R_typed (zR HO316.out)) (by decide) hg); have n2_ := Aside0.mk (hb); have n3_ := Aside0.mk (ho); revert n0_ n1_ n2_ n3_; clear HO305 HO310 HB HO316; intro HO305 HO310 HB HO319; clear ho hb hg hat; obtain ⟨Ao25, co25, eo25⟩ := Kd.R_slice HO319.out; subst eo25) | (go_at_call 12; (with_reducible refine (parse_Parse.calls kj5 _ _ y317 t320 t321 t322 _ ?side1 ?side2 A17.out).mono ?_); (case side1 => repeat (first | exact (Kd.R_reads' HO319.out).2.2 | (with_reducible refine Kd.C_alloc ?_ _) | (with_reducible refine Kd.C_drewN ?_ _) | (with_reducible refine Kd.C_drew ?_))); (case side2 => exact (Kd.R_reads' HO319.out).2.1); rintro e w26 ⟨v323, rfl, ho0, hb⟩; have n0_ := Aside0.mk (Kd.S_elder' (by (with_reducible repeat (first | apply Kd.S_alloc | apply Kd.S_drewN | apply Kd.S_drew)); exact HO305.out) (Kd.S_base ho0) hb); have n1_ := Aside0.mk (Kd.S_elder' (by (with_reducible repeat (first | apply Kd.S_alloc | apply Kd.S_drewN | apply Kd.S_drew)); exact HO310.out) (Kd.S_base ho0) hb); have n2_ := Aside0.mk (Kd.R_below (zR HO319.out) hb); have n3_ := Aside0.mk (Kd.S_lower (Kd.S_new' (Kd.S_new' ho0 (Kd.S_lt (by (with_reducible repeat (first | apply Kd.S_alloc | apply Kd.S_drewN | apply Kd.S_drew)); exact HO305.out))) (Kd.S_lt (by (with_reducible repeat (first | apply Kd.S_alloc | apply Kd.S_drewN | apply Kd.S_drew)); exact HO310.out))) (below_size (zL HB.out))); have n4_ := Aside0.mk (below_step (zL HB.out) hb); revert n0_ n1_ n2_ n3_ n4_; clear HO305 HO310 HO319 HB; intro HO305 HO310 HO319 HO324 HB; (try clear hb); (try clear hb2); (try clear hk); (try clear hi); (try clear ho0)))
      repeat (go_quiet (first | (go_at_call 12; (with_reducible refine (parse_Parse.calls kj5 _ _ l0 t301 t302 t303 _ ?side1 ?side2 A13.out).mono ?_); (case side1 => repeat (first | exact (Kd.C_below HR0.out HB.out) | (with_reducible refine Kd.C_alloc ?_ _) | (with_reducible refine Kd.C_drewN ?_ _) | (with_reducible refine Kd.C_drew ?_))); (case side2 => exact HC0.out); rintro e w19 ⟨v304, rfl, ho0, hb⟩; have n0_ := Aside0.mk (Kd.S_lower ho0 (below_size (zL HB.out))); have n1_ := Aside0.mk (below_step (zL HB.out) hb); revert n0_ n1_; clear HB; intro HO305 HB; (try clear hb); (try clear hb2); (try clear hk); (try clear hi); (try clear ho0)) | (go_at_call 12; (with_reducible refine (parse_Parse.calls kj5 _ _ l1 t306 t307 t308 _ ?side1 ?side2 A14.out).mono ?_); (case side1 => repeat (first | exact (Kd.C_below HR1.out HB.out) | (with_reducible refine Kd.C_alloc ?_ _) | (with_reducible refine Kd.C_drewN ?_ _) | (with_reducible refine Kd.C_drew ?_))); (case side2 => exact HC1.out); rintro e w20 ⟨v309, rfl, ho0, hb⟩; have n0_ := Aside0.mk (Kd.S_elder' (by (with_reducible repeat (first | apply Kd.S_alloc | apply Kd.S_drewN | apply Kd.S_drew)); exact HO305.out) (Kd.S_base ho0) hb); have n1_ := Aside0.mk (Kd.S_lower (Kd.S_new' ho0 (Kd.S_lt (by (with_reducible repeat (first | apply Kd.S_alloc | apply Kd.S_drewN | apply Kd.S_drew)); exact HO305.out))) (below_size (zL HB.out))); have n2_ := Aside0.mk (below_step (zL HB.out) hb); revert n0_ n1_ n2_; clear HO305 HB; intro HO305 HO310 HB; (try clear hb); (try clear hb2); (try clear hk); (try clear hi); (try clear ho0)) | ((with_reducible refine gate_dst (N := 57) rfl ?_); (try (refine gate_guard (by rfl) ?_; dsimp only)); refine Kd.R_lit k43 _ 43 ?hg (N := 57) ?hd (xs := ([] : List (S43))) (inner := []) (ok := fun _ => True) (okp := fun _ => True) ?hr ?hp (fun _ hk => hk) trivial (Below.refl _ _) (Nat.le_refl _) (by simp) ?_; (case hd => rfl); (case hg => rfl); (case hr => first | (go_simp; done) | (go_simp; rfl)); (case hp => exact (Reps.none _ _)); intro v312 w21 ho22 hb hg_ hnew_; clear hg_ hnew_; (first | rw [← Ny311.out] at ho22 | (simp only [Int.reduceToNat] at ho22; rw [← Ny311.out] at ho22)); have n0_ := Aside0.mk (Kd.S_below (by (with_reducible repeat (first | apply Kd.S_alloc | apply Kd.S_drewN | apply Kd.S_drew)); exact HO305.out) hb); have n1_ := Aside0.mk (Kd.S_below (by (with_reducible repeat (first | apply Kd.S_alloc | apply Kd.S_drewN | apply Kd.S_drew)); exact HO310.out) hb); have n2_ := Aside0.mk (Kd.R_lower ho22 (below_size (zL HB.out))); have n3_ := Aside0.mk (below_step (zL HB.out) hb); revert n0_ n1_ n2_ n3_; clear HO305 HO310 HB; intro HO305 HO310 HO313 HB; clear hb ho22) | ((with_reducible refine gate_builtin (b := .append) (xs := #[.tmp 57, .tmp 58]) rfl ?_); (try (refine gate_guard (by rfl) ?_; dsimp only)); at_builtin; refine Kd.R_append_rows k43 (w0 := w) w.heap.size rfl (.tmp 57) (.tmp 58) 22 43 (.agg #[(.int .i64 0), (.bool false), (.string ⟨#[]⟩)]) 32 rfl Tryd.underlying22 info43 rfl (by decide) (by omega) v312 y311 l0 _ _ _ (fun _ => True) (fun _ => False) rfl rfl ?aO ?aR (fun _ _ h => h) (fun _ h => h.elim) ?aF ?aB ?aS ?aL ?_; (case aR => repeat (first | exact (Kd.C_below HR0.out HB.out) | (with_reducible refine Kd.C_alloc ?_ _) | (with_reducible refine Kd.C_drewN ?_ _) | (with_reducible refine Kd.C_drew ?_))); (case aB => exact (zL HB.out)); (case aF => exact (fun _ _ => trivial)); (case aO => exact (zR HO313.out)); (case aS => exact (below_size (zL HB.out))); (case aL => have := LMc15.out; omega); intro v315 w23 ho hb hg hat; rw [← Ny314.out] at ho; have n0_ := Aside0.mk (Kd.S_over' (by (with_reducible repeat (first | apply Kd.S_alloc | apply Kd.S_drewN | apply Kd.S_drew)); exact HO305.out) (Kd.R_typed (zR HO313.out)) (by decide) hg); have n1_ := Aside0.mk (Kd.S_over' (by (with_reducible repeat (first | apply Kd.S_alloc | apply Kd.S_drewN | apply Kd.S_drew)); exact HO310.out) (Kd.R_typed (zR HO313.out)) (by decide) hg); have n2_ := Aside0.mk (hb); have n3_ := Aside0.mk (ho); revert n0_ n1_ n2_ n3_; clear HO305 HO310 HB HO313; intro HO305 HO310 HB HO316; clear ho hb hg hat) | ((with_reducible refine gate_builtin (b := .append) (xs := #[.tmp 59, .tmp 60]) rfl ?_); (try (refine gate_guard (by rfl) ?_; dsimp only)); at_builtin; refine Kd.R_append_rows k43 (w0 := w) w.heap.size rfl (.tmp 59) (.tmp 60) 22 43 (.agg #[(.int .i64 0), (.bool false), (.string ⟨#[]⟩)]) 32 rfl Tryd.underlying22 info43 rfl (by decide) (by omega) v315 y314 l1 _ _ _ (fun _ => True) (fun _ => False) rfl rfl ?aO ?aR (fun _ _ h => h) (fun _ h => h.elim) ?aF ?aB ?aS ?aL ?_; (case aR => repeat (first | exact (Kd.C_below HR1.out HB.out) | (with_reducible refine Kd.C_alloc ?_ _) | (with_reducible refine Kd.C_drewN ?_ _) | (with_reducible refine Kd.C_drew ?_))); (case aB => exact (zL HB.out)); (case aF => exact (fun _ _ => trivial)); (case aO => exact (zR HO316.out)); (case aS => exact (below_size (zL HB.out))); (case aL => have := LMc16.out; omega); intro v318 w24 ho hb hg hat; rw [← Ny317.out] at ho; have n0_ := Aside0.mk (Kd.S_over' (by (with_reducible repeat (first | apply Kd.S_alloc | apply Kd.S_drewN | apply Kd.S_drew)); exact HO305.out) (Kd.R_typed (zR HO316.out)) (by decide) hg); have n1_ := Aside0.mk (Kd.S_over' (by (with_reducible repeat (first | apply Kd.S_alloc | apply Kd.S_drewN | apply Kd.S_drew)); exact HO310.out) (Kd.R_typed (zR HO316.out)) (by decide) hg); have n2_ := Aside0.mk (hb); have n3_ := Aside0.mk (ho); revert n0_ n1_ n2_ n3_; clear HO305 HO310 HB HO316; intro HO305 HO310 HB HO319; clear ho hb hg hat; obtain ⟨Ao25, co25, eo25⟩ := Kd.R_slice HO319.out; subst eo25) | (go_at_call 12; (with_reducible refine (parse_Parse.calls kj5 _ _ y317 t320 t321 t322 _ ?side1 ?side2 A17.out).mono ?_); (case side1 => repeat (first | exact (Kd.R_reads' HO319.out).2.2 | (with_reducible refine Kd.C_alloc ?_ _) | (with_reducible refine Kd.C_drewN ?_ _) | (with_reducible refine Kd.C_drew ?_))); (case side2 => exact (Kd.R_reads' HO319.out).2.1); rintro e w26 ⟨v323, rfl, ho0, hb⟩; have n0_ := Aside0.mk (Kd.S_elder' (by (with_reducible repeat (first | apply Kd.S_alloc | apply Kd.S_drewN | apply Kd.S_drew)); exact HO305.out) (Kd.S_base ho0) hb); have n1_ := Aside0.mk (Kd.S_elder' (by (with_reducible repeat (first | apply Kd.S_alloc | apply Kd.S_drewN | apply Kd.S_drew)); exact HO310.out) (Kd.S_base ho0) hb); have n2_ := Aside0.mk (Kd.R_below (zR HO319.out) hb); have n3_ := Aside0.mk (Kd.S_lower (Kd.S_new' (Kd.S_new' ho0 (Kd.S_lt (by (with_reducible repeat (first | apply Kd.S_alloc | apply Kd.S_drewN | apply Kd.S_drew)); exact HO305.out))) (Kd.S_lt (by (with_reducible repeat (first | apply Kd.S_alloc | apply Kd.S_drewN | apply Kd.S_drew)); exact HO310.out))) (below_size (zL HB.out))); have n4_ := Aside0.mk (below_step (zL HB.out) hb); revert n0_ n1_ n2_ n3_ n4_; clear HO305 HO310 HO319 HB; intro HO305 HO310 HO319 HO324 HB; (try clear hb); (try clear hb2); (try clear hk); (try clear hi); (try clear ho0))); go_upto_region 9 with (first | (go_at_call 12; (with_reducible refine (parse_Parse.calls kj5 _ _ l0 t301 t302 t303 _ ?side1 ?side2 A13.out).mono ?_); (case side1 => repeat (first | exact (Kd.C_below HR0.out HB.out) | (with_reducible refine Kd.C_alloc ?_ _) | (with_reducible refine Kd.C_drewN ?_ _) | (with_reducible refine Kd.C_drew ?_))); (case side2 => exact HC0.out); rintro e w19 ⟨v304, rfl, ho0, hb⟩; have n0_ := Aside0.mk (Kd.S_lower ho0 (below_size (zL HB.out))); have n1_ := Aside0.mk (below_step (zL HB.out) hb); revert n0_ n1_; clear HB; intro HO305 HB; (try clear hb); (try clear hb2); (try clear hk); (try clear hi); (try clear ho0)) | (go_at_call 12; (with_reducible refine (parse_Parse.calls kj5 _ _ l1 t306 t307 t308 _ ?side1 ?side2 A14.out).mono ?_); (case side1 => repeat (first | exact (Kd.C_below HR1.out HB.out) | (with_reducible refine Kd.C_alloc ?_ _) | (with_reducible refine Kd.C_drewN ?_ _) | (with_reducible refine Kd.C_drew ?_))); (case side2 => exact HC1.out); rintro e w20 ⟨v309, rfl, ho0, hb⟩; have n0_ := Aside0.mk (Kd.S_elder' (by (with_reducible repeat (first | apply Kd.S_alloc | apply Kd.S_drewN | apply Kd.S_drew)); exact HO305.out) (Kd.S_base ho0) hb); have n1_ := Aside0.mk (Kd.S_lower (Kd.S_new' ho0 (Kd.S_lt (by (with_reducible repeat (first | apply Kd.S_alloc | apply Kd.S_drewN | apply Kd.S_drew)); exact HO305.out))) (below_size (zL HB.out))); have n2_ := Aside0.mk (below_step (zL HB.out) hb); revert n0_ n1_ n2_; clear HO305 HB; intro HO305 HO310 HB; (try clear hb); (try clear hb2); (try clear hk); (try clear hi); (try clear ho0)) | ((with_reducible refine gate_dst (N := 57) rfl ?_); (try (refine gate_guard (by rfl) ?_; dsimp only)); refine Kd.R_lit k43 _ 43 ?hg (N := 57) ?hd (xs := ([] : List (S43))) (inner := []) (ok := fun _ => True) (okp := fun _ => True) ?hr ?hp (fun _ hk => hk) trivial (Below.refl _ _) (Nat.le_refl _) (by simp) ?_; (case hd => rfl); (case hg => rfl); (case hr => first | (go_simp; done) | (go_simp; rfl)); (case hp => exact (Reps.none _ _)); intro v312 w21 ho22 hb hg_ hnew_; clear hg_ hnew_; (first | rw [← Ny311.out] at ho22 | (simp only [Int.reduceToNat] at ho22; rw [← Ny311.out] at ho22)); have n0_ := Aside0.mk (Kd.S_below (by (with_reducible repeat (first | apply Kd.S_alloc | apply Kd.S_drewN | apply Kd.S_drew)); exact HO305.out) hb); have n1_ := Aside0.mk (Kd.S_below (by (with_reducible repeat (first | apply Kd.S_alloc | apply Kd.S_drewN | apply Kd.S_drew)); exact HO310.out) hb); have n2_ := Aside0.mk (Kd.R_lower ho22 (below_size (zL HB.out))); have n3_ := Aside0.mk (below_step (zL HB.out) hb); revert n0_ n1_ n2_ n3_; clear HO305 HO310 HB; intro HO305 HO310 HO313 HB; clear hb ho22) | ((with_reducible refine gate_builtin (b := .append) (xs := #[.tmp 57, .tmp 58]) rfl ?_); (try (refine gate_guard (by rfl) ?_; dsimp only)); at_builtin; refine Kd.R_append_rows k43 (w0 := w) w.heap.size rfl (.tmp 57) (.tmp 58) 22 43 (.agg #[(.int .i64 0), (.bool false), (.string ⟨#[]⟩)]) 32 rfl Tryd.underlying22 info43 rfl (by decide) (by omega) v312 y311 l0 _ _ _ (fun _ => True) (fun _ => False) rfl rfl ?aO ?aR (fun _ _ h => h) (fun _ h => h.elim) ?aF ?aB ?aS ?aL ?_; (case aR => repeat (first | exact (Kd.C_below HR0.out HB.out) | (with_reducible refine Kd.C_alloc ?_ _) | (with_reducible refine Kd.C_drewN ?_ _) | (with_reducible refine Kd.C_drew ?_))); (case aB => exact (zL HB.out)); (case aF => exact (fun _ _ => trivial)); (case aO => exact (zR HO313.out)); (case aS => exact (below_size (zL HB.out))); (case aL => have := LMc15.out; omega); intro v315 w23 ho hb hg hat; rw [← Ny314.out] at ho; have n0_ := Aside0.mk (Kd.S_over' (by (with_reducible repeat (first | apply Kd.S_alloc | apply Kd.S_drewN | apply Kd.S_drew)); exact HO305.out) (Kd.R_typed (zR HO313.out)) (by decide) hg); have n1_ := Aside0.mk (Kd.S_over' (by (with_reducible repeat (first | apply Kd.S_alloc | apply Kd.S_drewN | apply Kd.S_drew)); exact HO310.out) (Kd.R_typed (zR HO313.out)) (by decide) hg); have n2_ := Aside0.mk (hb); have n3_ := Aside0.mk (ho); revert n0_ n1_ n2_ n3_; clear HO305 HO310 HB HO313; intro HO305 HO310 HB HO316; clear ho hb hg hat) | ((with_reducible refine gate_builtin (b := .append) (xs := #[.tmp 59, .tmp 60]) rfl ?_); (try (refine gate_guard (by rfl) ?_; dsimp only)); at_builtin; refine Kd.R_append_rows k43 (w0 := w) w.heap.size rfl (.tmp 59) (.tmp 60) 22 43 (.agg #[(.int .i64 0), (.bool false), (.string ⟨#[]⟩)]) 32 rfl Tryd.underlying22 info43 rfl (by decide) (by omega) v315 y314 l1 _ _ _ (fun _ => True) (fun _ => False) rfl rfl ?aO ?aR (fun _ _ h => h) (fun _ h => h.elim) ?aF ?aB ?aS ?aL ?_; (case aR => repeat (first | exact (Kd.C_below HR1.out HB.out) | (with_reducible refine Kd.C_alloc ?_ _) | (with_reducible refine Kd.C_drewN ?_ _) | (with_reducible refine Kd.C_drew ?_))); (case aB => exact (zL HB.out)); (case aF => exact (fun _ _ => trivial)); (case aO => exact (zR HO316.out)); (case aS => exact (below_size (zL HB.out))); (case aL => have := LMc16.out; omega); intro v318 w24 ho hb hg hat; rw [← Ny317.out] at ho; have n0_ := Aside0.mk (Kd.S_over' (by (with_reducible repeat (first | apply Kd.S_alloc | apply Kd.S_drewN | apply Kd.S_drew)); exact HO305.out) (Kd.R_typed (zR HO316.out)) (by decide) hg); have n1_ := Aside0.mk (Kd.S_over' (by (with_reducible repeat (first | apply Kd.S_alloc | apply Kd.S_drewN | apply Kd.S_drew)); exact HO310.out) (Kd.R_typed (zR HO316.out)) (by decide) hg); have n2_ := Aside0.mk (hb); have n3_ := Aside0.mk (ho); revert n0_ n1_ n2_ n3_; clear HO305 HO310 HB HO316; intro HO305 HO310 HB HO319; clear ho hb hg hat; obtain ⟨Ao25, co25, eo25⟩ := Kd.R_slice HO319.out; subst eo25) | (go_at_call 12; (with_reducible refine (parse_Parse.calls kj5 _ _ y317 t320 t321 t322 _ ?side1 ?side2 A17.out).mono ?_); (case side1 => repeat (first | exact (Kd.R_reads' HO319.out).2.2 | (with_reducible refine Kd.C_alloc ?_ _) | (with_reducible refine Kd.C_drewN ?_ _) | (with_reducible refine Kd.C_drew ?_))); (case side2 => exact (Kd.R_reads' HO319.out).2.1); rintro e w26 ⟨v323, rfl, ho0, hb⟩; have n0_ := Aside0.mk (Kd.S_elder' (by (with_reducible repeat (first | apply Kd.S_alloc | apply Kd.S_drewN | apply Kd.S_drew)); exact HO305.out) (Kd.S_base ho0) hb); have n1_ := Aside0.mk (Kd.S_elder' (by (with_reducible repeat (first | apply Kd.S_alloc | apply Kd.S_drewN | apply Kd.S_drew)); exact HO310.out) (Kd.S_base ho0) hb); have n2_ := Aside0.mk (Kd.R_below (zR HO319.out) hb); have n3_ := Aside0.mk (Kd.S_lower (Kd.S_new' (Kd.S_new' ho0 (Kd.S_lt (by (with_reducible repeat (first | apply Kd.S_alloc | apply Kd.S_drewN | apply Kd.S_drew)); exact HO305.out))) (Kd.S_lt (by (with_reducible repeat (first | apply Kd.S_alloc | apply Kd.S_drewN | apply Kd.S_drew)); exact HO310.out))) (below_size (zL HB.out))); have n4_ := Aside0.mk (below_step (zL HB.out) hb); revert n0_ n1_ n2_ n3_ n4_; clear HO305 HO310 HO319 HB; intro HO305 HO310 HO319 HO324 HB; (try clear hb); (try clear hb2); (try clear hk); (try clear hi); (try clear ho0))))
      (try simp only [Act.put, List.setIfInBounds_toArray, List.set_cons_zero, List.set_cons_succ])
      go_cut [71] (fun v71 wc => ∃ (kq : Nat) (x71_17 : Bool), v71 = .bool x71_17 ∧ Aside0 (cooperagelaw9_ParseRows.j1 kq l0 l1 t301 t306 t320 t321 t322 x71_17 = some r) ∧ Aside0 (kq ≤ kj5) ∧ Aside0 (Kd.S k45 45 wc w.heap.size (fun k_ => some k_ ≠ (v309 : Value).ownBlock ∧ some k_ ≠ (v323 : Value).ownBlock) v304 t301) ∧ Aside0 (Kd.S k45 45 wc w.heap.size (fun k_ => some k_ ≠ (v304 : Value).ownBlock ∧ some k_ ≠ (v323 : Value).ownBlock) v309 t306) ∧ Aside0 (Kd.S k45 45 wc w.heap.size (fun k_ => some k_ ≠ (v304 : Value).ownBlock ∧ some k_ ≠ (v309 : Value).ownBlock) v323 t320) ∧ Aside0 (Below w.heap.size w wc))
      case first =>
       have H := HC18.out
       clear HC18
       by_cases c27 : t302 = 0
       ·rw [if_pos c27] at H
        have c27b0 : (t302 == 0) = true := beq_iff_eq.mpr c27
        have c27b1 : (t302 != 0) = false := bne_eq_false_iff_eq.mpr c27
        clear c27
        (first | rw [c27b0] | (simp only [i64_w, i32_w]; rw [c27b0]) | skip)
        have H' := Aside0.mk H
        clear H
        go_wp2
        repeat (go_quiet (fail); try go_wp2)
        go_meet
        case rel => exact ⟨_, ((t307 != 0)), zS, H', ⟨by have := HJ5.out; first | omega | exact Nat.le_refl _⟩, ⟨by (with_reducible repeat (first | apply Kd.S_alloc | apply Kd.S_drewN | apply Kd.S_drew)); exact Kd.S_mono HO305.out (fun _ hk => ⟨hk.1.2, hk.2⟩)⟩, ⟨by (with_reducible repeat (first | apply Kd.S_alloc | apply Kd.S_drewN | apply Kd.S_drew)); exact Kd.S_mono HO310.out (fun _ hk => ⟨hk.1.2, hk.2⟩)⟩, ⟨by (with_reducible repeat (first | apply Kd.S_alloc | apply Kd.S_drewN | apply Kd.S_drew)); exact Kd.S_mono HO324.out (fun _ hk => ⟨hk.1.2, hk.2⟩)⟩, ⟨zL HB.out⟩⟩
       ·rw [if_neg c27] at H
        have c27b0 : (t302 == 0) = false := beq_eq_false_iff_ne.mpr c27
        have c27b1 : (t302 != 0) = true := bne_iff_ne.mpr c27
        (first | rw [c27b0] | (simp only [i64_w, i32_w]; rw [c27b0]) | skip)
        have H' := Aside0.mk H
        clear H
        go_wp2
        repeat (go_quiet (fail); try go_wp2)
        go_meet
        case rel => exact ⟨_, (true), zS, H', ⟨by have := HJ5.out; first | omega | exact Nat.le_refl _⟩, ⟨by (with_reducible repeat (first | apply Kd.S_alloc | apply Kd.S_drewN | apply Kd.S_drew)); exact Kd.S_mono HO305.out (fun _ hk => ⟨hk.1.2, hk.2⟩)⟩, ⟨by (with_reducible repeat (first | apply Kd.S_alloc | apply Kd.S_drewN | apply Kd.S_drew)); exact Kd.S_mono HO310.out (fun _ hk => ⟨hk.1.2, hk.2⟩)⟩, ⟨by (with_reducible repeat (first | apply Kd.S_alloc | apply Kd.S_drewN | apply Kd.S_drew)); exact Kd.S_mono HO324.out (fun _ hk => ⟨hk.1.2, hk.2⟩)⟩, ⟨zL HB.out⟩⟩
      case rest =>
       clear HC18
       try clear c1
       try clear c2
       try clear p2
       try clear c6
       try clear c10
       try clear c11
       try clear c12
       try clear c15
       try clear c16
       try clear c27
       try clear c27b0
       try clear c27b1
       try clear p2
       obtain ⟨kq, x71_17, rfl, HA, HJ17, HO_10, HO_13, HO_16, HB⟩ := hcut
       cases kq with
       | zero => exact absurd HA.out (by simp [cooperagelaw9_ParseRows.j1])
       | succ kj17 =>
        have H := HA.out
        clear HA
        simp only [cooperagelaw9_ParseRows.j1] at H
        by_cases c28 : x71_17 = true
        ·subst c28
         have H1 : (if t321 = 0 then (some true) else (some ((t320.length : Int) == 0))) = some r := by rw [if_pos rfl] at H; exact H
         clear H
         have H := H1
         clear H1
         by_cases c29 : t321 = 0
         ·rw [if_pos c29] at H
          have c29b0 : (t321 == 0) = true := beq_iff_eq.mpr c29
          have c29b1 : (t321 != 0) = false := bne_eq_false_iff_eq.mpr c29
          clear c29
          obtain rfl := Option.some.inj H
          go_wp2
          repeat (go_quiet (fail); try go_wp2)
          go_ret
          exact ⟨zE, zL HB.out⟩
         ·rw [if_neg c29] at H
          have c29b0 : (t321 == 0) = false := beq_eq_false_iff_ne.mpr c29
          have c29b1 : (t321 != 0) = true := bne_iff_ne.mpr c29
          obtain rfl := Option.some.inj H
          obtain ⟨Ao30, co30, eo30⟩ := Kd.S_slice HO_16.out
          subst eo30
          go_wp2
          repeat (go_quiet (fail); try go_wp2)
          go_ret
          exact ⟨zE, zL HB.out⟩
        ·replace c28 := Bool.eq_false_iff.mpr c28
         subst c28
         have H1 : (if t321 = 0 then (if t322 = 0 then (cooperagelaw9_ParseRows.j2 kj17 l0 l1 t320 ((t320.length : Int) != (wrap64 ((t301.length : Int) + (t306.length : Int))))) else (cooperagelaw9_ParseRows.j2 kj17 l0 l1 t320 true)) else (cooperagelaw9_ParseRows.j2 kj17 l0 l1 t320 true)) = some r := by rw [if_neg (show ¬ (false = true) by decide)] at H; exact H
         clear H
         have H := H1
         clear H1
         have HC31 := Aside0.mk H
         clear H
         go_upto_region 11 with (fail)
         repeat (go_quiet (fail); go_upto_region 11 with (fail))
         go_cut [94] (fun v94 wc => ∃ (kq : Nat) (x94_30 : Bool), v94 = .bool x94_30 ∧ Aside0 (cooperagelaw9_ParseRows.j2 kq l0 l1 t320 x94_30 = some r) ∧ Aside0 (kq ≤ kj17) ∧ Aside0 (Kd.S k45 45 wc w.heap.size (fun _ => True) v323 t320) ∧ Aside0 (Below w.heap.size w wc))
         case first =>
          have H := HC31.out
          clear HC31
          by_cases c32 : t321 = 0
          ·rw [if_pos c32] at H
           have c32b0 : (t321 == 0) = true := beq_iff_eq.mpr c32
           have c32b1 : (t321 != 0) = false := bne_eq_false_iff_eq.mpr c32
           clear c32
           (first | rw [c32b0] | (simp only [i64_w, i32_w]; rw [c32b0]) | skip)
           by_cases c33 : t322 = 0
           ·rw [if_pos c33] at H
            have c33b0 : (t322 == 0) = true := beq_iff_eq.mpr c33
            have c33b1 : (t322 != 0) = false := bne_eq_false_iff_eq.mpr c33
            clear c33
            have H' := Aside0.mk H
            clear H
            obtain ⟨Ao34, co34, eo34⟩ := Kd.S_slice HO_16.out
            subst eo34
            obtain ⟨Ao35, co35, eo35⟩ := Kd.S_slice HO_10.out
            subst eo35
            obtain ⟨Ao36, co36, eo36⟩ := Kd.S_slice HO_13.out
            subst eo36
            go_wp2
            repeat (go_quiet (fail); try go_wp2)
            go_meet
            case rel => exact ⟨_, (((t320.length : Int) != (wrap64 ((t301.length : Int) + (t306.length : Int))))), zS, H', ⟨by have := HJ5.out; have := HJ17.out; first | omega | exact Nat.le_refl _⟩, ⟨by (with_reducible repeat (first | apply Kd.S_alloc | apply Kd.S_drewN | apply Kd.S_drew)); exact Kd.S_mono HO_16.out (fun _ hk => trivial)⟩, ⟨zL HB.out⟩⟩
           ·rw [if_neg c33] at H
            have c33b0 : (t322 == 0) = false := beq_eq_false_iff_ne.mpr c33
            have c33b1 : (t322 != 0) = true := bne_iff_ne.mpr c33
            have H' := Aside0.mk H
            clear H
            go_wp2
            repeat (go_quiet (fail); try go_wp2)
            go_meet
            case rel => exact ⟨_, (true), zS, H', ⟨by have := HJ5.out; have := HJ17.out; first | omega | exact Nat.le_refl _⟩, ⟨by (with_reducible repeat (first | apply Kd.S_alloc | apply Kd.S_drewN | apply Kd.S_drew)); exact Kd.S_mono HO_16.out (fun _ hk => trivial)⟩, ⟨zL HB.out⟩⟩
          ·rw [if_neg c32] at H
           have c32b0 : (t321 == 0) = false := beq_eq_false_iff_ne.mpr c32
           have c32b1 : (t321 != 0) = true := bne_iff_ne.mpr c32
           (first | rw [c32b0] | (simp only [i64_w, i32_w]; rw [c32b0]) | skip)
           have H' := Aside0.mk H
           clear H
           go_wp2
           repeat (go_quiet (fail); try go_wp2)
           go_meet
           case rel => exact ⟨_, (true), zS, H', ⟨by have := HJ5.out; have := HJ17.out; first | omega | exact Nat.le_refl _⟩, ⟨by (with_reducible repeat (first | apply Kd.S_alloc | apply Kd.S_drewN | apply Kd.S_drew)); exact Kd.S_mono HO_16.out (fun _ hk => trivial)⟩, ⟨zL HB.out⟩⟩
         case rest =>
          clear HC31
          try clear c1
          try clear c2
          try clear p2
          try clear c3
          try clear c6
          try clear p6
          try clear c10
          try clear c11
          try clear c12
          try clear c15
          try clear c16
          try clear c27
          try clear c27b0
          try clear c27b1
          try clear c28
          try clear c29
          try clear c29b0
          try clear c29b1
          try clear c32
          try clear c32b0
          try clear c32b1
          try clear c33
          try clear c33b0
          try clear c33b1
          try clear p2
          obtain ⟨kq, x94_30, rfl, HA, HJ30, HO_16, HB⟩ := hcut
          cases kq with
          | zero => exact absurd HA.out (by simp [cooperagelaw9_ParseRows.j2])
          | succ kj30 =>
           have H := HA.out
           clear HA
           simp only [cooperagelaw9_ParseRows.j2] at H
           by_cases c37 : x94_30 = true
           ·subst c37
            have H1 : (some false) = some r := by rw [if_pos rfl] at H; exact H
            clear H
            have H := H1
            clear H1
            obtain rfl := Option.some.inj H
            go_wp2
            repeat (go_quiet (fail); try go_wp2)
            go_ret
            exact ⟨zE, zL HB.out⟩
           ·replace c37 := Bool.eq_false_iff.mpr c37
            subst c37
            have H1 : ((some (([] : List (S43)) : List (S43))).bind fun y325 => (if y325.length + l0.length < 4398046511104 then ((some (y325 ++ l0 : List (S43))).bind fun y328 => (if y328.length + l1.length < 4398046511104 then (cooperagelaw9_ParseRows.l0 kj30 t320 0 (y328 ++ l1) 0) else (none))) else (none))) = some r := by rw [if_neg (show ¬ (false = true) by decide)] at H; exact H
            clear H
            have H := H1
            clear H1
            obtain ⟨y325, hy325⟩ : ∃ y_ : List (S43), y_ = (([] : List (S43))) := ⟨_, rfl⟩
            replace H : (if y325.length + l0.length < 4398046511104 then ((some (y325 ++ l0 : List (S43))).bind fun y328 => (if y328.length + l1.length < 4398046511104 then (cooperagelaw9_ParseRows.l0 kj30 t320 0 (y328 ++ l1) 0) else (none))) else (none)) = some r := zH hy325 H
            have Ny325 := Aside0.mk hy325
            clear hy325
            by_cases c38 : y325.length + l0.length < 4398046511104
            ·rw [if_pos c38] at H
             have LMc38 := Aside0.mk c38
             clear c38
             obtain ⟨y328, hy328⟩ : ∃ y_ : List (S43), y_ = (y325 ++ l0) := ⟨_, rfl⟩
             replace H : (if y328.length + l1.length < 4398046511104 then (cooperagelaw9_ParseRows.l0 kj30 t320 0 (y328 ++ l1) 0) else (none)) = some r := zH hy328 H
             have Ny328 := Aside0.mk hy328
             clear hy328
             by_cases c39 : y328.length + l1.length < 4398046511104
             ·rw [if_pos c39] at H
              have LMc39 := Aside0.mk c39
              clear c39
              obtain ⟨y331, hy331⟩ : ∃ y_ : List (S43), y_ = (y328 ++ l1) := ⟨_, rfl⟩
              replace H : (cooperagelaw9_ParseRows.l0 kj30 t320 0 y331 0) = some r := zH hy331 H
              have Ny331 := Aside0.mk hy331
              clear hy331
              have H' := Aside0.mk H
              clear H
              go_wp2_with (first | ((with_reducible refine gate_dst (N := 95) rfl ?_); (try (refine gate_guard (by rfl) ?_; dsimp only)); refine Kd.R_lit k43 _ 43 ?hg (N := 95) ?hd (xs := ([] : List (S43))) (inner := []) (ok := fun _ => True) (okp := fun _ => True) ?hr ?hp (fun _ hk => hk) trivial (Below.refl _ _) (Nat.le_refl _) (by simp) ?_; (case hd => rfl); (case hg => rfl); (case hr => first | (go_simp; done) | (go_simp; rfl)); (case hp => exact (Reps.none _ _)); intro v326 w40 ho41 hb hg_ hnew_; clear hg_ hnew_; (first | rw [← Ny325.out] at ho41 | (simp only [Int.reduceToNat] at ho41; rw [← Ny325.out] at ho41)); have n0_ := Aside0.mk (Kd.S_below (by (with_reducible repeat (first | apply Kd.S_alloc | apply Kd.S_drewN | apply Kd.S_drew)); exact HO_16.out) hb); have n1_ := Aside0.mk (Kd.R_lower ho41 (below_size (zL HB.out))); have n2_ := Aside0.mk (below_step (zL HB.out) hb); revert n0_ n1_ n2_; clear HO_16 HB; intro HO_16 HO327 HB; clear hb ho41) | ((with_reducible refine gate_builtin (b := .append) (xs := #[.tmp 95, .tmp 96]) rfl ?_); (try (refine gate_guard (by rfl) ?_; dsimp only)); at_builtin; refine Kd.R_append_rows k43 (w0 := w) w.heap.size rfl (.tmp 95) (.tmp 96) 22 43 (.agg #[(.int .i64 0), (.bool false), (.string ⟨#[]⟩)]) 32 rfl Tryd.underlying22 info43 rfl (by decide) (by omega) v326 y325 l0 _ _ _ (fun _ => True) (fun _ => False) rfl rfl ?aO ?aR (fun _ _ h => h) (fun _ h => h.elim) ?aF ?aB ?aS ?aL ?_; (case aR => repeat (first | exact (Kd.C_below HR0.out HB.out) | (with_reducible refine Kd.C_alloc ?_ _) | (with_reducible refine Kd.C_drewN ?_ _) | (with_reducible refine Kd.C_drew ?_))); (case aB => exact (zL HB.out)); (case aF => exact (fun _ _ => trivial)); (case aO => exact (zR HO327.out)); (case aS => exact (below_size (zL HB.out))); (case aL => have := LMc38.out; omega); intro v329 w42 ho hb hg hat; rw [← Ny328.out] at ho; have n0_ := Aside0.mk (Kd.S_over' (by (with_reducible repeat (first | apply Kd.S_alloc | apply Kd.S_drewN | apply Kd.S_drew)); exact HO_16.out) (Kd.R_typed (zR HO327.out)) (by decide) hg); have n1_ := Aside0.mk (hb); have n2_ := Aside0.mk (ho); revert n0_ n1_ n2_; clear HO_16 HB HO327; intro HO_16 HB HO330; clear ho hb hg hat) | ((with_reducible refine gate_builtin (b := .append) (xs := #[.tmp 97, .tmp 98]) rfl ?_); (try (refine gate_guard (by rfl) ?_; dsimp only)); at_builtin; refine Kd.R_append_rows k43 (w0 := w) w.heap.size rfl (.tmp 97) (.tmp 98) 22 43 (.agg #[(.int .i64 0), (.bool false), (.string ⟨#[]⟩)]) 32 rfl Tryd.underlying22 info43 rfl (by decide) (by omega) v329 y328 l1 _ _ _ (fun _ => True) (fun _ => False) rfl rfl ?aO ?aR (fun _ _ h => h) (fun _ h => h.elim) ?aF ?aB ?aS ?aL ?_; (case aR => repeat (first | exact (Kd.C_below HR1.out HB.out) | (with_reducible refine Kd.C_alloc ?_ _) | (with_reducible refine Kd.C_drewN ?_ _) | (with_reducible refine Kd.C_drew ?_))); (case aB => exact (zL HB.out)); (case aF => exact (fun _ _ => trivial)); (case aO => exact (zR HO330.out)); (case aS => exact (below_size (zL HB.out))); (case aL => have := LMc39.out; omega); intro v332 w43 ho hb hg hat; rw [← Ny331.out] at ho; have n0_ := Aside0.mk (Kd.S_over' (by (with_reducible repeat (first | apply Kd.S_alloc | apply Kd.S_drewN | apply Kd.S_drew)); exact HO_16.out) (Kd.R_typed (zR HO330.out)) (by decide) hg); have n1_ := Aside0.mk (hb); have n2_ := Aside0.mk (ho); revert n0_ n1_ n2_; clear HO_16 HB HO330; intro HO_16 HB HO333; clear ho hb hg hat))
              repeat (go_quiet (first | ((with_reducible refine gate_dst (N := 95) rfl ?_); (try (refine gate_guard (by rfl) ?_; dsimp only)); refine Kd.R_lit k43 _ 43 ?hg (N := 95) ?hd (xs := ([] : List (S43))) (inner := []) (ok := fun _ => True) (okp := fun _ => True) ?hr ?hp (fun _ hk => hk) trivial (Below.refl _ _) (Nat.le_refl _) (by simp) ?_; (case hd => rfl); (case hg => rfl); (case hr => first | (go_simp; done) | (go_simp; rfl)); (case hp => exact (Reps.none _ _)); intro v326 w40 ho41 hb hg_ hnew_; clear hg_ hnew_; (first | rw [← Ny325.out] at ho41 | (simp only [Int.reduceToNat] at ho41; rw [← Ny325.out] at ho41)); have n0_ := Aside0.mk (Kd.S_below (by (with_reducible repeat (first | apply Kd.S_alloc | apply Kd.S_drewN | apply Kd.S_drew)); exact HO_16.out) hb); have n1_ := Aside0.mk (Kd.R_lower ho41 (below_size (zL HB.out))); have n2_ := Aside0.mk (below_step (zL HB.out) hb); revert n0_ n1_ n2_; clear HO_16 HB; intro HO_16 HO327 HB; clear hb ho41) | ((with_reducible refine gate_builtin (b := .append) (xs := #[.tmp 95, .tmp 96]) rfl ?_); (try (refine gate_guard (by rfl) ?_; dsimp only)); at_builtin; refine Kd.R_append_rows k43 (w0 := w) w.heap.size rfl (.tmp 95) (.tmp 96) 22 43 (.agg #[(.int .i64 0), (.bool false), (.string ⟨#[]⟩)]) 32 rfl Tryd.underlying22 info43 rfl (by decide) (by omega) v326 y325 l0 _ _ _ (fun _ => True) (fun _ => False) rfl rfl ?aO ?aR (fun _ _ h => h) (fun _ h => h.elim) ?aF ?aB ?aS ?aL ?_; (case aR => repeat (first | exact (Kd.C_below HR0.out HB.out) | (with_reducible refine Kd.C_alloc ?_ _) | (with_reducible refine Kd.C_drewN ?_ _) | (with_reducible refine Kd.C_drew ?_))); (case aB => exact (zL HB.out)); (case aF => exact (fun _ _ => trivial)); (case aO => exact (zR HO327.out)); (case aS => exact (below_size (zL HB.out))); (case aL => have := LMc38.out; omega); intro v329 w42 ho hb hg hat; rw [← Ny328.out] at ho; have n0_ := Aside0.mk (Kd.S_over' (by (with_reducible repeat (first | apply Kd.S_alloc | apply Kd.S_drewN | apply Kd.S_drew)); exact HO_16.out) (Kd.R_typed (zR HO327.out)) (by decide) hg); have n1_ := Aside0.mk (hb); have n2_ := Aside0.mk (ho); revert n0_ n1_ n2_; clear HO_16 HB HO327; intro HO_16 HB HO330; clear ho hb hg hat) | ((with_reducible refine gate_builtin (b := .append) (xs := #[.tmp 97, .tmp 98]) rfl ?_); (try (refine gate_guard (by rfl) ?_; dsimp only)); at_builtin; refine Kd.R_append_rows k43 (w0 := w) w.heap.size rfl (.tmp 97) (.tmp 98) 22 43 (.agg #[(.int .i64 0), (.bool false), (.string ⟨#[]⟩)]) 32 rfl Tryd.underlying22 info43 rfl (by decide) (by omega) v329 y328 l1 _ _ _ (fun _ => True) (fun _ => False) rfl rfl ?aO ?aR (fun _ _ h => h) (fun _ h => h.elim) ?aF ?aB ?aS ?aL ?_; (case aR => repeat (first | exact (Kd.C_below HR1.out HB.out) | (with_reducible refine Kd.C_alloc ?_ _) | (with_reducible refine Kd.C_drewN ?_ _) | (with_reducible refine Kd.C_drew ?_))); (case aB => exact (zL HB.out)); (case aF => exact (fun _ _ => trivial)); (case aO => exact (zR HO330.out)); (case aS => exact (below_size (zL HB.out))); (case aL => have := LMc39.out; omega); intro v332 w43 ho hb hg hat; rw [← Ny331.out] at ho; have n0_ := Aside0.mk (Kd.S_over' (by (with_reducible repeat (first | apply Kd.S_alloc | apply Kd.S_drewN | apply Kd.S_drew)); exact HO_16.out) (Kd.R_typed (zR HO330.out)) (by decide) hg); have n1_ := Aside0.mk (hb); have n2_ := Aside0.mk (ho); revert n0_ n1_ n2_; clear HO_16 HB HO330; intro HO_16 HB HO333; clear ho hb hg hat)); try go_wp2_with (first | ((with_reducible refine gate_dst (N := 95) rfl ?_); (try (refine gate_guard (by rfl) ?_; dsimp only)); refine Kd.R_lit k43 _ 43 ?hg (N := 95) ?hd (xs := ([] : List (S43))) (inner := []) (ok := fun _ => True) (okp := fun _ => True) ?hr ?hp (fun _ hk => hk) trivial (Below.refl _ _) (Nat.le_refl _) (by simp) ?_; (case hd => rfl); (case hg => rfl); (case hr => first | (go_simp; done) | (go_simp; rfl)); (case hp => exact (Reps.none _ _)); intro v326 w40 ho41 hb hg_ hnew_; clear hg_ hnew_; (first | rw [← Ny325.out] at ho41 | (simp only [Int.reduceToNat] at ho41; rw [← Ny325.out] at ho41)); have n0_ := Aside0.mk (Kd.S_below (by (with_reducible repeat (first | apply Kd.S_alloc | apply Kd.S_drewN | apply Kd.S_drew)); exact HO_16.out) hb); have n1_ := Aside0.mk (Kd.R_lower ho41 (below_size (zL HB.out))); have n2_ := Aside0.mk (below_step (zL HB.out) hb); revert n0_ n1_ n2_; clear HO_16 HB; intro HO_16 HO327 HB; clear hb ho41) | ((with_reducible refine gate_builtin (b := .append) (xs := #[.tmp 95, .tmp 96]) rfl ?_); (try (refine gate_guard (by rfl) ?_; dsimp only)); at_builtin; refine Kd.R_append_rows k43 (w0 := w) w.heap.size rfl (.tmp 95) (.tmp 96) 22 43 (.agg #[(.int .i64 0), (.bool false), (.string ⟨#[]⟩)]) 32 rfl Tryd.underlying22 info43 rfl (by decide) (by omega) v326 y325 l0 _ _ _ (fun _ => True) (fun _ => False) rfl rfl ?aO ?aR (fun _ _ h => h) (fun _ h => h.elim) ?aF ?aB ?aS ?aL ?_; (case aR => repeat (first | exact (Kd.C_below HR0.out HB.out) | (with_reducible refine Kd.C_alloc ?_ _) | (with_reducible refine Kd.C_drewN ?_ _) | (with_reducible refine Kd.C_drew ?_))); (case aB => exact (zL HB.out)); (case aF => exact (fun _ _ => trivial)); (case aO => exact (zR HO327.out)); (case aS => exact (below_size (zL HB.out))); (case aL => have := LMc38.out; omega); intro v329 w42 ho hb hg hat; rw [← Ny328.out] at ho; have n0_ := Aside0.mk (Kd.S_over' (by (with_reducible repeat (first | apply Kd.S_alloc | apply Kd.S_drewN | apply Kd.S_drew)); exact HO_16.out) (Kd.R_typed (zR HO327.out)) (by decide) hg); have n1_ := Aside0.mk (hb); have n2_ := Aside0.mk (ho); revert n0_ n1_ n2_; clear HO_16 HB HO327; intro HO_16 HB HO330; clear ho hb hg hat) | ((with_reducible refine gate_builtin (b := .append) (xs := #[.tmp 97, .tmp 98]) rfl ?_); (try (refine gate_guard (by rfl) ?_; dsimp only)); at_builtin; refine Kd.R_append_rows k43 (w0 := w) w.heap.size rfl (.tmp 97) (.tmp 98) 22 43 (.agg #[(.int .i64 0), (.bool false), (.string ⟨#[]⟩)]) 32 rfl Tryd.underlying22 info43 rfl (by decide) (by omega) v329 y328 l1 _ _ _ (fun _ => True) (fun _ => False) rfl rfl ?aO ?aR (fun _ _ h => h) (fun _ h => h.elim) ?aF ?aB ?aS ?aL ?_; (case aR => repeat (first | exact (Kd.C_below HR1.out HB.out) | (with_reducible refine Kd.C_alloc ?_ _) | (with_reducible refine Kd.C_drewN ?_ _) | (with_reducible refine Kd.C_drew ?_))); (case aB => exact (zL HB.out)); (case aF => exact (fun _ _ => trivial)); (case aO => exact (zR HO330.out)); (case aS => exact (below_size (zL HB.out))); (case aL => have := LMc39.out; omega); intro v332 w43 ho hb hg hat; rw [← Ny331.out] at ho; have n0_ := Aside0.mk (Kd.S_over' (by (with_reducible repeat (first | apply Kd.S_alloc | apply Kd.S_drewN | apply Kd.S_drew)); exact HO_16.out) (Kd.R_typed (zR HO330.out)) (by decide) hg); have n1_ := Aside0.mk (hb); have n2_ := Aside0.mk (ho); revert n0_ n1_ n2_; clear HO_16 HB HO330; intro HO_16 HB HO333; clear ho hb hg hat)))
              go_loopg [19, 21] kj30 (fun kq v19 v21 w' => ∃ (x19_4 : Int) (x21_4 : Int), v19 = .int .i64 x19_4 ∧ v21 = .int .i64 x21_4 ∧ Aside0 (cooperagelaw9_ParseRows.l0 kq t320 x19_4 y331 x21_4 = some r) ∧ Aside0 (kq ≤ kj30) ∧ Aside0 (Kd.S k45 45 w' w.heap.size (fun _ => True) v323 t320) ∧ Aside0 (Kd.R k43 43 w' w.heap.size (fun _ => True) v332 y331) ∧ Aside0 (Below w.heap.size w w'))
              case atStart => exact ⟨(0), (0), zS, zS, H', ⟨Nat.le_refl _⟩, ⟨by (with_reducible repeat (first | apply Kd.S_alloc | apply Kd.S_drewN | apply Kd.S_drew)); exact HO_16.out⟩, ⟨by (with_reducible repeat (first | apply Kd.R_alloc | apply Kd.R_drewN | apply Kd.R_drew)); exact HO333.out⟩, ⟨zL HB.out⟩⟩
              case round =>
               clear H'
               try clear c1
               try clear c2
               try clear p2
               try clear c3
               try clear c6
               try clear p6
               try clear c10
               try clear c11
               try clear c12
               try clear c15
               try clear c16
               try clear c27
               try clear c27b0
               try clear c27b1
               try clear c28
               try clear c29
               try clear c29b0
               try clear c29b1
               try clear c32
               try clear c32b0
               try clear c32b1
               try clear c33
               try clear c33b0
               try clear c33b1
               try clear c37
               try clear c38
               try clear c39
               try clear p2
               try clear p6
               obtain ⟨x19_4, x21_4, rfl, rfl, HA, HK4, HO_16, HO_20, HB⟩ := hrel
               cases gk with
               | zero => exact absurd HA.out (by simp [cooperagelaw9_ParseRows.l0])
               | succ k4 =>
                have H := HA.out
                clear HA
                simp only [cooperagelaw9_ParseRows.l0] at H
                by_cases c44 : x21_4 < (t320.length : Int)
                ·rw [if_pos c44] at H
                 have c44b0 : decide (x21_4 < (t320.length : Int)) = true := decide_eq_true c44
                 clear c44
                 have H' := Aside0.mk H
                 clear H
                 obtain ⟨Ao45, co45, eo45⟩ := Kd.S_slice HO_16.out
                 subst eo45
                 go_wp2
                 repeat (go_quiet (fail); try go_wp2)
                 go_loopg [19] k4 (fun kq v19 w' => ∃ (x19_5 : Int), v19 = .int .i64 x19_5 ∧ Aside0 (cooperagelaw9_ParseRows.l1 kq t320 x19_5 y331 x21_4 = some r) ∧ Aside0 (kq ≤ k4) ∧ Aside0 (Kd.S k45 45 w' w.heap.size (fun _ => True) (.slice Ao45 t320.length co45) t320) ∧ Aside0 (Kd.R k43 43 w' w.heap.size (fun _ => True) v332 y331) ∧ Aside0 (Below w.heap.size w w'))
                 case atStart => exact ⟨(x19_4), zS, H', ⟨Nat.le_refl _⟩, ⟨by (with_reducible repeat (first | apply Kd.S_alloc | apply Kd.S_drewN | apply Kd.S_drew)); exact HO_16.out⟩, ⟨by (with_reducible repeat (first | apply Kd.R_alloc | apply Kd.R_drewN | apply Kd.R_drew)); exact HO_20.out⟩, ⟨zL HB.out⟩⟩
                 case round =>
                  clear H'
                  try clear c1
                  try clear c2
                  try clear p2
                  try clear c3
                  try clear c4
                  try clear c6
                  try clear p6
                  try clear c10
                  try clear c11
                  try clear c12
                  try clear c15
                  try clear c16
                  try clear c27
                  try clear c27b0
                  try clear c27b1
                  try clear c28
                  try clear c29
                  try clear c29b0
                  try clear c29b1
                  try clear c32
                  try clear c32b0
                  try clear c32b1
                  try clear c33
                  try clear c33b0
                  try clear c33b1
                  try clear c37
                  try clear c38
                  try clear c39
                  try clear c44
                  try clear c44b0
                  try clear p2
                  try clear p6
                  obtain ⟨x19_5, rfl, HA, HK5, HO_16, HO_20, HB⟩ := hrel
                  cases gk with
                  | zero => exact absurd HA.out (by simp [cooperagelaw9_ParseRows.l1])
                  | succ k5 =>
                   have H := HA.out
                   clear HA
                   simp only [cooperagelaw9_ParseRows.l1] at H
                   by_cases c46 : x19_5 < (y331.length : Int)
                   ·rw [if_pos c46] at H
                    have c46b0 : decide (x19_5 < (y331.length : Int)) = true := decide_eq_true c46
                    clear c46
                    by_cases c47 : 0 ≤ x19_5
                    ·rw [if_pos c47] at H
                     have c47b0 : decide (0 ≤ x19_5) = true := decide_eq_true c47
                     clear c47
                     obtain ⟨bq48, hbq48⟩ : ∃ b_ : Bool, b_ = ((rd_T43 y331 x19_5).f1) := ⟨_, rfl⟩
                     replace H : (if bq48 = true then (cooperagelaw9_ParseRows.l1 k5 t320 (wrap64 (x19_5 + 1)) y331 x21_4) else (if x19_5 = (y331.length : Int) then (some false) else (if 0 ≤ x21_4 then (if x21_4 < (t320.length : Int) then (if ((rd_T45 t320 x21_4).f1) = ((rd_T43 y331 x19_5).f0) then (if ((rd_T45 t320 x21_4).f0) < 1 then (some false) else (if ((rd_T45 t320 x21_4).f0) > 6 then (some false) else (cooperagelaw9_ParseRows.l0 k5 t320 (wrap64 (x19_5 + 1)) y331 (wrap64 (x21_4 + 1))))) else (some false)) else (none)) else (none)))) = some r := by rw [← hbq48] at H; exact H
                     have Nbq48 := Aside0.mk hbq48
                     clear hbq48
                     by_cases c49 : bq48 = true
                     ·subst c49
                      have H1 : (cooperagelaw9_ParseRows.l1 k5 t320 (wrap64 (x19_5 + 1)) y331 x21_4) = some r := by rw [if_pos rfl] at H; exact H
                      clear H
                      have H := H1
                      clear H1
                      have H' := Aside0.mk H
                      clear H
                      obtain ⟨Ao50, co50, eo50⟩ := Kd.R_slice HO_20.out
                      subst eo50
                      have p334 : 0 ≤ (x19_5 : Int) := zD
                      have q334 : x19_5 < (y331.length : Int) := zD
                      obtain ⟨ad334, e334, hx334_0, hx334_1, hx334_2⟩ := at_T43 (Kd.R_reads' HO_20.out).2.2 x19_5 p334 q334
                      (try rw [← Nbq48.out] at hx334_1)
                      cases e334
                      replace p334 := eq_true p334
                      replace q334 := eq_true q334
                      go_wp2
                      repeat (go_quiet (fail); try go_wp2)
                      go_roundg k5
                      case measure => have := HJ5.out; have := HJ17.out; have := HJ30.out; have := HK4.out; have := HK5.out; omega
                      case rel => exact ⟨(wrap64 (x19_5 + 1)), zS, H', ⟨by have := HJ5.out; have := HJ17.out; have := HJ30.out; have := HK4.out; have := HK5.out; omega⟩, ⟨by (with_reducible repeat (first | apply Kd.S_alloc | apply Kd.S_drewN | apply Kd.S_drew)); exact HO_16.out⟩, ⟨by (with_reducible repeat (first | apply Kd.R_alloc | apply Kd.R_drewN | apply Kd.R_drew)); exact HO_20.out⟩, ⟨zL HB.out⟩⟩
                     ·replace c49 := Bool.eq_false_iff.mpr c49
                      subst c49
                      have H1 : (if x19_5 = (y331.length : Int) then (some false) else (if 0 ≤ x21_4 then (if x21_4 < (t320.length : Int) then (if ((rd_T45 t320 x21_4).f1) = ((rd_T43 y331 x19_5).f0) then (if ((rd_T45 t320 x21_4).f0) < 1 then (some false) else (if ((rd_T45 t320 x21_4).f0) > 6 then (some false) else (cooperagelaw9_ParseRows.l0 k5 t320 (wrap64 (x19_5 + 1)) y331 (wrap64 (x21_4 + 1))))) else (some false)) else (none)) else (none))) = some r := by rw [if_neg (show ¬ (false = true) by decide)] at H; exact H
                      clear H
                      have H := H1
                      clear H1
                      by_cases c51 : x19_5 = (y331.length : Int)
                      ·rw [if_pos c51] at H
                       have c51b0 : (x19_5 == (y331.length : Int)) = true := beq_iff_eq.mpr c51
                       have c51b1 : (x19_5 != (y331.length : Int)) = false := bne_eq_false_iff_eq.mpr c51
                       clear c51
                       obtain rfl := Option.some.inj H
                       obtain ⟨Ao52, co52, eo52⟩ := Kd.R_slice HO_20.out
                       subst eo52
                       have p334 : 0 ≤ (x19_5 : Int) := zD
                       have q334 : x19_5 < (y331.length : Int) := zD
                       obtain ⟨ad334, e334, hx334_0, hx334_1, hx334_2⟩ := at_T43 (Kd.R_reads' HO_20.out).2.2 x19_5 p334 q334
                       (try rw [← Nbq48.out] at hx334_1)
                       cases e334
                       replace p334 := eq_true p334
                       replace q334 := eq_true q334
                       go_wp2
                       repeat (go_quiet (fail); try go_wp2)
                       go_ret
                       exact ⟨zE, zL HB.out⟩
                      ·rw [if_neg c51] at H
                       have c51b0 : (x19_5 == (y331.length : Int)) = false := beq_eq_false_iff_ne.mpr c51
                       have c51b1 : (x19_5 != (y331.length : Int)) = true := bne_iff_ne.mpr c51
                       by_cases c53 : 0 ≤ x21_4
                       ·rw [if_pos c53] at H
                        have c53b0 : decide (0 ≤ x21_4) = true := decide_eq_true c53
                        clear c53
                        by_cases c54 : x21_4 < (t320.length : Int)
                        ·rw [if_pos c54] at H
                         have c54b0 : decide (x21_4 < (t320.length : Int)) = true := decide_eq_true c54
                         clear c54
                         by_cases c55 : ((rd_T45 t320 x21_4).f1) = ((rd_T43 y331 x19_5).f0)
                         ·rw [if_pos c55] at H
                          have c55b0 : (((rd_T45 t320 x21_4).f1) == ((rd_T43 y331 x19_5).f0)) = true := beq_iff_eq.mpr c55
                          have c55b1 : (((rd_T45 t320 x21_4).f1) != ((rd_T43 y331 x19_5).f0)) = false := bne_eq_false_iff_eq.mpr c55
                          clear c55
                          by_cases c56 : ((rd_T45 t320 x21_4).f0) < 1
                          ·rw [if_pos c56] at H
                           have c56b0 : decide (((rd_T45 t320 x21_4).f0) < 1) = true := decide_eq_true c56
                           clear c56
                           obtain rfl := Option.some.inj H
                           obtain ⟨Ao57, co57, eo57⟩ := Kd.R_slice HO_20.out
                           subst eo57
                           have p334 : 0 ≤ (x19_5 : Int) := zD
                           have q334 : x19_5 < (y331.length : Int) := zD
                           obtain ⟨ad334, e334, hx334_0, hx334_1, hx334_2⟩ := at_T43 (Kd.R_reads' HO_20.out).2.2 x19_5 p334 q334
                           (try rw [← Nbq48.out] at hx334_1)
                           cases e334
                           replace p334 := eq_true p334
                           replace q334 := eq_true q334
                           have p335 : 0 ≤ (x21_4 : Int) := zD
                           have q335 : x21_4 < (t320.length : Int) := zD
                           obtain ⟨ad335, A335_9, c335_9, e335, hx335_0, hx335_1, hx335_2, hx335_3, hx335_4, hx335_5, hx335_6, hx335_7, hx335_8, hx335_9, hl335_9, hi335_9⟩ := at_T45 (Kd.S_reads' HO_16.out).2.2 x21_4 p335 q335
                           cases e335
                           obtain ⟨ce335, hce335, hMe335, hcc335⟩ := Kd.S_get HO_16.out z45 x21_4 p335 (by first | exact q335 | exact zD | (have e_ := (Kd.S_reads' HO_16.out).1; omega))
                           obtain ⟨ve335_9, rfl, ge335_9⟩ := k45_openM hMe335
                           have hv335_9 := hcc335 9 _ rfl
                           rw [add_field _ _ 9 (by omega)] at hv335_9
                           replace hv335_9 := Option.some.inj (hv335_9.symm.trans hx335_9)
                           rw [hv335_9] at ge335_9
                           have HL335_9 := Aside0.mk (show Kd.R Kd.string 9 _ _ _ _ ((rd_T45 t320 x21_4).f9) from ge335_9)
                           clear hv335_9 ge335_9
                           clear hcc335 hce335
                           have HR335_9 := Aside0.mk hi335_9
                           have HC335_9 := Aside0.mk hl335_9
                           clear hi335_9 hl335_9
                           replace p335 := eq_true p335
                           replace q335 := eq_true q335
                           have p336 : 0 ≤ (x19_5 : Int) := zD
                           have q336 : x19_5 < (y331.length : Int) := zD
                           obtain ⟨ad336, e336, hx336_0, hx336_1, hx336_2⟩ := at_T43 (Kd.R_reads' HO_20.out).2.2 x19_5 p336 q336
                           (try rw [← Nbq48.out] at hx336_1)
                           obtain rfl : ad334 = ad336 := (by injection e336)
                           replace p336 := eq_true p336
                           replace q336 := eq_true q336
                           have p337 : 0 ≤ (x21_4 : Int) := zD
                           have q337 : x21_4 < (t320.length : Int) := zD
                           obtain ⟨ad337, A337_9, c337_9, e337, hx337_0, hx337_1, hx337_2, hx337_3, hx337_4, hx337_5, hx337_6, hx337_7, hx337_8, hx337_9, hl337_9, hi337_9⟩ := at_T45 (Kd.S_reads' HO_16.out).2.2 x21_4 p337 q337
                           obtain rfl : ad335 = ad337 := (by injection e337)
                           obtain ⟨ce337, hce337, hMe337, hcc337⟩ := Kd.S_get HO_16.out z45 x21_4 p337 (by first | exact q337 | exact zD | (have e_ := (Kd.S_reads' HO_16.out).1; omega))
                           obtain ⟨ve337_9, rfl, ge337_9⟩ := k45_openM hMe337
                           have hv337_9 := hcc337 9 _ rfl
                           rw [add_field _ _ 9 (by omega)] at hv337_9
                           replace hv337_9 := Option.some.inj (hv337_9.symm.trans hx337_9)
                           rw [hv337_9] at ge337_9
                           have HL337_9 := Aside0.mk (show Kd.R Kd.string 9 _ _ _ _ ((rd_T45 t320 x21_4).f9) from ge337_9)
                           clear hv337_9 ge337_9
                           clear hcc337 hce337
                           have HR337_9 := Aside0.mk hi337_9
                           have HC337_9 := Aside0.mk hl337_9
                           clear hi337_9 hl337_9
                           replace p337 := eq_true p337
                           replace q337 := eq_true q337
                           have ea_ := Option.some.inj (hx335_9.symm.trans hx337_9)
                           injection ea_ with ea_ en_ ec_
                           subst ea_
                           subst ec_
                           clear en_
                           go_wp2
                           repeat (go_quiet (fail); try go_wp2)
                           go_ret
                           exact ⟨zE, zL HB.out⟩
                          ·rw [if_neg c56] at H
                           have c56b0 : decide (((rd_T45 t320 x21_4).f0) < 1) = false := decide_eq_false c56
                           clear c56
                           by_cases c58 : ((rd_T45 t320 x21_4).f0) > 6
                           ·rw [if_pos c58] at H
                            have c58b0 : decide (6 < ((rd_T45 t320 x21_4).f0)) = true := decide_eq_true c58
                            clear c58
                            obtain rfl := Option.some.inj H
                            obtain ⟨Ao59, co59, eo59⟩ := Kd.R_slice HO_20.out
                            subst eo59
                            have p334 : 0 ≤ (x19_5 : Int) := zD
                            have q334 : x19_5 < (y331.length : Int) := zD
                            obtain ⟨ad334, e334, hx334_0, hx334_1, hx334_2⟩ := at_T43 (Kd.R_reads' HO_20.out).2.2 x19_5 p334 q334
                            (try rw [← Nbq48.out] at hx334_1)
                            cases e334
                            replace p334 := eq_true p334
                            replace q334 := eq_true q334
                            have p335 : 0 ≤ (x21_4 : Int) := zD
                            have q335 : x21_4 < (t320.length : Int) := zD
                            obtain ⟨ad335, A335_9, c335_9, e335, hx335_0, hx335_1, hx335_2, hx335_3, hx335_4, hx335_5, hx335_6, hx335_7, hx335_8, hx335_9, hl335_9, hi335_9⟩ := at_T45 (Kd.S_reads' HO_16.out).2.2 x21_4 p335 q335
                            cases e335
                            obtain ⟨ce335, hce335, hMe335, hcc335⟩ := Kd.S_get HO_16.out z45 x21_4 p335 (by first | exact q335 | exact zD | (have e_ := (Kd.S_reads' HO_16.out).1; omega))
                            obtain ⟨ve335_9, rfl, ge335_9⟩ := k45_openM hMe335
                            have hv335_9 := hcc335 9 _ rfl
                            rw [add_field _ _ 9 (by omega)] at hv335_9
                            replace hv335_9 := Option.some.inj (hv335_9.symm.trans hx335_9)
                            rw [hv335_9] at ge335_9
                            have HL335_9 := Aside0.mk (show Kd.R Kd.string 9 _ _ _ _ ((rd_T45 t320 x21_4).f9) from ge335_9)
                            clear hv335_9 ge335_9
                            clear hcc335 hce335
                            have HR335_9 := Aside0.mk hi335_9
                            have HC335_9 := Aside0.mk hl335_9
                            clear hi335_9 hl335_9
                            replace p335 := eq_true p335
                            replace q335 := eq_true q335
                            have p336 : 0 ≤ (x19_5 : Int) := zD
                            have q336 : x19_5 < (y331.length : Int) := zD
                            obtain ⟨ad336, e336, hx336_0, hx336_1, hx336_2⟩ := at_T43 (Kd.R_reads' HO_20.out).2.2 x19_5 p336 q336
                            (try rw [← Nbq48.out] at hx336_1)
                            obtain rfl : ad334 = ad336 := (by injection e336)
                            replace p336 := eq_true p336
                            replace q336 := eq_true q336
                            have p337 : 0 ≤ (x21_4 : Int) := zD
                            have q337 : x21_4 < (t320.length : Int) := zD
                            obtain ⟨ad337, A337_9, c337_9, e337, hx337_0, hx337_1, hx337_2, hx337_3, hx337_4, hx337_5, hx337_6, hx337_7, hx337_8, hx337_9, hl337_9, hi337_9⟩ := at_T45 (Kd.S_reads' HO_16.out).2.2 x21_4 p337 q337
                            obtain rfl : ad335 = ad337 := (by injection e337)
                            obtain ⟨ce337, hce337, hMe337, hcc337⟩ := Kd.S_get HO_16.out z45 x21_4 p337 (by first | exact q337 | exact zD | (have e_ := (Kd.S_reads' HO_16.out).1; omega))
                            obtain ⟨ve337_9, rfl, ge337_9⟩ := k45_openM hMe337
                            have hv337_9 := hcc337 9 _ rfl
                            rw [add_field _ _ 9 (by omega)] at hv337_9
                            replace hv337_9 := Option.some.inj (hv337_9.symm.trans hx337_9)
                            rw [hv337_9] at ge337_9
                            have HL337_9 := Aside0.mk (show Kd.R Kd.string 9 _ _ _ _ ((rd_T45 t320 x21_4).f9) from ge337_9)
                            clear hv337_9 ge337_9
                            clear hcc337 hce337
                            have HR337_9 := Aside0.mk hi337_9
                            have HC337_9 := Aside0.mk hl337_9
                            clear hi337_9 hl337_9
                            replace p337 := eq_true p337
                            replace q337 := eq_true q337
                            have ea_ := Option.some.inj (hx335_9.symm.trans hx337_9)
                            injection ea_ with ea_ en_ ec_
                            subst ea_
                            subst ec_
                            clear en_
                            have p338 : 0 ≤ (x21_4 : Int) := zD
                            have q338 : x21_4 < (t320.length : Int) := zD
                            obtain ⟨ad338, A338_9, c338_9, e338, hx338_0, hx338_1, hx338_2, hx338_3, hx338_4, hx338_5, hx338_6, hx338_7, hx338_8, hx338_9, hl338_9, hi338_9⟩ := at_T45 (Kd.S_reads' HO_16.out).2.2 x21_4 p338 q338
                            obtain rfl : ad335 = ad338 := (by injection e338)
                            obtain ⟨ce338, hce338, hMe338, hcc338⟩ := Kd.S_get HO_16.out z45 x21_4 p338 (by first | exact q338 | exact zD | (have e_ := (Kd.S_reads' HO_16.out).1; omega))
                            obtain ⟨ve338_9, rfl, ge338_9⟩ := k45_openM hMe338
                            have hv338_9 := hcc338 9 _ rfl
                            rw [add_field _ _ 9 (by omega)] at hv338_9
                            replace hv338_9 := Option.some.inj (hv338_9.symm.trans hx338_9)
                            rw [hv338_9] at ge338_9
                            have HL338_9 := Aside0.mk (show Kd.R Kd.string 9 _ _ _ _ ((rd_T45 t320 x21_4).f9) from ge338_9)
                            clear hv338_9 ge338_9
                            clear hcc338 hce338
                            have HR338_9 := Aside0.mk hi338_9
                            have HC338_9 := Aside0.mk hl338_9
                            clear hi338_9 hl338_9
                            replace p338 := eq_true p338
                            replace q338 := eq_true q338
                            have ea_ := Option.some.inj (hx335_9.symm.trans hx338_9)
                            injection ea_ with ea_ en_ ec_
                            subst ea_
                            subst ec_
                            clear en_
                            go_wp2
                            repeat (go_quiet (fail); try go_wp2)
                            go_ret
                            exact ⟨zE, zL HB.out⟩
                           ·rw [if_neg c58] at H
                            have c58b0 : decide (6 < ((rd_T45 t320 x21_4).f0)) = false := decide_eq_false c58
                            clear c58
                            have H' := Aside0.mk H
                            clear H
                            obtain ⟨Ao60, co60, eo60⟩ := Kd.R_slice HO_20.out
                            subst eo60
                            have p334 : 0 ≤ (x19_5 : Int) := zD
                            have q334 : x19_5 < (y331.length : Int) := zD
                            obtain ⟨ad334, e334, hx334_0, hx334_1, hx334_2⟩ := at_T43 (Kd.R_reads' HO_20.out).2.2 x19_5 p334 q334
                            (try rw [← Nbq48.out] at hx334_1)
                            cases e334
                            replace p334 := eq_true p334
                            replace q334 := eq_true q334
                            have p335 : 0 ≤ (x21_4 : Int) := zD
                            have q335 : x21_4 < (t320.length : Int) := zD
                            obtain ⟨ad335, A335_9, c335_9, e335, hx335_0, hx335_1, hx335_2, hx335_3, hx335_4, hx335_5, hx335_6, hx335_7, hx335_8, hx335_9, hl335_9, hi335_9⟩ := at_T45 (Kd.S_reads' HO_16.out).2.2 x21_4 p335 q335
                            cases e335
                            obtain ⟨ce335, hce335, hMe335, hcc335⟩ := Kd.S_get HO_16.out z45 x21_4 p335 (by first | exact q335 | exact zD | (have e_ := (Kd.S_reads' HO_16.out).1; omega))
                            obtain ⟨ve335_9, rfl, ge335_9⟩ := k45_openM hMe335
                            have hv335_9 := hcc335 9 _ rfl
                            rw [add_field _ _ 9 (by omega)] at hv335_9
                            replace hv335_9 := Option.some.inj (hv335_9.symm.trans hx335_9)
                            rw [hv335_9] at ge335_9
                            have HL335_9 := Aside0.mk (show Kd.R Kd.string 9 _ _ _ _ ((rd_T45 t320 x21_4).f9) from ge335_9)
                            clear hv335_9 ge335_9
                            clear hcc335 hce335
                            have HR335_9 := Aside0.mk hi335_9
                            have HC335_9 := Aside0.mk hl335_9
                            clear hi335_9 hl335_9
                            replace p335 := eq_true p335
                            replace q335 := eq_true q335
                            have p336 : 0 ≤ (x19_5 : Int) := zD
                            have q336 : x19_5 < (y331.length : Int) := zD
                            obtain ⟨ad336, e336, hx336_0, hx336_1, hx336_2⟩ := at_T43 (Kd.R_reads' HO_20.out).2.2 x19_5 p336 q336
                            (try rw [← Nbq48.out] at hx336_1)
                            obtain rfl : ad334 = ad336 := (by injection e336)
                            replace p336 := eq_true p336
                            replace q336 := eq_true q336
                            have p337 : 0 ≤ (x21_4 : Int) := zD
                            have q337 : x21_4 < (t320.length : Int) := zD
                            obtain ⟨ad337, A337_9, c337_9, e337, hx337_0, hx337_1, hx337_2, hx337_3, hx337_4, hx337_5, hx337_6, hx337_7, hx337_8, hx337_9, hl337_9, hi337_9⟩ := at_T45 (Kd.S_reads' HO_16.out).2.2 x21_4 p337 q337
                            obtain rfl : ad335 = ad337 := (by injection e337)
                            obtain ⟨ce337, hce337, hMe337, hcc337⟩ := Kd.S_get HO_16.out z45 x21_4 p337 (by first | exact q337 | exact zD | (have e_ := (Kd.S_reads' HO_16.out).1; omega))
                            obtain ⟨ve337_9, rfl, ge337_9⟩ := k45_openM hMe337
                            have hv337_9 := hcc337 9 _ rfl
                            rw [add_field _ _ 9 (by omega)] at hv337_9
                            replace hv337_9 := Option.some.inj (hv337_9.symm.trans hx337_9)
                            rw [hv337_9] at ge337_9
                            have HL337_9 := Aside0.mk (show Kd.R Kd.string 9 _ _ _ _ ((rd_T45 t320 x21_4).f9) from ge337_9)
                            clear hv337_9 ge337_9
                            clear hcc337 hce337
                            have HR337_9 := Aside0.mk hi337_9
                            have HC337_9 := Aside0.mk hl337_9
                            clear hi337_9 hl337_9
                            replace p337 := eq_true p337
                            replace q337 := eq_true q337
                            have ea_ := Option.some.inj (hx335_9.symm.trans hx337_9)
                            injection ea_ with ea_ en_ ec_
                            subst ea_
                            subst ec_
                            clear en_
                            have p338 : 0 ≤ (x21_4 : Int) := zD
                            have q338 : x21_4 < (t320.length : Int) := zD
                            obtain ⟨ad338, A338_9, c338_9, e338, hx338_0, hx338_1, hx338_2, hx338_3, hx338_4, hx338_5, hx338_6, hx338_7, hx338_8, hx338_9, hl338_9, hi338_9⟩ := at_T45 (Kd.S_reads' HO_16.out).2.2 x21_4 p338 q338
                            obtain rfl : ad335 = ad338 := (by injection e338)
                            obtain ⟨ce338, hce338, hMe338, hcc338⟩ := Kd.S_get HO_16.out z45 x21_4 p338 (by first | exact q338 | exact zD | (have e_ := (Kd.S_reads' HO_16.out).1; omega))
                            obtain ⟨ve338_9, rfl, ge338_9⟩ := k45_openM hMe338
                            have hv338_9 := hcc338 9 _ rfl
                            rw [add_field _ _ 9 (by omega)] at hv338_9
                            replace hv338_9 := Option.some.inj (hv338_9.symm.trans hx338_9)
                            rw [hv338_9] at ge338_9
                            have HL338_9 := Aside0.mk (show Kd.R Kd.string 9 _ _ _ _ ((rd_T45 t320 x21_4).f9) from ge338_9)
                            clear hv338_9 ge338_9
                            clear hcc338 hce338
                            have HR338_9 := Aside0.mk hi338_9
                            have HC338_9 := Aside0.mk hl338_9
                            clear hi338_9 hl338_9
                            replace p338 := eq_true p338
                            replace q338 := eq_true q338
                            have ea_ := Option.some.inj (hx335_9.symm.trans hx338_9)
                            injection ea_ with ea_ en_ ec_
                            subst ea_
                            subst ec_
                            clear en_
                            go_wp2
                            repeat (go_quiet (fail); try go_wp2)
                            go_roundg k5
                            case measure => have := HJ5.out; have := HJ17.out; have := HJ30.out; have := HK4.out; have := HK5.out; omega
                            case rel => exact ⟨(wrap64 (x19_5 + 1)), (wrap64 (x21_4 + 1)), zS, zS, H', ⟨by have := HJ5.out; have := HJ17.out; have := HJ30.out; have := HK4.out; have := HK5.out; omega⟩, ⟨by (with_reducible repeat (first | apply Kd.S_alloc | apply Kd.S_drewN | apply Kd.S_drew)); exact HO_16.out⟩, ⟨by (with_reducible repeat (first | apply Kd.R_alloc | apply Kd.R_drewN | apply Kd.R_drew)); exact HO_20.out⟩, ⟨zL HB.out⟩⟩
                         ·rw [if_neg c55] at H
                          have c55b0 : (((rd_T45 t320 x21_4).f1) == ((rd_T43 y331 x19_5).f0)) = false := beq_eq_false_iff_ne.mpr c55
                          have c55b1 : (((rd_T45 t320 x21_4).f1) != ((rd_T43 y331 x19_5).f0)) = true := bne_iff_ne.mpr c55
                          obtain rfl := Option.some.inj H
                          obtain ⟨Ao61, co61, eo61⟩ := Kd.R_slice HO_20.out
                          subst eo61
                          have p334 : 0 ≤ (x19_5 : Int) := zD
                          have q334 : x19_5 < (y331.length : Int) := zD
                          obtain ⟨ad334, e334, hx334_0, hx334_1, hx334_2⟩ := at_T43 (Kd.R_reads' HO_20.out).2.2 x19_5 p334 q334
                          (try rw [← Nbq48.out] at hx334_1)
                          cases e334
                          replace p334 := eq_true p334
                          replace q334 := eq_true q334
                          have p335 : 0 ≤ (x21_4 : Int) := zD
                          have q335 : x21_4 < (t320.length : Int) := zD
                          obtain ⟨ad335, A335_9, c335_9, e335, hx335_0, hx335_1, hx335_2, hx335_3, hx335_4, hx335_5, hx335_6, hx335_7, hx335_8, hx335_9, hl335_9, hi335_9⟩ := at_T45 (Kd.S_reads' HO_16.out).2.2 x21_4 p335 q335
                          cases e335
                          obtain ⟨ce335, hce335, hMe335, hcc335⟩ := Kd.S_get HO_16.out z45 x21_4 p335 (by first | exact q335 | exact zD | (have e_ := (Kd.S_reads' HO_16.out).1; omega))
                          obtain ⟨ve335_9, rfl, ge335_9⟩ := k45_openM hMe335
                          have hv335_9 := hcc335 9 _ rfl
                          rw [add_field _ _ 9 (by omega)] at hv335_9
                          replace hv335_9 := Option.some.inj (hv335_9.symm.trans hx335_9)
                          rw [hv335_9] at ge335_9
                          have HL335_9 := Aside0.mk (show Kd.R Kd.string 9 _ _ _ _ ((rd_T45 t320 x21_4).f9) from ge335_9)
                          clear hv335_9 ge335_9
                          clear hcc335 hce335
                          have HR335_9 := Aside0.mk hi335_9
                          have HC335_9 := Aside0.mk hl335_9
                          clear hi335_9 hl335_9
                          replace p335 := eq_true p335
                          replace q335 := eq_true q335
                          have p336 : 0 ≤ (x19_5 : Int) := zD
                          have q336 : x19_5 < (y331.length : Int) := zD
                          obtain ⟨ad336, e336, hx336_0, hx336_1, hx336_2⟩ := at_T43 (Kd.R_reads' HO_20.out).2.2 x19_5 p336 q336
                          (try rw [← Nbq48.out] at hx336_1)
                          obtain rfl : ad334 = ad336 := (by injection e336)
                          replace p336 := eq_true p336
                          replace q336 := eq_true q336
                          go_wp2
                          repeat (go_quiet (fail); try go_wp2)
                          go_ret
                          exact ⟨zE, zL HB.out⟩
                        ·rw [if_neg c54] at H
                         exact absurd H (by simp)
                       ·rw [if_neg c53] at H
                        exact absurd H (by simp)
                    ·rw [if_neg c47] at H
                     exact absurd H (by simp)
                   ·rw [if_neg c46] at H
                    have c46b0 : decide (x19_5 < (y331.length : Int)) = false := decide_eq_false c46
                    clear c46
                    by_cases c62 : x19_5 = (y331.length : Int)
                    ·rw [if_pos c62] at H
                     have c62b0 : (x19_5 == (y331.length : Int)) = true := beq_iff_eq.mpr c62
                     have c62b1 : (x19_5 != (y331.length : Int)) = false := bne_eq_false_iff_eq.mpr c62
                     clear c62
                     obtain rfl := Option.some.inj H
                     obtain ⟨Ao63, co63, eo63⟩ := Kd.R_slice HO_20.out
                     subst eo63
                     go_wp2
                     repeat (go_quiet (fail); try go_wp2)
                     go_ret
                     exact ⟨zE, zL HB.out⟩
                    ·rw [if_neg c62] at H
                     have c62b0 : (x19_5 == (y331.length : Int)) = false := beq_eq_false_iff_ne.mpr c62
                     have c62b1 : (x19_5 != (y331.length : Int)) = true := bne_iff_ne.mpr c62
                     by_cases c64 : 0 ≤ x21_4
                     ·rw [if_pos c64] at H
                      have c64b0 : decide (0 ≤ x21_4) = true := decide_eq_true c64
                      clear c64
                      by_cases c65 : x21_4 < (t320.length : Int)
                      ·rw [if_pos c65] at H
                       have c65b0 : decide (x21_4 < (t320.length : Int)) = true := decide_eq_true c65
                       clear c65
                       by_cases c66 : 0 ≤ x19_5
                       ·rw [if_pos c66] at H
                        exact absurd H (by simp)
                       ·rw [if_neg c66] at H
                        exact absurd H (by simp)
                      ·rw [if_neg c65] at H
                       exact absurd H (by simp)
                     ·rw [if_neg c64] at H
                      exact absurd H (by simp)
                ·rw [if_neg c44] at H
                 have c44b0 : decide (x21_4 < (t320.length : Int)) = false := decide_eq_false c44
                 clear c44
                 obtain rfl := Option.some.inj H
                 obtain ⟨Ao67, co67, eo67⟩ := Kd.S_slice HO_16.out
                 subst eo67
                 go_wp2
                 repeat (go_quiet (fail); try go_wp2)
                 go_ret
                 exact ⟨zE, zL HB.out⟩
             ·rw [if_neg c39] at H
              exact absurd H (by simp)
            ·rw [if_neg c38] at H
             exact absurd H (by simp)
     ·rw [if_neg c16] at H
      exact absurd H (by simp)
    ·rw [if_neg c15] at H
     exact absurd H (by simp)

/-- THE ONE PURE STATEMENT of cooperagelaw9_ParseRows. -/
def cooperagelaw9_ParseRows.Pure : Prop := ∀ (l0 : List (S43)) (l1 : List (S43)), l0.length ≤ 9223372036854775807 → l0.length * 32 ≤ 140737488351232 → (∀ x ∈ l0, (Lit.int .i64 x.f0).wf = true ∧ x.f2.size ≤ 9223372036854775807) → l1.length ≤ 9223372036854775807 → l1.length * 32 ≤ 140737488351232 → (∀ x ∈ l1, (Lit.int .i64 x.f0).wf = true ∧ x.f2.size ≤ 9223372036854775807) → ∃ k, cooperagelaw9_ParseRows.f k l0 l1 = some true
theorem cooperagelaw9_ParseRows.walk (P : cooperagelaw9_ParseRows.Pure) (A0 : Option Addr) (c0 : Nat) (l0 : List (S43)) (A1 : Option Addr) (c1 : Nat) (l1 : List (S43)) (w : World) (r0 : Kd.C k43 w A0 l0.length l0) (q0 : l0.length ≤ c0) (m0 : l0.length ≤ 9223372036854775807) (y0 : l0.length * 32 ≤ 140737488351232) (e0 : ∀ x ∈ l0, (Lit.int .i64 x.f0).wf = true ∧ x.f2.size ≤ 9223372036854775807) (r1 : Kd.C k43 w A1 l1.length l1) (q1 : l1.length ≤ c1) (m1 : l1.length ≤ 9223372036854775807) (y1 : l1.length * 32 ≤ 140737488351232) (e1 : ∀ x ∈ l1, (Lit.int .i64 x.f0).wf = true ∧ x.f2.size ≤ 9223372036854775807) :
  Calls Tryd.prog 6 #[.slice A0 l0.length c0, .slice A1 l1.length c1] w fun e w' => e = .returned (.bool true) ∧ Below w.heap.size w w' := by
 obtain ⟨k, h⟩ := P l0 l1 m0 y0 e0 m1 y1 e1
 refine (cooperagelaw9_ParseRows.calls k _ _ l0 _ _ l1 true w r0 q0 r1 q1 h).mono ?_
 rintro e w' ⟨rfl, hd⟩
 exact ⟨rfl, hd⟩

end Go.Proofs.YthnholondnfjoaaDoor.PParse
