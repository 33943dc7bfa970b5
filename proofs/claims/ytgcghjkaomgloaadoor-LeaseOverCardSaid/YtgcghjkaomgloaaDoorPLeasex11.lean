-- Written by a program of this session (wip/tools/ext.py, over the kit's printer); not trusted: Lean checks it.
import Derived.Test.YtgcghjkaomgloaaDoorPLeasex0
import Derived.Test.YtgcghjkaomgloaaDoorPLeasex6
import Derived.Test.YtgcghjkaomgloaaDoorPLeasex8
import Derived.Test.YtgcghjkaomgloaaDoorPLeasex9
namespace Go.Proofs.YtgcghjkaomgloaaDoor.PLease
open Go.RowKit Go.Proofs.YtgcghjkaomgloaaDoorW.PrintWords Go.Proofs.YtgcghjkaomgloaaDoorW.PrintLast Go.Proofs.YtgcghjkaomgloaaDoorW.PrintMore
attribute [local go_sem] max2_int min2_int max_two min_two max_three min_three max_four min_four   -- for this text's walks alone
set_option linter.unusedVariables false
set_option linter.unusedSimpArgs false

/-! ### cooperagelaw16_LeaseOver: function 7 -/
mutual
def cooperagelaw16_LeaseOver.j0 : Nat → List (S52) → Bool → Bool → Option (Bool)
 | 0, _, _, _ => none
 | k + 1, x0, x3, x25 => if x25 = true then (some x3) else (if 400 ≤ 35184372088832 then (cooperagelaw16_LeaseOver.l0 k x0 0 (List.replicate 400 0) 0 0 ([] : List (S34)) ([] : List (S32))) else (none))
def cooperagelaw16_LeaseOver.l0 : Nat → List (S52) → Int → List Int → Int → Int → List (S34) → List (S32) → Option (Bool)
 | 0, _, _, _, _, _, _, _ => none
 | k + 1, x0, x6, x7, x8, x569000, x569001, x569002 => if x8 < (x0.length : Int) then (if 0 ≤ x8 then ((cooperagelaw16_pick.f ((rd_T52 x0 x8).f4) 5).bind fun t573 => ((cooperagelaw16_does.f k x569000 x569001 x569002 ((rd_T52 x0 x8).f0) ((rd_T52 x0 x8).f1) ((rd_T52 x0 x8).f2) ((rd_T52 x0 x8).f3) ((rd_T52 x0 x8).f4) ((rd_T52 x0 x8).f5) ((rd_T52 x0 x8).f6) (wrap64 (x6 + t573))).bind fun bt576 => (if bt576.1 < x569000 then (cooperagelaw16_LeaseOver.j2 k x0 (wrap64 (x6 + t573)) x7 x8 true bt576.1 bt576.2.1 bt576.2.2.1 x569000 x569001 x569002) else (cooperagelaw16_LeaseOver.j2 k x0 (wrap64 (x6 + t573)) x7 x8 (decide (bt576.1 ≥ (x7.length : Int))) bt576.1 bt576.2.1 bt576.2.2.1 x569000 x569001 x569002)))) else (none)) else (some true)
def cooperagelaw16_LeaseOver.j2 : Nat → List (S52) → Int → List Int → Int → Bool → Int → List (S34) → List (S32) → Int → List (S34) → List (S32) → Option (Bool)
 | 0, _, _, _, _, _, _, _, _, _, _, _ => none
 | k + 1, x0, x6, x7, x8, x66, x569000, x569001, x569002, x575000, x575001, x575002 => if x66 = true then (some (decide (x569000 ≥ x575000))) else (cooperagelaw16_LeaseOver.l1 k x0 x6 x7 x8 1 x569000 x569001 x569002)
def cooperagelaw16_LeaseOver.l1 : Nat → List (S52) → Int → List Int → Int → Int → Int → List (S34) → List (S32) → Option (Bool)
 | 0, _, _, _, _, _, _, _, _ => none
 | k + 1, x0, x6, x7, x8, x10, x569000, x569001, x569002 => if x10 ≤ x569000 then (cooperagelaw16_LeaseOver.l2 k x0 x6 x7 x8 x10 false 0 x569000 x569001 x569002) else (cooperagelaw16_LeaseOver.l0 k x0 x6 x7 (wrap64 (x8 + 1)) x569000 x569001 x569002)
def cooperagelaw16_LeaseOver.l2 : Nat → List (S52) → Int → List Int → Int → Int → Bool → Int → Int → List (S34) → List (S32) → Option (Bool)
 | 0, _, _, _, _, _, _, _, _, _, _ => none
 | k + 1, x0, x6, x7, x8, x10, x11, x12, x569000, x569001, x569002 => if x12 < (x569001.length : Int) then (if x11 = true then (cooperagelaw16_LeaseOver.l2 k x0 x6 x7 x8 x10 true (wrap64 (x12 + 1)) x569000 x569001 x569002) else (if 0 ≤ x12 then (cooperagelaw16_LeaseOver.l2 k x0 x6 x7 x8 x10 (((rd_T34 x569001 x12).f3) == x10) (wrap64 (x12 + 1)) x569000 x569001 x569002) else (none))) else (if x11 = true then (if 0 ≤ x10 then (if x10 < (x7.length : Int) then (cooperagelaw16_LeaseOver.j5 k x0 x6 x7 x8 x10 x11 (decide ((rd x7 x10) > 0)) x569000 x569001 x569002) else (none)) else (none)) else (cooperagelaw16_LeaseOver.j5 k x0 x6 x7 x8 x10 x11 false x569000 x569001 x569002))
def cooperagelaw16_LeaseOver.j5 : Nat → List (S52) → Int → List Int → Int → Int → Bool → Bool → Int → List (S34) → List (S32) → Option (Bool)
 | 0, _, _, _, _, _, _, _, _, _, _ => none
 | k + 1, x0, x6, x7, x8, x10, x11, x103, x569000, x569001, x569002 => if x103 = true then (some false) else (if x11 = true then (cooperagelaw16_LeaseOver.l1 k x0 x6 x7 x8 (wrap64 (x10 + 1)) x569000 x569001 x569002) else (if 0 ≤ x10 then (if x10 < (x7.length : Int) then ((some (x7.set (x10 : Int).toNat 1 : List Int)).bind fun y587 => (if 0 ≤ x8 then (if x8 < (x0.length : Int) then ((lease_Give.f k x569000 x569001 x569002 ((rd_T52 x0 x8).f1) ((rd_T52 x0 x8).f5) x10 x6).bind fun bt590 => ((lease_Renew.f k x569000 x569001 x569002 ((rd_T52 x0 x8).f1) ((rd_T52 x0 x8).f5) x10 5 x6).bind fun bt601 => (if bt590.2.2.2 = 8 then (if bt601.2.2.2 = 8 then (cooperagelaw16_LeaseOver.j6 k x0 x6 y587 x8 x10 ((bt590.2.1.length : Int) != 0) x569000 x569001 x569002) else (cooperagelaw16_LeaseOver.j6 k x0 x6 y587 x8 x10 true x569000 x569001 x569002)) else (cooperagelaw16_LeaseOver.j6 k x0 x6 y587 x8 x10 true x569000 x569001 x569002)))) else (none)) else (none))) else (none)) else (none)))
def cooperagelaw16_LeaseOver.j6 : Nat → List (S52) → Int → List Int → Int → Int → Bool → Int → List (S34) → List (S32) → Option (Bool)
 | 0, _, _, _, _, _, _, _, _, _ => none
 | k + 1, x0, x6, x7, x8, x10, x154, x569000, x569001, x569002 => if x154 = true then (some false) else (cooperagelaw16_LeaseOver.l1 k x0 x6 x7 x8 (wrap64 (x10 + 1)) x569000 x569001 x569002)
end
def cooperagelaw16_LeaseOver.f (k : Nat) (l0 : List (S52)) : Option (Bool) := (cooperagelaw16_shown.f k).bind fun t566 => ((cooperagelaw16_right.f k l0).bind fun t567 => (if t566 = true then (cooperagelaw16_LeaseOver.j0 k l0 t566 (!t567)) else (cooperagelaw16_LeaseOver.j0 k l0 t566 true)))
theorem cooperagelaw16_LeaseOver.mono_l : ∀ k, (∀ y0 y1 y2, LeO (cooperagelaw16_LeaseOver.j0 k y0 y1 y2) (cooperagelaw16_LeaseOver.j0 (k + 1) y0 y1 y2)) ∧ (∀ y0 y1 y2 y3 y4 y5 y6, LeO (cooperagelaw16_LeaseOver.l0 k y0 y1 y2 y3 y4 y5 y6) (cooperagelaw16_LeaseOver.l0 (k + 1) y0 y1 y2 y3 y4 y5 y6)) ∧ (∀ y0 y1 y2 y3 y4 y5 y6 y7 y8 y9 y10, LeO (cooperagelaw16_LeaseOver.j2 k y0 y1 y2 y3 y4 y5 y6 y7 y8 y9 y10) (cooperagelaw16_LeaseOver.j2 (k + 1) y0 y1 y2 y3 y4 y5 y6 y7 y8 y9 y10)) ∧ (∀ y0 y1 y2 y3 y4 y5 y6 y7, LeO (cooperagelaw16_LeaseOver.l1 k y0 y1 y2 y3 y4 y5 y6 y7) (cooperagelaw16_LeaseOver.l1 (k + 1) y0 y1 y2 y3 y4 y5 y6 y7)) ∧ (∀ y0 y1 y2 y3 y4 y5 y6 y7 y8 y9, LeO (cooperagelaw16_LeaseOver.l2 k y0 y1 y2 y3 y4 y5 y6 y7 y8 y9) (cooperagelaw16_LeaseOver.l2 (k + 1) y0 y1 y2 y3 y4 y5 y6 y7 y8 y9)) ∧ (∀ y0 y1 y2 y3 y4 y5 y6 y7 y8 y9, LeO (cooperagelaw16_LeaseOver.j5 k y0 y1 y2 y3 y4 y5 y6 y7 y8 y9) (cooperagelaw16_LeaseOver.j5 (k + 1) y0 y1 y2 y3 y4 y5 y6 y7 y8 y9)) ∧ (∀ y0 y1 y2 y3 y4 y5 y6 y7 y8, LeO (cooperagelaw16_LeaseOver.j6 k y0 y1 y2 y3 y4 y5 y6 y7 y8) (cooperagelaw16_LeaseOver.j6 (k + 1) y0 y1 y2 y3 y4 y5 y6 y7 y8))
 | 0 => ⟨fun _ _ _ r h => by simp [cooperagelaw16_LeaseOver.j0] at h, fun _ _ _ _ _ _ _ r h => by simp [cooperagelaw16_LeaseOver.l0] at h, fun _ _ _ _ _ _ _ _ _ _ _ r h => by simp [cooperagelaw16_LeaseOver.j2] at h, fun _ _ _ _ _ _ _ _ r h => by simp [cooperagelaw16_LeaseOver.l1] at h, fun _ _ _ _ _ _ _ _ _ _ r h => by simp [cooperagelaw16_LeaseOver.l2] at h, fun _ _ _ _ _ _ _ _ _ _ r h => by simp [cooperagelaw16_LeaseOver.j5] at h, fun _ _ _ _ _ _ _ _ _ r h => by simp [cooperagelaw16_LeaseOver.j6] at h⟩
 | k + 1 => by
  obtain ⟨ih0, ih1, ih2, ih3, ih4, ih5, ih6⟩ := cooperagelaw16_LeaseOver.mono_l k
  refine ⟨?_, ?_, ?_, ?_, ?_, ?_, ?_⟩
  ·intro y0 y1 y2
   unfold cooperagelaw16_LeaseOver.j0
   repeat' first
   | (with_reducible exact ih0 _ _ _)
   | (with_reducible exact ih1 _ _ _ _ _ _ _)
   | (with_reducible exact ih2 _ _ _ _ _ _ _ _ _ _ _)
   | (with_reducible exact ih3 _ _ _ _ _ _ _ _)
   | (with_reducible exact ih4 _ _ _ _ _ _ _ _ _ _)
   | (with_reducible exact ih5 _ _ _ _ _ _ _ _ _ _)
   | (with_reducible exact ih6 _ _ _ _ _ _ _ _ _)
   | (with_reducible exact cooperagelaw16_does.mono _ _ _ _ _ _ _ _ _ _ _ _)
   | (with_reducible exact cooperagelaw16_right.mono _ _)
   | (with_reducible exact cooperagelaw16_shown.mono _)
   | (with_reducible exact lease_Give.mono _ _ _ _ _ _ _ _)
   | (with_reducible exact lease_Renew.mono _ _ _ _ _ _ _ _ _)
   | (with_reducible exact LeO.refl _)
   | (with_reducible exact LeO.none _)
   | (with_reducible refine LeO.ite ?_ ?_)
   | (with_reducible refine LeO.bind ?_ (fun _ => ?_))
   | exact ih0 _ _ _
   | exact ih1 _ _ _ _ _ _ _
   | exact ih2 _ _ _ _ _ _ _ _ _ _ _
   | exact ih3 _ _ _ _ _ _ _ _
   | exact ih4 _ _ _ _ _ _ _ _ _ _
   | exact ih5 _ _ _ _ _ _ _ _ _ _
   | exact ih6 _ _ _ _ _ _ _ _ _
   | exact cooperagelaw16_does.mono _ _ _ _ _ _ _ _ _ _ _ _
   | exact cooperagelaw16_right.mono _ _
   | exact cooperagelaw16_shown.mono _
   | exact lease_Give.mono _ _ _ _ _ _ _ _
   | exact lease_Renew.mono _ _ _ _ _ _ _ _ _
   | exact LeO.none _
   | refine LeO.ite ?_ ?_
   | refine LeO.bind ?_ (fun _ => ?_)
  ·intro y0 y1 y2 y3 y4 y5 y6
   unfold cooperagelaw16_LeaseOver.l0
   repeat' first
   | (with_reducible exact ih0 _ _ _)
   | (with_reducible exact ih1 _ _ _ _ _ _ _)
   | (with_reducible exact ih2 _ _ _ _ _ _ _ _ _ _ _)
   | (with_reducible exact ih3 _ _ _ _ _ _ _ _)
   | (with_reducible exact ih4 _ _ _ _ _ _ _ _ _ _)
   | (with_reducible exact ih5 _ _ _ _ _ _ _ _ _ _)
   | (with_reducible exact ih6 _ _ _ _ _ _ _ _ _)
   | (with_reducible exact cooperagelaw16_does.mono _ _ _ _ _ _ _ _ _ _ _ _)
   | (with_reducible exact cooperagelaw16_right.mono _ _)
   | (with_reducible exact cooperagelaw16_shown.mono _)
   | (with_reducible exact lease_Give.mono _ _ _ _ _ _ _ _)
   | (with_reducible exact lease_Renew.mono _ _ _ _ _ _ _ _ _)
   | (with_reducible exact LeO.refl _)
   | (with_reducible exact LeO.none _)
   | (with_reducible refine LeO.ite ?_ ?_)
   | (with_reducible refine LeO.bind ?_ (fun _ => ?_))
   | exact ih0 _ _ _
   | exact ih1 _ _ _ _ _ _ _
   | exact ih2 _ _ _ _ _ _ _ _ _ _ _
   | exact ih3 _ _ _ _ _ _ _ _
   | exact ih4 _ _ _ _ _ _ _ _ _ _
   | exact ih5 _ _ _ _ _ _ _ _ _ _
   | exact ih6 _ _ _ _ _ _ _ _ _
   | exact cooperagelaw16_does.mono _ _ _ _ _ _ _ _ _ _ _ _
   | exact cooperagelaw16_right.mono _ _
   | exact cooperagelaw16_shown.mono _
   | exact lease_Give.mono _ _ _ _ _ _ _ _
   | exact lease_Renew.mono _ _ _ _ _ _ _ _ _
   | exact LeO.none _
   | refine LeO.ite ?_ ?_
   | refine LeO.bind ?_ (fun _ => ?_)
  ·intro y0 y1 y2 y3 y4 y5 y6 y7 y8 y9 y10
   unfold cooperagelaw16_LeaseOver.j2
   repeat' first
   | (with_reducible exact ih0 _ _ _)
   | (with_reducible exact ih1 _ _ _ _ _ _ _)
   | (with_reducible exact ih2 _ _ _ _ _ _ _ _ _ _ _)
   | (with_reducible exact ih3 _ _ _ _ _ _ _ _)
   | (with_reducible exact ih4 _ _ _ _ _ _ _ _ _ _)
   | (with_reducible exact ih5 _ _ _ _ _ _ _ _ _ _)
   | (with_reducible exact ih6 _ _ _ _ _ _ _ _ _)
   | (with_reducible exact cooperagelaw16_does.mono _ _ _ _ _ _ _ _ _ _ _ _)
   | (with_reducible exact cooperagelaw16_right.mono _ _)
   | (with_reducible exact cooperagelaw16_shown.mono _)
   | (with_reducible exact lease_Give.mono _ _ _ _ _ _ _ _)
   | (with_reducible exact lease_Renew.mono _ _ _ _ _ _ _ _ _)
   | (with_reducible exact LeO.refl _)
   | (with_reducible exact LeO.none _)
   | (with_reducible refine LeO.ite ?_ ?_)
   | (with_reducible refine LeO.bind ?_ (fun _ => ?_))
   | exact ih0 _ _ _
   | exact ih1 _ _ _ _ _ _ _
   | exact ih2 _ _ _ _ _ _ _ _ _ _ _
   | exact ih3 _ _ _ _ _ _ _ _
   | exact ih4 _ _ _ _ _ _ _ _ _ _
   | exact ih5 _ _ _ _ _ _ _ _ _ _
   | exact ih6 _ _ _ _ _ _ _ _ _
   | exact cooperagelaw16_does.mono _ _ _ _ _ _ _ _ _ _ _ _
   | exact cooperagelaw16_right.mono _ _
   | exact cooperagelaw16_shown.mono _
   | exact lease_Give.mono _ _ _ _ _ _ _ _
   | exact lease_Renew.mono _ _ _ _ _ _ _ _ _
   | exact LeO.none _
   | refine LeO.ite ?_ ?_
   | refine LeO.bind ?_ (fun _ => ?_)
  ·intro y0 y1 y2 y3 y4 y5 y6 y7
   unfold cooperagelaw16_LeaseOver.l1
   repeat' first
   | (with_reducible exact ih0 _ _ _)
   | (with_reducible exact ih1 _ _ _ _ _ _ _)
   | (with_reducible exact ih2 _ _ _ _ _ _ _ _ _ _ _)
   | (with_reducible exact ih3 _ _ _ _ _ _ _ _)
   | (with_reducible exact ih4 _ _ _ _ _ _ _ _ _ _)
   | (with_reducible exact ih5 _ _ _ _ _ _ _ _ _ _)
   | (with_reducible exact ih6 _ _ _ _ _ _ _ _ _)
   | (with_reducible exact cooperagelaw16_does.mono _ _ _ _ _ _ _ _ _ _ _ _)
   | (with_reducible exact cooperagelaw16_right.mono _ _)
   | (with_reducible exact cooperagelaw16_shown.mono _)
   | (with_reducible exact lease_Give.mono _ _ _ _ _ _ _ _)
   | (with_reducible exact lease_Renew.mono _ _ _ _ _ _ _ _ _)
   | (with_reducible exact LeO.refl _)
   | (with_reducible exact LeO.none _)
   | (with_reducible refine LeO.ite ?_ ?_)
   | (with_reducible refine LeO.bind ?_ (fun _ => ?_))
   | exact ih0 _ _ _
   | exact ih1 _ _ _ _ _ _ _
   | exact ih2 _ _ _ _ _ _ _ _ _ _ _
   | exact ih3 _ _ _ _ _ _ _ _
   | exact ih4 _ _ _ _ _ _ _ _ _ _
   | exact ih5 _ _ _ _ _ _ _ _ _ _
   | exact ih6 _ _ _ _ _ _ _ _ _
   | exact cooperagelaw16_does.mono _ _ _ _ _ _ _ _ _ _ _ _
   | exact cooperagelaw16_right.mono _ _
   | exact cooperagelaw16_shown.mono _
   | exact lease_Give.mono _ _ _ _ _ _ _ _
   | exact lease_Renew.mono _ _ _ _ _ _ _ _ _
   | exact LeO.none _
   | refine LeO.ite ?_ ?_
   | refine LeO.bind ?_ (fun _ => ?_)
  ·intro y0 y1 y2 y3 y4 y5 y6 y7 y8 y9
   unfold cooperagelaw16_LeaseOver.l2
   repeat' first
   | (with_reducible exact ih0 _ _ _)
   | (with_reducible exact ih1 _ _ _ _ _ _ _)
   | (with_reducible exact ih2 _ _ _ _ _ _ _ _ _ _ _)
   | (with_reducible exact ih3 _ _ _ _ _ _ _ _)
   | (with_reducible exact ih4 _ _ _ _ _ _ _ _ _ _)
   | (with_reducible exact ih5 _ _ _ _ _ _ _ _ _ _)
   | (with_reducible exact ih6 _ _ _ _ _ _ _ _ _)
   | (with_reducible exact cooperagelaw16_does.mono _ _ _ _ _ _ _ _ _ _ _ _)
   | (with_reducible exact cooperagelaw16_right.mono _ _)
   | (with_reducible exact cooperagelaw16_shown.mono _)
   | (with_reducible exact lease_Give.mono _ _ _ _ _ _ _ _)
   | (with_reducible exact lease_Renew.mono _ _ _ _ _ _ _ _ _)
   | (with_reducible exact LeO.refl _)
   | (with_reducible exact LeO.none _)
   | (with_reducible refine LeO.ite ?_ ?_)
   | (with_reducible refine LeO.bind ?_ (fun _ => ?_))
   | exact ih0 _ _ _
   | exact ih1 _ _ _ _ _ _ _
   | exact ih2 _ _ _ _ _ _ _ _ _ _ _
   | exact ih3 _ _ _ _ _ _ _ _
   | exact ih4 _ _ _ _ _ _ _ _ _ _
   | exact ih5 _ _ _ _ _ _ _ _ _ _
   | exact ih6 _ _ _ _ _ _ _ _ _
   | exact cooperagelaw16_does.mono _ _ _ _ _ _ _ _ _ _ _ _
   | exact cooperagelaw16_right.mono _ _
   | exact cooperagelaw16_shown.mono _
   | exact lease_Give.mono _ _ _ _ _ _ _ _
   | exact lease_Renew.mono _ _ _ _ _ _ _ _ _
   | exact LeO.none _
   | refine LeO.ite ?_ ?_
   | refine LeO.bind ?_ (fun _ => ?_)
  ·intro y0 y1 y2 y3 y4 y5 y6 y7 y8 y9
   unfold cooperagelaw16_LeaseOver.j5
   repeat' first
   | (with_reducible exact ih0 _ _ _)
   | (with_reducible exact ih1 _ _ _ _ _ _ _)
   | (with_reducible exact ih2 _ _ _ _ _ _ _ _ _ _ _)
   | (with_reducible exact ih3 _ _ _ _ _ _ _ _)
   | (with_reducible exact ih4 _ _ _ _ _ _ _ _ _ _)
   | (with_reducible exact ih5 _ _ _ _ _ _ _ _ _ _)
   | (with_reducible exact ih6 _ _ _ _ _ _ _ _ _)
   | (with_reducible exact cooperagelaw16_does.mono _ _ _ _ _ _ _ _ _ _ _ _)
   | (with_reducible exact cooperagelaw16_right.mono _ _)
   | (with_reducible exact cooperagelaw16_shown.mono _)
   | (with_reducible exact lease_Give.mono _ _ _ _ _ _ _ _)
   | (with_reducible exact lease_Renew.mono _ _ _ _ _ _ _ _ _)
   | (with_reducible exact LeO.refl _)
   | (with_reducible exact LeO.none _)
   | (with_reducible refine LeO.ite ?_ ?_)
   | (with_reducible refine LeO.bind ?_ (fun _ => ?_))
   | exact ih0 _ _ _
   | exact ih1 _ _ _ _ _ _ _
   | exact ih2 _ _ _ _ _ _ _ _ _ _ _
   | exact ih3 _ _ _ _ _ _ _ _
   | exact ih4 _ _ _ _ _ _ _ _ _ _
   | exact ih5 _ _ _ _ _ _ _ _ _ _
   | exact ih6 _ _ _ _ _ _ _ _ _
   | exact cooperagelaw16_does.mono _ _ _ _ _ _ _ _ _ _ _ _
   | exact cooperagelaw16_right.mono _ _
   | exact cooperagelaw16_shown.mono _
   | exact lease_Give.mono _ _ _ _ _ _ _ _
   | exact lease_Renew.mono _ _ _ _ _ _ _ _ _
   | exact LeO.none _
   | refine LeO.ite ?_ ?_
   | refine LeO.bind ?_ (fun _ => ?_)
  ·intro y0 y1 y2 y3 y4 y5 y6 y7 y8
   unfold cooperagelaw16_LeaseOver.j6
   repeat' first
   | (with_reducible exact ih0 _ _ _)
   | (with_reducible exact ih1 _ _ _ _ _ _ _)
   | (with_reducible exact ih2 _ _ _ _ _ _ _ _ _ _ _)
   | (with_reducible exact ih3 _ _ _ _ _ _ _ _)
   | (with_reducible exact ih4 _ _ _ _ _ _ _ _ _ _)
   | (with_reducible exact ih5 _ _ _ _ _ _ _ _ _ _)
   | (with_reducible exact ih6 _ _ _ _ _ _ _ _ _)
   | (with_reducible exact cooperagelaw16_does.mono _ _ _ _ _ _ _ _ _ _ _ _)
   | (with_reducible exact cooperagelaw16_right.mono _ _)
   | (with_reducible exact cooperagelaw16_shown.mono _)
   | (with_reducible exact lease_Give.mono _ _ _ _ _ _ _ _)
   | (with_reducible exact lease_Renew.mono _ _ _ _ _ _ _ _ _)
   | (with_reducible exact LeO.refl _)
   | (with_reducible exact LeO.none _)
   | (with_reducible refine LeO.ite ?_ ?_)
   | (with_reducible refine LeO.bind ?_ (fun _ => ?_))
   | exact ih0 _ _ _
   | exact ih1 _ _ _ _ _ _ _
   | exact ih2 _ _ _ _ _ _ _ _ _ _ _
   | exact ih3 _ _ _ _ _ _ _ _
   | exact ih4 _ _ _ _ _ _ _ _ _ _
   | exact ih5 _ _ _ _ _ _ _ _ _ _
   | exact ih6 _ _ _ _ _ _ _ _ _
   | exact cooperagelaw16_does.mono _ _ _ _ _ _ _ _ _ _ _ _
   | exact cooperagelaw16_right.mono _ _
   | exact cooperagelaw16_shown.mono _
   | exact lease_Give.mono _ _ _ _ _ _ _ _
   | exact lease_Renew.mono _ _ _ _ _ _ _ _ _
   | exact LeO.none _
   | refine LeO.ite ?_ ?_
   | refine LeO.bind ?_ (fun _ => ?_)
theorem cooperagelaw16_LeaseOver.mono : ∀ a0 k, LeO (cooperagelaw16_LeaseOver.f k a0) (cooperagelaw16_LeaseOver.f (k + 1) a0) := by
 intro a0 k
 obtain ⟨ih0, ih1, ih2, ih3, ih4, ih5, ih6⟩ := cooperagelaw16_LeaseOver.mono_l k
 unfold cooperagelaw16_LeaseOver.f
 repeat' first
   | (with_reducible exact ih0 _ _ _)
   | (with_reducible exact ih1 _ _ _ _ _ _ _)
   | (with_reducible exact ih2 _ _ _ _ _ _ _ _ _ _ _)
   | (with_reducible exact ih3 _ _ _ _ _ _ _ _)
   | (with_reducible exact ih4 _ _ _ _ _ _ _ _ _ _)
   | (with_reducible exact ih5 _ _ _ _ _ _ _ _ _ _)
   | (with_reducible exact ih6 _ _ _ _ _ _ _ _ _)
   | (with_reducible exact cooperagelaw16_does.mono _ _ _ _ _ _ _ _ _ _ _ _)
   | (with_reducible exact cooperagelaw16_right.mono _ _)
   | (with_reducible exact cooperagelaw16_shown.mono _)
   | (with_reducible exact lease_Give.mono _ _ _ _ _ _ _ _)
   | (with_reducible exact lease_Renew.mono _ _ _ _ _ _ _ _ _)
   | (with_reducible exact LeO.refl _)
   | (with_reducible exact LeO.none _)
   | (with_reducible refine LeO.ite ?_ ?_)
   | (with_reducible refine LeO.bind ?_ (fun _ => ?_))
   | exact ih0 _ _ _
   | exact ih1 _ _ _ _ _ _ _
   | exact ih2 _ _ _ _ _ _ _ _ _ _ _
   | exact ih3 _ _ _ _ _ _ _ _
   | exact ih4 _ _ _ _ _ _ _ _ _ _
   | exact ih5 _ _ _ _ _ _ _ _ _ _
   | exact ih6 _ _ _ _ _ _ _ _ _
   | exact cooperagelaw16_does.mono _ _ _ _ _ _ _ _ _ _ _ _
   | exact cooperagelaw16_right.mono _ _
   | exact cooperagelaw16_shown.mono _
   | exact lease_Give.mono _ _ _ _ _ _ _ _
   | exact lease_Renew.mono _ _ _ _ _ _ _ _ _
   | exact LeO.none _
   | refine LeO.ite ?_ ?_
   | refine LeO.bind ?_ (fun _ => ?_)
def cooperagelaw16_LeaseOver.T13 : Bool × List (List Nat × List Nat) := (true, [([], []), ([], []), ([], []), ([1, 2], [1, 2]), ([3], [3]), ([], []), ([0, 4, 5], [0, 4, 5]), ([6], [6]), ([7], [7]), ([7], [7]), ([7], [7]), ([8, 6, 0, 1, 2, 3, 4, 5, 6, 7, 8], [8])])
def cooperagelaw16_LeaseOver.B13 : List Nat := [0, 0, 0, 6, 14, 0, 63, 127, 255, 255, 255, 511]
theorem cooperagelaw16_LeaseOver.tab13 : rtab .any (opsOf Tryd.f7 13) = cooperagelaw16_LeaseOver.T13 := by kernel_rfl
theorem cooperagelaw16_LeaseOver.bits13 : waitsOk cooperagelaw16_LeaseOver.T13.2 cooperagelaw16_LeaseOver.B13 = true := by kernel_rfl
def cooperagelaw16_LeaseOver.T28 : Bool × List (List Nat × List Nat) := (true, [([], []), ([], []), ([], []), ([1, 2], [1, 2]), ([3], [3]), ([4], [4]), ([], []), ([], []), ([6, 7], [6, 7]), ([8], [8]), ([9], [9]), ([], []), ([], []), ([0, 5, 10, 11, 12], [0, 5, 10, 11, 12]), ([13], [13]), ([14], [14]), ([14], [14]), ([], []), ([17, 15, 13, 0, 1, 2, 3, 4, 5, 6, 7, 8, 9, 10, 11, 12, 13, 14, 15, 17], [15, 17]), ([16, 18, 0, 1, 2, 3, 4, 5, 6, 7, 8, 9, 10, 11, 12, 13, 14, 15, 16, 17, 18], [16])])
def cooperagelaw16_LeaseOver.B28 : List Nat := [0, 0, 0, 6, 14, 30, 0, 0, 192, 448, 960, 0, 0, 8191, 16383, 32767, 32767, 0, 196607, 524287]
theorem cooperagelaw16_LeaseOver.tab28 : rtab .any (opsOf Tryd.f7 28) = cooperagelaw16_LeaseOver.T28 := by kernel_rfl
theorem cooperagelaw16_LeaseOver.bits28 : waitsOk cooperagelaw16_LeaseOver.T28.2 cooperagelaw16_LeaseOver.B28 = true := by kernel_rfl
def cooperagelaw16_LeaseOver.T29 : Bool × List (List Nat × List Nat) := (true, [([], []), ([], []), ([], []), ([1, 2], [1, 2]), ([3], [3]), ([4], [4]), ([], []), ([], []), ([6, 7], [6, 7]), ([8], [8]), ([9], [9]), ([], []), ([], []), ([0, 5, 10, 11, 12], [0, 5, 10, 11, 12]), ([13], [13]), ([14], [14]), ([14], [14]), ([], []), ([17, 15, 13, 0, 1, 2, 3, 4, 5, 6, 7, 8, 9, 10, 11, 12, 13, 14, 15, 17], [15, 17]), ([16, 18, 0, 1, 2, 3, 4, 5, 6, 7, 8, 9, 10, 11, 12, 13, 14, 15, 16, 17, 18], [16])])
def cooperagelaw16_LeaseOver.B29 : List Nat := [0, 0, 0, 6, 14, 30, 0, 0, 192, 448, 960, 0, 0, 8191, 16383, 32767, 32767, 0, 196607, 524287]
theorem cooperagelaw16_LeaseOver.tab29 : rtab .any (opsOf Tryd.f7 29) = cooperagelaw16_LeaseOver.T29 := by kernel_rfl
theorem cooperagelaw16_LeaseOver.bits29 : waitsOk cooperagelaw16_LeaseOver.T29.2 cooperagelaw16_LeaseOver.B29 = true := by kernel_rfl
set_option maxHeartbeats 8000000 in
set_option maxRecDepth 100000 in
theorem cooperagelaw16_LeaseOver.calls (k : Nat) (A0 : Option Addr) (c0 : Nat) (l0 : List (S52)) (r : Bool) (w : World) (hr0 : Kd.C k52 w A0 l0.length l0) (hc0 : l0.length ≤ c0) (h : cooperagelaw16_LeaseOver.f k l0 = some r) :
  Calls Tryd.prog 7 #[.slice A0 l0.length c0] w fun e w' => e = .returned (.bool r) ∧ Below w.heap.size w w' := by
 have hu27 := Tryd.underlying27
 have hu52 := Tryd.underlying52
 have HR0 := Aside0.mk hr0
 have HC0 := Aside0.mk hc0
 clear hr0 hc0
 have HB := Aside0.mk (Below.refl w.heap.size w)
 have H : ((cooperagelaw16_shown.f k).bind fun t566 => ((cooperagelaw16_right.f k l0).bind fun t567 => (if t566 = true then (cooperagelaw16_LeaseOver.j0 k l0 t566 (!t567)) else (cooperagelaw16_LeaseOver.j0 k l0 t566 true)))) = some r := h
 clear h
 replace H := Option.bind_eq_some_iff.mp H
 obtain ⟨t566, A20, H⟩ := H
 replace H : ((cooperagelaw16_right.f k l0).bind fun t567 => (if t566 = true then (cooperagelaw16_LeaseOver.j0 k l0 t566 (!t567)) else (cooperagelaw16_LeaseOver.j0 k l0 t566 true))) = some r := H
 have A2 := Aside0.mk A20
 clear A20
 replace H := Option.bind_eq_some_iff.mp H
 obtain ⟨t567, A30, H⟩ := H
 replace H : (if t566 = true then (cooperagelaw16_LeaseOver.j0 k l0 t566 (!t567)) else (cooperagelaw16_LeaseOver.j0 k l0 t566 true)) = some r := H
 have A3 := Aside0.mk A30
 clear A30
 have HC4 := Aside0.mk H
 clear H
 go_enter Tryd.func7, Tryd.ntmps7
 go_upto_region 3 with (first | ((with_reducible refine gate_callee (f := 9) rfl ?_); refine goesL_ (some 17) rfl rfl Tryd.func9 (by kernel_rfl) rfl #[] rfl zA ?_; (with_reducible refine (cooperagelaw16_shown.calls k  t566 _ A2.out).mono ?_); rintro e w5 ⟨rfl, hb⟩; refine ⟨_, rfl, ?_⟩; have n0_ := Aside0.mk (below_step (zL HB.out) hb); revert n0_; clear HB; intro HB; (try clear hb); (try clear hb2); (try clear hk); (try clear hi)) | ((with_reducible refine gate_callee (f := 16) rfl ?_); refine goesL_ (some 19) rfl rfl Tryd.func16 (by kernel_rfl) rfl #[.slice A0 l0.length c0] rfl zA ?_; (with_reducible refine (cooperagelaw16_right.calls k _ _ l0 t567 _ ?side1 ?side2 A3.out).mono ?_); (case side1 => repeat (first | exact (Kd.C_below HR0.out HB.out) | (with_reducible refine Kd.C_alloc ?_ _) | (with_reducible refine Kd.C_drewN ?_ _) | (with_reducible refine Kd.C_drew ?_))); (case side2 => exact HC0.out); rintro e w' ⟨rfl, ⟨nd, rfl⟩⟩; refine ⟨_, rfl, ?_⟩))
 (try simp only [Act.put, List.setIfInBounds_toArray, List.set_cons_zero, List.set_cons_succ])
 go_cut [25] (fun v25 wc => ∃ (kq : Nat) (x25_3 : Bool), v25 = .bool x25_3 ∧ Aside0 (cooperagelaw16_LeaseOver.j0 kq l0 t566 x25_3 = some r) ∧ Aside0 (kq ≤ k) ∧ Aside0 (Below w.heap.size w wc))
 case first =>
  have H := HC4.out
  clear HC4
  by_cases c6 : t566 = true
  ·subst c6
   have H1 : (cooperagelaw16_LeaseOver.j0 k l0 true (!t567)) = some r := by rw [if_pos rfl] at H; exact H
   clear H
   have H := H1
   clear H1
   have H' := Aside0.mk H
   clear H
   go_wp2
   go_meet
   case rel => exact ⟨_, (!t567), zS, H', ⟨by first | omega | exact Nat.le_refl _⟩, ⟨zL HB.out⟩⟩
  ·replace c6 := Bool.eq_false_iff.mpr c6
   subst c6
   have H1 : (cooperagelaw16_LeaseOver.j0 k l0 false true) = some r := by rw [if_neg (show ¬ (false = true) by decide)] at H; exact H
   clear H
   have H := H1
   clear H1
   have H' := Aside0.mk H
   clear H
   go_wp2
   go_meet
   case rel => exact ⟨_, (true), zS, H', ⟨by first | omega | exact Nat.le_refl _⟩, ⟨zL HB.out⟩⟩
 case rest =>
  clear HC4
  try clear c1
  try clear p2
  try clear c6
  obtain ⟨kq, x25_3, rfl, HA, HJ3, HB⟩ := hcut
  cases kq with
  | zero => exact absurd HA.out (by simp [cooperagelaw16_LeaseOver.j0])
  | succ kj3 =>
   have H := HA.out
   clear HA
   simp only [cooperagelaw16_LeaseOver.j0] at H
   by_cases c7 : x25_3 = true
   ·subst c7
    have H1 : (some t566) = some r := by rw [if_pos rfl] at H; exact H
    clear H
    have H := H1
    clear H1
    obtain rfl := Option.some.inj H
    go_wp2
    go_ret
    exact ⟨zE, zL HB.out⟩
   ·replace c7 := Bool.eq_false_iff.mpr c7
    subst c7
    have H1 : (if 400 ≤ 35184372088832 then (cooperagelaw16_LeaseOver.l0 kj3 l0 0 (List.replicate 400 0) 0 0 ([] : List (S34)) ([] : List (S32))) else (none)) = some r := by rw [if_neg (show ¬ (false = true) by decide)] at H; exact H
    clear H
    have H := H1
    clear H1
    by_cases c8 : 400 ≤ 35184372088832
    ·rw [if_pos c8] at H
     have c8b0 := eq_true c8
     have c8b1 : decide (400 ≤ 35184372088832) = true := decide_eq_true c8
     clear c8
     obtain ⟨y569, hy569⟩ : ∃ y_ : List Int, y_ = (List.replicate 400 0) := ⟨_, rfl⟩
     replace H : (cooperagelaw16_LeaseOver.l0 kj3 l0 0 y569 0 0 ([] : List (S34)) ([] : List (S32))) = some r := zH hy569 H
     have Ny569 := Aside0.mk hy569
     clear hy569
     have H' := Aside0.mk H
     clear H
     go_wp2_with (first | ((with_reducible refine gate_dst (N := 5) rfl ?_); (try (refine gate_guard (by rfl) ?_; dsimp only)); refine box_event ?hg (N := 5) ?hd (cs := #[.int .i64 0, .slice none 0 0, .slice none 0 0]) (t := 27) ?hr ?_; (case hd => rfl); (case hg => rfl); (case hr => first | (go_simp; done) | (go_simp; rfl)); intro gb568 hg w9 hbox hb; have n0_ := Aside0.mk (below_step (zL HB.out) hb); have n1_ := Aside0.mk (hbox); have n2_ := Aside0.mk (zG hg (zL HB.out)); have n3_ := Aside0.mk (zG hg (zL HB.out)); revert n0_ n1_ n2_ n3_; clear HB; intro HB BK568 GW568 GE568; clear hb hbox hg; obtain ⟨hcz10_0, hcz10_1, hcz10_2, hfz10_0, hfz10_1, hfz10_2⟩ := zC3 BK568.out) | ((with_reducible refine gate_dst (N := 28) rfl ?_); (try (refine gate_guard (by rfl) ?_; dsimp only)); refine Kd.R_make (Kd.int .i64) _ 3 rfl (N := 28) rfl 39 _ _ rfl 400 rfl rfl Tryd.underlying39 (.int .i64 0) 8 info3 rfl (by decide) (by omega) 0 (ok := fun _ => True) (okp := fun _ => True) rfl (fun _ hk => hk) trivial (by omega) (by omega) (Below.refl _ _) (Nat.le_refl _) ?_; intro v570 w11 ho12 hb hg_ hnew_; clear hg_ hnew_; (first | rw [← Ny569.out] at ho12 | (simp only [Int.reduceToNat] at ho12; rw [← Ny569.out] at ho12)); have n0_ := Aside0.mk (Kd.R_lower ho12 (below_size (zL HB.out))); have n1_ := Aside0.mk (blk_below (g := gb568) (o := .cells #[.int .i64 0, .slice none 0 0, .slice none 0 0] 27 (0, 0)) (zP3 BK568.out) hb); have n2_ := Aside0.mk (below_step (zL HB.out) hb); revert n0_ n1_ n2_; clear BK568 HB; intro HO571 BK568 HB; clear hb ho12))
     go_loopg [6, 8] kj3 (fun kq v6 v8 w' => ∃ (x6_2 : Int) (x7_2 : List Int) (x8_2 : Int) (x569000_2 : Int) (x569001_2 : List (S34)) (x569002_2 : List (S32)) (u569001 : Value) (u569002 : Value), v6 = .int .i64 x6_2 ∧ v8 = .int .i64 x8_2 ∧ Aside0 (cooperagelaw16_LeaseOver.l0 kq l0 x6_2 x7_2 x8_2 x569000_2 x569001_2 x569002_2 = some r) ∧ Aside0 (kq ≤ kj3) ∧ Aside0 (Kd.R (Kd.int .i64) 3 w' w.heap.size (fun _ => True) v570 x7_2) ∧ Aside0 (Kd.V k34 34 w' w.heap.size (fun k_ => some k_ ≠ (v570 : Value).ownBlock ∧ k_ ≠ gb568) u569001 x569001_2) ∧ Aside0 (Kd.V k32 32 w' w.heap.size (fun k_ => some k_ ≠ (v570 : Value).ownBlock ∧ k_ ≠ gb568) u569002 x569002_2) ∧ Aside0 (w'.heap[gb568]? = some (.cells #[.int .i64 x569000_2, u569001, u569002] 27 (0, 0))) ∧ Aside0 (Below w.heap.size w w'))
     case atStart => exact ⟨(0), (y569), (0), (0), (([] : List (S34))), (([] : List (S32))), (.slice none 0 0), (.slice none 0 0), zS, zS, H', ⟨Nat.le_refl _⟩, ⟨by (with_reducible repeat (first | apply Kd.R_alloc | apply Kd.R_drewN | apply Kd.R_drew)); exact HO571.out⟩, ⟨Kd.V_nil _ _ _ _ _⟩, ⟨Kd.V_nil _ _ _ _ _⟩, ⟨zK BK568.out⟩, ⟨zL HB.out⟩⟩
     case round =>
      clear H'
      try clear c1
      try clear p2
      try clear c6
      try clear c7
      try clear c8
      try clear c8b0
      try clear c8b1
      try clear c9
      try clear hcz10_0
      try clear hcz10_1
      try clear hcz10_2
      try clear hfz10_0
      try clear hfz10_1
      try clear hfz10_2
      try clear p2
      obtain ⟨x6_2, x7_2, x8_2, x569000_2, x569001_2, x569002_2, u569001, u569002, rfl, rfl, HA, HK2, HO_7, HO_569001, HO_569002, BK568, HB⟩ := hrel
      cases gk with
      | zero => exact absurd HA.out (by simp [cooperagelaw16_LeaseOver.l0])
      | succ k2 =>
       have H := HA.out
       clear HA
       simp only [cooperagelaw16_LeaseOver.l0] at H
       by_cases c13 : x8_2 < (l0.length : Int)
       ·rw [if_pos c13] at H
        have c13b0 : decide (x8_2 < (l0.length : Int)) = true := decide_eq_true c13
        clear c13
        by_cases c14 : 0 ≤ x8_2
        ·rw [if_pos c14] at H
         have c14b0 : decide (0 ≤ x8_2) = true := decide_eq_true c14
         clear c14
         replace H := Option.bind_eq_some_iff.mp H
         obtain ⟨t573, A150, H⟩ := H
         replace H : ((cooperagelaw16_does.f k2 x569000_2 x569001_2 x569002_2 ((rd_T52 l0 x8_2).f0) ((rd_T52 l0 x8_2).f1) ((rd_T52 l0 x8_2).f2) ((rd_T52 l0 x8_2).f3) ((rd_T52 l0 x8_2).f4) ((rd_T52 l0 x8_2).f5) ((rd_T52 l0 x8_2).f6) (wrap64 (x6_2 + t573))).bind fun bt576 => (if bt576.1 < x569000_2 then (cooperagelaw16_LeaseOver.j2 k2 l0 (wrap64 (x6_2 + t573)) x7_2 x8_2 true bt576.1 bt576.2.1 bt576.2.2.1 x569000_2 x569001_2 x569002_2) else (cooperagelaw16_LeaseOver.j2 k2 l0 (wrap64 (x6_2 + t573)) x7_2 x8_2 (decide (bt576.1 ≥ (x7_2.length : Int))) bt576.1 bt576.2.1 bt576.2.2.1 x569000_2 x569001_2 x569002_2))) = some r := H
         have A15 := Aside0.mk A150
         clear A150
         replace H := Option.bind_eq_some_iff.mp H
         obtain ⟨⟨t576, t577, t580, t583, t584⟩, A160, H⟩ := H
         replace H : (if t576 < x569000_2 then (cooperagelaw16_LeaseOver.j2 k2 l0 (wrap64 (x6_2 + t573)) x7_2 x8_2 true t576 t577 t580 x569000_2 x569001_2 x569002_2) else (cooperagelaw16_LeaseOver.j2 k2 l0 (wrap64 (x6_2 + t573)) x7_2 x8_2 (decide (t576 ≥ (x7_2.length : Int))) t576 t577 t580 x569000_2 x569001_2 x569002_2)) = some r := H
         have A16 := Aside0.mk A160
         clear A160
         have HC17 := Aside0.mk H
         clear H
         have p572 : 0 ≤ (x8_2 : Int) := zD
         have q572 : x8_2 < (l0.length : Int) := zD
         obtain ⟨ad572, e572, hx572_0, hx572_1, hx572_2, hx572_3, hx572_4, hx572_5, hx572_6⟩ := at_T52 HR0.out x8_2 p572 q572
         cases e572
         replace hx572_0 := zX HB.out hx572_0
         replace hx572_1 := zX HB.out hx572_1
         replace hx572_2 := zX HB.out hx572_2
         replace hx572_3 := zX HB.out hx572_3
         replace hx572_4 := zX HB.out hx572_4
         replace hx572_5 := zX HB.out hx572_5
         replace hx572_6 := zX HB.out hx572_6
         replace p572 := eq_true p572
         replace q572 := eq_true q572
         try go_wp2_with (first | ((with_reducible refine gate_callee (f := 13) rfl ?_); refine goesL_ (some 41) rfl rfl Tryd.func13 (by kernel_rfl) rfl #[.int .i64 ((rd_T52 l0 x8_2).f4), .int .i64 5] rfl zA ?_; (with_reducible refine (cooperagelaw16_pick.calls ((rd_T52 l0 x8_2).f4) 5 t573 _ A15.out).mono ?_); rintro e w' ⟨rfl, ⟨nd, rfl⟩⟩; refine ⟨_, rfl, ?_⟩; (try (rw [drewN_self wr]; generalize hq_ : World.drewN wr _ = wr; have n0_ : Aside0 (Kd.V k34 34 wr w.heap.size (fun k_ => some k_ ≠ (v570 : Value).ownBlock ∧ k_ ≠ gb568) u569001 x569001_2) := ⟨by rw [← hq_]; exact (zV HO_569001.out)⟩; have n1_ : Aside0 (Kd.V k32 32 wr w.heap.size (fun k_ => some k_ ≠ (v570 : Value).ownBlock ∧ k_ ≠ gb568) u569002 x569002_2) := ⟨by rw [← hq_]; exact (zV HO_569002.out)⟩; have n2_ : Aside0 (Kd.R (Kd.int .i64) 3 wr w.heap.size (fun _ => True) v570 x7_2) := ⟨by rw [← hq_]; exact (zR HO_7.out)⟩; have n3_ : Aside0 (wr.heap[gb568]? = some (.cells #[.int .i64 x569000_2, u569001, u569002] 27 (0, 0))) := ⟨by rw [← hq_]; exact (zK BK568.out)⟩; have n4_ : Aside0 (Below w.heap.size w wr) := ⟨by rw [← hq_]; exact (zL HB.out)⟩; clear HO_569001 HO_569002 HO_7 BK568 HB hq_; have HO_569001 := n0_; have HO_569002 := n1_; have HO_7 := n2_; have BK568 := n3_; have HB := n4_; clear n0_ n1_ n2_ n3_ n4_)); obtain ⟨hcz18_0, hcz18_1, hcz18_2, hfz18_0, hfz18_1, hfz18_2⟩ := zC3 BK568.out) | ((with_reducible refine gate_dst (N := 9) rfl ?_); (try (refine gate_guard (by rfl) ?_; dsimp only)); refine box_event ?hg (N := 9) ?hd (cs := #[.int .i64 0, .slice none 0 0, .slice none 0 0]) (t := 27) ?hr ?_; (case hd => rfl); (case hg => rfl); (case hr => first | (go_simp; done) | (go_simp; rfl)); intro gb574 hg w19 hbox hb; have n0_ := Aside0.mk (Kd.R_below (zR HO_7.out) hb); have n1_ := Aside0.mk (Kd.V_below (Kd.V_elderB (zV HO_569001.out) gb574 (Nat.le_of_eq hg.symm)) hb); have n2_ := Aside0.mk (Kd.V_below (Kd.V_elderB (zV HO_569002.out) gb574 (Nat.le_of_eq hg.symm)) hb); have n3_ := Aside0.mk (blk_below (g := gb568) (o := .cells #[.int .i64 x569000_2, u569001, u569002] 27 (0, 0)) (zK BK568.out) hb); have n4_ := Aside0.mk (below_step (zL HB.out) hb); have n5_ := Aside0.mk (hbox); have n6_ := Aside0.mk (zG hg (zL HB.out)); have n7_ := Aside0.mk (zG hg (zL HB.out)); have n8_ := Aside0.mk (zN (g := gb568) (o := .cells #[.int .i64 x569000_2, u569001, u569002] 27 (0, 0)) hg (zK BK568.out)); have n9_ := Aside0.mk (zO (g := gb568) (o := .cells #[.int .i64 x569000_2, u569001, u569002] 27 (0, 0)) hg (zK BK568.out)); revert n0_ n1_ n2_ n3_ n4_ n5_ n6_ n7_ n8_ n9_; clear HO_7 HO_569001 HO_569002 BK568 HB; intro HO_7 HO_569001 HO_569002 BK568 HB BK574 GW574 GE574 NB568_574 NB574_568; clear hb hbox hg; have hnb20 := NB574_568.out; have hnc20 := NB568_574.out; obtain ⟨hcz21_0, hcz21_1, hcz21_2, hfz21_0, hfz21_1, hfz21_2⟩ := zC3 BK574.out; obtain ⟨Ao22, co22, eo22⟩ := Kd.V_slice HO_569001.out; subst eo22; obtain ⟨Ao23, co23, eo23⟩ := Kd.V_slice HO_569002.out; subst eo23))
         have n0_ : Aside0 (Kd.R (Kd.int .i64) 3 (((w19.setCell ⟨gb574, 0, none⟩ (.int .i64 x569000_2)).setCell ⟨gb574, 1, none⟩ (.slice Ao22 x569001_2.length co22)).setCell ⟨gb574, 2, none⟩ (.slice Ao23 x569002_2.length co23)) w.heap.size (fun _ => True) v570 x7_2) := ⟨by (with_reducible repeat (first | apply Kd.R_alloc | apply Kd.R_drewN | apply Kd.R_drew)); exact Kd.R_mono (zNT HO_7.out BK574.out) (fun _ hk => trivial)⟩
         have n1_ : Aside0 (Kd.V k34 34 (((w19.setCell ⟨gb574, 0, none⟩ (.int .i64 x569000_2)).setCell ⟨gb574, 1, none⟩ (.slice Ao22 x569001_2.length co22)).setCell ⟨gb574, 2, none⟩ (.slice Ao23 x569002_2.length co23)) w.heap.size (fun k_ => some k_ ≠ (v570 : Value).ownBlock ∧ k_ ≠ gb568 ∧ k_ ≠ gb574) (.slice Ao22 x569001_2.length co22) x569001_2) := ⟨by (with_reducible repeat (first | apply Kd.V_alloc | apply Kd.V_drewN | apply Kd.V_drew)); exact Kd.V_mono (zNV HO_569001.out (g := gb574) (fun _ hk => hk.2)) (fun _ hk => ⟨hk.1.1.1, ⟨hk.1.1.2, hk.1.2⟩⟩)⟩
         have n2_ : Aside0 (Kd.V k32 32 (((w19.setCell ⟨gb574, 0, none⟩ (.int .i64 x569000_2)).setCell ⟨gb574, 1, none⟩ (.slice Ao22 x569001_2.length co22)).setCell ⟨gb574, 2, none⟩ (.slice Ao23 x569002_2.length co23)) w.heap.size (fun k_ => some k_ ≠ (v570 : Value).ownBlock ∧ k_ ≠ gb568 ∧ k_ ≠ gb574) (.slice Ao23 x569002_2.length co23) x569002_2) := ⟨by (with_reducible repeat (first | apply Kd.V_alloc | apply Kd.V_drewN | apply Kd.V_drew)); exact Kd.V_mono (zNV HO_569002.out (g := gb574) (fun _ hk => hk.2)) (fun _ hk => ⟨hk.1.1.1, ⟨hk.1.1.2, hk.1.2⟩⟩)⟩
         have n3_ : Aside0 ((((w19.setCell ⟨gb574, 0, none⟩ (.int .i64 x569000_2)).setCell ⟨gb574, 1, none⟩ (.slice Ao22 x569001_2.length co22)).setCell ⟨gb574, 2, none⟩ (.slice Ao23 x569002_2.length co23)).heap[gb568]? = some (.cells #[.int .i64 x569000_2, .slice Ao22 x569001_2.length co22, .slice Ao23 x569002_2.length co23] 27 (0, 0))) := ⟨zK BK568.out⟩
         have n4_ : Aside0 ((((w19.setCell ⟨gb574, 0, none⟩ (.int .i64 x569000_2)).setCell ⟨gb574, 1, none⟩ (.slice Ao22 x569001_2.length co22)).setCell ⟨gb574, 2, none⟩ (.slice Ao23 x569002_2.length co23)).heap[gb574]? = some (.cells #[.int .i64 x569000_2, .slice Ao22 x569001_2.length co22, .slice Ao23 x569002_2.length co23] 27 (0, 0))) := ⟨zP3 BK574.out⟩
         have n5_ : Aside0 (Below w.heap.size w (((w19.setCell ⟨gb574, 0, none⟩ (.int .i64 x569000_2)).setCell ⟨gb574, 1, none⟩ (.slice Ao22 x569001_2.length co22)).setCell ⟨gb574, 2, none⟩ (.slice Ao23 x569002_2.length co23))) := ⟨zL HB.out⟩
         (try clear HO_7)
         (try clear HO_569001)
         (try clear HO_569002)
         (try clear BK568)
         (try clear BK574)
         (try clear HB)
         generalize (((w19.setCell ⟨gb574, 0, none⟩ (.int .i64 x569000_2)).setCell ⟨gb574, 1, none⟩ (.slice Ao22 x569001_2.length co22)).setCell ⟨gb574, 2, none⟩ (.slice Ao23 x569002_2.length co23)) = w24 at n0_ n1_ n2_ n3_ n4_ n5_ ⊢
         have HO_7 := n0_
         have HO_569001 := n1_
         have HO_569002 := n2_
         have BK568 := n3_
         have BK574 := n4_
         have HB := n5_
         clear n0_ n1_ n2_ n3_ n4_ n5_
         have n0_ := Aside0.mk (Kd.R_drew HO_7.out)
         have n1_ := Aside0.mk (Kd.V_drew HO_569001.out)
         have n2_ := Aside0.mk (Kd.V_drew HO_569002.out)
         have n3_ := Aside0.mk (blk_drew BK568.out)
         have n4_ := Aside0.mk (blk_drew BK574.out)
         have n5_ := Aside0.mk (below_drew1 HB.out)
         clear HO_7
         clear HO_569001
         clear HO_569002
         clear BK568
         clear BK574
         clear HB
         have HO_7 := n0_
         have HO_569001 := n1_
         have HO_569002 := n2_
         have BK568 := n3_
         have BK574 := n4_
         have HB := n5_
         clear n0_ n1_ n2_ n3_ n4_ n5_
         have p575 : 0 ≤ (x8_2 : Int) := zD
         have q575 : x8_2 < (l0.length : Int) := zD
         obtain ⟨ad575, e575, hx575_0, hx575_1, hx575_2, hx575_3, hx575_4, hx575_5, hx575_6⟩ := at_T52 HR0.out x8_2 p575 q575
         have hw575_6 := hx575_6
         have hw575_5 := hx575_5
         have hw575_4 := hx575_4
         have hw575_3 := hx575_3
         have hw575_2 := hx575_2
         have hw575_1 := hx575_1
         have hw575_0 := hx575_0
         obtain rfl : ad572 = ad575 := (by injection e575)
         replace hx575_0 := zX HB.out hx575_0
         replace hx575_1 := zX HB.out hx575_1
         replace hx575_2 := zX HB.out hx575_2
         replace hx575_3 := zX HB.out hx575_3
         replace hx575_4 := zX HB.out hx575_4
         replace hx575_5 := zX HB.out hx575_5
         replace hx575_6 := zX HB.out hx575_6
         replace p575 := eq_true p575
         replace q575 := eq_true q575
         refine start_ (n := 12) (S := fun w' => w'.cell? ⟨gb568, 0, none⟩ = some (.int .i64 x569000_2) ∧ w'.cell? ⟨gb568, 1, none⟩ = some (.slice Ao22 x569001_2.length co22) ∧ w'.cell? ⟨gb568, 2, none⟩ = some (.slice Ao23 x569002_2.length co23) ∧ w'.cell? (ad572.add ((x8_2).toNat * 7)) = some (.int .i64 ((rd_T52 l0 x8_2).f0)) ∧ w'.cell? ⟨(ad572.add ((x8_2).toNat * 7)).block, (ad572.add ((x8_2).toNat * 7)).off + 1, none⟩ = some (.int .i64 ((rd_T52 l0 x8_2).f1)) ∧ w'.cell? ⟨(ad572.add ((x8_2).toNat * 7)).block, (ad572.add ((x8_2).toNat * 7)).off + 2, none⟩ = some (.int .i64 ((rd_T52 l0 x8_2).f2)) ∧ w'.cell? ⟨(ad572.add ((x8_2).toNat * 7)).block, (ad572.add ((x8_2).toNat * 7)).off + 3, none⟩ = some (.int .i64 ((rd_T52 l0 x8_2).f3)) ∧ w'.cell? ⟨(ad572.add ((x8_2).toNat * 7)).block, (ad572.add ((x8_2).toNat * 7)).off + 4, none⟩ = some (.int .i64 ((rd_T52 l0 x8_2).f4)) ∧ w'.cell? ⟨(ad572.add ((x8_2).toNat * 7)).block, (ad572.add ((x8_2).toNat * 7)).off + 5, none⟩ = some (.string ((rd_T52 l0 x8_2).f5)) ∧ w'.cell? ⟨(ad572.add ((x8_2).toNat * 7)).block, (ad572.add ((x8_2).toNat * 7)).off + 6, none⟩ = some (.bool ((rd_T52 l0 x8_2).f6))) (ds := [11]) #[false, false, false, false, false, false, false, false, false, false, false, false] (by kernel_rfl) rfl rfl ⟨(blk_cell BK568.out 0).trans rfl, (blk_cell BK568.out 1).trans rfl, (blk_cell BK568.out 2).trans rfl, (zX HB.out hw575_0), (zX HB.out hw575_1), (zX HB.out hw575_2), (zX HB.out hw575_3), (zX HB.out hw575_4), (zX HB.out hw575_5), (zX HB.out hw575_6)⟩ (fun hHeld => ?_); refine with_tabW cooperagelaw16_LeaseOver.tab13 cooperagelaw16_LeaseOver.bits13 (fun HT_ HW_ => ?_)
         generalize w24.drew = w25 at HO_7 HO_569001 HO_569002 BK568 BK574 HB hx575_0 hx575_1 hx575_2 hx575_3 hx575_4 hx575_5 hx575_6 hHeld ⊢
         refine pure_ (i := 1) (N := some 46) (v := ?_) (a' := ?_) #[false, true, false, false, false, false, false, false, false, false, false, false] rfl rfl (any_of HT_.out (by kernel_rfl)) (fun _ _ _ h => h) (Or.inl ⟨by rfl, ?_⟩) ?_ ?_
         rotate_left
         ·intro w'
          go_simp
          with_reducible rfl
         rotate_left
         ·simp only [Act.put, List.setIfInBounds_toArray, List.set_cons_zero, List.set_cons_succ, i64_w, i32_w]
          rfl
         refine pure_ (i := 2) (N := some 47) (v := ?_) (a' := ?_) #[false, true, true, false, false, false, false, false, false, false, false, false] rfl rfl (any_of HT_.out (by kernel_rfl)) (fun _ _ _ h => h) (Or.inl ⟨by rfl, ?_⟩) ?_ ?_
         rotate_left
         ·intro w'
          go_simp
          with_reducible rfl
         rotate_left
         ·simp only [Act.put, List.setIfInBounds_toArray, List.set_cons_zero, List.set_cons_succ, i64_w, i32_w]
          rfl
         refine pure_ (i := 3) (N := some 48) (v := ?_) (a' := ?_) #[false, true, true, true, false, false, false, false, false, false, false, false] rfl rfl (any_of HT_.out (by kernel_rfl)) (fun _ _ _ h => h) (Or.inl ⟨by rfl, ?_⟩) ?_ ?_
         rotate_left
         ·intro w'
          go_simp
          with_reducible rfl
         rotate_left
         ·simp only [Act.put, List.setIfInBounds_toArray, List.set_cons_zero, List.set_cons_succ, i64_w, i32_w]
          rfl
         refine pure_ (i := 5) (N := some 50) (v := ?_) (a' := ?_) #[false, true, true, true, false, true, false, false, false, false, false, false] rfl rfl (any_of HT_.out (by kernel_rfl)) (fun _ _ _ h => h) (Or.inl ⟨by rfl, ?_⟩) ?_ ?_
         rotate_left
         ·intro w'
          go_simp
          with_reducible rfl
         rotate_left
         ·simp only [Act.put, List.setIfInBounds_toArray, List.set_cons_zero, List.set_cons_succ, i64_w, i32_w]
          rfl
         refine take_ (i := 0) (N := some 45) (v := ?_) (a' := ?_) #[true, true, true, true, false, true, false, false, false, false, false, false] rfl rfl (take_ofW HT_.out HW_.out (by kernel_rfl)) (fun _ _ _ h => h) (Or.inl ⟨by rfl, ?_⟩) hHeld ?_ ?_
         rotate_left
         ·rintro w' ⟨s0, s1, s2, s3, s4, s5, s6, s7, s8, s9⟩
          go_simp
          with_reducible rfl
         rotate_left
         ·simp only [Act.put, List.setIfInBounds_toArray, List.set_cons_zero, List.set_cons_succ, i64_w, i32_w]
          rfl
         refine take_ (i := 4) (N := some 49) (v := ?_) (a' := ?_) #[true, true, true, true, true, true, false, false, false, false, false, false] rfl rfl (take_ofW HT_.out HW_.out (by kernel_rfl)) (fun _ _ _ h => h) (Or.inl ⟨by rfl, ?_⟩) hHeld ?_ ?_
         rotate_left
         ·rintro w' ⟨s0, s1, s2, s3, s4, s5, s6, s7, s8, s9⟩
          go_simp
          with_reducible rfl
         rotate_left
         ·simp only [Act.put, List.setIfInBounds_toArray, List.set_cons_zero, List.set_cons_succ, i64_w, i32_w]
          rfl
         refine one_ (i := 6) (N := some 51) #[true, true, true, true, true, true, true, false, false, false, false, false] rfl rfl (one_of HT_.out (by kernel_rfl)) (by decide) (fun K hK => ?_)
         refine goes_ Tryd.func17 (by kernel_rfl) rfl #[.agg #[.int .i64 x569000_2, .slice Ao22 x569001_2.length co22, .slice Ao23 x569002_2.length co23], .agg #[.int .i64 ((rd_T52 l0 x8_2).f0), .int .i64 ((rd_T52 l0 x8_2).f1), .int .i64 ((rd_T52 l0 x8_2).f2), .int .i64 ((rd_T52 l0 x8_2).f3), .int .i64 ((rd_T52 l0 x8_2).f4), .string ((rd_T52 l0 x8_2).f5), .bool ((rd_T52 l0 x8_2).f6)], .int .i64 (wrap64 (x6_2 + t573))] (by rfl) rfl rfl zA ?_
         with_reducible refine (cooperagelaw16_does.calls k2 x569000_2 (fun k_ => (some k_ ≠ (v570 : Value).ownBlock ∧ (k_ ≠ gb568 ∧ k_ ≠ gb574))) _ _ x569001_2 (fun k_ => (some k_ ≠ (v570 : Value).ownBlock ∧ (k_ ≠ gb568 ∧ k_ ≠ gb574))) _ _ x569002_2 ((rd_T52 l0 x8_2).f0) ((rd_T52 l0 x8_2).f1) ((rd_T52 l0 x8_2).f2) ((rd_T52 l0 x8_2).f3) ((rd_T52 l0 x8_2).f4) ((rd_T52 l0 x8_2).f5) ((rd_T52 l0 x8_2).f6) (wrap64 (x6_2 + t573)) t576 t577 t580 t583 t584 _ ?side1 ?side2 A16.out).mono ?_
         (case side1 => exact HO_569001.out)
         (case side2 => exact HO_569002.out)
         rintro e w26 ⟨v578, v581, rfl, ho0, ho1, hb⟩
         refine ⟨_, rfl, ?_⟩
         have n0_ := Aside0.mk (Kd.R_below (zR HO_7.out) hb)
         have n1_ := Aside0.mk (Kd.V_below (zV HO_569001.out) hb)
         have n2_ := Aside0.mk (Kd.V_below (zV HO_569002.out) hb)
         have n3_ := Aside0.mk (Kd.V_lower (Kd.V_mono (ok' := fun k_ => some k_ ≠ (v570 : Value).ownBlock ∧ k_ ≠ gb568 ∧ k_ ≠ gb574) ho0 (fun k_ hk_ => ⟨Or.elim hk_ (fun hs_ => Or.elim hs_ (fun hs_ => hs_.1) (fun hs_ => hs_.1)) (fun hn_ => (Kd.fresh' (Kd.R_lt (zR HO_7.out)) k_ hn_)), Or.elim hk_ (fun hs_ => Or.elim hs_ (fun hs_ => hs_.2.1) (fun hs_ => hs_.2.1)) (fun hn_ => (Kd.freshB (g := gb568) (o := .cells #[.int .i64 x569000_2, .slice Ao22 x569001_2.length co22, .slice Ao23 x569002_2.length co23] 27 (0, 0)) (zK BK568.out) k_ hn_)), Or.elim hk_ (fun hs_ => Or.elim hs_ (fun hs_ => hs_.2.2) (fun hs_ => hs_.2.2)) (fun hn_ => (Kd.freshB (g := gb574) (o := .cells #[.int .i64 x569000_2, .slice Ao22 x569001_2.length co22, .slice Ao23 x569002_2.length co23] 27 (0, 0)) (zK BK574.out) k_ hn_))⟩)) (below_size (zL HB.out)))
         have n4_ := Aside0.mk (Kd.V_lower (Kd.V_mono (ok' := fun k_ => some k_ ≠ (v570 : Value).ownBlock ∧ k_ ≠ gb568 ∧ k_ ≠ gb574) ho1 (fun k_ hk_ => ⟨Or.elim hk_ (fun hs_ => Or.elim hs_ (fun hs_ => hs_.1) (fun hs_ => hs_.1)) (fun hn_ => (Kd.fresh' (Kd.R_lt (zR HO_7.out)) k_ hn_)), Or.elim hk_ (fun hs_ => Or.elim hs_ (fun hs_ => hs_.2.1) (fun hs_ => hs_.2.1)) (fun hn_ => (Kd.freshB (g := gb568) (o := .cells #[.int .i64 x569000_2, .slice Ao22 x569001_2.length co22, .slice Ao23 x569002_2.length co23] 27 (0, 0)) (zK BK568.out) k_ hn_)), Or.elim hk_ (fun hs_ => Or.elim hs_ (fun hs_ => hs_.2.2) (fun hs_ => hs_.2.2)) (fun hn_ => (Kd.freshB (g := gb574) (o := .cells #[.int .i64 x569000_2, .slice Ao22 x569001_2.length co22, .slice Ao23 x569002_2.length co23] 27 (0, 0)) (zK BK574.out) k_ hn_))⟩)) (below_size (zL HB.out)))
         have n5_ := Aside0.mk (blk_below (g := gb568) (o := .cells #[.int .i64 x569000_2, .slice Ao22 x569001_2.length co22, .slice Ao23 x569002_2.length co23] 27 (0, 0)) (zK BK568.out) hb)
         have n6_ := Aside0.mk (blk_below (g := gb574) (o := .cells #[.int .i64 x569000_2, .slice Ao22 x569001_2.length co22, .slice Ao23 x569002_2.length co23] 27 (0, 0)) (zK BK574.out) hb)
         have n7_ := Aside0.mk (below_step (zL HB.out) hb)
         clear HO_7
         clear HO_569001
         clear HO_569002
         clear BK568
         clear BK574
         clear HB
         have HO_7 := n0_
         have HO_569001 := n1_
         have HO_569002 := n2_
         have HO579 := n3_
         have HO582 := n4_
         have BK568 := n5_
         have BK574 := n6_
         have HB := n7_
         clear n0_ n1_ n2_ n3_ n4_ n5_ n6_ n7_
         (try clear hb)
         (try clear hb2)
         (try clear hk)
         (try clear hi)
         (try clear ho0)
         (try clear ho1)
         obtain ⟨Ao28, co28, eo28⟩ := Kd.V_slice HO579.out
         (first | subst eo28 | (injection eo28 with f1_ f2_ f3_; have f4_ := f1_.symm; have f5_ := f3_.symm; clear f1_ f2_ f3_; subst f4_; subst f5_))
         obtain ⟨Ao30, co30, eo30⟩ := Kd.V_slice HO582.out
         (first | subst eo30 | (injection eo30 with f1_ f2_ f3_; have f4_ := f1_.symm; have f5_ := f3_.symm; clear f1_ f2_ f3_; subst f4_; subst f5_))
         refine hK.out _ _ ⟨(blk_cell BK568.out 0).trans rfl, (blk_cell BK568.out 1).trans rfl, (blk_cell BK568.out 2).trans rfl, (zX HB.out hw575_0), (zX HB.out hw575_1), (zX HB.out hw575_2), (zX HB.out hw575_3), (zX HB.out hw575_4), (zX HB.out hw575_5), (zX HB.out hw575_6)⟩ (fun hHeld => ?_)
         clear hK K
         refine norm_ (a' := ?_) ?_ ?_
         rotate_left
         ·show Act.put _ (some 51) _ = _
          simp only [Act.put, List.setIfInBounds_toArray, List.set_cons_zero, List.set_cons_succ, i64_w, i32_w]
          rfl
         refine pure_ (i := 7) (N := some 44) (v := ?_) (a' := ?_) #[true, true, true, true, true, true, true, true, false, false, false, false] rfl rfl (any_of HT_.out (by kernel_rfl)) (fun _ _ _ h => h) (Or.inl ⟨by rfl, ?_⟩) ?_ ?_
         rotate_left
         ·intro w'
          go_simp
          with_reducible rfl
         rotate_left
         ·simp only [Act.put, List.setIfInBounds_toArray, List.set_cons_zero, List.set_cons_succ, i64_w, i32_w]
          rfl
         refine pure_ (i := 8) (N := some 52) (v := ?_) (a' := ?_) #[true, true, true, true, true, true, true, true, true, false, false, false] rfl rfl (any_of HT_.out (by kernel_rfl)) (fun _ _ _ h => h) (Or.inl ⟨by rfl, ?_⟩) ?_ ?_
         rotate_left
         ·intro w'
          go_simp
          with_reducible rfl
         rotate_left
         ·simp only [Act.put, List.setIfInBounds_toArray, List.set_cons_zero, List.set_cons_succ, i64_w, i32_w]
          rfl
         refine pure_ (i := 9) (N := some 53) (v := ?_) (a' := ?_) #[true, true, true, true, true, true, true, true, true, true, false, false] rfl rfl (any_of HT_.out (by kernel_rfl)) (fun _ _ _ h => h) (Or.inl ⟨by rfl, ?_⟩) ?_ ?_
         rotate_left
         ·intro w'
          go_simp
          with_reducible rfl
         rotate_left
         ·simp only [Act.put, List.setIfInBounds_toArray, List.set_cons_zero, List.set_cons_succ, i64_w, i32_w]
          rfl
         refine pure_ (i := 10) (N := some 54) (v := ?_) (a' := ?_) #[true, true, true, true, true, true, true, true, true, true, true, false] rfl rfl (any_of HT_.out (by kernel_rfl)) (fun _ _ _ h => h) (Or.inl ⟨by rfl, ?_⟩) ?_ ?_
         rotate_left
         ·intro w'
          go_simp
          with_reducible rfl
         rotate_left
         ·simp only [Act.put, List.setIfInBounds_toArray, List.set_cons_zero, List.set_cons_succ, i64_w, i32_w]
          rfl
         refine last_ (i := 11) (N := none) #[true, true, true, true, true, true, true, true, true, true, true, true] rfl rfl (one_of HT_.out (by kernel_rfl)) (by decide) (fun K hK => ?_)
         have hs27 : w26.cell? ⟨gb568, 0, none⟩ = some (.int .i64 x569000_2) := (blk_cell BK568.out 0).trans rfl
         have hfs27 := blk_frozen BK568.out 0
         have hns27_1 := NB574_568.out
         have hms27_1 := NB568_574.out
         have hs29 : w26.cell? ⟨gb568, 1, none⟩ = some (.slice Ao22 x569001_2.length co22) := (blk_cell BK568.out 1).trans rfl
         have hfs29 := blk_frozen BK568.out 1
         have hns29_1 := NB574_568.out
         have hms29_1 := NB568_574.out
         have hs31 : w26.cell? ⟨gb568, 2, none⟩ = some (.slice Ao23 x569002_2.length co23) := (blk_cell BK568.out 2).trans rfl
         have hfs31 := blk_frozen BK568.out 2
         have hns31_1 := NB574_568.out
         have hms31_1 := NB568_574.out
         refine skip_ (w1 := ?_) (by rfl) rfl ?_ ?_
         rotate_left
         ·go_simp
          rfl
         refine hK.out _ _ ?_
         clear hK K
         refine done_ (done_of HT_.out (by kernel_rfl)) ?_
         go_upto_region 14 with (fail)
         go_cut [66] (fun v66 wc => ∃ (kq : Nat) (x66_16 : Bool), v66 = .bool x66_16 ∧ Aside0 (cooperagelaw16_LeaseOver.j2 kq l0 (wrap64 (x6_2 + t573)) x7_2 x8_2 x66_16 t576 t577 t580 x569000_2 x569001_2 x569002_2 = some r) ∧ Aside0 (kq ≤ k2) ∧ Aside0 (Kd.R (Kd.int .i64) 3 wc w.heap.size (fun _ => True) v570 x7_2) ∧ Aside0 (Kd.V k34 34 wc w.heap.size (fun k_ => some k_ ≠ (v570 : Value).ownBlock ∧ k_ ≠ gb568 ∧ k_ ≠ gb574) (.slice Ao28 t577.length co28) t577) ∧ Aside0 (Kd.V k32 32 wc w.heap.size (fun k_ => some k_ ≠ (v570 : Value).ownBlock ∧ k_ ≠ gb568 ∧ k_ ≠ gb574) (.slice Ao30 t580.length co30) t580) ∧ Aside0 (Kd.V k34 34 wc w.heap.size (fun k_ => some k_ ≠ (v570 : Value).ownBlock ∧ k_ ≠ gb568 ∧ k_ ≠ gb574) (.slice Ao22 x569001_2.length co22) x569001_2) ∧ Aside0 (Kd.V k32 32 wc w.heap.size (fun k_ => some k_ ≠ (v570 : Value).ownBlock ∧ k_ ≠ gb568 ∧ k_ ≠ gb574) (.slice Ao23 x569002_2.length co23) x569002_2) ∧ Aside0 (wc.heap[gb568]? = some (.cells #[.int .i64 t576, (.slice Ao28 t577.length co28), (.slice Ao30 t580.length co30)] 27 (0, 0))) ∧ Aside0 (wc.heap[gb574]? = some (.cells #[.int .i64 x569000_2, (.slice Ao22 x569001_2.length co22), (.slice Ao23 x569002_2.length co23)] 27 (0, 0))) ∧ Aside0 (Below w.heap.size w wc))
         case first =>
          have H := HC17.out
          clear HC17
          by_cases c32 : t576 < x569000_2
          ·rw [if_pos c32] at H
           have c32b0 : decide (t576 < x569000_2) = true := decide_eq_true c32
           clear c32
           (first | rw [c32b0] | (simp only [i64_w, i32_w]; rw [c32b0]) | skip)
           have H' := Aside0.mk H
           clear H
           have hnb33 := NB568_574.out
           have hnc33 := NB574_568.out
           obtain ⟨hcz34_0, hcz34_1, hcz34_2, hfz34_0, hfz34_1, hfz34_2⟩ := zC3 BK568.out
           obtain ⟨hcz35_0, hcz35_1, hcz35_2, hfz35_0, hfz35_1, hfz35_2⟩ := zC3 BK574.out
           go_wp2
           go_meet
           case rel => exact ⟨_, (true), zS, H', ⟨by have := HJ3.out; have := HK2.out; first | omega | exact Nat.le_refl _⟩, ⟨by (with_reducible repeat (first | apply Kd.R_alloc | apply Kd.R_drewN | apply Kd.R_drew)); exact Kd.R_mono (zNT HO_7.out BK568.out) (fun _ hk => trivial)⟩, ⟨by (with_reducible repeat (first | apply Kd.V_alloc | apply Kd.V_drewN | apply Kd.V_drew)); exact Kd.V_mono (zNV HO579.out (g := gb568) (fun _ hk => hk.2.1)) (fun _ hk => ⟨hk.1.1, ⟨hk.1.2.1, hk.1.2.2⟩⟩)⟩, ⟨by (with_reducible repeat (first | apply Kd.V_alloc | apply Kd.V_drewN | apply Kd.V_drew)); exact Kd.V_mono (zNV HO582.out (g := gb568) (fun _ hk => hk.2.1)) (fun _ hk => ⟨hk.1.1, ⟨hk.1.2.1, hk.1.2.2⟩⟩)⟩, ⟨by (with_reducible repeat (first | apply Kd.V_alloc | apply Kd.V_drewN | apply Kd.V_drew)); exact Kd.V_mono (zNV HO_569001.out (g := gb568) (fun _ hk => hk.2.1)) (fun _ hk => ⟨hk.1.1, ⟨hk.1.2.1, hk.1.2.2⟩⟩)⟩, ⟨by (with_reducible repeat (first | apply Kd.V_alloc | apply Kd.V_drewN | apply Kd.V_drew)); exact Kd.V_mono (zNV HO_569002.out (g := gb568) (fun _ hk => hk.2.1)) (fun _ hk => ⟨hk.1.1, ⟨hk.1.2.1, hk.1.2.2⟩⟩)⟩, ⟨zP3 BK568.out⟩, ⟨zK BK574.out⟩, ⟨zL HB.out⟩⟩
          ·rw [if_neg c32] at H
           have c32b0 : decide (t576 < x569000_2) = false := decide_eq_false c32
           clear c32
           (first | rw [c32b0] | (simp only [i64_w, i32_w]; rw [c32b0]) | skip)
           have H' := Aside0.mk H
           clear H
           have hnb36 := NB568_574.out
           have hnc36 := NB574_568.out
           obtain ⟨hcz37_0, hcz37_1, hcz37_2, hfz37_0, hfz37_1, hfz37_2⟩ := zC3 BK568.out
           obtain ⟨hcz38_0, hcz38_1, hcz38_2, hfz38_0, hfz38_1, hfz38_2⟩ := zC3 BK574.out
           obtain ⟨Ao39, co39, eo39⟩ := Kd.R_slice HO_7.out
           subst eo39
           go_wp2
           go_meet
           case rel => exact ⟨_, (decide (t576 ≥ (x7_2.length : Int))), zS, H', ⟨by have := HJ3.out; have := HK2.out; first | omega | exact Nat.le_refl _⟩, ⟨by (with_reducible repeat (first | apply Kd.R_alloc | apply Kd.R_drewN | apply Kd.R_drew)); exact Kd.R_mono (zNT HO_7.out BK568.out) (fun _ hk => trivial)⟩, ⟨by (with_reducible repeat (first | apply Kd.V_alloc | apply Kd.V_drewN | apply Kd.V_drew)); exact Kd.V_mono (zNV HO579.out (g := gb568) (fun _ hk => hk.2.1)) (fun _ hk => ⟨hk.1.1, ⟨hk.1.2.1, hk.1.2.2⟩⟩)⟩, ⟨by (with_reducible repeat (first | apply Kd.V_alloc | apply Kd.V_drewN | apply Kd.V_drew)); exact Kd.V_mono (zNV HO582.out (g := gb568) (fun _ hk => hk.2.1)) (fun _ hk => ⟨hk.1.1, ⟨hk.1.2.1, hk.1.2.2⟩⟩)⟩, ⟨by (with_reducible repeat (first | apply Kd.V_alloc | apply Kd.V_drewN | apply Kd.V_drew)); exact Kd.V_mono (zNV HO_569001.out (g := gb568) (fun _ hk => hk.2.1)) (fun _ hk => ⟨hk.1.1, ⟨hk.1.2.1, hk.1.2.2⟩⟩)⟩, ⟨by (with_reducible repeat (first | apply Kd.V_alloc | apply Kd.V_drewN | apply Kd.V_drew)); exact Kd.V_mono (zNV HO_569002.out (g := gb568) (fun _ hk => hk.2.1)) (fun _ hk => ⟨hk.1.1, ⟨hk.1.2.1, hk.1.2.2⟩⟩)⟩, ⟨zP3 BK568.out⟩, ⟨zK BK574.out⟩, ⟨zL HB.out⟩⟩
         case rest =>
          clear HC17
          try clear c1
          try clear c2
          try clear p2
          try clear c3
          try clear p5
          try clear q5
          try clear hx5
          try clear c6
          try clear p6
          try clear c7
          try clear c8
          try clear c8b0
          try clear c8b1
          try clear c9
          try clear c13
          try clear c13b0
          try clear c14
          try clear c14b0
          try clear c16
          try clear c17
          try clear c20
          try clear c32
          try clear c32b0
          try clear c33
          try clear c36
          try clear hcz10_0
          try clear hcz10_1
          try clear hcz10_2
          try clear hcz18_0
          try clear hcz18_1
          try clear hcz18_2
          try clear hcz21_0
          try clear hcz21_1
          try clear hcz21_2
          try clear hcz34_0
          try clear hcz34_1
          try clear hcz34_2
          try clear hcz35_0
          try clear hcz35_1
          try clear hcz35_2
          try clear hcz37_0
          try clear hcz37_1
          try clear hcz37_2
          try clear hcz38_0
          try clear hcz38_1
          try clear hcz38_2
          try clear hfz10_0
          try clear hfz10_1
          try clear hfz10_2
          try clear hfz18_0
          try clear hfz18_1
          try clear hfz18_2
          try clear hfz21_0
          try clear hfz21_1
          try clear hfz21_2
          try clear hfz34_0
          try clear hfz34_1
          try clear hfz34_2
          try clear hfz35_0
          try clear hfz35_1
          try clear hfz35_2
          try clear hfz37_0
          try clear hfz37_1
          try clear hfz37_2
          try clear hfz38_0
          try clear hfz38_1
          try clear hfz38_2
          try clear hx572_0
          try clear hx572_1
          try clear hx572_2
          try clear hx572_3
          try clear hx572_4
          try clear hx572_5
          try clear hx572_6
          try clear hx575_0
          try clear hx575_1
          try clear hx575_2
          try clear hx575_3
          try clear hx575_4
          try clear hx575_5
          try clear hx575_6
          try clear p2
          try clear p572
          try clear p575
          try clear q572
          try clear q575
          obtain ⟨kq, x66_16, rfl, HA, HJ16, HO_7, HO_569001, HO_569002, HO_575001, HO_575002, BK568, BK574, HB⟩ := hcut
          cases kq with
          | zero => exact absurd HA.out (by simp [cooperagelaw16_LeaseOver.j2])
          | succ kj16 =>
           have H := HA.out
           clear HA
           simp only [cooperagelaw16_LeaseOver.j2] at H
           by_cases c40 : x66_16 = true
           ·subst c40
            have H1 : (some (decide (t576 ≥ x569000_2))) = some r := by rw [if_pos rfl] at H; exact H
            clear H
            have H := H1
            clear H1
            obtain rfl := Option.some.inj H
            have hnb41 := NB568_574.out
            have hnc41 := NB574_568.out
            obtain ⟨hcz42_0, hcz42_1, hcz42_2, hfz42_0, hfz42_1, hfz42_2⟩ := zC3 BK568.out
            obtain ⟨hcz43_0, hcz43_1, hcz43_2, hfz43_0, hfz43_1, hfz43_2⟩ := zC3 BK574.out
            go_wp2
            go_ret
            exact ⟨zE, zL HB.out⟩
           ·replace c40 := Bool.eq_false_iff.mpr c40
            subst c40
            have H1 : (cooperagelaw16_LeaseOver.l1 kj16 l0 (wrap64 (x6_2 + t573)) x7_2 x8_2 1 t576 t577 t580) = some r := by rw [if_neg (show ¬ (false = true) by decide)] at H; exact H
            clear H
            have H := H1
            clear H1
            have H' := Aside0.mk H
            clear H
            go_wp2
            go_loopg [10] kj16 (fun kq v10 w' => ∃ (x7_4 : List Int) (x10_4 : Int), v10 = .int .i64 x10_4 ∧ Aside0 (cooperagelaw16_LeaseOver.l1 kq l0 (wrap64 (x6_2 + t573)) x7_4 x8_2 x10_4 t576 t577 t580 = some r) ∧ Aside0 (kq ≤ kj16) ∧ Aside0 (Kd.R (Kd.int .i64) 3 w' w.heap.size (fun _ => True) v570 x7_4) ∧ Aside0 (Kd.V k34 34 w' w.heap.size (fun k_ => some k_ ≠ (v570 : Value).ownBlock ∧ k_ ≠ gb568 ∧ k_ ≠ gb574) (.slice Ao28 t577.length co28) t577) ∧ Aside0 (Kd.V k32 32 w' w.heap.size (fun k_ => some k_ ≠ (v570 : Value).ownBlock ∧ k_ ≠ gb568 ∧ k_ ≠ gb574) (.slice Ao30 t580.length co30) t580) ∧ Aside0 (Kd.V k34 34 w' w.heap.size (fun k_ => some k_ ≠ (v570 : Value).ownBlock ∧ k_ ≠ gb568 ∧ k_ ≠ gb574) (.slice Ao22 x569001_2.length co22) x569001_2) ∧ Aside0 (Kd.V k32 32 w' w.heap.size (fun k_ => some k_ ≠ (v570 : Value).ownBlock ∧ k_ ≠ gb568 ∧ k_ ≠ gb574) (.slice Ao23 x569002_2.length co23) x569002_2) ∧ Aside0 (w'.heap[gb568]? = some (.cells #[.int .i64 t576, (.slice Ao28 t577.length co28), (.slice Ao30 t580.length co30)] 27 (0, 0))) ∧ Aside0 (w'.heap[gb574]? = some (.cells #[.int .i64 x569000_2, (.slice Ao22 x569001_2.length co22), (.slice Ao23 x569002_2.length co23)] 27 (0, 0))) ∧ Aside0 (Below w.heap.size w w'))
            case atStart => exact ⟨(x7_2), (1), zS, H', ⟨Nat.le_refl _⟩, ⟨by (with_reducible repeat (first | apply Kd.R_alloc | apply Kd.R_drewN | apply Kd.R_drew)); exact HO_7.out⟩, ⟨by (with_reducible repeat (first | apply Kd.V_alloc | apply Kd.V_drewN | apply Kd.V_drew)); exact HO_569001.out⟩, ⟨by (with_reducible repeat (first | apply Kd.V_alloc | apply Kd.V_drewN | apply Kd.V_drew)); exact HO_569002.out⟩, ⟨by (with_reducible repeat (first | apply Kd.V_alloc | apply Kd.V_drewN | apply Kd.V_drew)); exact HO_575001.out⟩, ⟨by (with_reducible repeat (first | apply Kd.V_alloc | apply Kd.V_drewN | apply Kd.V_drew)); exact HO_575002.out⟩, ⟨zK BK568.out⟩, ⟨zK BK574.out⟩, ⟨zL HB.out⟩⟩
            case round =>
             clear H'
             try clear c1
             try clear c2
             try clear p2
             try clear c3
             try clear c4
             try clear p5
             try clear q5
             try clear hx5
             try clear c6
             try clear p6
             try clear c7
             try clear c8
             try clear c8b0
             try clear c8b1
             try clear c9
             try clear c13
             try clear c13b0
             try clear c14
             try clear c14b0
             try clear c16
             try clear c17
             try clear c20
             try clear c32
             try clear c32b0
             try clear c33
             try clear c36
             try clear c40
             try clear c41
             try clear hcz10_0
             try clear hcz10_1
             try clear hcz10_2
             try clear hcz18_0
             try clear hcz18_1
             try clear hcz18_2
             try clear hcz21_0
             try clear hcz21_1
             try clear hcz21_2
             try clear hcz34_0
             try clear hcz34_1
             try clear hcz34_2
             try clear hcz35_0
             try clear hcz35_1
             try clear hcz35_2
             try clear hcz37_0
             try clear hcz37_1
             try clear hcz37_2
             try clear hcz38_0
             try clear hcz38_1
             try clear hcz38_2
             try clear hcz42_0
             try clear hcz42_1
             try clear hcz42_2
             try clear hcz43_0
             try clear hcz43_1
             try clear hcz43_2
             try clear hfz10_0
             try clear hfz10_1
             try clear hfz10_2
             try clear hfz18_0
             try clear hfz18_1
             try clear hfz18_2
             try clear hfz21_0
             try clear hfz21_1
             try clear hfz21_2
             try clear hfz34_0
             try clear hfz34_1
             try clear hfz34_2
             try clear hfz35_0
             try clear hfz35_1
             try clear hfz35_2
             try clear hfz37_0
             try clear hfz37_1
             try clear hfz37_2
             try clear hfz38_0
             try clear hfz38_1
             try clear hfz38_2
             try clear hfz42_0
             try clear hfz42_1
             try clear hfz42_2
             try clear hfz43_0
             try clear hfz43_1
             try clear hfz43_2
             try clear hx572_0
             try clear hx572_1
             try clear hx572_2
             try clear hx572_3
             try clear hx572_4
             try clear hx572_5
             try clear hx572_6
             try clear hx575_0
             try clear hx575_1
             try clear hx575_2
             try clear hx575_3
             try clear hx575_4
             try clear hx575_5
             try clear hx575_6
             try clear p2
             try clear p5
             try clear p572
             try clear p575
             try clear p6
             try clear q5
             try clear q572
             try clear q575
             obtain ⟨x7_4, x10_4, rfl, HA, HK4, HO_7, HO_569001, HO_569002, HO_575001, HO_575002, BK568, BK574, HB⟩ := hrel
             cases gk with
             | zero => exact absurd HA.out (by simp [cooperagelaw16_LeaseOver.l1])
             | succ k4 =>
              have H := HA.out
              clear HA
              simp only [cooperagelaw16_LeaseOver.l1] at H
              by_cases c44 : x10_4 ≤ t576
              ·rw [if_pos c44] at H
               have c44b0 : decide (x10_4 ≤ t576) = true := decide_eq_true c44
               clear c44
               have H' := Aside0.mk H
               clear H
               have hnb45 := NB568_574.out
               have hnc45 := NB574_568.out
               obtain ⟨hcz46_0, hcz46_1, hcz46_2, hfz46_0, hfz46_1, hfz46_2⟩ := zC3 BK568.out
               go_wp2
               go_loopg [11, 12] k4 (fun kq v11 v12 w' => ∃ (x11_5 : Bool) (x12_5 : Int), v11 = .bool x11_5 ∧ v12 = .int .i64 x12_5 ∧ Aside0 (cooperagelaw16_LeaseOver.l2 kq l0 (wrap64 (x6_2 + t573)) x7_4 x8_2 x10_4 x11_5 x12_5 t576 t577 t580 = some r) ∧ Aside0 (kq ≤ k4) ∧ Aside0 (Kd.R (Kd.int .i64) 3 w' w.heap.size (fun _ => True) v570 x7_4) ∧ Aside0 (Kd.V k34 34 w' w.heap.size (fun k_ => some k_ ≠ (v570 : Value).ownBlock ∧ k_ ≠ gb568 ∧ k_ ≠ gb574) (.slice Ao28 t577.length co28) t577) ∧ Aside0 (Kd.V k32 32 w' w.heap.size (fun k_ => some k_ ≠ (v570 : Value).ownBlock ∧ k_ ≠ gb568 ∧ k_ ≠ gb574) (.slice Ao30 t580.length co30) t580) ∧ Aside0 (Kd.V k34 34 w' w.heap.size (fun k_ => some k_ ≠ (v570 : Value).ownBlock ∧ k_ ≠ gb568 ∧ k_ ≠ gb574) (.slice Ao22 x569001_2.length co22) x569001_2) ∧ Aside0 (Kd.V k32 32 w' w.heap.size (fun k_ => some k_ ≠ (v570 : Value).ownBlock ∧ k_ ≠ gb568 ∧ k_ ≠ gb574) (.slice Ao23 x569002_2.length co23) x569002_2) ∧ Aside0 (w'.heap[gb568]? = some (.cells #[.int .i64 t576, (.slice Ao28 t577.length co28), (.slice Ao30 t580.length co30)] 27 (0, 0))) ∧ Aside0 (w'.heap[gb574]? = some (.cells #[.int .i64 x569000_2, (.slice Ao22 x569001_2.length co22), (.slice Ao23 x569002_2.length co23)] 27 (0, 0))) ∧ Aside0 (Below w.heap.size w w'))
               case atStart => exact ⟨(false), (0), zS, zS, H', ⟨Nat.le_refl _⟩, ⟨by (with_reducible repeat (first | apply Kd.R_alloc | apply Kd.R_drewN | apply Kd.R_drew)); exact HO_7.out⟩, ⟨by (with_reducible repeat (first | apply Kd.V_alloc | apply Kd.V_drewN | apply Kd.V_drew)); exact HO_569001.out⟩, ⟨by (with_reducible repeat (first | apply Kd.V_alloc | apply Kd.V_drewN | apply Kd.V_drew)); exact HO_569002.out⟩, ⟨by (with_reducible repeat (first | apply Kd.V_alloc | apply Kd.V_drewN | apply Kd.V_drew)); exact HO_575001.out⟩, ⟨by (with_reducible repeat (first | apply Kd.V_alloc | apply Kd.V_drewN | apply Kd.V_drew)); exact HO_575002.out⟩, ⟨zK BK568.out⟩, ⟨zK BK574.out⟩, ⟨zL HB.out⟩⟩
               case round =>
                clear H'
                try clear c1
                try clear c2
                try clear p2
                try clear c3
                try clear c4
                try clear p5
                try clear q5
                try clear hx5
                try clear c6
                try clear p6
                try clear c7
                try clear c8
                try clear c8b0
                try clear c8b1
                try clear c9
                try clear c13
                try clear c13b0
                try clear c14
                try clear c14b0
                try clear c16
                try clear c17
                try clear c20
                try clear c32
                try clear c32b0
                try clear c33
                try clear c36
                try clear c40
                try clear c41
                try clear c44
                try clear c44b0
                try clear c45
                try clear hcz10_0
                try clear hcz10_1
                try clear hcz10_2
                try clear hcz18_0
                try clear hcz18_1
                try clear hcz18_2
                try clear hcz21_0
                try clear hcz21_1
                try clear hcz21_2
                try clear hcz34_0
                try clear hcz34_1
                try clear hcz34_2
                try clear hcz35_0
                try clear hcz35_1
                try clear hcz35_2
                try clear hcz37_0
                try clear hcz37_1
                try clear hcz37_2
                try clear hcz38_0
                try clear hcz38_1
                try clear hcz38_2
                try clear hcz42_0
                try clear hcz42_1
                try clear hcz42_2
                try clear hcz43_0
                try clear hcz43_1
                try clear hcz43_2
                try clear hcz46_0
                try clear hcz46_1
                try clear hcz46_2
                try clear hfz10_0
                try clear hfz10_1
                try clear hfz10_2
                try clear hfz18_0
                try clear hfz18_1
                try clear hfz18_2
                try clear hfz21_0
                try clear hfz21_1
                try clear hfz21_2
                try clear hfz34_0
                try clear hfz34_1
                try clear hfz34_2
                try clear hfz35_0
                try clear hfz35_1
                try clear hfz35_2
                try clear hfz37_0
                try clear hfz37_1
                try clear hfz37_2
                try clear hfz38_0
                try clear hfz38_1
                try clear hfz38_2
                try clear hfz42_0
                try clear hfz42_1
                try clear hfz42_2
                try clear hfz43_0
                try clear hfz43_1
                try clear hfz43_2
                try clear hfz46_0
                try clear hfz46_1
                try clear hfz46_2
                try clear hx572_0
                try clear hx572_1
                try clear hx572_2
                try clear hx572_3
                try clear hx572_4
                try clear hx572_5
                try clear hx572_6
                try clear hx575_0
                try clear hx575_1
                try clear hx575_2
                try clear hx575_3
                try clear hx575_4
                try clear hx575_5
                try clear hx575_6
                try clear p2
                try clear p5
                try clear p572
                try clear p575
                try clear p6
                try clear q5
                try clear q572
                try clear q575
                obtain ⟨x11_5, x12_5, rfl, rfl, HA, HK5, HO_7, HO_569001, HO_569002, HO_575001, HO_575002, BK568, BK574, HB⟩ := hrel
                cases gk with
                | zero => exact absurd HA.out (by simp [cooperagelaw16_LeaseOver.l2])
                | succ k5 =>
                 have H := HA.out
                 clear HA
                 simp only [cooperagelaw16_LeaseOver.l2] at H
                 by_cases c47 : x12_5 < (t577.length : Int)
                 ·rw [if_pos c47] at H
                  have c47b0 : decide (x12_5 < (t577.length : Int)) = true := decide_eq_true c47
                  clear c47
                  by_cases c48 : x11_5 = true
                  ·subst c48
                   have H1 : (cooperagelaw16_LeaseOver.l2 k5 l0 (wrap64 (x6_2 + t573)) x7_4 x8_2 x10_4 true (wrap64 (x12_5 + 1)) t576 t577 t580) = some r := by rw [if_pos rfl] at H; exact H
                   clear H
                   have H := H1
                   clear H1
                   have H' := Aside0.mk H
                   clear H
                   have hnb49 := NB568_574.out
                   have hnc49 := NB574_568.out
                   obtain ⟨hcz50_0, hcz50_1, hcz50_2, hfz50_0, hfz50_1, hfz50_2⟩ := zC3 BK568.out
                   go_wp2
                   go_roundg k5
                   case measure => have := HJ3.out; have := HK2.out; have := HJ16.out; have := HK4.out; have := HK5.out; omega
                   case rel => exact ⟨(true), (wrap64 (x12_5 + 1)), zS, zS, H', ⟨by have := HJ3.out; have := HK2.out; have := HJ16.out; have := HK4.out; have := HK5.out; omega⟩, ⟨by (with_reducible repeat (first | apply Kd.R_alloc | apply Kd.R_drewN | apply Kd.R_drew)); exact HO_7.out⟩, ⟨by (with_reducible repeat (first | apply Kd.V_alloc | apply Kd.V_drewN | apply Kd.V_drew)); exact HO_569001.out⟩, ⟨by (with_reducible repeat (first | apply Kd.V_alloc | apply Kd.V_drewN | apply Kd.V_drew)); exact HO_569002.out⟩, ⟨by (with_reducible repeat (first | apply Kd.V_alloc | apply Kd.V_drewN | apply Kd.V_drew)); exact HO_575001.out⟩, ⟨by (with_reducible repeat (first | apply Kd.V_alloc | apply Kd.V_drewN | apply Kd.V_drew)); exact HO_575002.out⟩, ⟨zK BK568.out⟩, ⟨zK BK574.out⟩, ⟨zL HB.out⟩⟩
                  ·replace c48 := Bool.eq_false_iff.mpr c48
                   subst c48
                   have H1 : (if 0 ≤ x12_5 then (cooperagelaw16_LeaseOver.l2 k5 l0 (wrap64 (x6_2 + t573)) x7_4 x8_2 x10_4 (((rd_T34 t577 x12_5).f3) == x10_4) (wrap64 (x12_5 + 1)) t576 t577 t580) else (none)) = some r := by rw [if_neg (show ¬ (false = true) by decide)] at H; exact H
                   clear H
                   have H := H1
                   clear H1
                   by_cases c51 : 0 ≤ x12_5
                   ·rw [if_pos c51] at H
                    have c51b0 : decide (0 ≤ x12_5) = true := decide_eq_true c51
                    clear c51
                    have H' := Aside0.mk H
                    clear H
                    have hnb52 := NB568_574.out
                    have hnc52 := NB574_568.out
                    obtain ⟨hcz53_0, hcz53_1, hcz53_2, hfz53_0, hfz53_1, hfz53_2⟩ := zC3 BK568.out
                    have p585 : 0 ≤ (x12_5 : Int) := zD
                    have q585 : x12_5 < (t577.length : Int) := zD
                    obtain ⟨ad585, e585, hx585_0, hx585_1, hx585_2, hx585_3, hx585_4⟩ := at_T34 (Kd.V_reads' HO_569001.out).2.2 x12_5 p585 q585
                    cases e585
                    replace p585 := eq_true p585
                    replace q585 := eq_true q585
                    go_wp2
                    go_roundg k5
                    case measure => have := HJ3.out; have := HK2.out; have := HJ16.out; have := HK4.out; have := HK5.out; omega
                    case rel => exact ⟨((((rd_T34 t577 x12_5).f3) == x10_4)), (wrap64 (x12_5 + 1)), zS, zS, H', ⟨by have := HJ3.out; have := HK2.out; have := HJ16.out; have := HK4.out; have := HK5.out; omega⟩, ⟨by (with_reducible repeat (first | apply Kd.R_alloc | apply Kd.R_drewN | apply Kd.R_drew)); exact HO_7.out⟩, ⟨by (with_reducible repeat (first | apply Kd.V_alloc | apply Kd.V_drewN | apply Kd.V_drew)); exact HO_569001.out⟩, ⟨by (with_reducible repeat (first | apply Kd.V_alloc | apply Kd.V_drewN | apply Kd.V_drew)); exact HO_569002.out⟩, ⟨by (with_reducible repeat (first | apply Kd.V_alloc | apply Kd.V_drewN | apply Kd.V_drew)); exact HO_575001.out⟩, ⟨by (with_reducible repeat (first | apply Kd.V_alloc | apply Kd.V_drewN | apply Kd.V_drew)); exact HO_575002.out⟩, ⟨zK BK568.out⟩, ⟨zK BK574.out⟩, ⟨zL HB.out⟩⟩
                   ·rw [if_neg c51] at H
                    exact absurd H (by simp)
                 ·rw [if_neg c47] at H
                  have c47b0 : decide (x12_5 < (t577.length : Int)) = false := decide_eq_false c47
                  clear c47
                  have HC54 := Aside0.mk H
                  clear H
                  have hnb55 := NB568_574.out
                  have hnc55 := NB574_568.out
                  obtain ⟨hcz56_0, hcz56_1, hcz56_2, hfz56_0, hfz56_1, hfz56_2⟩ := zC3 BK568.out
                  go_upto_region 24 with (fail)
                  go_cut [103] (fun v103 wc => ∃ (kq : Nat) (x103_53 : Bool), v103 = .bool x103_53 ∧ Aside0 (cooperagelaw16_LeaseOver.j5 kq l0 (wrap64 (x6_2 + t573)) x7_4 x8_2 x10_4 x11_5 x103_53 t576 t577 t580 = some r) ∧ Aside0 (kq ≤ k5) ∧ Aside0 (Kd.R (Kd.int .i64) 3 wc w.heap.size (fun _ => True) v570 x7_4) ∧ Aside0 (Kd.V k34 34 wc w.heap.size (fun k_ => some k_ ≠ (v570 : Value).ownBlock ∧ k_ ≠ gb568 ∧ k_ ≠ gb574) (.slice Ao28 t577.length co28) t577) ∧ Aside0 (Kd.V k32 32 wc w.heap.size (fun k_ => some k_ ≠ (v570 : Value).ownBlock ∧ k_ ≠ gb568 ∧ k_ ≠ gb574) (.slice Ao30 t580.length co30) t580) ∧ Aside0 (Kd.V k34 34 wc w.heap.size (fun k_ => some k_ ≠ (v570 : Value).ownBlock ∧ k_ ≠ gb568 ∧ k_ ≠ gb574) (.slice Ao22 x569001_2.length co22) x569001_2) ∧ Aside0 (Kd.V k32 32 wc w.heap.size (fun k_ => some k_ ≠ (v570 : Value).ownBlock ∧ k_ ≠ gb568 ∧ k_ ≠ gb574) (.slice Ao23 x569002_2.length co23) x569002_2) ∧ Aside0 (wc.heap[gb568]? = some (.cells #[.int .i64 t576, (.slice Ao28 t577.length co28), (.slice Ao30 t580.length co30)] 27 (0, 0))) ∧ Aside0 (wc.heap[gb574]? = some (.cells #[.int .i64 x569000_2, (.slice Ao22 x569001_2.length co22), (.slice Ao23 x569002_2.length co23)] 27 (0, 0))) ∧ Aside0 (Below w.heap.size w wc))
                  case first =>
                   have H := HC54.out
                   clear HC54
                   by_cases c57 : x11_5 = true
                   ·subst c57
                    have H1 : (if 0 ≤ x10_4 then (if x10_4 < (x7_4.length : Int) then (cooperagelaw16_LeaseOver.j5 k5 l0 (wrap64 (x6_2 + t573)) x7_4 x8_2 x10_4 true (decide ((rd x7_4 x10_4) > 0)) t576 t577 t580) else (none)) else (none)) = some r := by rw [if_pos rfl] at H; exact H
                    clear H
                    have H := H1
                    clear H1
                    by_cases c58 : 0 ≤ x10_4
                    ·rw [if_pos c58] at H
                     have c58b0 : decide (0 ≤ x10_4) = true := decide_eq_true c58
                     clear c58
                     (first | rw [c58b0] | (simp only [i64_w, i32_w]; rw [c58b0]) | skip)
                     by_cases c59 : x10_4 < (x7_4.length : Int)
                     ·rw [if_pos c59] at H
                      have c59b0 : decide (x10_4 < (x7_4.length : Int)) = true := decide_eq_true c59
                      clear c59
                      have H' := Aside0.mk H
                      clear H
                      obtain ⟨Ao60, co60, eo60⟩ := Kd.R_slice HO_7.out
                      subst eo60
                      have p586 : 0 ≤ (x10_4 : Int) := zD
                      have q586 : x10_4 < (x7_4.length : Int) := zD
                      obtain ⟨ad586, e586, hx586_0⟩ := Kd.at_int (Kd.R_reads' HO_7.out).2.2 x10_4 p586 q586
                      cases e586
                      replace p586 := eq_true p586
                      replace q586 := eq_true q586
                      go_wp2
                      go_meet
                      case rel => exact ⟨_, (decide ((rd x7_4 x10_4) > 0)), zS, H', ⟨by have := HJ3.out; have := HK2.out; have := HJ16.out; have := HK4.out; have := HK5.out; first | omega | exact Nat.le_refl _⟩, ⟨by (with_reducible repeat (first | apply Kd.R_alloc | apply Kd.R_drewN | apply Kd.R_drew)); exact HO_7.out⟩, ⟨by (with_reducible repeat (first | apply Kd.V_alloc | apply Kd.V_drewN | apply Kd.V_drew)); exact HO_569001.out⟩, ⟨by (with_reducible repeat (first | apply Kd.V_alloc | apply Kd.V_drewN | apply Kd.V_drew)); exact HO_569002.out⟩, ⟨by (with_reducible repeat (first | apply Kd.V_alloc | apply Kd.V_drewN | apply Kd.V_drew)); exact HO_575001.out⟩, ⟨by (with_reducible repeat (first | apply Kd.V_alloc | apply Kd.V_drewN | apply Kd.V_drew)); exact HO_575002.out⟩, ⟨zK BK568.out⟩, ⟨zK BK574.out⟩, ⟨zL HB.out⟩⟩
                     ·rw [if_neg c59] at H
                      exact absurd H (by simp)
                    ·rw [if_neg c58] at H
                     exact absurd H (by simp)
                   ·replace c57 := Bool.eq_false_iff.mpr c57
                    subst c57
                    have H1 : (cooperagelaw16_LeaseOver.j5 k5 l0 (wrap64 (x6_2 + t573)) x7_4 x8_2 x10_4 false false t576 t577 t580) = some r := by rw [if_neg (show ¬ (false = true) by decide)] at H; exact H
                    clear H
                    have H := H1
                    clear H1
                    have H' := Aside0.mk H
                    clear H
                    go_wp2
                    go_meet
                    case rel => exact ⟨_, (false), zS, H', ⟨by have := HJ3.out; have := HK2.out; have := HJ16.out; have := HK4.out; have := HK5.out; first | omega | exact Nat.le_refl _⟩, ⟨by (with_reducible repeat (first | apply Kd.R_alloc | apply Kd.R_drewN | apply Kd.R_drew)); exact HO_7.out⟩, ⟨by (with_reducible repeat (first | apply Kd.V_alloc | apply Kd.V_drewN | apply Kd.V_drew)); exact HO_569001.out⟩, ⟨by (with_reducible repeat (first | apply Kd.V_alloc | apply Kd.V_drewN | apply Kd.V_drew)); exact HO_569002.out⟩, ⟨by (with_reducible repeat (first | apply Kd.V_alloc | apply Kd.V_drewN | apply Kd.V_drew)); exact HO_575001.out⟩, ⟨by (with_reducible repeat (first | apply Kd.V_alloc | apply Kd.V_drewN | apply Kd.V_drew)); exact HO_575002.out⟩, ⟨zK BK568.out⟩, ⟨zK BK574.out⟩, ⟨zL HB.out⟩⟩
                  case rest =>
                   clear HC54
                   try clear c1
                   try clear c2
                   try clear p2
                   try clear c3
                   try clear c4
                   try clear c5
                   try clear p5
                   try clear q5
                   try clear hx5
                   try clear c6
                   try clear p6
                   try clear c7
                   try clear c8
                   try clear c8b0
                   try clear c8b1
                   try clear c9
                   try clear c13
                   try clear c13b0
                   try clear c14
                   try clear c14b0
                   try clear c16
                   try clear c17
                   try clear c20
                   try clear c32
                   try clear c32b0
                   try clear c33
                   try clear c36
                   try clear c40
                   try clear c41
                   try clear c44
                   try clear c44b0
                   try clear c45
                   try clear c47
                   try clear c47b0
                   try clear c48
                   try clear c49
                   try clear c51
                   try clear c51b0
                   try clear c52
                   try clear c55
                   try clear c57
                   try clear p57
                   try clear q57
                   try clear hx57
                   try clear c58
                   try clear c58b0
                   try clear p58
                   try clear q58
                   try clear hx58
                   try clear c59
                   try clear c59b0
                   try clear hcz10_0
                   try clear hcz10_1
                   try clear hcz10_2
                   try clear hcz18_0
                   try clear hcz18_1
                   try clear hcz18_2
                   try clear hcz21_0
                   try clear hcz21_1
                   try clear hcz21_2
                   try clear hcz34_0
                   try clear hcz34_1
                   try clear hcz34_2
                   try clear hcz35_0
                   try clear hcz35_1
                   try clear hcz35_2
                   try clear hcz37_0
                   try clear hcz37_1
                   try clear hcz37_2
                   try clear hcz38_0
                   try clear hcz38_1
                   try clear hcz38_2
                   try clear hcz42_0
                   try clear hcz42_1
                   try clear hcz42_2
                   try clear hcz43_0
                   try clear hcz43_1
                   try clear hcz43_2
                   try clear hcz46_0
                   try clear hcz46_1
                   try clear hcz46_2
                   try clear hcz50_0
                   try clear hcz50_1
                   try clear hcz50_2
                   try clear hcz53_0
                   try clear hcz53_1
                   try clear hcz53_2
                   try clear hcz56_0
                   try clear hcz56_1
                   try clear hcz56_2
                   try clear hfz10_0
                   try clear hfz10_1
                   try clear hfz10_2
                   try clear hfz18_0
                   try clear hfz18_1
                   try clear hfz18_2
                   try clear hfz21_0
                   try clear hfz21_1
                   try clear hfz21_2
                   try clear hfz34_0
                   try clear hfz34_1
                   try clear hfz34_2
                   try clear hfz35_0
                   try clear hfz35_1
                   try clear hfz35_2
                   try clear hfz37_0
                   try clear hfz37_1
                   try clear hfz37_2
                   try clear hfz38_0
                   try clear hfz38_1
                   try clear hfz38_2
                   try clear hfz42_0
                   try clear hfz42_1
                   try clear hfz42_2
                   try clear hfz43_0
                   try clear hfz43_1
                   try clear hfz43_2
                   try clear hfz46_0
                   try clear hfz46_1
                   try clear hfz46_2
                   try clear hfz50_0
                   try clear hfz50_1
                   try clear hfz50_2
                   try clear hfz53_0
                   try clear hfz53_1
                   try clear hfz53_2
                   try clear hfz56_0
                   try clear hfz56_1
                   try clear hfz56_2
                   try clear hx572_0
                   try clear hx572_1
                   try clear hx572_2
                   try clear hx572_3
                   try clear hx572_4
                   try clear hx572_5
                   try clear hx572_6
                   try clear hx575_0
                   try clear hx575_1
                   try clear hx575_2
                   try clear hx575_3
                   try clear hx575_4
                   try clear hx575_5
                   try clear hx575_6
                   try clear hx585_0
                   try clear hx585_1
                   try clear hx585_2
                   try clear hx585_3
                   try clear hx585_4
                   try clear hx586_0
                   try clear p2
                   try clear p5
                   try clear p572
                   try clear p575
                   try clear p585
                   try clear p586
                   try clear p6
                   try clear q5
                   try clear q572
                   try clear q575
                   try clear q585
                   try clear q586
                   obtain ⟨kq, x103_53, rfl, HA, HJ53, HO_7, HO_569001, HO_569002, HO_575001, HO_575002, BK568, BK574, HB⟩ := hcut
                   cases kq with
                   | zero => exact absurd HA.out (by simp [cooperagelaw16_LeaseOver.j5])
                   | succ kj53 =>
                    have H := HA.out
                    clear HA
                    simp only [cooperagelaw16_LeaseOver.j5] at H
                    by_cases c61 : x103_53 = true
                    ·subst c61
                     have H1 : (some false) = some r := by rw [if_pos rfl] at H; exact H
                     clear H
                     have H := H1
                     clear H1
                     obtain rfl := Option.some.inj H
                     go_wp2
                     go_ret
                     exact ⟨zE, zL HB.out⟩
                    ·replace c61 := Bool.eq_false_iff.mpr c61
                     subst c61
                     have H1 : (if x11_5 = true then (cooperagelaw16_LeaseOver.l1 kj53 l0 (wrap64 (x6_2 + t573)) x7_4 x8_2 (wrap64 (x10_4 + 1)) t576 t577 t580) else (if 0 ≤ x10_4 then (if x10_4 < (x7_4.length : Int) then ((some (x7_4.set (x10_4 : Int).toNat 1 : List Int)).bind fun y587 => (if 0 ≤ x8_2 then (if x8_2 < (l0.length : Int) then ((lease_Give.f kj53 t576 t577 t580 ((rd_T52 l0 x8_2).f1) ((rd_T52 l0 x8_2).f5) x10_4 (wrap64 (x6_2 + t573))).bind fun bt590 => ((lease_Renew.f kj53 t576 t577 t580 ((rd_T52 l0 x8_2).f1) ((rd_T52 l0 x8_2).f5) x10_4 5 (wrap64 (x6_2 + t573))).bind fun bt601 => (if bt590.2.2.2 = 8 then (if bt601.2.2.2 = 8 then (cooperagelaw16_LeaseOver.j6 kj53 l0 (wrap64 (x6_2 + t573)) y587 x8_2 x10_4 ((bt590.2.1.length : Int) != 0) t576 t577 t580) else (cooperagelaw16_LeaseOver.j6 kj53 l0 (wrap64 (x6_2 + t573)) y587 x8_2 x10_4 true t576 t577 t580)) else (cooperagelaw16_LeaseOver.j6 kj53 l0 (wrap64 (x6_2 + t573)) y587 x8_2 x10_4 true t576 t577 t580)))) else (none)) else (none))) else (none)) else (none))) = some r := by rw [if_neg (show ¬ (false = true) by decide)] at H; exact H
                     clear H
                     have H := H1
                     clear H1
                     by_cases c62 : x11_5 = true
                     ·subst c62
                      have H1 : (cooperagelaw16_LeaseOver.l1 kj53 l0 (wrap64 (x6_2 + t573)) x7_4 x8_2 (wrap64 (x10_4 + 1)) t576 t577 t580) = some r := by rw [if_pos rfl] at H; exact H
                      clear H
                      have H := H1
                      clear H1
                      have H' := Aside0.mk H
                      clear H
                      go_wp2
                      go_roundg kj53
                      case measure => have := HJ3.out; have := HK2.out; have := HJ16.out; have := HK4.out; have := HK5.out; have := HJ53.out; omega
                      case rel => exact ⟨(x7_4), (wrap64 (x10_4 + 1)), zS, H', ⟨by have := HJ3.out; have := HK2.out; have := HJ16.out; have := HK4.out; have := HK5.out; have := HJ53.out; omega⟩, ⟨by (with_reducible repeat (first | apply Kd.R_alloc | apply Kd.R_drewN | apply Kd.R_drew)); exact HO_7.out⟩, ⟨by (with_reducible repeat (first | apply Kd.V_alloc | apply Kd.V_drewN | apply Kd.V_drew)); exact HO_569001.out⟩, ⟨by (with_reducible repeat (first | apply Kd.V_alloc | apply Kd.V_drewN | apply Kd.V_drew)); exact HO_569002.out⟩, ⟨by (with_reducible repeat (first | apply Kd.V_alloc | apply Kd.V_drewN | apply Kd.V_drew)); exact HO_575001.out⟩, ⟨by (with_reducible repeat (first | apply Kd.V_alloc | apply Kd.V_drewN | apply Kd.V_drew)); exact HO_575002.out⟩, ⟨zK BK568.out⟩, ⟨zK BK574.out⟩, ⟨zL HB.out⟩⟩
                     ·replace c62 := Bool.eq_false_iff.mpr c62
                      subst c62
                      have H1 : (if 0 ≤ x10_4 then (if x10_4 < (x7_4.length : Int) then ((some (x7_4.set (x10_4 : Int).toNat 1 : List Int)).bind fun y587 => (if 0 ≤ x8_2 then (if x8_2 < (l0.length : Int) then ((lease_Give.f kj53 t576 t577 t580 ((rd_T52 l0 x8_2).f1) ((rd_T52 l0 x8_2).f5) x10_4 (wrap64 (x6_2 + t573))).bind fun bt590 => ((lease_Renew.f kj53 t576 t577 t580 ((rd_T52 l0 x8_2).f1) ((rd_T52 l0 x8_2).f5) x10_4 5 (wrap64 (x6_2 + t573))).bind fun bt601 => (if bt590.2.2.2 = 8 then (if bt601.2.2.2 = 8 then (cooperagelaw16_LeaseOver.j6 kj53 l0 (wrap64 (x6_2 + t573)) y587 x8_2 x10_4 ((bt590.2.1.length : Int) != 0) t576 t577 t580) else (cooperagelaw16_LeaseOver.j6 kj53 l0 (wrap64 (x6_2 + t573)) y587 x8_2 x10_4 true t576 t577 t580)) else (cooperagelaw16_LeaseOver.j6 kj53 l0 (wrap64 (x6_2 + t573)) y587 x8_2 x10_4 true t576 t577 t580)))) else (none)) else (none))) else (none)) else (none)) = some r := by rw [if_neg (show ¬ (false = true) by decide)] at H; exact H
                      clear H
                      have H := H1
                      clear H1
                      by_cases c63 : 0 ≤ x10_4
                      ·rw [if_pos c63] at H
                       have c63b0 : decide (0 ≤ x10_4) = true := decide_eq_true c63
                       clear c63
                       by_cases c64 : x10_4 < (x7_4.length : Int)
                       ·rw [if_pos c64] at H
                        have c64b0 : decide (x10_4 < (x7_4.length : Int)) = true := decide_eq_true c64
                        clear c64
                        obtain ⟨y587, hy587⟩ : ∃ y_ : List Int, y_ = (x7_4.set (x10_4 : Int).toNat 1) := ⟨_, rfl⟩
                        replace H : (if 0 ≤ x8_2 then (if x8_2 < (l0.length : Int) then ((lease_Give.f kj53 t576 t577 t580 ((rd_T52 l0 x8_2).f1) ((rd_T52 l0 x8_2).f5) x10_4 (wrap64 (x6_2 + t573))).bind fun bt590 => ((lease_Renew.f kj53 t576 t577 t580 ((rd_T52 l0 x8_2).f1) ((rd_T52 l0 x8_2).f5) x10_4 5 (wrap64 (x6_2 + t573))).bind fun bt601 => (if bt590.2.2.2 = 8 then (if bt601.2.2.2 = 8 then (cooperagelaw16_LeaseOver.j6 kj53 l0 (wrap64 (x6_2 + t573)) y587 x8_2 x10_4 ((bt590.2.1.length : Int) != 0) t576 t577 t580) else (cooperagelaw16_LeaseOver.j6 kj53 l0 (wrap64 (x6_2 + t573)) y587 x8_2 x10_4 true t576 t577 t580)) else (cooperagelaw16_LeaseOver.j6 kj53 l0 (wrap64 (x6_2 + t573)) y587 x8_2 x10_4 true t576 t577 t580)))) else (none)) else (none)) = some r := zH hy587 H
                        have Ny587 := Aside0.mk hy587
                        clear hy587
                        by_cases c66 : 0 ≤ x8_2
                        ·rw [if_pos c66] at H
                         have c66b0 : decide (0 ≤ x8_2) = true := decide_eq_true c66
                         clear c66
                         by_cases c67 : x8_2 < (l0.length : Int)
                         ·rw [if_pos c67] at H
                          have c67b0 : decide (x8_2 < (l0.length : Int)) = true := decide_eq_true c67
                          clear c67
                          replace H := Option.bind_eq_some_iff.mp H
                          obtain ⟨⟨t590, t591, t594, t597⟩, A680, H⟩ := H
                          replace H : ((lease_Renew.f kj53 t576 t577 t580 ((rd_T52 l0 x8_2).f1) ((rd_T52 l0 x8_2).f5) x10_4 5 (wrap64 (x6_2 + t573))).bind fun bt601 => (if t597 = 8 then (if bt601.2.2.2 = 8 then (cooperagelaw16_LeaseOver.j6 kj53 l0 (wrap64 (x6_2 + t573)) y587 x8_2 x10_4 ((t591.length : Int) != 0) t576 t577 t580) else (cooperagelaw16_LeaseOver.j6 kj53 l0 (wrap64 (x6_2 + t573)) y587 x8_2 x10_4 true t576 t577 t580)) else (cooperagelaw16_LeaseOver.j6 kj53 l0 (wrap64 (x6_2 + t573)) y587 x8_2 x10_4 true t576 t577 t580))) = some r := H
                          have A68 := Aside0.mk A680
                          clear A680
                          replace H := Option.bind_eq_some_iff.mp H
                          obtain ⟨⟨t601, t602, t605, t608⟩, A690, H⟩ := H
                          replace H : (if t597 = 8 then (if t608 = 8 then (cooperagelaw16_LeaseOver.j6 kj53 l0 (wrap64 (x6_2 + t573)) y587 x8_2 x10_4 ((t591.length : Int) != 0) t576 t577 t580) else (cooperagelaw16_LeaseOver.j6 kj53 l0 (wrap64 (x6_2 + t573)) y587 x8_2 x10_4 true t576 t577 t580)) else (cooperagelaw16_LeaseOver.j6 kj53 l0 (wrap64 (x6_2 + t573)) y587 x8_2 x10_4 true t576 t577 t580)) = some r := H
                          have A69 := Aside0.mk A690
                          clear A690
                          have HC70 := Aside0.mk H
                          clear H
                          have p65 : 0 ≤ (x10_4 : Int) := zD
                          have q65 : (x10_4 : Int) < ((x7_4.length : Int) : Int) := zD
                          obtain ⟨go65, co65, eo65, gb65, gl65, cl65, HG65⟩ := Kd.R_form HO_7.out (by omega)
                          (first | cases eo65 | (injection eo65 with ea_ en_ ec_; (first | subst ea_ | (injection ea_ with ea_; subst ea_)); subst ec_; clear en_))
                          have GB65 := Aside0.mk gb65
                          have GG65 := Aside0.mk HG65
                          clear gb65 gl65 HG65
                          obtain ⟨hx65_0, hf65_0⟩ := Kd.R_celln 0 HO_7.out (x10_4 : Int) p65 q65
                          replace p65 := eq_true p65
                          replace q65 := eq_true q65
                          have HP71 := Kd.R_putg HO_7.out (x10_4 : Int) 1
                          try go_wp2_with (first | ((with_reducible refine gate_store (t := 3) (p := 108) rfl ?_); refine store_event (t := 3) (p := 108) (v := ?vo_w72) (w1 := (wc.setCell ⟨go65, (x10_4 : Int).toNat, none⟩ (.int .i64 1))) ?hg ?ho ?hn ?hr ?_; (case ho => rfl); (case hg => rfl); (case hn => rfl); (case hr => first | (go_simp; done) | (go_simp; rfl)); intro w72 hw; have hg : wc.grownBy w72 (some go65) := (by rw [hw]; exact HP71.2); have hp_ : Kd.R (Kd.int .i64) 3 w72 w.heap.size (fun _ => True) (.slice (some ⟨go65, 0, none⟩) x7_4.length co65) y587 := (by rw [hw, Ny587.out]; exact HP71.1); clear HP71; have n0_ := Aside0.mk (hp_); have n1_ := Aside0.mk (Kd.V_afterv (v := (.slice (some ⟨go65, 0, none⟩) x7_4.length co65)) (v1 := (.slice (some ⟨go65, 0, none⟩) x7_4.length co65)) (ok := (fun k_ => k_ ≠ gb568 ∧ k_ ≠ gb574)) (by (with_reducible repeat (first | apply Kd.V_alloc | apply Kd.V_drewN | apply Kd.V_drew)); exact Kd.V_mono HO_569001.out (fun _ hk => ⟨⟨hk.2.1, hk.2.2⟩, hk.1⟩)) hg (.inl rfl)); have n2_ := Aside0.mk (Kd.V_afterv (v := (.slice (some ⟨go65, 0, none⟩) x7_4.length co65)) (v1 := (.slice (some ⟨go65, 0, none⟩) x7_4.length co65)) (ok := (fun k_ => k_ ≠ gb568 ∧ k_ ≠ gb574)) (by (with_reducible repeat (first | apply Kd.V_alloc | apply Kd.V_drewN | apply Kd.V_drew)); exact Kd.V_mono HO_569002.out (fun _ hk => ⟨⟨hk.2.1, hk.2.2⟩, hk.1⟩)) hg (.inl rfl)); have n3_ := Aside0.mk (Kd.V_afterv (v := (.slice (some ⟨go65, 0, none⟩) x7_4.length co65)) (v1 := (.slice (some ⟨go65, 0, none⟩) x7_4.length co65)) (ok := (fun k_ => k_ ≠ gb568 ∧ k_ ≠ gb574)) (by (with_reducible repeat (first | apply Kd.V_alloc | apply Kd.V_drewN | apply Kd.V_drew)); exact Kd.V_mono HO_575001.out (fun _ hk => ⟨⟨hk.2.1, hk.2.2⟩, hk.1⟩)) hg (.inl rfl)); have n4_ := Aside0.mk (Kd.V_afterv (v := (.slice (some ⟨go65, 0, none⟩) x7_4.length co65)) (v1 := (.slice (some ⟨go65, 0, none⟩) x7_4.length co65)) (ok := (fun k_ => k_ ≠ gb568 ∧ k_ ≠ gb574)) (by (with_reducible repeat (first | apply Kd.V_alloc | apply Kd.V_drewN | apply Kd.V_drew)); exact Kd.V_mono HO_575002.out (fun _ hk => ⟨⟨hk.2.1, hk.2.2⟩, hk.1⟩)) hg (.inl rfl)); have n5_ := Aside0.mk (blk_grown (g := gb568) (o := .cells #[.int .i64 t576, .slice Ao28 t577.length co28, .slice Ao30 t580.length co30] 27 (0, 0)) (zK BK568.out) hg (Kd.R_ne HO_7.out BK568.out (by decide))); have n6_ := Aside0.mk (blk_grown (g := gb574) (o := .cells #[.int .i64 x569000_2, .slice Ao22 x569001_2.length co22, .slice Ao23 x569002_2.length co23] 27 (0, 0)) (zK BK574.out) hg (Kd.R_ne HO_7.out BK574.out (by decide))); have n7_ := Aside0.mk ((by rw [hw]; exact below_set (HB.out) GB65.out : Below w.heap.size w w72)); revert n0_ n1_ n2_ n3_ n4_ n5_ n6_ n7_; clear HO_7 HO_569001 HO_569002 HO_575001 HO_575002 BK568 BK574 HB; intro HO_7 HO_569001 HO_569002 HO_575001 HO_575002 BK568 BK574 HB; clear hg hw hp_))
                          have n0_ := Aside0.mk (Kd.R_drew HO_7.out)
                          have n1_ := Aside0.mk (Kd.V_drew HO_569001.out)
                          have n2_ := Aside0.mk (Kd.V_drew HO_569002.out)
                          have n3_ := Aside0.mk (Kd.V_drew HO_575001.out)
                          have n4_ := Aside0.mk (Kd.V_drew HO_575002.out)
                          have n5_ := Aside0.mk (blk_drew BK568.out)
                          have n6_ := Aside0.mk (blk_drew BK574.out)
                          have n7_ := Aside0.mk (below_drew1 HB.out)
                          clear HO_7
                          clear HO_569001
                          clear HO_569002
                          clear HO_575001
                          clear HO_575002
                          clear BK568
                          clear BK574
                          clear HB
                          have HO_7 := n0_
                          have HO_569001 := n1_
                          have HO_569002 := n2_
                          have HO_575001 := n3_
                          have HO_575002 := n4_
                          have BK568 := n5_
                          have BK574 := n6_
                          have HB := n7_
                          clear n0_ n1_ n2_ n3_ n4_ n5_ n6_ n7_
                          have p588 : 0 ≤ (x8_2 : Int) := zD
                          have q588 : x8_2 < (l0.length : Int) := zD
                          obtain ⟨ad588, e588, hx588_0, hx588_1, hx588_2, hx588_3, hx588_4, hx588_5, hx588_6⟩ := at_T52 HR0.out x8_2 p588 q588
                          have hw588_6 := hx588_6
                          have hw588_5 := hx588_5
                          have hw588_4 := hx588_4
                          have hw588_3 := hx588_3
                          have hw588_2 := hx588_2
                          have hw588_1 := hx588_1
                          have hw588_0 := hx588_0
                          obtain rfl : ad572 = ad588 := (by injection e588)
                          replace hx588_0 := zX HB.out hx588_0
                          replace hx588_1 := zX HB.out hx588_1
                          replace hx588_2 := zX HB.out hx588_2
                          replace hx588_3 := zX HB.out hx588_3
                          replace hx588_4 := zX HB.out hx588_4
                          replace hx588_5 := zX HB.out hx588_5
                          replace hx588_6 := zX HB.out hx588_6
                          replace p588 := eq_true p588
                          replace q588 := eq_true q588
                          have p589 : 0 ≤ (x8_2 : Int) := zD
                          have q589 : x8_2 < (l0.length : Int) := zD
                          obtain ⟨ad589, e589, hx589_0, hx589_1, hx589_2, hx589_3, hx589_4, hx589_5, hx589_6⟩ := at_T52 HR0.out x8_2 p589 q589
                          have hw589_6 := hx589_6
                          have hw589_5 := hx589_5
                          have hw589_4 := hx589_4
                          have hw589_3 := hx589_3
                          have hw589_2 := hx589_2
                          have hw589_1 := hx589_1
                          have hw589_0 := hx589_0
                          obtain rfl : ad572 = ad589 := (by injection e589)
                          replace hx589_0 := zX HB.out hx589_0
                          replace hx589_1 := zX HB.out hx589_1
                          replace hx589_2 := zX HB.out hx589_2
                          replace hx589_3 := zX HB.out hx589_3
                          replace hx589_4 := zX HB.out hx589_4
                          replace hx589_5 := zX HB.out hx589_5
                          replace hx589_6 := zX HB.out hx589_6
                          replace p589 := eq_true p589
                          replace q589 := eq_true q589
                          refine start_ (n := 20) (S := fun w' => w'.cell? ⟨gb568, 0, none⟩ = some (.int .i64 t576) ∧ w'.cell? ⟨gb568, 1, none⟩ = some (.slice Ao28 t577.length co28) ∧ w'.cell? ⟨gb568, 2, none⟩ = some (.slice Ao30 t580.length co30) ∧ w'.cell? (ad572.add ((x8_2).toNat * 7)) = some (.int .i64 ((rd_T52 l0 x8_2).f0)) ∧ w'.cell? ⟨(ad572.add ((x8_2).toNat * 7)).block, (ad572.add ((x8_2).toNat * 7)).off + 1, none⟩ = some (.int .i64 ((rd_T52 l0 x8_2).f1)) ∧ w'.cell? ⟨(ad572.add ((x8_2).toNat * 7)).block, (ad572.add ((x8_2).toNat * 7)).off + 2, none⟩ = some (.int .i64 ((rd_T52 l0 x8_2).f2)) ∧ w'.cell? ⟨(ad572.add ((x8_2).toNat * 7)).block, (ad572.add ((x8_2).toNat * 7)).off + 3, none⟩ = some (.int .i64 ((rd_T52 l0 x8_2).f3)) ∧ w'.cell? ⟨(ad572.add ((x8_2).toNat * 7)).block, (ad572.add ((x8_2).toNat * 7)).off + 4, none⟩ = some (.int .i64 ((rd_T52 l0 x8_2).f4)) ∧ w'.cell? ⟨(ad572.add ((x8_2).toNat * 7)).block, (ad572.add ((x8_2).toNat * 7)).off + 5, none⟩ = some (.string ((rd_T52 l0 x8_2).f5)) ∧ w'.cell? ⟨(ad572.add ((x8_2).toNat * 7)).block, (ad572.add ((x8_2).toNat * 7)).off + 6, none⟩ = some (.bool ((rd_T52 l0 x8_2).f6)) ∧ w'.cell? (ad572.add ((x8_2).toNat * 7)) = some (.int .i64 ((rd_T52 l0 x8_2).f0)) ∧ w'.cell? ⟨(ad572.add ((x8_2).toNat * 7)).block, (ad572.add ((x8_2).toNat * 7)).off + 1, none⟩ = some (.int .i64 ((rd_T52 l0 x8_2).f1)) ∧ w'.cell? ⟨(ad572.add ((x8_2).toNat * 7)).block, (ad572.add ((x8_2).toNat * 7)).off + 2, none⟩ = some (.int .i64 ((rd_T52 l0 x8_2).f2)) ∧ w'.cell? ⟨(ad572.add ((x8_2).toNat * 7)).block, (ad572.add ((x8_2).toNat * 7)).off + 3, none⟩ = some (.int .i64 ((rd_T52 l0 x8_2).f3)) ∧ w'.cell? ⟨(ad572.add ((x8_2).toNat * 7)).block, (ad572.add ((x8_2).toNat * 7)).off + 4, none⟩ = some (.int .i64 ((rd_T52 l0 x8_2).f4)) ∧ w'.cell? ⟨(ad572.add ((x8_2).toNat * 7)).block, (ad572.add ((x8_2).toNat * 7)).off + 5, none⟩ = some (.string ((rd_T52 l0 x8_2).f5)) ∧ w'.cell? ⟨(ad572.add ((x8_2).toNat * 7)).block, (ad572.add ((x8_2).toNat * 7)).off + 6, none⟩ = some (.bool ((rd_T52 l0 x8_2).f6))) (ds := []) #[false, false, false, false, false, false, false, false, false, false, false, false, false, false, false, false, false, false, false, false] (by kernel_rfl) rfl rfl ⟨(blk_cell BK568.out 0).trans rfl, (blk_cell BK568.out 1).trans rfl, (blk_cell BK568.out 2).trans rfl, (zX HB.out hw588_0), (zX HB.out hw588_1), (zX HB.out hw588_2), (zX HB.out hw588_3), (zX HB.out hw588_4), (zX HB.out hw588_5), (zX HB.out hw588_6), (zX HB.out hw589_0), (zX HB.out hw589_1), (zX HB.out hw589_2), (zX HB.out hw589_3), (zX HB.out hw589_4), (zX HB.out hw589_5), (zX HB.out hw589_6)⟩ (fun hHeld => ?_); refine with_tabW cooperagelaw16_LeaseOver.tab28 cooperagelaw16_LeaseOver.bits28 (fun HT_ HW_ => ?_)
                          generalize w72.drew = w73 at HO_7 HO_569001 HO_569002 HO_575001 HO_575002 BK568 BK574 HB hx588_0 hx588_1 hx588_2 hx588_3 hx588_4 hx588_5 hx588_6 hx589_0 hx589_1 hx589_2 hx589_3 hx589_4 hx589_5 hx589_6 hHeld ⊢
                          refine pure_ (i := 1) (N := some 111) (v := ?_) (a' := ?_) #[false, true, false, false, false, false, false, false, false, false, false, false, false, false, false, false, false, false, false, false] rfl rfl (any_of HT_.out (by kernel_rfl)) (fun _ _ _ h => h) (Or.inl ⟨by rfl, ?_⟩) ?_ ?_
                          rotate_left
                          ·intro w'
                           go_simp
                           with_reducible rfl
                          rotate_left
                          ·simp only [Act.put, List.setIfInBounds_toArray, List.set_cons_zero, List.set_cons_succ, i64_w, i32_w]
                           rfl
                          refine pure_ (i := 2) (N := some 112) (v := ?_) (a' := ?_) #[false, true, true, false, false, false, false, false, false, false, false, false, false, false, false, false, false, false, false, false] rfl rfl (any_of HT_.out (by kernel_rfl)) (fun _ _ _ h => h) (Or.inl ⟨by rfl, ?_⟩) ?_ ?_
                          rotate_left
                          ·intro w'
                           go_simp
                           with_reducible rfl
                          rotate_left
                          ·simp only [Act.put, List.setIfInBounds_toArray, List.set_cons_zero, List.set_cons_succ, i64_w, i32_w]
                           rfl
                          refine pure_ (i := 3) (N := some 113) (v := ?_) (a' := ?_) #[false, true, true, true, false, false, false, false, false, false, false, false, false, false, false, false, false, false, false, false] rfl rfl (any_of HT_.out (by kernel_rfl)) (fun _ _ _ h => h) (Or.inl ⟨by rfl, ?_⟩) ?_ ?_
                          rotate_left
                          ·intro w'
                           go_simp
                           with_reducible rfl
                          rotate_left
                          ·simp only [Act.put, List.setIfInBounds_toArray, List.set_cons_zero, List.set_cons_succ, i64_w, i32_w]
                           rfl
                          refine pure_ (i := 4) (N := some 114) (v := ?_) (a' := ?_) #[false, true, true, true, true, false, false, false, false, false, false, false, false, false, false, false, false, false, false, false] rfl rfl (any_of HT_.out (by kernel_rfl)) (fun _ _ _ h => h) (Or.inl ⟨by rfl, ?_⟩) ?_ ?_
                          rotate_left
                          ·intro w'
                           go_simp
                           with_reducible rfl
                          rotate_left
                          ·simp only [Act.put, List.setIfInBounds_toArray, List.set_cons_zero, List.set_cons_succ, i64_w, i32_w]
                           rfl
                          refine pure_ (i := 6) (N := some 116) (v := ?_) (a' := ?_) #[false, true, true, true, true, false, true, false, false, false, false, false, false, false, false, false, false, false, false, false] rfl rfl (any_of HT_.out (by kernel_rfl)) (fun _ _ _ h => h) (Or.inl ⟨by rfl, ?_⟩) ?_ ?_
                          rotate_left
                          ·intro w'
                           go_simp
                           with_reducible rfl
                          rotate_left
                          ·simp only [Act.put, List.setIfInBounds_toArray, List.set_cons_zero, List.set_cons_succ, i64_w, i32_w]
                           rfl
                          refine pure_ (i := 7) (N := some 117) (v := ?_) (a' := ?_) #[false, true, true, true, true, false, true, true, false, false, false, false, false, false, false, false, false, false, false, false] rfl rfl (any_of HT_.out (by kernel_rfl)) (fun _ _ _ h => h) (Or.inl ⟨by rfl, ?_⟩) ?_ ?_
                          rotate_left
                          ·intro w'
                           go_simp
                           with_reducible rfl
                          rotate_left
                          ·simp only [Act.put, List.setIfInBounds_toArray, List.set_cons_zero, List.set_cons_succ, i64_w, i32_w]
                           rfl
                          refine pure_ (i := 8) (N := some 118) (v := ?_) (a' := ?_) #[false, true, true, true, true, false, true, true, true, false, false, false, false, false, false, false, false, false, false, false] rfl rfl (any_of HT_.out (by kernel_rfl)) (fun _ _ _ h => h) (Or.inl ⟨by rfl, ?_⟩) ?_ ?_
                          rotate_left
                          ·intro w'
                           go_simp
                           with_reducible rfl
                          rotate_left
                          ·simp only [Act.put, List.setIfInBounds_toArray, List.set_cons_zero, List.set_cons_succ, i64_w, i32_w]
                           rfl
                          refine pure_ (i := 9) (N := some 119) (v := ?_) (a' := ?_) #[false, true, true, true, true, false, true, true, true, true, false, false, false, false, false, false, false, false, false, false] rfl rfl (any_of HT_.out (by kernel_rfl)) (fun _ _ _ h => h) (Or.inl ⟨by rfl, ?_⟩) ?_ ?_
                          rotate_left
                          ·intro w'
                           go_simp
                           with_reducible rfl
                          rotate_left
                          ·simp only [Act.put, List.setIfInBounds_toArray, List.set_cons_zero, List.set_cons_succ, i64_w, i32_w]
                           rfl
                          refine pure_ (i := 11) (N := some 121) (v := ?_) (a' := ?_) #[false, true, true, true, true, false, true, true, true, true, false, true, false, false, false, false, false, false, false, false] rfl rfl (any_of HT_.out (by kernel_rfl)) (fun _ _ _ h => h) (Or.inl ⟨by rfl, ?_⟩) ?_ ?_
                          rotate_left
                          ·intro w'
                           go_simp
                           with_reducible rfl
                          rotate_left
                          ·simp only [Act.put, List.setIfInBounds_toArray, List.set_cons_zero, List.set_cons_succ, i64_w, i32_w]
                           rfl
                          refine pure_ (i := 12) (N := some 122) (v := ?_) (a' := ?_) #[false, true, true, true, true, false, true, true, true, true, false, true, true, false, false, false, false, false, false, false] rfl rfl (any_of HT_.out (by kernel_rfl)) (fun _ _ _ h => h) (Or.inl ⟨by rfl, ?_⟩) ?_ ?_
                          rotate_left
                          ·intro w'
                           go_simp
                           with_reducible rfl
                          rotate_left
                          ·simp only [Act.put, List.setIfInBounds_toArray, List.set_cons_zero, List.set_cons_succ, i64_w, i32_w]
                           rfl
                          refine take_ (i := 0) (N := some 110) (v := ?_) (a' := ?_) #[true, true, true, true, true, false, true, true, true, true, false, true, true, false, false, false, false, false, false, false] rfl rfl (take_ofW HT_.out HW_.out (by kernel_rfl)) (fun _ _ _ h => h) (Or.inl ⟨by rfl, ?_⟩) hHeld ?_ ?_
                          rotate_left
                          ·rintro w' ⟨s0, s1, s2, s3, s4, s5, s6, s7, s8, s9, s10, s11, s12, s13, s14, s15, s16⟩
                           go_simp
                           with_reducible rfl
                          rotate_left
                          ·simp only [Act.put, List.setIfInBounds_toArray, List.set_cons_zero, List.set_cons_succ, i64_w, i32_w]
                           rfl
                          refine take_ (i := 5) (N := some 115) (v := ?_) (a' := ?_) #[true, true, true, true, true, true, true, true, true, true, false, true, true, false, false, false, false, false, false, false] rfl rfl (take_ofW HT_.out HW_.out (by kernel_rfl)) (fun _ _ _ h => h) (Or.inl ⟨by rfl, ?_⟩) hHeld ?_ ?_
                          rotate_left
                          ·rintro w' ⟨s0, s1, s2, s3, s4, s5, s6, s7, s8, s9, s10, s11, s12, s13, s14, s15, s16⟩
                           go_simp
                           with_reducible rfl
                          rotate_left
                          ·simp only [Act.put, List.setIfInBounds_toArray, List.set_cons_zero, List.set_cons_succ, i64_w, i32_w]
                           rfl
                          refine take_ (i := 10) (N := some 120) (v := ?_) (a' := ?_) #[true, true, true, true, true, true, true, true, true, true, true, true, true, false, false, false, false, false, false, false] rfl rfl (take_ofW HT_.out HW_.out (by kernel_rfl)) (fun _ _ _ h => h) (Or.inl ⟨by rfl, ?_⟩) hHeld ?_ ?_
                          rotate_left
                          ·rintro w' ⟨s0, s1, s2, s3, s4, s5, s6, s7, s8, s9, s10, s11, s12, s13, s14, s15, s16⟩
                           go_simp
                           with_reducible rfl
                          rotate_left
                          ·simp only [Act.put, List.setIfInBounds_toArray, List.set_cons_zero, List.set_cons_succ, i64_w, i32_w]
                           rfl
                          refine join_ (σ := Value × Value × Nat) 2 #[true, true, true, true, true, true, true, true, true, true, true, true, true, true, true, true, true, true, false, false] (fun s_ => [(123, .tuple #[.agg #[.int .i64 t590, s_.1, s_.2.1], .int .i64 t597]), (13, .pointer (some ⟨s_.2.2, 0, none⟩)), (109, .tuple #[.agg #[.int .i64 t590, s_.1, s_.2.1], .int .i64 t597]), (124, .agg #[.int .i64 t590, s_.1, s_.2.1]), (125, .int .i64 t597)]) (fun s_ w' => (w'.cell? ⟨gb568, 0, none⟩ = some (.int .i64 t576) ∧ w'.cell? ⟨gb568, 1, none⟩ = some (.slice Ao28 t577.length co28) ∧ w'.cell? ⟨gb568, 2, none⟩ = some (.slice Ao30 t580.length co30) ∧ w'.cell? (ad572.add ((x8_2).toNat * 7)) = some (.int .i64 ((rd_T52 l0 x8_2).f0)) ∧ w'.cell? ⟨(ad572.add ((x8_2).toNat * 7)).block, (ad572.add ((x8_2).toNat * 7)).off + 1, none⟩ = some (.int .i64 ((rd_T52 l0 x8_2).f1)) ∧ w'.cell? ⟨(ad572.add ((x8_2).toNat * 7)).block, (ad572.add ((x8_2).toNat * 7)).off + 2, none⟩ = some (.int .i64 ((rd_T52 l0 x8_2).f2)) ∧ w'.cell? ⟨(ad572.add ((x8_2).toNat * 7)).block, (ad572.add ((x8_2).toNat * 7)).off + 3, none⟩ = some (.int .i64 ((rd_T52 l0 x8_2).f3)) ∧ w'.cell? ⟨(ad572.add ((x8_2).toNat * 7)).block, (ad572.add ((x8_2).toNat * 7)).off + 4, none⟩ = some (.int .i64 ((rd_T52 l0 x8_2).f4)) ∧ w'.cell? ⟨(ad572.add ((x8_2).toNat * 7)).block, (ad572.add ((x8_2).toNat * 7)).off + 5, none⟩ = some (.string ((rd_T52 l0 x8_2).f5)) ∧ w'.cell? ⟨(ad572.add ((x8_2).toNat * 7)).block, (ad572.add ((x8_2).toNat * 7)).off + 6, none⟩ = some (.bool ((rd_T52 l0 x8_2).f6)) ∧ w'.cell? (ad572.add ((x8_2).toNat * 7)) = some (.int .i64 ((rd_T52 l0 x8_2).f0)) ∧ w'.cell? ⟨(ad572.add ((x8_2).toNat * 7)).block, (ad572.add ((x8_2).toNat * 7)).off + 1, none⟩ = some (.int .i64 ((rd_T52 l0 x8_2).f1)) ∧ w'.cell? ⟨(ad572.add ((x8_2).toNat * 7)).block, (ad572.add ((x8_2).toNat * 7)).off + 2, none⟩ = some (.int .i64 ((rd_T52 l0 x8_2).f2)) ∧ w'.cell? ⟨(ad572.add ((x8_2).toNat * 7)).block, (ad572.add ((x8_2).toNat * 7)).off + 3, none⟩ = some (.int .i64 ((rd_T52 l0 x8_2).f3)) ∧ w'.cell? ⟨(ad572.add ((x8_2).toNat * 7)).block, (ad572.add ((x8_2).toNat * 7)).off + 4, none⟩ = some (.int .i64 ((rd_T52 l0 x8_2).f4)) ∧ w'.cell? ⟨(ad572.add ((x8_2).toNat * 7)).block, (ad572.add ((x8_2).toNat * 7)).off + 5, none⟩ = some (.string ((rd_T52 l0 x8_2).f5)) ∧ w'.cell? ⟨(ad572.add ((x8_2).toNat * 7)).block, (ad572.add ((x8_2).toNat * 7)).off + 6, none⟩ = some (.bool ((rd_T52 l0 x8_2).f6))) ∧ (Kd.R k34 34 w' w.heap.size (fun _ => True) s_.1 t591) ∧ (Kd.R k32 32 w' w.heap.size (fun _ => True) s_.2.1 t594) ∧ (Kd.V k34 34 w' w.heap.size (fun k_ => some k_ ≠ (s_.1 : Value).ownBlock ∧ some k_ ≠ (s_.2.1 : Value).ownBlock ∧ some k_ ≠ (.slice (some ⟨go65, 0, none⟩) x7_4.length co65 : Value).ownBlock ∧ k_ ≠ gb568 ∧ k_ ≠ gb574 ∧ k_ ≠ s_.2.2) (.slice Ao28 t577.length co28) t577) ∧ (Kd.V k32 32 w' w.heap.size (fun k_ => some k_ ≠ (s_.1 : Value).ownBlock ∧ some k_ ≠ (s_.2.1 : Value).ownBlock ∧ some k_ ≠ (.slice (some ⟨go65, 0, none⟩) x7_4.length co65 : Value).ownBlock ∧ k_ ≠ gb568 ∧ k_ ≠ gb574 ∧ k_ ≠ s_.2.2) (.slice Ao30 t580.length co30) t580) ∧ (Kd.V k34 34 w' w.heap.size (fun k_ => some k_ ≠ (s_.1 : Value).ownBlock ∧ some k_ ≠ (s_.2.1 : Value).ownBlock ∧ some k_ ≠ (.slice (some ⟨go65, 0, none⟩) x7_4.length co65 : Value).ownBlock ∧ k_ ≠ gb568 ∧ k_ ≠ gb574 ∧ k_ ≠ s_.2.2) (.slice Ao22 x569001_2.length co22) x569001_2) ∧ (Kd.V k32 32 w' w.heap.size (fun k_ => some k_ ≠ (s_.1 : Value).ownBlock ∧ some k_ ≠ (s_.2.1 : Value).ownBlock ∧ some k_ ≠ (.slice (some ⟨go65, 0, none⟩) x7_4.length co65 : Value).ownBlock ∧ k_ ≠ gb568 ∧ k_ ≠ gb574 ∧ k_ ≠ s_.2.2) (.slice Ao23 x569002_2.length co23) x569002_2) ∧ (Kd.R (Kd.int .i64) 3 w' w.heap.size (fun _ => True) (.slice (some ⟨go65, 0, none⟩) x7_4.length co65) y587) ∧ (w'.heap[gb568]? = some (.cells #[.int .i64 t576, .slice Ao28 t577.length co28, .slice Ao30 t580.length co30] 27 (0, 0))) ∧ (w'.heap[gb574]? = some (.cells #[.int .i64 x569000_2, .slice Ao22 x569001_2.length co22, .slice Ao23 x569002_2.length co23] 27 (0, 0))) ∧ (w'.heap[s_.2.2]? = some (.cells #[.int .i64 0, .slice none 0 0, .slice none 0 0] 27 (0, 0))) ∧ (w.heap.size ≤ s_.2.2) ∧ (w.heap.size ≤ s_.2.2) ∧ (gb568 ≠ s_.2.2) ∧ (s_.2.2 ≠ gb568) ∧ (gb574 ≠ s_.2.2) ∧ (s_.2.2 ≠ gb574) ∧ (Below w.heap.size w w')) ?_ ?_
                          rotate_left
                          ·intro hCont
                           refine two_ (i := 13) (j := 17) (Ni := some 123) (Nj := some 13) #[true, true, true, true, true, true, true, true, true, true, true, true, true, true, false, false, false, false, false, false] #[true, true, true, true, true, true, true, true, true, true, true, true, true, false, false, false, false, true, false, false] rfl rfl rfl rfl (two_of HT_.out (by kernel_rfl)) (by decide) (by decide) (fun K hK => ?_) (fun K hK => ?_)
                           ·skip
                            refine goes_ Tryd.func12 (by kernel_rfl) rfl #[.agg #[.int .i64 t576, .slice Ao28 t577.length co28, .slice Ao30 t580.length co30], .int .i64 ((rd_T52 l0 x8_2).f1), .string ((rd_T52 l0 x8_2).f5), .int .i64 x10_4, .int .i64 (wrap64 (x6_2 + t573))] (by rfl) rfl rfl zA ?_
                            with_reducible refine (lease_Give.calls kj53 t576 _ _ t577 _ _ t580 ((rd_T52 l0 x8_2).f1) ((rd_T52 l0 x8_2).f5) x10_4 (wrap64 (x6_2 + t573)) t590 t591 t594 t597 _ ?side1 ?side2 ?side3 ?side4 A68.out).mono ?_
                            (case side1 => repeat (first | exact (Kd.V_reads' HO_569001.out).2.2 | (with_reducible refine Kd.C_alloc ?_ _) | (with_reducible refine Kd.C_drewN ?_ _) | (with_reducible refine Kd.C_drew ?_)))
                            (case side2 => exact (Kd.V_reads' HO_569001.out).2.1)
                            (case side3 => repeat (first | exact (Kd.V_reads' HO_569002.out).2.2 | (with_reducible refine Kd.C_alloc ?_ _) | (with_reducible refine Kd.C_drewN ?_ _) | (with_reducible refine Kd.C_drew ?_)))
                            (case side4 => exact (Kd.V_reads' HO_569002.out).2.1)
                            rintro e w74 ⟨v592, v595, rfl, ho0, ho1, hb⟩
                            refine ⟨_, rfl, ?_⟩
                            have n0_ := Aside0.mk (Kd.R_below (zR HO_7.out) hb)
                            have n1_ := Aside0.mk (Kd.V_mono (Kd.V_told (Kd.V_told (Kd.V_old (zV HO_569001.out) hb) (Kd.R_base ho0)) (Kd.R_base ho1)) (fun _ h_ => h_.1))
                            have n2_ := Aside0.mk (Kd.V_mono (Kd.V_told (Kd.V_told (Kd.V_old (zV HO_569002.out) hb) (Kd.R_base ho0)) (Kd.R_base ho1)) (fun _ h_ => h_.1))
                            have n3_ := Aside0.mk (Kd.V_mono (Kd.V_told (Kd.V_told (Kd.V_old (zV HO_575001.out) hb) (Kd.R_base ho0)) (Kd.R_base ho1)) (fun _ h_ => h_.1))
                            have n4_ := Aside0.mk (Kd.V_mono (Kd.V_told (Kd.V_told (Kd.V_old (zV HO_575002.out) hb) (Kd.R_base ho0)) (Kd.R_base ho1)) (fun _ h_ => h_.1))
                            have n5_ := Aside0.mk (Kd.R_lower ho0 (below_size (zL HB.out)))
                            have n6_ := Aside0.mk (Kd.R_lower ho1 (below_size (zL HB.out)))
                            have n7_ := Aside0.mk (blk_below (g := gb568) (o := .cells #[.int .i64 t576, .slice Ao28 t577.length co28, .slice Ao30 t580.length co30] 27 (0, 0)) (zK BK568.out) hb)
                            have n8_ := Aside0.mk (blk_below (g := gb574) (o := .cells #[.int .i64 x569000_2, .slice Ao22 x569001_2.length co22, .slice Ao23 x569002_2.length co23] 27 (0, 0)) (zK BK574.out) hb)
                            have n9_ := Aside0.mk (below_step (zL HB.out) hb)
                            clear HO_7
                            clear HO_569001
                            clear HO_569002
                            clear HO_575001
                            clear HO_575002
                            clear BK568
                            clear BK574
                            clear HB
                            have HO_7 := n0_
                            have HO_569001 := n1_
                            have HO_569002 := n2_
                            have HO_575001 := n3_
                            have HO_575002 := n4_
                            have HO593 := n5_
                            have HO596 := n6_
                            have BK568 := n7_
                            have BK574 := n8_
                            have HB := n9_
                            clear n0_ n1_ n2_ n3_ n4_ n5_ n6_ n7_ n8_ n9_
                            (try clear hb)
                            (try clear hb2)
                            (try clear hk)
                            (try clear hi)
                            (try clear ho0)
                            (try clear ho1)
                            refine hK.out _ _ ⟨(blk_cell BK568.out 0).trans rfl, (blk_cell BK568.out 1).trans rfl, (blk_cell BK568.out 2).trans rfl, (zX HB.out hw588_0), (zX HB.out hw588_1), (zX HB.out hw588_2), (zX HB.out hw588_3), (zX HB.out hw588_4), (zX HB.out hw588_5), (zX HB.out hw588_6), (zX HB.out hw589_0), (zX HB.out hw589_1), (zX HB.out hw589_2), (zX HB.out hw589_3), (zX HB.out hw589_4), (zX HB.out hw589_5), (zX HB.out hw589_6)⟩ (fun hHeld => ?_)
                            clear hK K
                            refine norm_ (a' := ?_) ?_ ?_
                            rotate_left
                            ·show Act.put _ (some 123) _ = _
                             simp only [Act.put, List.setIfInBounds_toArray, List.set_cons_zero, List.set_cons_succ, i64_w, i32_w]
                             rfl
                            refine pure_ (i := 14) (N := some 109) (v := ?_) (a' := ?_) #[true, true, true, true, true, true, true, true, true, true, true, true, true, true, true, false, false, false, false, false] rfl rfl (any_of HT_.out (by kernel_rfl)) (fun _ _ _ h => h) (Or.inl ⟨by rfl, ?_⟩) ?_ ?_
                            rotate_left
                            ·intro w'
                             go_simp
                             with_reducible rfl
                            rotate_left
                            ·simp only [Act.put, List.setIfInBounds_toArray, List.set_cons_zero, List.set_cons_succ, i64_w, i32_w]
                             rfl
                            refine pure_ (i := 15) (N := some 124) (v := ?_) (a' := ?_) #[true, true, true, true, true, true, true, true, true, true, true, true, true, true, true, true, false, false, false, false] rfl rfl (any_of HT_.out (by kernel_rfl)) (fun _ _ _ h => h) (Or.inl ⟨by rfl, ?_⟩) ?_ ?_
                            rotate_left
                            ·intro w'
                             go_simp
                             with_reducible rfl
                            rotate_left
                            ·simp only [Act.put, List.setIfInBounds_toArray, List.set_cons_zero, List.set_cons_succ, i64_w, i32_w]
                             rfl
                            refine pure_ (i := 16) (N := some 125) (v := ?_) (a' := ?_) #[true, true, true, true, true, true, true, true, true, true, true, true, true, true, true, true, true, false, false, false] rfl rfl (any_of HT_.out (by kernel_rfl)) (fun _ _ _ h => h) (Or.inl ⟨by rfl, ?_⟩) ?_ ?_
                            rotate_left
                            ·intro w'
                             go_simp
                             with_reducible rfl
                            rotate_left
                            ·simp only [Act.put, List.setIfInBounds_toArray, List.set_cons_zero, List.set_cons_succ, i64_w, i32_w]
                             rfl
                            refine one_ (i := 17) (N := some 13) #[true, true, true, true, true, true, true, true, true, true, true, true, true, true, true, true, true, true, false, false] rfl rfl (one_of HT_.out (by kernel_rfl)) (by decide) (fun K hK => ?_)
                            refine box_step ?hg (N := 13) ?hd (cs := #[.int .i64 0, .slice none 0 0, .slice none 0 0]) (t := 27) ?hr ?_; (case hd => rfl); (case hg => rfl); (case hr => first | (go_simp; done) | (go_simp; rfl))
                            intro gb598 hg w75 hbox hb
                            have n0_ := Aside0.mk (Kd.R_below (zR HO_7.out) hb)
                            have n1_ := Aside0.mk (Kd.V_below (Kd.V_elderB (zV HO_569001.out) gb598 (Nat.le_of_eq hg.symm)) hb)
                            have n2_ := Aside0.mk (Kd.V_below (Kd.V_elderB (zV HO_569002.out) gb598 (Nat.le_of_eq hg.symm)) hb)
                            have n3_ := Aside0.mk (Kd.V_below (Kd.V_elderB (zV HO_575001.out) gb598 (Nat.le_of_eq hg.symm)) hb)
                            have n4_ := Aside0.mk (Kd.V_below (Kd.V_elderB (zV HO_575002.out) gb598 (Nat.le_of_eq hg.symm)) hb)
                            have n5_ := Aside0.mk (Kd.R_below (zR HO593.out) hb)
                            have n6_ := Aside0.mk (Kd.R_below (zR HO596.out) hb)
                            have n7_ := Aside0.mk (blk_below (g := gb568) (o := .cells #[.int .i64 t576, .slice Ao28 t577.length co28, .slice Ao30 t580.length co30] 27 (0, 0)) (zK BK568.out) hb)
                            have n8_ := Aside0.mk (blk_below (g := gb574) (o := .cells #[.int .i64 x569000_2, .slice Ao22 x569001_2.length co22, .slice Ao23 x569002_2.length co23] 27 (0, 0)) (zK BK574.out) hb)
                            have n9_ := Aside0.mk (below_step (zL HB.out) hb)
                            have n10_ := Aside0.mk (hbox)
                            have n11_ := Aside0.mk (zG hg (zL HB.out))
                            have n12_ := Aside0.mk (zG hg (zL HB.out))
                            have n13_ := Aside0.mk (zN (g := gb568) (o := .cells #[.int .i64 t576, .slice Ao28 t577.length co28, .slice Ao30 t580.length co30] 27 (0, 0)) hg (zK BK568.out))
                            have n14_ := Aside0.mk (zO (g := gb568) (o := .cells #[.int .i64 t576, .slice Ao28 t577.length co28, .slice Ao30 t580.length co30] 27 (0, 0)) hg (zK BK568.out))
                            have n15_ := Aside0.mk (zN (g := gb574) (o := .cells #[.int .i64 x569000_2, .slice Ao22 x569001_2.length co22, .slice Ao23 x569002_2.length co23] 27 (0, 0)) hg (zK BK574.out))
                            have n16_ := Aside0.mk (zO (g := gb574) (o := .cells #[.int .i64 x569000_2, .slice Ao22 x569001_2.length co22, .slice Ao23 x569002_2.length co23] 27 (0, 0)) hg (zK BK574.out))
                            clear HO_7
                            clear HO_569001
                            clear HO_569002
                            clear HO_575001
                            clear HO_575002
                            clear HO593
                            clear HO596
                            clear BK568
                            clear BK574
                            clear HB
                            have HO_7 := n0_
                            have HO_569001 := n1_
                            have HO_569002 := n2_
                            have HO_575001 := n3_
                            have HO_575002 := n4_
                            have HO593 := n5_
                            have HO596 := n6_
                            have BK568 := n7_
                            have BK574 := n8_
                            have HB := n9_
                            have BK598 := n10_
                            have GW598 := n11_
                            have GE598 := n12_
                            have NB568_598 := n13_
                            have NB598_568 := n14_
                            have NB574_598 := n15_
                            have NB598_574 := n16_
                            clear n0_ n1_ n2_ n3_ n4_ n5_ n6_ n7_ n8_ n9_ n10_ n11_ n12_ n13_ n14_ n15_ n16_
                            clear hb hbox hg
                            refine hK.out _ _ ⟨(blk_cell BK568.out 0).trans rfl, (blk_cell BK568.out 1).trans rfl, (blk_cell BK568.out 2).trans rfl, (zX HB.out hw588_0), (zX HB.out hw588_1), (zX HB.out hw588_2), (zX HB.out hw588_3), (zX HB.out hw588_4), (zX HB.out hw588_5), (zX HB.out hw588_6), (zX HB.out hw589_0), (zX HB.out hw589_1), (zX HB.out hw589_2), (zX HB.out hw589_3), (zX HB.out hw589_4), (zX HB.out hw589_5), (zX HB.out hw589_6)⟩ (fun hHeld => ?_)
                            clear hK K
                            refine norm_ (a' := ?_) ?_ ?_
                            rotate_left
                            ·show Act.put _ (some 13) _ = _
                             simp only [Act.put, List.setIfInBounds_toArray, List.set_cons_zero, List.set_cons_succ, i64_w, i32_w]
                             rfl
                            exact norm_ (by simp only [putAll, Act.put, List.setIfInBounds_toArray, List.set_cons_zero, List.set_cons_succ]) (hCont (v592, v595, gb598) _ ⟨hHeld, (zR HO593.out), (zR HO596.out), (by (with_reducible repeat (first | apply Kd.V_alloc | apply Kd.V_drewN | apply Kd.V_drew)); exact Kd.V_mono HO_569001.out (fun _ hk => ⟨hk.1.1.2, ⟨hk.1.2, ⟨hk.1.1.1.2, ⟨hk.1.1.1.1.1, ⟨hk.1.1.1.1.2, hk.2⟩⟩⟩⟩⟩)), (by (with_reducible repeat (first | apply Kd.V_alloc | apply Kd.V_drewN | apply Kd.V_drew)); exact Kd.V_mono HO_569002.out (fun _ hk => ⟨hk.1.1.2, ⟨hk.1.2, ⟨hk.1.1.1.2, ⟨hk.1.1.1.1.1, ⟨hk.1.1.1.1.2, hk.2⟩⟩⟩⟩⟩)), (by (with_reducible repeat (first | apply Kd.V_alloc | apply Kd.V_drewN | apply Kd.V_drew)); exact Kd.V_mono HO_575001.out (fun _ hk => ⟨hk.1.1.2, ⟨hk.1.2, ⟨hk.1.1.1.2, ⟨hk.1.1.1.1.1, ⟨hk.1.1.1.1.2, hk.2⟩⟩⟩⟩⟩)), (by (with_reducible repeat (first | apply Kd.V_alloc | apply Kd.V_drewN | apply Kd.V_drew)); exact Kd.V_mono HO_575002.out (fun _ hk => ⟨hk.1.1.2, ⟨hk.1.2, ⟨hk.1.1.1.2, ⟨hk.1.1.1.1.1, ⟨hk.1.1.1.1.2, hk.2⟩⟩⟩⟩⟩)), (zR HO_7.out), (zK BK568.out), (zK BK574.out), (zK BK598.out), GW598.out, GE598.out, NB568_598.out, NB598_568.out, NB574_598.out, NB598_574.out, (zL HB.out)⟩)
                           ·skip
                            refine box_step ?hg (N := 13) ?hd (cs := #[.int .i64 0, .slice none 0 0, .slice none 0 0]) (t := 27) ?hr ?_; (case hd => rfl); (case hg => rfl); (case hr => first | (go_simp; done) | (go_simp; rfl))
                            intro gb598 hg w74 hbox hb
                            have n0_ := Aside0.mk (Kd.R_below (zR HO_7.out) hb)
                            have n1_ := Aside0.mk (Kd.V_below (Kd.V_elderB (zV HO_569001.out) gb598 (Nat.le_of_eq hg.symm)) hb)
                            have n2_ := Aside0.mk (Kd.V_below (Kd.V_elderB (zV HO_569002.out) gb598 (Nat.le_of_eq hg.symm)) hb)
                            have n3_ := Aside0.mk (Kd.V_below (Kd.V_elderB (zV HO_575001.out) gb598 (Nat.le_of_eq hg.symm)) hb)
                            have n4_ := Aside0.mk (Kd.V_below (Kd.V_elderB (zV HO_575002.out) gb598 (Nat.le_of_eq hg.symm)) hb)
                            have n5_ := Aside0.mk (blk_below (g := gb568) (o := .cells #[.int .i64 t576, .slice Ao28 t577.length co28, .slice Ao30 t580.length co30] 27 (0, 0)) (zK BK568.out) hb)
                            have n6_ := Aside0.mk (blk_below (g := gb574) (o := .cells #[.int .i64 x569000_2, .slice Ao22 x569001_2.length co22, .slice Ao23 x569002_2.length co23] 27 (0, 0)) (zK BK574.out) hb)
                            have n7_ := Aside0.mk (below_step (zL HB.out) hb)
                            have n8_ := Aside0.mk (hbox)
                            have n9_ := Aside0.mk (zG hg (zL HB.out))
                            have n10_ := Aside0.mk (zG hg (zL HB.out))
                            have n11_ := Aside0.mk (zN (g := gb568) (o := .cells #[.int .i64 t576, .slice Ao28 t577.length co28, .slice Ao30 t580.length co30] 27 (0, 0)) hg (zK BK568.out))
                            have n12_ := Aside0.mk (zO (g := gb568) (o := .cells #[.int .i64 t576, .slice Ao28 t577.length co28, .slice Ao30 t580.length co30] 27 (0, 0)) hg (zK BK568.out))
                            have n13_ := Aside0.mk (zN (g := gb574) (o := .cells #[.int .i64 x569000_2, .slice Ao22 x569001_2.length co22, .slice Ao23 x569002_2.length co23] 27 (0, 0)) hg (zK BK574.out))
                            have n14_ := Aside0.mk (zO (g := gb574) (o := .cells #[.int .i64 x569000_2, .slice Ao22 x569001_2.length co22, .slice Ao23 x569002_2.length co23] 27 (0, 0)) hg (zK BK574.out))
                            clear HO_7
                            clear HO_569001
                            clear HO_569002
                            clear HO_575001
                            clear HO_575002
                            clear BK568
                            clear BK574
                            clear HB
                            have HO_7 := n0_
                            have HO_569001 := n1_
                            have HO_569002 := n2_
                            have HO_575001 := n3_
                            have HO_575002 := n4_
                            have BK568 := n5_
                            have BK574 := n6_
                            have HB := n7_
                            have BK598 := n8_
                            have GW598 := n9_
                            have GE598 := n10_
                            have NB568_598 := n11_
                            have NB598_568 := n12_
                            have NB574_598 := n13_
                            have NB598_574 := n14_
                            clear n0_ n1_ n2_ n3_ n4_ n5_ n6_ n7_ n8_ n9_ n10_ n11_ n12_ n13_ n14_
                            clear hb hbox hg
                            refine hK.out _ _ ⟨(blk_cell BK568.out 0).trans rfl, (blk_cell BK568.out 1).trans rfl, (blk_cell BK568.out 2).trans rfl, (zX HB.out hw588_0), (zX HB.out hw588_1), (zX HB.out hw588_2), (zX HB.out hw588_3), (zX HB.out hw588_4), (zX HB.out hw588_5), (zX HB.out hw588_6), (zX HB.out hw589_0), (zX HB.out hw589_1), (zX HB.out hw589_2), (zX HB.out hw589_3), (zX HB.out hw589_4), (zX HB.out hw589_5), (zX HB.out hw589_6)⟩ (fun hHeld => ?_)
                            clear hK K
                            refine norm_ (a' := ?_) ?_ ?_
                            rotate_left
                            ·show Act.put _ (some 13) _ = _
                             simp only [Act.put, List.setIfInBounds_toArray, List.set_cons_zero, List.set_cons_succ, i64_w, i32_w]
                             rfl
                            refine one_ (i := 13) (N := some 123) #[true, true, true, true, true, true, true, true, true, true, true, true, true, true, false, false, false, true, false, false] rfl rfl (one_of HT_.out (by kernel_rfl)) (by decide) (fun K hK => ?_)
                            refine goes_ Tryd.func12 (by kernel_rfl) rfl #[.agg #[.int .i64 t576, .slice Ao28 t577.length co28, .slice Ao30 t580.length co30], .int .i64 ((rd_T52 l0 x8_2).f1), .string ((rd_T52 l0 x8_2).f5), .int .i64 x10_4, .int .i64 (wrap64 (x6_2 + t573))] (by rfl) rfl rfl zA ?_
                            with_reducible refine (lease_Give.calls kj53 t576 _ _ t577 _ _ t580 ((rd_T52 l0 x8_2).f1) ((rd_T52 l0 x8_2).f5) x10_4 (wrap64 (x6_2 + t573)) t590 t591 t594 t597 _ ?side1 ?side2 ?side3 ?side4 A68.out).mono ?_
                            (case side1 => repeat (first | exact (Kd.V_reads' HO_569001.out).2.2 | (with_reducible refine Kd.C_alloc ?_ _) | (with_reducible refine Kd.C_drewN ?_ _) | (with_reducible refine Kd.C_drew ?_)))
                            (case side2 => exact (Kd.V_reads' HO_569001.out).2.1)
                            (case side3 => repeat (first | exact (Kd.V_reads' HO_569002.out).2.2 | (with_reducible refine Kd.C_alloc ?_ _) | (with_reducible refine Kd.C_drewN ?_ _) | (with_reducible refine Kd.C_drew ?_)))
                            (case side4 => exact (Kd.V_reads' HO_569002.out).2.1)
                            rintro e w75 ⟨v592, v595, rfl, ho0, ho1, hb⟩
                            refine ⟨_, rfl, ?_⟩
                            have n0_ := Aside0.mk (Kd.R_below (zR HO_7.out) hb)
                            have n1_ := Aside0.mk (Kd.V_mono (Kd.V_told (Kd.V_told (Kd.V_old (zV HO_569001.out) hb) (Kd.R_base ho0)) (Kd.R_base ho1)) (fun _ h_ => h_.1))
                            have n2_ := Aside0.mk (Kd.V_mono (Kd.V_told (Kd.V_told (Kd.V_old (zV HO_569002.out) hb) (Kd.R_base ho0)) (Kd.R_base ho1)) (fun _ h_ => h_.1))
                            have n3_ := Aside0.mk (Kd.V_mono (Kd.V_told (Kd.V_told (Kd.V_old (zV HO_575001.out) hb) (Kd.R_base ho0)) (Kd.R_base ho1)) (fun _ h_ => h_.1))
                            have n4_ := Aside0.mk (Kd.V_mono (Kd.V_told (Kd.V_told (Kd.V_old (zV HO_575002.out) hb) (Kd.R_base ho0)) (Kd.R_base ho1)) (fun _ h_ => h_.1))
                            have n5_ := Aside0.mk (Kd.R_lower ho0 (below_size (zL HB.out)))
                            have n6_ := Aside0.mk (Kd.R_lower ho1 (below_size (zL HB.out)))
                            have n7_ := Aside0.mk (blk_below (g := gb568) (o := .cells #[.int .i64 t576, .slice Ao28 t577.length co28, .slice Ao30 t580.length co30] 27 (0, 0)) (zK BK568.out) hb)
                            have n8_ := Aside0.mk (blk_below (g := gb574) (o := .cells #[.int .i64 x569000_2, .slice Ao22 x569001_2.length co22, .slice Ao23 x569002_2.length co23] 27 (0, 0)) (zK BK574.out) hb)
                            have n9_ := Aside0.mk (blk_below (g := gb598) (o := .cells #[.int .i64 0, .slice none 0 0, .slice none 0 0] 27 (0, 0)) (zK BK598.out) hb)
                            have n10_ := Aside0.mk (below_step (zL HB.out) hb)
                            clear HO_7
                            clear HO_569001
                            clear HO_569002
                            clear HO_575001
                            clear HO_575002
                            clear BK568
                            clear BK574
                            clear BK598
                            clear HB
                            have HO_7 := n0_
                            have HO_569001 := n1_
                            have HO_569002 := n2_
                            have HO_575001 := n3_
                            have HO_575002 := n4_
                            have HO593 := n5_
                            have HO596 := n6_
                            have BK568 := n7_
                            have BK574 := n8_
                            have BK598 := n9_
                            have HB := n10_
                            clear n0_ n1_ n2_ n3_ n4_ n5_ n6_ n7_ n8_ n9_ n10_
                            (try clear hb)
                            (try clear hb2)
                            (try clear hk)
                            (try clear hi)
                            (try clear ho0)
                            (try clear ho1)
                            refine hK.out _ _ ⟨(blk_cell BK568.out 0).trans rfl, (blk_cell BK568.out 1).trans rfl, (blk_cell BK568.out 2).trans rfl, (zX HB.out hw588_0), (zX HB.out hw588_1), (zX HB.out hw588_2), (zX HB.out hw588_3), (zX HB.out hw588_4), (zX HB.out hw588_5), (zX HB.out hw588_6), (zX HB.out hw589_0), (zX HB.out hw589_1), (zX HB.out hw589_2), (zX HB.out hw589_3), (zX HB.out hw589_4), (zX HB.out hw589_5), (zX HB.out hw589_6)⟩ (fun hHeld => ?_)
                            clear hK K
                            refine norm_ (a' := ?_) ?_ ?_
                            rotate_left
                            ·show Act.put _ (some 123) _ = _
                             simp only [Act.put, List.setIfInBounds_toArray, List.set_cons_zero, List.set_cons_succ, i64_w, i32_w]
                             rfl
                            refine pure_ (i := 14) (N := some 109) (v := ?_) (a' := ?_) #[true, true, true, true, true, true, true, true, true, true, true, true, true, true, true, false, false, true, false, false] rfl rfl (any_of HT_.out (by kernel_rfl)) (fun _ _ _ h => h) (Or.inl ⟨by rfl, ?_⟩) ?_ ?_
                            rotate_left
                            ·intro w'
                             go_simp
                             with_reducible rfl
                            rotate_left
                            ·simp only [Act.put, List.setIfInBounds_toArray, List.set_cons_zero, List.set_cons_succ, i64_w, i32_w]
                             rfl
                            refine pure_ (i := 15) (N := some 124) (v := ?_) (a' := ?_) #[true, true, true, true, true, true, true, true, true, true, true, true, true, true, true, true, false, true, false, false] rfl rfl (any_of HT_.out (by kernel_rfl)) (fun _ _ _ h => h) (Or.inl ⟨by rfl, ?_⟩) ?_ ?_
                            rotate_left
                            ·intro w'
                             go_simp
                             with_reducible rfl
                            rotate_left
                            ·simp only [Act.put, List.setIfInBounds_toArray, List.set_cons_zero, List.set_cons_succ, i64_w, i32_w]
                             rfl
                            refine pure_ (i := 16) (N := some 125) (v := ?_) (a' := ?_) #[true, true, true, true, true, true, true, true, true, true, true, true, true, true, true, true, true, true, false, false] rfl rfl (any_of HT_.out (by kernel_rfl)) (fun _ _ _ h => h) (Or.inl ⟨by rfl, ?_⟩) ?_ ?_
                            rotate_left
                            ·intro w'
                             go_simp
                             with_reducible rfl
                            rotate_left
                            ·simp only [Act.put, List.setIfInBounds_toArray, List.set_cons_zero, List.set_cons_succ, i64_w, i32_w]
                             rfl
                            exact norm_ (by simp only [putAll, Act.put, List.setIfInBounds_toArray, List.set_cons_zero, List.set_cons_succ]) (hCont (v592, v595, gb598) _ ⟨hHeld, (zR HO593.out), (zR HO596.out), (by (with_reducible repeat (first | apply Kd.V_alloc | apply Kd.V_drewN | apply Kd.V_drew)); exact Kd.V_mono HO_569001.out (fun _ hk => ⟨hk.1.2, ⟨hk.2, ⟨hk.1.1.1.2, ⟨hk.1.1.1.1.1, ⟨hk.1.1.1.1.2, hk.1.1.2⟩⟩⟩⟩⟩)), (by (with_reducible repeat (first | apply Kd.V_alloc | apply Kd.V_drewN | apply Kd.V_drew)); exact Kd.V_mono HO_569002.out (fun _ hk => ⟨hk.1.2, ⟨hk.2, ⟨hk.1.1.1.2, ⟨hk.1.1.1.1.1, ⟨hk.1.1.1.1.2, hk.1.1.2⟩⟩⟩⟩⟩)), (by (with_reducible repeat (first | apply Kd.V_alloc | apply Kd.V_drewN | apply Kd.V_drew)); exact Kd.V_mono HO_575001.out (fun _ hk => ⟨hk.1.2, ⟨hk.2, ⟨hk.1.1.1.2, ⟨hk.1.1.1.1.1, ⟨hk.1.1.1.1.2, hk.1.1.2⟩⟩⟩⟩⟩)), (by (with_reducible repeat (first | apply Kd.V_alloc | apply Kd.V_drewN | apply Kd.V_drew)); exact Kd.V_mono HO_575002.out (fun _ hk => ⟨hk.1.2, ⟨hk.2, ⟨hk.1.1.1.2, ⟨hk.1.1.1.1.1, ⟨hk.1.1.1.1.2, hk.1.1.2⟩⟩⟩⟩⟩)), (zR HO_7.out), (zK BK568.out), (zK BK574.out), (zK BK598.out), GW598.out, GE598.out, NB568_598.out, NB598_568.out, NB574_598.out, NB598_574.out, (zL HB.out)⟩)
                          rintro ⟨v592, v595, gb598⟩ w76 ⟨hS_, h0_, h1_, h2_, h3_, h4_, h5_, h6_, h7_, h8_, h9_, h10_, h11_, h12_, h13_, h14_, h15_, h16_⟩
                          have n0_ : Aside0 (Kd.R k34 34 w76 w.heap.size (fun _ => True) v592 t591) := ⟨h0_⟩
                          have n1_ : Aside0 (Kd.R k32 32 w76 w.heap.size (fun _ => True) v595 t594) := ⟨h1_⟩
                          have n2_ : Aside0 (Kd.V k34 34 w76 w.heap.size (fun k_ => some k_ ≠ (v592 : Value).ownBlock ∧ some k_ ≠ (v595 : Value).ownBlock ∧ some k_ ≠ (.slice (some ⟨go65, 0, none⟩) x7_4.length co65 : Value).ownBlock ∧ k_ ≠ gb568 ∧ k_ ≠ gb574 ∧ k_ ≠ gb598) (.slice Ao28 t577.length co28) t577) := ⟨h2_⟩
                          have n3_ : Aside0 (Kd.V k32 32 w76 w.heap.size (fun k_ => some k_ ≠ (v592 : Value).ownBlock ∧ some k_ ≠ (v595 : Value).ownBlock ∧ some k_ ≠ (.slice (some ⟨go65, 0, none⟩) x7_4.length co65 : Value).ownBlock ∧ k_ ≠ gb568 ∧ k_ ≠ gb574 ∧ k_ ≠ gb598) (.slice Ao30 t580.length co30) t580) := ⟨h3_⟩
                          have n4_ : Aside0 (Kd.V k34 34 w76 w.heap.size (fun k_ => some k_ ≠ (v592 : Value).ownBlock ∧ some k_ ≠ (v595 : Value).ownBlock ∧ some k_ ≠ (.slice (some ⟨go65, 0, none⟩) x7_4.length co65 : Value).ownBlock ∧ k_ ≠ gb568 ∧ k_ ≠ gb574 ∧ k_ ≠ gb598) (.slice Ao22 x569001_2.length co22) x569001_2) := ⟨h4_⟩
                          have n5_ : Aside0 (Kd.V k32 32 w76 w.heap.size (fun k_ => some k_ ≠ (v592 : Value).ownBlock ∧ some k_ ≠ (v595 : Value).ownBlock ∧ some k_ ≠ (.slice (some ⟨go65, 0, none⟩) x7_4.length co65 : Value).ownBlock ∧ k_ ≠ gb568 ∧ k_ ≠ gb574 ∧ k_ ≠ gb598) (.slice Ao23 x569002_2.length co23) x569002_2) := ⟨h5_⟩
                          have n6_ : Aside0 (Kd.R (Kd.int .i64) 3 w76 w.heap.size (fun _ => True) (.slice (some ⟨go65, 0, none⟩) x7_4.length co65) y587) := ⟨h6_⟩
                          have n7_ : Aside0 (w76.heap[gb568]? = some (.cells #[.int .i64 t576, .slice Ao28 t577.length co28, .slice Ao30 t580.length co30] 27 (0, 0))) := ⟨h7_⟩
                          have n8_ : Aside0 (w76.heap[gb574]? = some (.cells #[.int .i64 x569000_2, .slice Ao22 x569001_2.length co22, .slice Ao23 x569002_2.length co23] 27 (0, 0))) := ⟨h8_⟩
                          have n9_ : Aside0 (w76.heap[gb598]? = some (.cells #[.int .i64 0, .slice none 0 0, .slice none 0 0] 27 (0, 0))) := ⟨h9_⟩
                          have n10_ : Aside0 (w.heap.size ≤ gb598) := ⟨h10_⟩
                          have n11_ : Aside0 (w.heap.size ≤ gb598) := ⟨h11_⟩
                          have n12_ : Aside0 (gb568 ≠ gb598) := ⟨h12_⟩
                          have n13_ : Aside0 (gb598 ≠ gb568) := ⟨h13_⟩
                          have n14_ : Aside0 (gb574 ≠ gb598) := ⟨h14_⟩
                          have n15_ : Aside0 (gb598 ≠ gb574) := ⟨h15_⟩
                          have n16_ : Aside0 (Below w.heap.size w w76) := ⟨h16_⟩
                          clear HO_7
                          clear HO_569001
                          clear HO_569002
                          clear HO_575001
                          clear HO_575002
                          clear BK568
                          clear BK574
                          clear HB
                          clear h0_ h1_ h2_ h3_ h4_ h5_ h6_ h7_ h8_ h9_ h10_ h11_ h12_ h13_ h14_ h15_ h16_
                          have HO593 := n0_
                          have HO596 := n1_
                          have HO_569001 := n2_
                          have HO_569002 := n3_
                          have HO_575001 := n4_
                          have HO_575002 := n5_
                          have HO_7 := n6_
                          have BK568 := n7_
                          have BK574 := n8_
                          have BK598 := n9_
                          have GW598 := n10_
                          have GE598 := n11_
                          have NB568_598 := n12_
                          have NB598_568 := n13_
                          have NB574_598 := n14_
                          have NB598_574 := n15_
                          have HB := n16_
                          clear n0_ n1_ n2_ n3_ n4_ n5_ n6_ n7_ n8_ n9_ n10_ n11_ n12_ n13_ n14_ n15_ n16_
                          have hHeld : w76.cell? ⟨gb568, 0, none⟩ = some (.int .i64 t576) ∧ w76.cell? ⟨gb568, 1, none⟩ = some (.slice Ao28 t577.length co28) ∧ w76.cell? ⟨gb568, 2, none⟩ = some (.slice Ao30 t580.length co30) ∧ w76.cell? (ad572.add ((x8_2).toNat * 7)) = some (.int .i64 ((rd_T52 l0 x8_2).f0)) ∧ w76.cell? ⟨(ad572.add ((x8_2).toNat * 7)).block, (ad572.add ((x8_2).toNat * 7)).off + 1, none⟩ = some (.int .i64 ((rd_T52 l0 x8_2).f1)) ∧ w76.cell? ⟨(ad572.add ((x8_2).toNat * 7)).block, (ad572.add ((x8_2).toNat * 7)).off + 2, none⟩ = some (.int .i64 ((rd_T52 l0 x8_2).f2)) ∧ w76.cell? ⟨(ad572.add ((x8_2).toNat * 7)).block, (ad572.add ((x8_2).toNat * 7)).off + 3, none⟩ = some (.int .i64 ((rd_T52 l0 x8_2).f3)) ∧ w76.cell? ⟨(ad572.add ((x8_2).toNat * 7)).block, (ad572.add ((x8_2).toNat * 7)).off + 4, none⟩ = some (.int .i64 ((rd_T52 l0 x8_2).f4)) ∧ w76.cell? ⟨(ad572.add ((x8_2).toNat * 7)).block, (ad572.add ((x8_2).toNat * 7)).off + 5, none⟩ = some (.string ((rd_T52 l0 x8_2).f5)) ∧ w76.cell? ⟨(ad572.add ((x8_2).toNat * 7)).block, (ad572.add ((x8_2).toNat * 7)).off + 6, none⟩ = some (.bool ((rd_T52 l0 x8_2).f6)) ∧ w76.cell? (ad572.add ((x8_2).toNat * 7)) = some (.int .i64 ((rd_T52 l0 x8_2).f0)) ∧ w76.cell? ⟨(ad572.add ((x8_2).toNat * 7)).block, (ad572.add ((x8_2).toNat * 7)).off + 1, none⟩ = some (.int .i64 ((rd_T52 l0 x8_2).f1)) ∧ w76.cell? ⟨(ad572.add ((x8_2).toNat * 7)).block, (ad572.add ((x8_2).toNat * 7)).off + 2, none⟩ = some (.int .i64 ((rd_T52 l0 x8_2).f2)) ∧ w76.cell? ⟨(ad572.add ((x8_2).toNat * 7)).block, (ad572.add ((x8_2).toNat * 7)).off + 3, none⟩ = some (.int .i64 ((rd_T52 l0 x8_2).f3)) ∧ w76.cell? ⟨(ad572.add ((x8_2).toNat * 7)).block, (ad572.add ((x8_2).toNat * 7)).off + 4, none⟩ = some (.int .i64 ((rd_T52 l0 x8_2).f4)) ∧ w76.cell? ⟨(ad572.add ((x8_2).toNat * 7)).block, (ad572.add ((x8_2).toNat * 7)).off + 5, none⟩ = some (.string ((rd_T52 l0 x8_2).f5)) ∧ w76.cell? ⟨(ad572.add ((x8_2).toNat * 7)).block, (ad572.add ((x8_2).toNat * 7)).off + 6, none⟩ = some (.bool ((rd_T52 l0 x8_2).f6)) := hS_
                          obtain ⟨Ao78, co78, eo78⟩ := Kd.R_slice HO593.out
                          (first | subst eo78 | (injection eo78 with f1_ f2_ f3_; have f4_ := f1_.symm; have f5_ := f3_.symm; clear f1_ f2_ f3_; subst f4_; subst f5_))
                          obtain ⟨Ao80, co80, eo80⟩ := Kd.R_slice HO596.out
                          (first | subst eo80 | (injection eo80 with f1_ f2_ f3_; have f4_ := f1_.symm; have f5_ := f3_.symm; clear f1_ f2_ f3_; subst f4_; subst f5_))
                          refine norm_ (a' := ?_) ?_ ?_
                          rotate_left
                          ·simp only [putAll, Act.put, List.setIfInBounds_toArray, List.set_cons_zero, List.set_cons_succ]
                           rfl
                          refine one_ (i := 18) (N := none) #[true, true, true, true, true, true, true, true, true, true, true, true, true, true, true, true, true, true, true, false] rfl rfl (one_of HT_.out (by kernel_rfl)) (by decide) (fun K hK => ?_)
                          have hs77 : w76.cell? ⟨gb598, 0, none⟩ = some (.int .i64 0) := (blk_cell BK598.out 0).trans rfl
                          have hfs77 := blk_frozen BK598.out 0
                          have hns77_0 := NB568_598.out
                          have hns77_1 := NB574_598.out
                          have hms77_0 := NB598_568.out
                          have hms77_1 := NB598_574.out
                          have hs79 : w76.cell? ⟨gb598, 1, none⟩ = some (.slice none 0 0) := (blk_cell BK598.out 1).trans rfl
                          have hfs79 := blk_frozen BK598.out 1
                          have hns79_0 := NB568_598.out
                          have hns79_1 := NB574_598.out
                          have hms79_0 := NB598_568.out
                          have hms79_1 := NB598_574.out
                          have hs81 : w76.cell? ⟨gb598, 2, none⟩ = some (.slice none 0 0) := (blk_cell BK598.out 2).trans rfl
                          have hfs81 := blk_frozen BK598.out 2
                          have hns81_0 := NB568_598.out
                          have hns81_1 := NB574_598.out
                          have hms81_0 := NB598_568.out
                          have hms81_1 := NB598_574.out
                          refine skip_ (w1 := ?_) (by rfl) rfl ?_ ?_
                          rotate_left
                          ·go_simp
                           rfl
                          refine hK.out _ _ ⟨((cell_far (p := ⟨gb598, _, none⟩) NB568_598.out _).trans (((cell_far (p := ⟨gb598, _, none⟩) NB568_598.out _).trans (((cell_far (p := ⟨gb598, _, none⟩) NB568_598.out _).trans (hHeld.1)))))), ((cell_far (p := ⟨gb598, _, none⟩) NB568_598.out _).trans (((cell_far (p := ⟨gb598, _, none⟩) NB568_598.out _).trans (((cell_far (p := ⟨gb598, _, none⟩) NB568_598.out _).trans (hHeld.2.1)))))), ((cell_far (p := ⟨gb598, _, none⟩) NB568_598.out _).trans (((cell_far (p := ⟨gb598, _, none⟩) NB568_598.out _).trans (((cell_far (p := ⟨gb598, _, none⟩) NB568_598.out _).trans (hHeld.2.2.1)))))), ((cell_far (p := ⟨gb598, _, none⟩) (zY hw588_0 GW598.out) _).trans (((cell_far (p := ⟨gb598, _, none⟩) (zY hw588_0 GW598.out) _).trans (((cell_far (p := ⟨gb598, _, none⟩) (zY hw588_0 GW598.out) _).trans (hHeld.2.2.2.1)))))), ((cell_far (p := ⟨gb598, _, none⟩) (zY hw588_1 GW598.out) _).trans (((cell_far (p := ⟨gb598, _, none⟩) (zY hw588_1 GW598.out) _).trans (((cell_far (p := ⟨gb598, _, none⟩) (zY hw588_1 GW598.out) _).trans (hHeld.2.2.2.2.1)))))), ((cell_far (p := ⟨gb598, _, none⟩) (zY hw588_2 GW598.out) _).trans (((cell_far (p := ⟨gb598, _, none⟩) (zY hw588_2 GW598.out) _).trans (((cell_far (p := ⟨gb598, _, none⟩) (zY hw588_2 GW598.out) _).trans (hHeld.2.2.2.2.2.1)))))), ((cell_far (p := ⟨gb598, _, none⟩) (zY hw588_3 GW598.out) _).trans (((cell_far (p := ⟨gb598, _, none⟩) (zY hw588_3 GW598.out) _).trans (((cell_far (p := ⟨gb598, _, none⟩) (zY hw588_3 GW598.out) _).trans (hHeld.2.2.2.2.2.2.1)))))), ((cell_far (p := ⟨gb598, _, none⟩) (zY hw588_4 GW598.out) _).trans (((cell_far (p := ⟨gb598, _, none⟩) (zY hw588_4 GW598.out) _).trans (((cell_far (p := ⟨gb598, _, none⟩) (zY hw588_4 GW598.out) _).trans (hHeld.2.2.2.2.2.2.2.1)))))), ((cell_far (p := ⟨gb598, _, none⟩) (zY hw588_5 GW598.out) _).trans (((cell_far (p := ⟨gb598, _, none⟩) (zY hw588_5 GW598.out) _).trans (((cell_far (p := ⟨gb598, _, none⟩) (zY hw588_5 GW598.out) _).trans (hHeld.2.2.2.2.2.2.2.2.1)))))), ((cell_far (p := ⟨gb598, _, none⟩) (zY hw588_6 GW598.out) _).trans (((cell_far (p := ⟨gb598, _, none⟩) (zY hw588_6 GW598.out) _).trans (((cell_far (p := ⟨gb598, _, none⟩) (zY hw588_6 GW598.out) _).trans (hHeld.2.2.2.2.2.2.2.2.2.1)))))), ((cell_far (p := ⟨gb598, _, none⟩) (zY hw589_0 GW598.out) _).trans (((cell_far (p := ⟨gb598, _, none⟩) (zY hw589_0 GW598.out) _).trans (((cell_far (p := ⟨gb598, _, none⟩) (zY hw589_0 GW598.out) _).trans (hHeld.2.2.2.2.2.2.2.2.2.2.1)))))), ((cell_far (p := ⟨gb598, _, none⟩) (zY hw589_1 GW598.out) _).trans (((cell_far (p := ⟨gb598, _, none⟩) (zY hw589_1 GW598.out) _).trans (((cell_far (p := ⟨gb598, _, none⟩) (zY hw589_1 GW598.out) _).trans (hHeld.2.2.2.2.2.2.2.2.2.2.2.1)))))), ((cell_far (p := ⟨gb598, _, none⟩) (zY hw589_2 GW598.out) _).trans (((cell_far (p := ⟨gb598, _, none⟩) (zY hw589_2 GW598.out) _).trans (((cell_far (p := ⟨gb598, _, none⟩) (zY hw589_2 GW598.out) _).trans (hHeld.2.2.2.2.2.2.2.2.2.2.2.2.1)))))), ((cell_far (p := ⟨gb598, _, none⟩) (zY hw589_3 GW598.out) _).trans (((cell_far (p := ⟨gb598, _, none⟩) (zY hw589_3 GW598.out) _).trans (((cell_far (p := ⟨gb598, _, none⟩) (zY hw589_3 GW598.out) _).trans (hHeld.2.2.2.2.2.2.2.2.2.2.2.2.2.1)))))), ((cell_far (p := ⟨gb598, _, none⟩) (zY hw589_4 GW598.out) _).trans (((cell_far (p := ⟨gb598, _, none⟩) (zY hw589_4 GW598.out) _).trans (((cell_far (p := ⟨gb598, _, none⟩) (zY hw589_4 GW598.out) _).trans (hHeld.2.2.2.2.2.2.2.2.2.2.2.2.2.2.1)))))), ((cell_far (p := ⟨gb598, _, none⟩) (zY hw589_5 GW598.out) _).trans (((cell_far (p := ⟨gb598, _, none⟩) (zY hw589_5 GW598.out) _).trans (((cell_far (p := ⟨gb598, _, none⟩) (zY hw589_5 GW598.out) _).trans (hHeld.2.2.2.2.2.2.2.2.2.2.2.2.2.2.2.1)))))), ((cell_far (p := ⟨gb598, _, none⟩) (zY hw589_6 GW598.out) _).trans (((cell_far (p := ⟨gb598, _, none⟩) (zY hw589_6 GW598.out) _).trans (((cell_far (p := ⟨gb598, _, none⟩) (zY hw589_6 GW598.out) _).trans (hHeld.2.2.2.2.2.2.2.2.2.2.2.2.2.2.2.2))))))⟩ (fun hHeld => ?_)
                          clear hK K
                          refine pure_ (i := 19) (N := some 14) (v := ?_) (a' := ?_) #[true, true, true, true, true, true, true, true, true, true, true, true, true, true, true, true, true, true, true, true] rfl rfl (any_of HT_.out (by kernel_rfl)) (fun _ _ _ h => h) (Or.inl ⟨by rfl, ?_⟩) ?_ ?_
                          rotate_left
                          ·intro w'
                           go_simp
                           with_reducible rfl
                          rotate_left
                          ·simp only [Act.put, List.setIfInBounds_toArray, List.set_cons_zero, List.set_cons_succ, i64_w, i32_w]
                           rfl
                          refine done_ (done_of HT_.out (by kernel_rfl)) ?_
                          try go_wp2
                          have n0_ : Aside0 (Kd.R (Kd.int .i64) 3 (((w76.setCell ⟨gb598, 0, none⟩ (.int .i64 t590)).setCell ⟨gb598, 1, none⟩ (.slice Ao78 t591.length co78)).setCell ⟨gb598, 2, none⟩ (.slice Ao80 t594.length co80)) w.heap.size (fun _ => True) (.slice (some ⟨go65, 0, none⟩) x7_4.length co65) y587) := ⟨by (with_reducible repeat (first | apply Kd.R_alloc | apply Kd.R_drewN | apply Kd.R_drew)); exact Kd.R_mono (zNT HO_7.out BK598.out) (fun _ hk => trivial)⟩
                          have n1_ : Aside0 (Kd.V k34 34 (((w76.setCell ⟨gb598, 0, none⟩ (.int .i64 t590)).setCell ⟨gb598, 1, none⟩ (.slice Ao78 t591.length co78)).setCell ⟨gb598, 2, none⟩ (.slice Ao80 t594.length co80)) w.heap.size (fun k_ => some k_ ≠ (.slice (some ⟨go65, 0, none⟩) x7_4.length co65 : Value).ownBlock ∧ some k_ ≠ (.slice Ao78 t591.length co78 : Value).ownBlock ∧ some k_ ≠ (.slice Ao80 t594.length co80 : Value).ownBlock ∧ k_ ≠ gb568 ∧ k_ ≠ gb574 ∧ k_ ≠ gb598) (.slice Ao28 t577.length co28) t577) := ⟨by (with_reducible repeat (first | apply Kd.V_alloc | apply Kd.V_drewN | apply Kd.V_drew)); exact Kd.V_mono (zNV HO_569001.out (g := gb598) (fun _ hk => hk.2.2.2.2.2)) (fun _ hk => ⟨hk.1.2.2.1, ⟨hk.1.1, ⟨hk.1.2.1, ⟨hk.1.2.2.2.1, ⟨hk.1.2.2.2.2.1, hk.1.2.2.2.2.2⟩⟩⟩⟩⟩)⟩
                          have n2_ : Aside0 (Kd.V k32 32 (((w76.setCell ⟨gb598, 0, none⟩ (.int .i64 t590)).setCell ⟨gb598, 1, none⟩ (.slice Ao78 t591.length co78)).setCell ⟨gb598, 2, none⟩ (.slice Ao80 t594.length co80)) w.heap.size (fun k_ => some k_ ≠ (.slice (some ⟨go65, 0, none⟩) x7_4.length co65 : Value).ownBlock ∧ some k_ ≠ (.slice Ao78 t591.length co78 : Value).ownBlock ∧ some k_ ≠ (.slice Ao80 t594.length co80 : Value).ownBlock ∧ k_ ≠ gb568 ∧ k_ ≠ gb574 ∧ k_ ≠ gb598) (.slice Ao30 t580.length co30) t580) := ⟨by (with_reducible repeat (first | apply Kd.V_alloc | apply Kd.V_drewN | apply Kd.V_drew)); exact Kd.V_mono (zNV HO_569002.out (g := gb598) (fun _ hk => hk.2.2.2.2.2)) (fun _ hk => ⟨hk.1.2.2.1, ⟨hk.1.1, ⟨hk.1.2.1, ⟨hk.1.2.2.2.1, ⟨hk.1.2.2.2.2.1, hk.1.2.2.2.2.2⟩⟩⟩⟩⟩)⟩
                          have n3_ : Aside0 (Kd.V k34 34 (((w76.setCell ⟨gb598, 0, none⟩ (.int .i64 t590)).setCell ⟨gb598, 1, none⟩ (.slice Ao78 t591.length co78)).setCell ⟨gb598, 2, none⟩ (.slice Ao80 t594.length co80)) w.heap.size (fun k_ => some k_ ≠ (.slice (some ⟨go65, 0, none⟩) x7_4.length co65 : Value).ownBlock ∧ some k_ ≠ (.slice Ao78 t591.length co78 : Value).ownBlock ∧ some k_ ≠ (.slice Ao80 t594.length co80 : Value).ownBlock ∧ k_ ≠ gb568 ∧ k_ ≠ gb574 ∧ k_ ≠ gb598) (.slice Ao22 x569001_2.length co22) x569001_2) := ⟨by (with_reducible repeat (first | apply Kd.V_alloc | apply Kd.V_drewN | apply Kd.V_drew)); exact Kd.V_mono (zNV HO_575001.out (g := gb598) (fun _ hk => hk.2.2.2.2.2)) (fun _ hk => ⟨hk.1.2.2.1, ⟨hk.1.1, ⟨hk.1.2.1, ⟨hk.1.2.2.2.1, ⟨hk.1.2.2.2.2.1, hk.1.2.2.2.2.2⟩⟩⟩⟩⟩)⟩
                          have n4_ : Aside0 (Kd.V k32 32 (((w76.setCell ⟨gb598, 0, none⟩ (.int .i64 t590)).setCell ⟨gb598, 1, none⟩ (.slice Ao78 t591.length co78)).setCell ⟨gb598, 2, none⟩ (.slice Ao80 t594.length co80)) w.heap.size (fun k_ => some k_ ≠ (.slice (some ⟨go65, 0, none⟩) x7_4.length co65 : Value).ownBlock ∧ some k_ ≠ (.slice Ao78 t591.length co78 : Value).ownBlock ∧ some k_ ≠ (.slice Ao80 t594.length co80 : Value).ownBlock ∧ k_ ≠ gb568 ∧ k_ ≠ gb574 ∧ k_ ≠ gb598) (.slice Ao23 x569002_2.length co23) x569002_2) := ⟨by (with_reducible repeat (first | apply Kd.V_alloc | apply Kd.V_drewN | apply Kd.V_drew)); exact Kd.V_mono (zNV HO_575002.out (g := gb598) (fun _ hk => hk.2.2.2.2.2)) (fun _ hk => ⟨hk.1.2.2.1, ⟨hk.1.1, ⟨hk.1.2.1, ⟨hk.1.2.2.2.1, ⟨hk.1.2.2.2.2.1, hk.1.2.2.2.2.2⟩⟩⟩⟩⟩)⟩
                          have n5_ : Aside0 (Kd.R k34 34 (((w76.setCell ⟨gb598, 0, none⟩ (.int .i64 t590)).setCell ⟨gb598, 1, none⟩ (.slice Ao78 t591.length co78)).setCell ⟨gb598, 2, none⟩ (.slice Ao80 t594.length co80)) w.heap.size (fun _ => True) (.slice Ao78 t591.length co78) t591) := ⟨by (with_reducible repeat (first | apply Kd.R_alloc | apply Kd.R_drewN | apply Kd.R_drew)); exact Kd.R_mono (zNT HO593.out BK598.out) (fun _ hk => trivial)⟩
                          have n6_ : Aside0 (Kd.R k32 32 (((w76.setCell ⟨gb598, 0, none⟩ (.int .i64 t590)).setCell ⟨gb598, 1, none⟩ (.slice Ao78 t591.length co78)).setCell ⟨gb598, 2, none⟩ (.slice Ao80 t594.length co80)) w.heap.size (fun _ => True) (.slice Ao80 t594.length co80) t594) := ⟨by (with_reducible repeat (first | apply Kd.R_alloc | apply Kd.R_drewN | apply Kd.R_drew)); exact Kd.R_mono (zNT HO596.out BK598.out) (fun _ hk => trivial)⟩
                          have n7_ : Aside0 ((((w76.setCell ⟨gb598, 0, none⟩ (.int .i64 t590)).setCell ⟨gb598, 1, none⟩ (.slice Ao78 t591.length co78)).setCell ⟨gb598, 2, none⟩ (.slice Ao80 t594.length co80)).heap[gb568]? = some (.cells #[.int .i64 t576, .slice Ao28 t577.length co28, .slice Ao30 t580.length co30] 27 (0, 0))) := ⟨zK BK568.out⟩
                          have n8_ : Aside0 ((((w76.setCell ⟨gb598, 0, none⟩ (.int .i64 t590)).setCell ⟨gb598, 1, none⟩ (.slice Ao78 t591.length co78)).setCell ⟨gb598, 2, none⟩ (.slice Ao80 t594.length co80)).heap[gb574]? = some (.cells #[.int .i64 x569000_2, .slice Ao22 x569001_2.length co22, .slice Ao23 x569002_2.length co23] 27 (0, 0))) := ⟨zK BK574.out⟩
                          have n9_ : Aside0 ((((w76.setCell ⟨gb598, 0, none⟩ (.int .i64 t590)).setCell ⟨gb598, 1, none⟩ (.slice Ao78 t591.length co78)).setCell ⟨gb598, 2, none⟩ (.slice Ao80 t594.length co80)).heap[gb598]? = some (.cells #[.int .i64 t590, .slice Ao78 t591.length co78, .slice Ao80 t594.length co80] 27 (0, 0))) := ⟨zP3 BK598.out⟩
                          have n10_ : Aside0 (Below w.heap.size w (((w76.setCell ⟨gb598, 0, none⟩ (.int .i64 t590)).setCell ⟨gb598, 1, none⟩ (.slice Ao78 t591.length co78)).setCell ⟨gb598, 2, none⟩ (.slice Ao80 t594.length co80))) := ⟨zL HB.out⟩
                          (try clear HO_7)
                          (try clear HO_569001)
                          (try clear HO_569002)
                          (try clear HO_575001)
                          (try clear HO_575002)
                          (try clear HO593)
                          (try clear HO596)
                          (try clear BK568)
                          (try clear BK574)
                          (try clear BK598)
                          (try clear HB)
                          generalize (((w76.setCell ⟨gb598, 0, none⟩ (.int .i64 t590)).setCell ⟨gb598, 1, none⟩ (.slice Ao78 t591.length co78)).setCell ⟨gb598, 2, none⟩ (.slice Ao80 t594.length co80)) = w82 at n0_ n1_ n2_ n3_ n4_ n5_ n6_ n7_ n8_ n9_ n10_ ⊢
                          have HO_7 := n0_
                          have HO_569001 := n1_
                          have HO_569002 := n2_
                          have HO_575001 := n3_
                          have HO_575002 := n4_
                          have HO593 := n5_
                          have HO596 := n6_
                          have BK568 := n7_
                          have BK574 := n8_
                          have BK598 := n9_
                          have HB := n10_
                          clear n0_ n1_ n2_ n3_ n4_ n5_ n6_ n7_ n8_ n9_ n10_
                          have n0_ := Aside0.mk (Kd.R_drew HO_7.out)
                          have n1_ := Aside0.mk (Kd.V_drew HO_569001.out)
                          have n2_ := Aside0.mk (Kd.V_drew HO_569002.out)
                          have n3_ := Aside0.mk (Kd.V_drew HO_575001.out)
                          have n4_ := Aside0.mk (Kd.V_drew HO_575002.out)
                          have n5_ := Aside0.mk (Kd.R_drew HO593.out)
                          have n6_ := Aside0.mk (Kd.R_drew HO596.out)
                          have n7_ := Aside0.mk (blk_drew BK568.out)
                          have n8_ := Aside0.mk (blk_drew BK574.out)
                          have n9_ := Aside0.mk (blk_drew BK598.out)
                          have n10_ := Aside0.mk (below_drew1 HB.out)
                          clear HO_7
                          clear HO_569001
                          clear HO_569002
                          clear HO_575001
                          clear HO_575002
                          clear HO593
                          clear HO596
                          clear BK568
                          clear BK574
                          clear BK598
                          clear HB
                          have HO_7 := n0_
                          have HO_569001 := n1_
                          have HO_569002 := n2_
                          have HO_575001 := n3_
                          have HO_575002 := n4_
                          have HO593 := n5_
                          have HO596 := n6_
                          have BK568 := n7_
                          have BK574 := n8_
                          have BK598 := n9_
                          have HB := n10_
                          clear n0_ n1_ n2_ n3_ n4_ n5_ n6_ n7_ n8_ n9_ n10_
                          have p599 : 0 ≤ (x8_2 : Int) := zD
                          have q599 : x8_2 < (l0.length : Int) := zD
                          obtain ⟨ad599, e599, hx599_0, hx599_1, hx599_2, hx599_3, hx599_4, hx599_5, hx599_6⟩ := at_T52 HR0.out x8_2 p599 q599
                          have hw599_6 := hx599_6
                          have hw599_5 := hx599_5
                          have hw599_4 := hx599_4
                          have hw599_3 := hx599_3
                          have hw599_2 := hx599_2
                          have hw599_1 := hx599_1
                          have hw599_0 := hx599_0
                          obtain rfl : ad572 = ad599 := (by injection e599)
                          replace hx599_0 := zX HB.out hx599_0
                          replace hx599_1 := zX HB.out hx599_1
                          replace hx599_2 := zX HB.out hx599_2
                          replace hx599_3 := zX HB.out hx599_3
                          replace hx599_4 := zX HB.out hx599_4
                          replace hx599_5 := zX HB.out hx599_5
                          replace hx599_6 := zX HB.out hx599_6
                          replace p599 := eq_true p599
                          replace q599 := eq_true q599
                          have p600 : 0 ≤ (x8_2 : Int) := zD
                          have q600 : x8_2 < (l0.length : Int) := zD
                          obtain ⟨ad600, e600, hx600_0, hx600_1, hx600_2, hx600_3, hx600_4, hx600_5, hx600_6⟩ := at_T52 HR0.out x8_2 p600 q600
                          have hw600_6 := hx600_6
                          have hw600_5 := hx600_5
                          have hw600_4 := hx600_4
                          have hw600_3 := hx600_3
                          have hw600_2 := hx600_2
                          have hw600_1 := hx600_1
                          have hw600_0 := hx600_0
                          obtain rfl : ad572 = ad600 := (by injection e600)
                          replace hx600_0 := zX HB.out hx600_0
                          replace hx600_1 := zX HB.out hx600_1
                          replace hx600_2 := zX HB.out hx600_2
                          replace hx600_3 := zX HB.out hx600_3
                          replace hx600_4 := zX HB.out hx600_4
                          replace hx600_5 := zX HB.out hx600_5
                          replace hx600_6 := zX HB.out hx600_6
                          replace p600 := eq_true p600
                          replace q600 := eq_true q600
                          refine start_ (n := 20) (S := fun w' => w'.cell? ⟨gb568, 0, none⟩ = some (.int .i64 t576) ∧ w'.cell? ⟨gb568, 1, none⟩ = some (.slice Ao28 t577.length co28) ∧ w'.cell? ⟨gb568, 2, none⟩ = some (.slice Ao30 t580.length co30) ∧ w'.cell? (ad572.add ((x8_2).toNat * 7)) = some (.int .i64 ((rd_T52 l0 x8_2).f0)) ∧ w'.cell? ⟨(ad572.add ((x8_2).toNat * 7)).block, (ad572.add ((x8_2).toNat * 7)).off + 1, none⟩ = some (.int .i64 ((rd_T52 l0 x8_2).f1)) ∧ w'.cell? ⟨(ad572.add ((x8_2).toNat * 7)).block, (ad572.add ((x8_2).toNat * 7)).off + 2, none⟩ = some (.int .i64 ((rd_T52 l0 x8_2).f2)) ∧ w'.cell? ⟨(ad572.add ((x8_2).toNat * 7)).block, (ad572.add ((x8_2).toNat * 7)).off + 3, none⟩ = some (.int .i64 ((rd_T52 l0 x8_2).f3)) ∧ w'.cell? ⟨(ad572.add ((x8_2).toNat * 7)).block, (ad572.add ((x8_2).toNat * 7)).off + 4, none⟩ = some (.int .i64 ((rd_T52 l0 x8_2).f4)) ∧ w'.cell? ⟨(ad572.add ((x8_2).toNat * 7)).block, (ad572.add ((x8_2).toNat * 7)).off + 5, none⟩ = some (.string ((rd_T52 l0 x8_2).f5)) ∧ w'.cell? ⟨(ad572.add ((x8_2).toNat * 7)).block, (ad572.add ((x8_2).toNat * 7)).off + 6, none⟩ = some (.bool ((rd_T52 l0 x8_2).f6)) ∧ w'.cell? (ad572.add ((x8_2).toNat * 7)) = some (.int .i64 ((rd_T52 l0 x8_2).f0)) ∧ w'.cell? ⟨(ad572.add ((x8_2).toNat * 7)).block, (ad572.add ((x8_2).toNat * 7)).off + 1, none⟩ = some (.int .i64 ((rd_T52 l0 x8_2).f1)) ∧ w'.cell? ⟨(ad572.add ((x8_2).toNat * 7)).block, (ad572.add ((x8_2).toNat * 7)).off + 2, none⟩ = some (.int .i64 ((rd_T52 l0 x8_2).f2)) ∧ w'.cell? ⟨(ad572.add ((x8_2).toNat * 7)).block, (ad572.add ((x8_2).toNat * 7)).off + 3, none⟩ = some (.int .i64 ((rd_T52 l0 x8_2).f3)) ∧ w'.cell? ⟨(ad572.add ((x8_2).toNat * 7)).block, (ad572.add ((x8_2).toNat * 7)).off + 4, none⟩ = some (.int .i64 ((rd_T52 l0 x8_2).f4)) ∧ w'.cell? ⟨(ad572.add ((x8_2).toNat * 7)).block, (ad572.add ((x8_2).toNat * 7)).off + 5, none⟩ = some (.string ((rd_T52 l0 x8_2).f5)) ∧ w'.cell? ⟨(ad572.add ((x8_2).toNat * 7)).block, (ad572.add ((x8_2).toNat * 7)).off + 6, none⟩ = some (.bool ((rd_T52 l0 x8_2).f6))) (ds := []) #[false, false, false, false, false, false, false, false, false, false, false, false, false, false, false, false, false, false, false, false] (by kernel_rfl) rfl rfl ⟨(blk_cell BK568.out 0).trans rfl, (blk_cell BK568.out 1).trans rfl, (blk_cell BK568.out 2).trans rfl, (zX HB.out hw599_0), (zX HB.out hw599_1), (zX HB.out hw599_2), (zX HB.out hw599_3), (zX HB.out hw599_4), (zX HB.out hw599_5), (zX HB.out hw599_6), (zX HB.out hw600_0), (zX HB.out hw600_1), (zX HB.out hw600_2), (zX HB.out hw600_3), (zX HB.out hw600_4), (zX HB.out hw600_5), (zX HB.out hw600_6)⟩ (fun hHeld => ?_); refine with_tabW cooperagelaw16_LeaseOver.tab29 cooperagelaw16_LeaseOver.bits29 (fun HT_ HW_ => ?_)
                          generalize w82.drew = w83 at HO_7 HO_569001 HO_569002 HO_575001 HO_575002 HO593 HO596 BK568 BK574 BK598 HB hx599_0 hx599_1 hx599_2 hx599_3 hx599_4 hx599_5 hx599_6 hx600_0 hx600_1 hx600_2 hx600_3 hx600_4 hx600_5 hx600_6 hHeld ⊢
                          refine pure_ (i := 1) (N := some 128) (v := ?_) (a' := ?_) #[false, true, false, false, false, false, false, false, false, false, false, false, false, false, false, false, false, false, false, false] rfl rfl (any_of HT_.out (by kernel_rfl)) (fun _ _ _ h => h) (Or.inl ⟨by rfl, ?_⟩) ?_ ?_
                          rotate_left
                          ·intro w'
                           go_simp
                           with_reducible rfl
                          rotate_left
                          ·simp only [Act.put, List.setIfInBounds_toArray, List.set_cons_zero, List.set_cons_succ, i64_w, i32_w]
                           rfl
                          refine pure_ (i := 2) (N := some 129) (v := ?_) (a' := ?_) #[false, true, true, false, false, false, false, false, false, false, false, false, false, false, false, false, false, false, false, false] rfl rfl (any_of HT_.out (by kernel_rfl)) (fun _ _ _ h => h) (Or.inl ⟨by rfl, ?_⟩) ?_ ?_
                          rotate_left
                          ·intro w'
                           go_simp
                           with_reducible rfl
                          rotate_left
                          ·simp only [Act.put, List.setIfInBounds_toArray, List.set_cons_zero, List.set_cons_succ, i64_w, i32_w]
                           rfl
                          refine pure_ (i := 3) (N := some 130) (v := ?_) (a' := ?_) #[false, true, true, true, false, false, false, false, false, false, false, false, false, false, false, false, false, false, false, false] rfl rfl (any_of HT_.out (by kernel_rfl)) (fun _ _ _ h => h) (Or.inl ⟨by rfl, ?_⟩) ?_ ?_
                          rotate_left
                          ·intro w'
                           go_simp
                           with_reducible rfl
                          rotate_left
                          ·simp only [Act.put, List.setIfInBounds_toArray, List.set_cons_zero, List.set_cons_succ, i64_w, i32_w]
                           rfl
                          refine pure_ (i := 4) (N := some 131) (v := ?_) (a' := ?_) #[false, true, true, true, true, false, false, false, false, false, false, false, false, false, false, false, false, false, false, false] rfl rfl (any_of HT_.out (by kernel_rfl)) (fun _ _ _ h => h) (Or.inl ⟨by rfl, ?_⟩) ?_ ?_
                          rotate_left
                          ·intro w'
                           go_simp
                           with_reducible rfl
                          rotate_left
                          ·simp only [Act.put, List.setIfInBounds_toArray, List.set_cons_zero, List.set_cons_succ, i64_w, i32_w]
                           rfl
                          refine pure_ (i := 6) (N := some 133) (v := ?_) (a' := ?_) #[false, true, true, true, true, false, true, false, false, false, false, false, false, false, false, false, false, false, false, false] rfl rfl (any_of HT_.out (by kernel_rfl)) (fun _ _ _ h => h) (Or.inl ⟨by rfl, ?_⟩) ?_ ?_
                          rotate_left
                          ·intro w'
                           go_simp
                           with_reducible rfl
                          rotate_left
                          ·simp only [Act.put, List.setIfInBounds_toArray, List.set_cons_zero, List.set_cons_succ, i64_w, i32_w]
                           rfl
                          refine pure_ (i := 7) (N := some 134) (v := ?_) (a' := ?_) #[false, true, true, true, true, false, true, true, false, false, false, false, false, false, false, false, false, false, false, false] rfl rfl (any_of HT_.out (by kernel_rfl)) (fun _ _ _ h => h) (Or.inl ⟨by rfl, ?_⟩) ?_ ?_
                          rotate_left
                          ·intro w'
                           go_simp
                           with_reducible rfl
                          rotate_left
                          ·simp only [Act.put, List.setIfInBounds_toArray, List.set_cons_zero, List.set_cons_succ, i64_w, i32_w]
                           rfl
                          refine pure_ (i := 8) (N := some 135) (v := ?_) (a' := ?_) #[false, true, true, true, true, false, true, true, true, false, false, false, false, false, false, false, false, false, false, false] rfl rfl (any_of HT_.out (by kernel_rfl)) (fun _ _ _ h => h) (Or.inl ⟨by rfl, ?_⟩) ?_ ?_
                          rotate_left
                          ·intro w'
                           go_simp
                           with_reducible rfl
                          rotate_left
                          ·simp only [Act.put, List.setIfInBounds_toArray, List.set_cons_zero, List.set_cons_succ, i64_w, i32_w]
                           rfl
                          refine pure_ (i := 9) (N := some 136) (v := ?_) (a' := ?_) #[false, true, true, true, true, false, true, true, true, true, false, false, false, false, false, false, false, false, false, false] rfl rfl (any_of HT_.out (by kernel_rfl)) (fun _ _ _ h => h) (Or.inl ⟨by rfl, ?_⟩) ?_ ?_
                          rotate_left
                          ·intro w'
                           go_simp
                           with_reducible rfl
                          rotate_left
                          ·simp only [Act.put, List.setIfInBounds_toArray, List.set_cons_zero, List.set_cons_succ, i64_w, i32_w]
                           rfl
                          refine pure_ (i := 11) (N := some 138) (v := ?_) (a' := ?_) #[false, true, true, true, true, false, true, true, true, true, false, true, false, false, false, false, false, false, false, false] rfl rfl (any_of HT_.out (by kernel_rfl)) (fun _ _ _ h => h) (Or.inl ⟨by rfl, ?_⟩) ?_ ?_
                          rotate_left
                          ·intro w'
                           go_simp
                           with_reducible rfl
                          rotate_left
                          ·simp only [Act.put, List.setIfInBounds_toArray, List.set_cons_zero, List.set_cons_succ, i64_w, i32_w]
                           rfl
                          refine pure_ (i := 12) (N := some 139) (v := ?_) (a' := ?_) #[false, true, true, true, true, false, true, true, true, true, false, true, true, false, false, false, false, false, false, false] rfl rfl (any_of HT_.out (by kernel_rfl)) (fun _ _ _ h => h) (Or.inl ⟨by rfl, ?_⟩) ?_ ?_
                          rotate_left
                          ·intro w'
                           go_simp
                           with_reducible rfl
                          rotate_left
                          ·simp only [Act.put, List.setIfInBounds_toArray, List.set_cons_zero, List.set_cons_succ, i64_w, i32_w]
                           rfl
                          refine take_ (i := 0) (N := some 127) (v := ?_) (a' := ?_) #[true, true, true, true, true, false, true, true, true, true, false, true, true, false, false, false, false, false, false, false] rfl rfl (take_ofW HT_.out HW_.out (by kernel_rfl)) (fun _ _ _ h => h) (Or.inl ⟨by rfl, ?_⟩) hHeld ?_ ?_
                          rotate_left
                          ·rintro w' ⟨s0, s1, s2, s3, s4, s5, s6, s7, s8, s9, s10, s11, s12, s13, s14, s15, s16⟩
                           go_simp
                           with_reducible rfl
                          rotate_left
                          ·simp only [Act.put, List.setIfInBounds_toArray, List.set_cons_zero, List.set_cons_succ, i64_w, i32_w]
                           rfl
                          refine take_ (i := 5) (N := some 132) (v := ?_) (a' := ?_) #[true, true, true, true, true, true, true, true, true, true, false, true, true, false, false, false, false, false, false, false] rfl rfl (take_ofW HT_.out HW_.out (by kernel_rfl)) (fun _ _ _ h => h) (Or.inl ⟨by rfl, ?_⟩) hHeld ?_ ?_
                          rotate_left
                          ·rintro w' ⟨s0, s1, s2, s3, s4, s5, s6, s7, s8, s9, s10, s11, s12, s13, s14, s15, s16⟩
                           go_simp
                           with_reducible rfl
                          rotate_left
                          ·simp only [Act.put, List.setIfInBounds_toArray, List.set_cons_zero, List.set_cons_succ, i64_w, i32_w]
                           rfl
                          refine take_ (i := 10) (N := some 137) (v := ?_) (a' := ?_) #[true, true, true, true, true, true, true, true, true, true, true, true, true, false, false, false, false, false, false, false] rfl rfl (take_ofW HT_.out HW_.out (by kernel_rfl)) (fun _ _ _ h => h) (Or.inl ⟨by rfl, ?_⟩) hHeld ?_ ?_
                          rotate_left
                          ·rintro w' ⟨s0, s1, s2, s3, s4, s5, s6, s7, s8, s9, s10, s11, s12, s13, s14, s15, s16⟩
                           go_simp
                           with_reducible rfl
                          rotate_left
                          ·simp only [Act.put, List.setIfInBounds_toArray, List.set_cons_zero, List.set_cons_succ, i64_w, i32_w]
                           rfl
                          refine join_ (σ := Value × Value × Nat) 2 #[true, true, true, true, true, true, true, true, true, true, true, true, true, true, true, true, true, true, false, false] (fun s_ => [(140, .tuple #[.agg #[.int .i64 t601, s_.1, s_.2.1], .int .i64 t608]), (15, .pointer (some ⟨s_.2.2, 0, none⟩)), (126, .tuple #[.agg #[.int .i64 t601, s_.1, s_.2.1], .int .i64 t608]), (141, .agg #[.int .i64 t601, s_.1, s_.2.1]), (142, .int .i64 t608)]) (fun s_ w' => (w'.cell? ⟨gb568, 0, none⟩ = some (.int .i64 t576) ∧ w'.cell? ⟨gb568, 1, none⟩ = some (.slice Ao28 t577.length co28) ∧ w'.cell? ⟨gb568, 2, none⟩ = some (.slice Ao30 t580.length co30) ∧ w'.cell? (ad572.add ((x8_2).toNat * 7)) = some (.int .i64 ((rd_T52 l0 x8_2).f0)) ∧ w'.cell? ⟨(ad572.add ((x8_2).toNat * 7)).block, (ad572.add ((x8_2).toNat * 7)).off + 1, none⟩ = some (.int .i64 ((rd_T52 l0 x8_2).f1)) ∧ w'.cell? ⟨(ad572.add ((x8_2).toNat * 7)).block, (ad572.add ((x8_2).toNat * 7)).off + 2, none⟩ = some (.int .i64 ((rd_T52 l0 x8_2).f2)) ∧ w'.cell? ⟨(ad572.add ((x8_2).toNat * 7)).block, (ad572.add ((x8_2).toNat * 7)).off + 3, none⟩ = some (.int .i64 ((rd_T52 l0 x8_2).f3)) ∧ w'.cell? ⟨(ad572.add ((x8_2).toNat * 7)).block, (ad572.add ((x8_2).toNat * 7)).off + 4, none⟩ = some (.int .i64 ((rd_T52 l0 x8_2).f4)) ∧ w'.cell? ⟨(ad572.add ((x8_2).toNat * 7)).block, (ad572.add ((x8_2).toNat * 7)).off + 5, none⟩ = some (.string ((rd_T52 l0 x8_2).f5)) ∧ w'.cell? ⟨(ad572.add ((x8_2).toNat * 7)).block, (ad572.add ((x8_2).toNat * 7)).off + 6, none⟩ = some (.bool ((rd_T52 l0 x8_2).f6)) ∧ w'.cell? (ad572.add ((x8_2).toNat * 7)) = some (.int .i64 ((rd_T52 l0 x8_2).f0)) ∧ w'.cell? ⟨(ad572.add ((x8_2).toNat * 7)).block, (ad572.add ((x8_2).toNat * 7)).off + 1, none⟩ = some (.int .i64 ((rd_T52 l0 x8_2).f1)) ∧ w'.cell? ⟨(ad572.add ((x8_2).toNat * 7)).block, (ad572.add ((x8_2).toNat * 7)).off + 2, none⟩ = some (.int .i64 ((rd_T52 l0 x8_2).f2)) ∧ w'.cell? ⟨(ad572.add ((x8_2).toNat * 7)).block, (ad572.add ((x8_2).toNat * 7)).off + 3, none⟩ = some (.int .i64 ((rd_T52 l0 x8_2).f3)) ∧ w'.cell? ⟨(ad572.add ((x8_2).toNat * 7)).block, (ad572.add ((x8_2).toNat * 7)).off + 4, none⟩ = some (.int .i64 ((rd_T52 l0 x8_2).f4)) ∧ w'.cell? ⟨(ad572.add ((x8_2).toNat * 7)).block, (ad572.add ((x8_2).toNat * 7)).off + 5, none⟩ = some (.string ((rd_T52 l0 x8_2).f5)) ∧ w'.cell? ⟨(ad572.add ((x8_2).toNat * 7)).block, (ad572.add ((x8_2).toNat * 7)).off + 6, none⟩ = some (.bool ((rd_T52 l0 x8_2).f6))) ∧ (Kd.R k34 34 w' w.heap.size (fun k_ => some k_ ≠ (s_.1 : Value).ownBlock) (.slice Ao78 t591.length co78) t591) ∧ (Kd.R k32 32 w' w.heap.size (fun _ => True) (.slice Ao80 t594.length co80) t594) ∧ (Kd.R k34 34 w' w.heap.size (fun k_ => some k_ ≠ (.slice Ao78 t591.length co78 : Value).ownBlock) s_.1 t602) ∧ (Kd.V k32 32 w' w.heap.size (fun k_ => some k_ ≠ (.slice Ao78 t591.length co78 : Value).ownBlock ∧ some k_ ≠ (.slice Ao80 t594.length co80 : Value).ownBlock ∧ some k_ ≠ (s_.1 : Value).ownBlock ∧ some k_ ≠ (.slice (some ⟨go65, 0, none⟩) x7_4.length co65 : Value).ownBlock ∧ k_ ≠ gb568 ∧ k_ ≠ gb574 ∧ k_ ≠ gb598 ∧ k_ ≠ s_.2.2) s_.2.1 t605) ∧ (Kd.V k34 34 w' w.heap.size (fun k_ => some k_ ≠ (.slice Ao78 t591.length co78 : Value).ownBlock ∧ some k_ ≠ (.slice Ao80 t594.length co80 : Value).ownBlock ∧ some k_ ≠ (s_.1 : Value).ownBlock ∧ some k_ ≠ (.slice (some ⟨go65, 0, none⟩) x7_4.length co65 : Value).ownBlock ∧ k_ ≠ gb568 ∧ k_ ≠ gb574 ∧ k_ ≠ gb598 ∧ k_ ≠ s_.2.2) (.slice Ao28 t577.length co28) t577) ∧ (Kd.V k32 32 w' w.heap.size (fun k_ => some k_ ≠ (.slice Ao78 t591.length co78 : Value).ownBlock ∧ some k_ ≠ (.slice Ao80 t594.length co80 : Value).ownBlock ∧ some k_ ≠ (s_.1 : Value).ownBlock ∧ some k_ ≠ (.slice (some ⟨go65, 0, none⟩) x7_4.length co65 : Value).ownBlock ∧ k_ ≠ gb568 ∧ k_ ≠ gb574 ∧ k_ ≠ gb598 ∧ k_ ≠ s_.2.2) (.slice Ao30 t580.length co30) t580) ∧ (Kd.V k34 34 w' w.heap.size (fun k_ => some k_ ≠ (.slice Ao78 t591.length co78 : Value).ownBlock ∧ some k_ ≠ (.slice Ao80 t594.length co80 : Value).ownBlock ∧ some k_ ≠ (s_.1 : Value).ownBlock ∧ some k_ ≠ (.slice (some ⟨go65, 0, none⟩) x7_4.length co65 : Value).ownBlock ∧ k_ ≠ gb568 ∧ k_ ≠ gb574 ∧ k_ ≠ gb598 ∧ k_ ≠ s_.2.2) (.slice Ao22 x569001_2.length co22) x569001_2) ∧ (Kd.V k32 32 w' w.heap.size (fun k_ => some k_ ≠ (.slice Ao78 t591.length co78 : Value).ownBlock ∧ some k_ ≠ (.slice Ao80 t594.length co80 : Value).ownBlock ∧ some k_ ≠ (s_.1 : Value).ownBlock ∧ some k_ ≠ (.slice (some ⟨go65, 0, none⟩) x7_4.length co65 : Value).ownBlock ∧ k_ ≠ gb568 ∧ k_ ≠ gb574 ∧ k_ ≠ gb598 ∧ k_ ≠ s_.2.2) (.slice Ao23 x569002_2.length co23) x569002_2) ∧ (Kd.R (Kd.int .i64) 3 w' w.heap.size (fun _ => True) (.slice (some ⟨go65, 0, none⟩) x7_4.length co65) y587) ∧ (w'.heap[gb568]? = some (.cells #[.int .i64 t576, .slice Ao28 t577.length co28, .slice Ao30 t580.length co30] 27 (0, 0))) ∧ (w'.heap[gb574]? = some (.cells #[.int .i64 x569000_2, .slice Ao22 x569001_2.length co22, .slice Ao23 x569002_2.length co23] 27 (0, 0))) ∧ (w'.heap[gb598]? = some (.cells #[.int .i64 t590, .slice Ao78 t591.length co78, .slice Ao80 t594.length co80] 27 (0, 0))) ∧ (w'.heap[s_.2.2]? = some (.cells #[.int .i64 0, .slice none 0 0, .slice none 0 0] 27 (0, 0))) ∧ (w.heap.size ≤ s_.2.2) ∧ (w.heap.size ≤ s_.2.2) ∧ (gb568 ≠ s_.2.2) ∧ (s_.2.2 ≠ gb568) ∧ (gb574 ≠ s_.2.2) ∧ (s_.2.2 ≠ gb574) ∧ (gb598 ≠ s_.2.2) ∧ (s_.2.2 ≠ gb598) ∧ (Below w.heap.size w w')) ?_ ?_
                          rotate_left
                          ·intro hCont
                           refine two_ (i := 13) (j := 17) (Ni := some 140) (Nj := some 15) #[true, true, true, true, true, true, true, true, true, true, true, true, true, true, false, false, false, false, false, false] #[true, true, true, true, true, true, true, true, true, true, true, true, true, false, false, false, false, true, false, false] rfl rfl rfl rfl (two_of HT_.out (by kernel_rfl)) (by decide) (by decide) (fun K hK => ?_) (fun K hK => ?_)
                           ·skip
                            refine goes_ Tryd.func25 (by kernel_rfl) rfl #[.agg #[.int .i64 t576, .slice Ao28 t577.length co28, .slice Ao30 t580.length co30], .int .i64 ((rd_T52 l0 x8_2).f1), .string ((rd_T52 l0 x8_2).f5), .int .i64 x10_4, .int .i64 5, .int .i64 (wrap64 (x6_2 + t573))] (by rfl) rfl rfl zA ?_
                            with_reducible refine (lease_Renew.calls kj53 t576 _ _ t577 (fun k_ => (some k_ ≠ (.slice (some ⟨go65, 0, none⟩) x7_4.length co65 : Value).ownBlock ∧ (some k_ ≠ (.slice Ao78 t591.length co78 : Value).ownBlock ∧ (some k_ ≠ (.slice Ao80 t594.length co80 : Value).ownBlock ∧ (k_ ≠ gb568 ∧ (k_ ≠ gb574 ∧ k_ ≠ gb598)))))) _ _ t580 ((rd_T52 l0 x8_2).f1) ((rd_T52 l0 x8_2).f5) x10_4 5 (wrap64 (x6_2 + t573)) t601 t602 t605 t608 _ ?side1 ?side2 ?side3 A69.out).mono ?_
                            (case side1 => repeat (first | exact (Kd.V_reads' HO_569001.out).2.2 | (with_reducible refine Kd.C_alloc ?_ _) | (with_reducible refine Kd.C_drewN ?_ _) | (with_reducible refine Kd.C_drew ?_)))
                            (case side2 => exact (Kd.V_reads' HO_569001.out).2.1)
                            (case side3 => exact HO_569002.out)
                            rintro e w84 ⟨v603, v606, rfl, ho0, ho1, hb⟩
                            refine ⟨_, rfl, ?_⟩
                            have n0_ := Aside0.mk (Kd.R_below (zR HO_7.out) hb)
                            have n1_ := Aside0.mk (Kd.V_elder' (zV HO_569001.out) (Kd.R_base ho0) hb)
                            have n2_ := Aside0.mk (Kd.V_elder' (zV HO_569002.out) (Kd.R_base ho0) hb)
                            have n3_ := Aside0.mk (Kd.V_elder' (zV HO_575001.out) (Kd.R_base ho0) hb)
                            have n4_ := Aside0.mk (Kd.V_elder' (zV HO_575002.out) (Kd.R_base ho0) hb)
                            have n5_ := Aside0.mk (Kd.R_elder' (zR HO593.out) (Kd.R_base ho0) hb)
                            have n6_ := Aside0.mk (Kd.R_below (zR HO596.out) hb)
                            have n7_ := Aside0.mk (Kd.R_lower (Kd.R_new' (Kd.R_mono (ok' := fun k_ => True) ho0 (fun _ hk_ => trivial)) (Kd.R_lt (zR HO593.out))) (below_size (zL HB.out)))
                            have n8_ := Aside0.mk (Kd.V_lower (Kd.V_mono (ok' := fun k_ => some k_ ≠ (v603 : Value).ownBlock ∧ some k_ ≠ (.slice (some ⟨go65, 0, none⟩) x7_4.length co65 : Value).ownBlock ∧ some k_ ≠ (.slice Ao78 t591.length co78 : Value).ownBlock ∧ some k_ ≠ (.slice Ao80 t594.length co80 : Value).ownBlock ∧ k_ ≠ gb568 ∧ k_ ≠ gb574 ∧ k_ ≠ gb598) ho1 (fun k_ hk_ => ⟨hk_.2, Or.elim hk_.1 (fun hs_ => hs_.1) (fun hn_ => (Kd.fresh' (Kd.R_lt (zR HO_7.out)) k_ hn_)), Or.elim hk_.1 (fun hs_ => hs_.2.1) (fun hn_ => (Kd.fresh' (Kd.R_lt (zR HO593.out)) k_ hn_)), Or.elim hk_.1 (fun hs_ => hs_.2.2.1) (fun hn_ => (Kd.fresh' (Kd.R_lt (zR HO596.out)) k_ hn_)), Or.elim hk_.1 (fun hs_ => hs_.2.2.2.1) (fun hn_ => (Kd.freshB (g := gb568) (o := .cells #[.int .i64 t576, .slice Ao28 t577.length co28, .slice Ao30 t580.length co30] 27 (0, 0)) (zK BK568.out) k_ hn_)), Or.elim hk_.1 (fun hs_ => hs_.2.2.2.2.1) (fun hn_ => (Kd.freshB (g := gb574) (o := .cells #[.int .i64 x569000_2, .slice Ao22 x569001_2.length co22, .slice Ao23 x569002_2.length co23] 27 (0, 0)) (zK BK574.out) k_ hn_)), Or.elim hk_.1 (fun hs_ => hs_.2.2.2.2.2) (fun hn_ => (Kd.freshB (g := gb598) (o := .cells #[.int .i64 t590, .slice Ao78 t591.length co78, .slice Ao80 t594.length co80] 27 (0, 0)) (zK BK598.out) k_ hn_))⟩)) (below_size (zL HB.out)))
                            have n9_ := Aside0.mk (blk_below (g := gb568) (o := .cells #[.int .i64 t576, .slice Ao28 t577.length co28, .slice Ao30 t580.length co30] 27 (0, 0)) (zK BK568.out) hb)
                            have n10_ := Aside0.mk (blk_below (g := gb574) (o := .cells #[.int .i64 x569000_2, .slice Ao22 x569001_2.length co22, .slice Ao23 x569002_2.length co23] 27 (0, 0)) (zK BK574.out) hb)
                            have n11_ := Aside0.mk (blk_below (g := gb598) (o := .cells #[.int .i64 t590, .slice Ao78 t591.length co78, .slice Ao80 t594.length co80] 27 (0, 0)) (zK BK598.out) hb)
                            have n12_ := Aside0.mk (below_step (zL HB.out) hb)
                            clear HO_7
                            clear HO_569001
                            clear HO_569002
                            clear HO_575001
                            clear HO_575002
                            clear HO593
                            clear HO596
                            clear BK568
                            clear BK574
                            clear BK598
                            clear HB
                            have HO_7 := n0_
                            have HO_569001 := n1_
                            have HO_569002 := n2_
                            have HO_575001 := n3_
                            have HO_575002 := n4_
                            have HO593 := n5_
                            have HO596 := n6_
                            have HO604 := n7_
                            have HO607 := n8_
                            have BK568 := n9_
                            have BK574 := n10_
                            have BK598 := n11_
                            have HB := n12_
                            clear n0_ n1_ n2_ n3_ n4_ n5_ n6_ n7_ n8_ n9_ n10_ n11_ n12_
                            (try clear hb)
                            (try clear hb2)
                            (try clear hk)
                            (try clear hi)
                            (try clear ho0)
                            (try clear ho1)
                            refine hK.out _ _ ⟨(blk_cell BK568.out 0).trans rfl, (blk_cell BK568.out 1).trans rfl, (blk_cell BK568.out 2).trans rfl, (zX HB.out hw599_0), (zX HB.out hw599_1), (zX HB.out hw599_2), (zX HB.out hw599_3), (zX HB.out hw599_4), (zX HB.out hw599_5), (zX HB.out hw599_6), (zX HB.out hw600_0), (zX HB.out hw600_1), (zX HB.out hw600_2), (zX HB.out hw600_3), (zX HB.out hw600_4), (zX HB.out hw600_5), (zX HB.out hw600_6)⟩ (fun hHeld => ?_)
                            clear hK K
                            refine norm_ (a' := ?_) ?_ ?_
                            rotate_left
                            ·show Act.put _ (some 140) _ = _
                             simp only [Act.put, List.setIfInBounds_toArray, List.set_cons_zero, List.set_cons_succ, i64_w, i32_w]
                             rfl
                            refine pure_ (i := 14) (N := some 126) (v := ?_) (a' := ?_) #[true, true, true, true, true, true, true, true, true, true, true, true, true, true, true, false, false, false, false, false] rfl rfl (any_of HT_.out (by kernel_rfl)) (fun _ _ _ h => h) (Or.inl ⟨by rfl, ?_⟩) ?_ ?_
                            rotate_left
                            ·intro w'
                             go_simp
                             with_reducible rfl
                            rotate_left
                            ·simp only [Act.put, List.setIfInBounds_toArray, List.set_cons_zero, List.set_cons_succ, i64_w, i32_w]
                             rfl
                            refine pure_ (i := 15) (N := some 141) (v := ?_) (a' := ?_) #[true, true, true, true, true, true, true, true, true, true, true, true, true, true, true, true, false, false, false, false] rfl rfl (any_of HT_.out (by kernel_rfl)) (fun _ _ _ h => h) (Or.inl ⟨by rfl, ?_⟩) ?_ ?_
                            rotate_left
                            ·intro w'
                             go_simp
                             with_reducible rfl
                            rotate_left
                            ·simp only [Act.put, List.setIfInBounds_toArray, List.set_cons_zero, List.set_cons_succ, i64_w, i32_w]
                             rfl
                            refine pure_ (i := 16) (N := some 142) (v := ?_) (a' := ?_) #[true, true, true, true, true, true, true, true, true, true, true, true, true, true, true, true, true, false, false, false] rfl rfl (any_of HT_.out (by kernel_rfl)) (fun _ _ _ h => h) (Or.inl ⟨by rfl, ?_⟩) ?_ ?_
                            rotate_left
                            ·intro w'
                             go_simp
                             with_reducible rfl
                            rotate_left
                            ·simp only [Act.put, List.setIfInBounds_toArray, List.set_cons_zero, List.set_cons_succ, i64_w, i32_w]
                             rfl
                            refine one_ (i := 17) (N := some 15) #[true, true, true, true, true, true, true, true, true, true, true, true, true, true, true, true, true, true, false, false] rfl rfl (one_of HT_.out (by kernel_rfl)) (by decide) (fun K hK => ?_)
                            refine box_step ?hg (N := 15) ?hd (cs := #[.int .i64 0, .slice none 0 0, .slice none 0 0]) (t := 27) ?hr ?_; (case hd => rfl); (case hg => rfl); (case hr => first | (go_simp; done) | (go_simp; rfl))
                            intro gb609 hg w85 hbox hb
                            have n0_ := Aside0.mk (Kd.R_below (zR HO_7.out) hb)
                            have n1_ := Aside0.mk (Kd.V_below (Kd.V_elderB (zV HO_569001.out) gb609 (Nat.le_of_eq hg.symm)) hb)
                            have n2_ := Aside0.mk (Kd.V_below (Kd.V_elderB (zV HO_569002.out) gb609 (Nat.le_of_eq hg.symm)) hb)
                            have n3_ := Aside0.mk (Kd.V_below (Kd.V_elderB (zV HO_575001.out) gb609 (Nat.le_of_eq hg.symm)) hb)
                            have n4_ := Aside0.mk (Kd.V_below (Kd.V_elderB (zV HO_575002.out) gb609 (Nat.le_of_eq hg.symm)) hb)
                            have n5_ := Aside0.mk (Kd.R_below (zR HO593.out) hb)
                            have n6_ := Aside0.mk (Kd.R_below (zR HO596.out) hb)
                            have n7_ := Aside0.mk (Kd.R_below (zR HO604.out) hb)
                            have n8_ := Aside0.mk (Kd.V_below (Kd.V_elderB (zV HO607.out) gb609 (Nat.le_of_eq hg.symm)) hb)
                            have n9_ := Aside0.mk (blk_below (g := gb568) (o := .cells #[.int .i64 t576, .slice Ao28 t577.length co28, .slice Ao30 t580.length co30] 27 (0, 0)) (zK BK568.out) hb)
                            have n10_ := Aside0.mk (blk_below (g := gb574) (o := .cells #[.int .i64 x569000_2, .slice Ao22 x569001_2.length co22, .slice Ao23 x569002_2.length co23] 27 (0, 0)) (zK BK574.out) hb)
                            have n11_ := Aside0.mk (blk_below (g := gb598) (o := .cells #[.int .i64 t590, .slice Ao78 t591.length co78, .slice Ao80 t594.length co80] 27 (0, 0)) (zK BK598.out) hb)
                            have n12_ := Aside0.mk (below_step (zL HB.out) hb)
                            have n13_ := Aside0.mk (hbox)
                            have n14_ := Aside0.mk (zG hg (zL HB.out))
                            have n15_ := Aside0.mk (zG hg (zL HB.out))
                            have n16_ := Aside0.mk (zN (g := gb568) (o := .cells #[.int .i64 t576, .slice Ao28 t577.length co28, .slice Ao30 t580.length co30] 27 (0, 0)) hg (zK BK568.out))
                            have n17_ := Aside0.mk (zO (g := gb568) (o := .cells #[.int .i64 t576, .slice Ao28 t577.length co28, .slice Ao30 t580.length co30] 27 (0, 0)) hg (zK BK568.out))
                            have n18_ := Aside0.mk (zN (g := gb574) (o := .cells #[.int .i64 x569000_2, .slice Ao22 x569001_2.length co22, .slice Ao23 x569002_2.length co23] 27 (0, 0)) hg (zK BK574.out))
                            have n19_ := Aside0.mk (zO (g := gb574) (o := .cells #[.int .i64 x569000_2, .slice Ao22 x569001_2.length co22, .slice Ao23 x569002_2.length co23] 27 (0, 0)) hg (zK BK574.out))
                            have n20_ := Aside0.mk (zN (g := gb598) (o := .cells #[.int .i64 t590, .slice Ao78 t591.length co78, .slice Ao80 t594.length co80] 27 (0, 0)) hg (zK BK598.out))
                            have n21_ := Aside0.mk (zO (g := gb598) (o := .cells #[.int .i64 t590, .slice Ao78 t591.length co78, .slice Ao80 t594.length co80] 27 (0, 0)) hg (zK BK598.out))
                            clear HO_7
                            clear HO_569001
                            clear HO_569002
                            clear HO_575001
                            clear HO_575002
                            clear HO593
                            clear HO596
                            clear HO604
                            clear HO607
                            clear BK568
                            clear BK574
                            clear BK598
                            clear HB
                            have HO_7 := n0_
                            have HO_569001 := n1_
                            have HO_569002 := n2_
                            have HO_575001 := n3_
                            have HO_575002 := n4_
                            have HO593 := n5_
                            have HO596 := n6_
                            have HO604 := n7_
                            have HO607 := n8_
                            have BK568 := n9_
                            have BK574 := n10_
                            have BK598 := n11_
                            have HB := n12_
                            have BK609 := n13_
                            have GW609 := n14_
                            have GE609 := n15_
                            have NB568_609 := n16_
                            have NB609_568 := n17_
                            have NB574_609 := n18_
                            have NB609_574 := n19_
                            have NB598_609 := n20_
                            have NB609_598 := n21_
                            clear n0_ n1_ n2_ n3_ n4_ n5_ n6_ n7_ n8_ n9_ n10_ n11_ n12_ n13_ n14_ n15_ n16_ n17_ n18_ n19_ n20_ n21_
                            clear hb hbox hg
                            refine hK.out _ _ ⟨(blk_cell BK568.out 0).trans rfl, (blk_cell BK568.out 1).trans rfl, (blk_cell BK568.out 2).trans rfl, (zX HB.out hw599_0), (zX HB.out hw599_1), (zX HB.out hw599_2), (zX HB.out hw599_3), (zX HB.out hw599_4), (zX HB.out hw599_5), (zX HB.out hw599_6), (zX HB.out hw600_0), (zX HB.out hw600_1), (zX HB.out hw600_2), (zX HB.out hw600_3), (zX HB.out hw600_4), (zX HB.out hw600_5), (zX HB.out hw600_6)⟩ (fun hHeld => ?_)
                            clear hK K
                            refine norm_ (a' := ?_) ?_ ?_
                            rotate_left
                            ·show Act.put _ (some 15) _ = _
                             simp only [Act.put, List.setIfInBounds_toArray, List.set_cons_zero, List.set_cons_succ, i64_w, i32_w]
                             rfl
                            exact norm_ (by simp only [putAll, Act.put, List.setIfInBounds_toArray, List.set_cons_zero, List.set_cons_succ]) (hCont (v603, v606, gb609) _ ⟨hHeld, (by (with_reducible repeat (first | apply Kd.R_alloc | apply Kd.R_drewN | apply Kd.R_drew)); exact Kd.R_mono HO593.out (fun _ hk => hk.2)), (zR HO596.out), (by (with_reducible repeat (first | apply Kd.R_alloc | apply Kd.R_drewN | apply Kd.R_drew)); exact Kd.R_mono HO604.out (fun _ hk => hk.2)), (by (with_reducible repeat (first | apply Kd.V_alloc | apply Kd.V_drewN | apply Kd.V_drew)); exact Kd.V_mono HO607.out (fun _ hk => ⟨hk.1.2.2.1, ⟨hk.1.2.2.2.1, ⟨hk.1.1, ⟨hk.1.2.1, ⟨hk.1.2.2.2.2.1, ⟨hk.1.2.2.2.2.2.1, ⟨hk.1.2.2.2.2.2.2, hk.2⟩⟩⟩⟩⟩⟩⟩)), (by (with_reducible repeat (first | apply Kd.V_alloc | apply Kd.V_drewN | apply Kd.V_drew)); exact Kd.V_mono HO_569001.out (fun _ hk => ⟨hk.1.1.2.1, ⟨hk.1.1.2.2.1, ⟨hk.1.2, ⟨hk.1.1.1, ⟨hk.1.1.2.2.2.1, ⟨hk.1.1.2.2.2.2.1, ⟨hk.1.1.2.2.2.2.2, hk.2⟩⟩⟩⟩⟩⟩⟩)), (by (with_reducible repeat (first | apply Kd.V_alloc | apply Kd.V_drewN | apply Kd.V_drew)); exact Kd.V_mono HO_569002.out (fun _ hk => ⟨hk.1.1.2.1, ⟨hk.1.1.2.2.1, ⟨hk.1.2, ⟨hk.1.1.1, ⟨hk.1.1.2.2.2.1, ⟨hk.1.1.2.2.2.2.1, ⟨hk.1.1.2.2.2.2.2, hk.2⟩⟩⟩⟩⟩⟩⟩)), (by (with_reducible repeat (first | apply Kd.V_alloc | apply Kd.V_drewN | apply Kd.V_drew)); exact Kd.V_mono HO_575001.out (fun _ hk => ⟨hk.1.1.2.1, ⟨hk.1.1.2.2.1, ⟨hk.1.2, ⟨hk.1.1.1, ⟨hk.1.1.2.2.2.1, ⟨hk.1.1.2.2.2.2.1, ⟨hk.1.1.2.2.2.2.2, hk.2⟩⟩⟩⟩⟩⟩⟩)), (by (with_reducible repeat (first | apply Kd.V_alloc | apply Kd.V_drewN | apply Kd.V_drew)); exact Kd.V_mono HO_575002.out (fun _ hk => ⟨hk.1.1.2.1, ⟨hk.1.1.2.2.1, ⟨hk.1.2, ⟨hk.1.1.1, ⟨hk.1.1.2.2.2.1, ⟨hk.1.1.2.2.2.2.1, ⟨hk.1.1.2.2.2.2.2, hk.2⟩⟩⟩⟩⟩⟩⟩)), (zR HO_7.out), (zK BK568.out), (zK BK574.out), (zK BK598.out), (zK BK609.out), GW609.out, GE609.out, NB568_609.out, NB609_568.out, NB574_609.out, NB609_574.out, NB598_609.out, NB609_598.out, (zL HB.out)⟩)
                           ·skip
                            refine box_step ?hg (N := 15) ?hd (cs := #[.int .i64 0, .slice none 0 0, .slice none 0 0]) (t := 27) ?hr ?_; (case hd => rfl); (case hg => rfl); (case hr => first | (go_simp; done) | (go_simp; rfl))
                            intro gb609 hg w84 hbox hb
                            have n0_ := Aside0.mk (Kd.R_below (zR HO_7.out) hb)
                            have n1_ := Aside0.mk (Kd.V_below (Kd.V_elderB (zV HO_569001.out) gb609 (Nat.le_of_eq hg.symm)) hb)
                            have n2_ := Aside0.mk (Kd.V_below (Kd.V_elderB (zV HO_569002.out) gb609 (Nat.le_of_eq hg.symm)) hb)
                            have n3_ := Aside0.mk (Kd.V_below (Kd.V_elderB (zV HO_575001.out) gb609 (Nat.le_of_eq hg.symm)) hb)
                            have n4_ := Aside0.mk (Kd.V_below (Kd.V_elderB (zV HO_575002.out) gb609 (Nat.le_of_eq hg.symm)) hb)
                            have n5_ := Aside0.mk (Kd.R_below (zR HO593.out) hb)
                            have n6_ := Aside0.mk (Kd.R_below (zR HO596.out) hb)
                            have n7_ := Aside0.mk (blk_below (g := gb568) (o := .cells #[.int .i64 t576, .slice Ao28 t577.length co28, .slice Ao30 t580.length co30] 27 (0, 0)) (zK BK568.out) hb)
                            have n8_ := Aside0.mk (blk_below (g := gb574) (o := .cells #[.int .i64 x569000_2, .slice Ao22 x569001_2.length co22, .slice Ao23 x569002_2.length co23] 27 (0, 0)) (zK BK574.out) hb)
                            have n9_ := Aside0.mk (blk_below (g := gb598) (o := .cells #[.int .i64 t590, .slice Ao78 t591.length co78, .slice Ao80 t594.length co80] 27 (0, 0)) (zK BK598.out) hb)
                            have n10_ := Aside0.mk (below_step (zL HB.out) hb)
                            have n11_ := Aside0.mk (hbox)
                            have n12_ := Aside0.mk (zG hg (zL HB.out))
                            have n13_ := Aside0.mk (zG hg (zL HB.out))
                            have n14_ := Aside0.mk (zN (g := gb568) (o := .cells #[.int .i64 t576, .slice Ao28 t577.length co28, .slice Ao30 t580.length co30] 27 (0, 0)) hg (zK BK568.out))
                            have n15_ := Aside0.mk (zO (g := gb568) (o := .cells #[.int .i64 t576, .slice Ao28 t577.length co28, .slice Ao30 t580.length co30] 27 (0, 0)) hg (zK BK568.out))
                            have n16_ := Aside0.mk (zN (g := gb574) (o := .cells #[.int .i64 x569000_2, .slice Ao22 x569001_2.length co22, .slice Ao23 x569002_2.length co23] 27 (0, 0)) hg (zK BK574.out))
                            have n17_ := Aside0.mk (zO (g := gb574) (o := .cells #[.int .i64 x569000_2, .slice Ao22 x569001_2.length co22, .slice Ao23 x569002_2.length co23] 27 (0, 0)) hg (zK BK574.out))
                            have n18_ := Aside0.mk (zN (g := gb598) (o := .cells #[.int .i64 t590, .slice Ao78 t591.length co78, .slice Ao80 t594.length co80] 27 (0, 0)) hg (zK BK598.out))
                            have n19_ := Aside0.mk (zO (g := gb598) (o := .cells #[.int .i64 t590, .slice Ao78 t591.length co78, .slice Ao80 t594.length co80] 27 (0, 0)) hg (zK BK598.out))
                            clear HO_7
                            clear HO_569001
                            clear HO_569002
                            clear HO_575001
                            clear HO_575002
                            clear HO593
                            clear HO596
                            clear BK568
                            clear BK574
                            clear BK598
                            clear HB
                            have HO_7 := n0_
                            have HO_569001 := n1_
                            have HO_569002 := n2_
                            have HO_575001 := n3_
                            have HO_575002 := n4_
                            have HO593 := n5_
                            have HO596 := n6_
                            have BK568 := n7_
                            have BK574 := n8_
                            have BK598 := n9_
                            have HB := n10_
                            have BK609 := n11_
                            have GW609 := n12_
                            have GE609 := n13_
                            have NB568_609 := n14_
                            have NB609_568 := n15_
                            have NB574_609 := n16_
                            have NB609_574 := n17_
                            have NB598_609 := n18_
                            have NB609_598 := n19_
                            clear n0_ n1_ n2_ n3_ n4_ n5_ n6_ n7_ n8_ n9_ n10_ n11_ n12_ n13_ n14_ n15_ n16_ n17_ n18_ n19_
                            clear hb hbox hg
                            refine hK.out _ _ ⟨(blk_cell BK568.out 0).trans rfl, (blk_cell BK568.out 1).trans rfl, (blk_cell BK568.out 2).trans rfl, (zX HB.out hw599_0), (zX HB.out hw599_1), (zX HB.out hw599_2), (zX HB.out hw599_3), (zX HB.out hw599_4), (zX HB.out hw599_5), (zX HB.out hw599_6), (zX HB.out hw600_0), (zX HB.out hw600_1), (zX HB.out hw600_2), (zX HB.out hw600_3), (zX HB.out hw600_4), (zX HB.out hw600_5), (zX HB.out hw600_6)⟩ (fun hHeld => ?_)
                            clear hK K
                            refine norm_ (a' := ?_) ?_ ?_
                            rotate_left
                            ·show Act.put _ (some 15) _ = _
                             simp only [Act.put, List.setIfInBounds_toArray, List.set_cons_zero, List.set_cons_succ, i64_w, i32_w]
                             rfl
                            refine one_ (i := 13) (N := some 140) #[true, true, true, true, true, true, true, true, true, true, true, true, true, true, false, false, false, true, false, false] rfl rfl (one_of HT_.out (by kernel_rfl)) (by decide) (fun K hK => ?_)
                            refine goes_ Tryd.func25 (by kernel_rfl) rfl #[.agg #[.int .i64 t576, .slice Ao28 t577.length co28, .slice Ao30 t580.length co30], .int .i64 ((rd_T52 l0 x8_2).f1), .string ((rd_T52 l0 x8_2).f5), .int .i64 x10_4, .int .i64 5, .int .i64 (wrap64 (x6_2 + t573))] (by rfl) rfl rfl zA ?_
                            with_reducible refine (lease_Renew.calls kj53 t576 _ _ t577 (fun k_ => ((some k_ ≠ (.slice (some ⟨go65, 0, none⟩) x7_4.length co65 : Value).ownBlock ∧ (some k_ ≠ (.slice Ao78 t591.length co78 : Value).ownBlock ∧ (some k_ ≠ (.slice Ao80 t594.length co80 : Value).ownBlock ∧ (k_ ≠ gb568 ∧ (k_ ≠ gb574 ∧ k_ ≠ gb598))))) ∧ k_ ≠ gb609)) _ _ t580 ((rd_T52 l0 x8_2).f1) ((rd_T52 l0 x8_2).f5) x10_4 5 (wrap64 (x6_2 + t573)) t601 t602 t605 t608 _ ?side1 ?side2 ?side3 A69.out).mono ?_
                            (case side1 => repeat (first | exact (Kd.V_reads' HO_569001.out).2.2 | (with_reducible refine Kd.C_alloc ?_ _) | (with_reducible refine Kd.C_drewN ?_ _) | (with_reducible refine Kd.C_drew ?_)))
                            (case side2 => exact (Kd.V_reads' HO_569001.out).2.1)
                            (case side3 => exact HO_569002.out)
                            rintro e w85 ⟨v603, v606, rfl, ho0, ho1, hb⟩
                            refine ⟨_, rfl, ?_⟩
                            have n0_ := Aside0.mk (Kd.R_below (zR HO_7.out) hb)
                            have n1_ := Aside0.mk (Kd.V_elder' (zV HO_569001.out) (Kd.R_base ho0) hb)
                            have n2_ := Aside0.mk (Kd.V_elder' (zV HO_569002.out) (Kd.R_base ho0) hb)
                            have n3_ := Aside0.mk (Kd.V_elder' (zV HO_575001.out) (Kd.R_base ho0) hb)
                            have n4_ := Aside0.mk (Kd.V_elder' (zV HO_575002.out) (Kd.R_base ho0) hb)
                            have n5_ := Aside0.mk (Kd.R_elder' (zR HO593.out) (Kd.R_base ho0) hb)
                            have n6_ := Aside0.mk (Kd.R_below (zR HO596.out) hb)
                            have n7_ := Aside0.mk (Kd.R_lower (Kd.R_new' (Kd.R_mono (ok' := fun k_ => True) ho0 (fun _ hk_ => trivial)) (Kd.R_lt (zR HO593.out))) (below_size (zL HB.out)))
                            have n8_ := Aside0.mk (Kd.V_lower (Kd.V_mono (ok' := fun k_ => some k_ ≠ (v603 : Value).ownBlock ∧ some k_ ≠ (.slice (some ⟨go65, 0, none⟩) x7_4.length co65 : Value).ownBlock ∧ some k_ ≠ (.slice Ao78 t591.length co78 : Value).ownBlock ∧ some k_ ≠ (.slice Ao80 t594.length co80 : Value).ownBlock ∧ k_ ≠ gb568 ∧ k_ ≠ gb574 ∧ k_ ≠ gb598 ∧ k_ ≠ gb609) ho1 (fun k_ hk_ => ⟨hk_.2, Or.elim hk_.1 (fun hs_ => hs_.1.1) (fun hn_ => (Kd.fresh' (Kd.R_lt (zR HO_7.out)) k_ hn_)), Or.elim hk_.1 (fun hs_ => hs_.1.2.1) (fun hn_ => (Kd.fresh' (Kd.R_lt (zR HO593.out)) k_ hn_)), Or.elim hk_.1 (fun hs_ => hs_.1.2.2.1) (fun hn_ => (Kd.fresh' (Kd.R_lt (zR HO596.out)) k_ hn_)), Or.elim hk_.1 (fun hs_ => hs_.1.2.2.2.1) (fun hn_ => (Kd.freshB (g := gb568) (o := .cells #[.int .i64 t576, .slice Ao28 t577.length co28, .slice Ao30 t580.length co30] 27 (0, 0)) (zK BK568.out) k_ hn_)), Or.elim hk_.1 (fun hs_ => hs_.1.2.2.2.2.1) (fun hn_ => (Kd.freshB (g := gb574) (o := .cells #[.int .i64 x569000_2, .slice Ao22 x569001_2.length co22, .slice Ao23 x569002_2.length co23] 27 (0, 0)) (zK BK574.out) k_ hn_)), Or.elim hk_.1 (fun hs_ => hs_.1.2.2.2.2.2) (fun hn_ => (Kd.freshB (g := gb598) (o := .cells #[.int .i64 t590, .slice Ao78 t591.length co78, .slice Ao80 t594.length co80] 27 (0, 0)) (zK BK598.out) k_ hn_)), Or.elim hk_.1 (fun hs_ => hs_.2) (fun hn_ => (Kd.freshB (g := gb609) (o := .cells #[.int .i64 0, .slice none 0 0, .slice none 0 0] 27 (0, 0)) (zK BK609.out) k_ hn_))⟩)) (below_size (zL HB.out)))
                            have n9_ := Aside0.mk (blk_below (g := gb568) (o := .cells #[.int .i64 t576, .slice Ao28 t577.length co28, .slice Ao30 t580.length co30] 27 (0, 0)) (zK BK568.out) hb)
                            have n10_ := Aside0.mk (blk_below (g := gb574) (o := .cells #[.int .i64 x569000_2, .slice Ao22 x569001_2.length co22, .slice Ao23 x569002_2.length co23] 27 (0, 0)) (zK BK574.out) hb)
                            have n11_ := Aside0.mk (blk_below (g := gb598) (o := .cells #[.int .i64 t590, .slice Ao78 t591.length co78, .slice Ao80 t594.length co80] 27 (0, 0)) (zK BK598.out) hb)
                            have n12_ := Aside0.mk (blk_below (g := gb609) (o := .cells #[.int .i64 0, .slice none 0 0, .slice none 0 0] 27 (0, 0)) (zK BK609.out) hb)
                            have n13_ := Aside0.mk (below_step (zL HB.out) hb)
                            clear HO_7
                            clear HO_569001
                            clear HO_569002
                            clear HO_575001
                            clear HO_575002
                            clear HO593
                            clear HO596
                            clear BK568
                            clear BK574
                            clear BK598
                            clear BK609
                            clear HB
                            have HO_7 := n0_
                            have HO_569001 := n1_
                            have HO_569002 := n2_
                            have HO_575001 := n3_
                            have HO_575002 := n4_
                            have HO593 := n5_
                            have HO596 := n6_
                            have HO604 := n7_
                            have HO607 := n8_
                            have BK568 := n9_
                            have BK574 := n10_
                            have BK598 := n11_
                            have BK609 := n12_
                            have HB := n13_
                            clear n0_ n1_ n2_ n3_ n4_ n5_ n6_ n7_ n8_ n9_ n10_ n11_ n12_ n13_
                            (try clear hb)
                            (try clear hb2)
                            (try clear hk)
                            (try clear hi)
                            (try clear ho0)
                            (try clear ho1)
                            refine hK.out _ _ ⟨(blk_cell BK568.out 0).trans rfl, (blk_cell BK568.out 1).trans rfl, (blk_cell BK568.out 2).trans rfl, (zX HB.out hw599_0), (zX HB.out hw599_1), (zX HB.out hw599_2), (zX HB.out hw599_3), (zX HB.out hw599_4), (zX HB.out hw599_5), (zX HB.out hw599_6), (zX HB.out hw600_0), (zX HB.out hw600_1), (zX HB.out hw600_2), (zX HB.out hw600_3), (zX HB.out hw600_4), (zX HB.out hw600_5), (zX HB.out hw600_6)⟩ (fun hHeld => ?_)
                            clear hK K
                            refine norm_ (a' := ?_) ?_ ?_
                            rotate_left
                            ·show Act.put _ (some 140) _ = _
                             simp only [Act.put, List.setIfInBounds_toArray, List.set_cons_zero, List.set_cons_succ, i64_w, i32_w]
                             rfl
                            refine pure_ (i := 14) (N := some 126) (v := ?_) (a' := ?_) #[true, true, true, true, true, true, true, true, true, true, true, true, true, true, true, false, false, true, false, false] rfl rfl (any_of HT_.out (by kernel_rfl)) (fun _ _ _ h => h) (Or.inl ⟨by rfl, ?_⟩) ?_ ?_
                            rotate_left
                            ·intro w'
                             go_simp
                             with_reducible rfl
                            rotate_left
                            ·simp only [Act.put, List.setIfInBounds_toArray, List.set_cons_zero, List.set_cons_succ, i64_w, i32_w]
                             rfl
                            refine pure_ (i := 15) (N := some 141) (v := ?_) (a' := ?_) #[true, true, true, true, true, true, true, true, true, true, true, true, true, true, true, true, false, true, false, false] rfl rfl (any_of HT_.out (by kernel_rfl)) (fun _ _ _ h => h) (Or.inl ⟨by rfl, ?_⟩) ?_ ?_
                            rotate_left
                            ·intro w'
                             go_simp
                             with_reducible rfl
                            rotate_left
                            ·simp only [Act.put, List.setIfInBounds_toArray, List.set_cons_zero, List.set_cons_succ, i64_w, i32_w]
                             rfl
                            refine pure_ (i := 16) (N := some 142) (v := ?_) (a' := ?_) #[true, true, true, true, true, true, true, true, true, true, true, true, true, true, true, true, true, true, false, false] rfl rfl (any_of HT_.out (by kernel_rfl)) (fun _ _ _ h => h) (Or.inl ⟨by rfl, ?_⟩) ?_ ?_
                            rotate_left
                            ·intro w'
                             go_simp
                             with_reducible rfl
                            rotate_left
                            ·simp only [Act.put, List.setIfInBounds_toArray, List.set_cons_zero, List.set_cons_succ, i64_w, i32_w]
                             rfl
                            exact norm_ (by simp only [putAll, Act.put, List.setIfInBounds_toArray, List.set_cons_zero, List.set_cons_succ]) (hCont (v603, v606, gb609) _ ⟨hHeld, (by (with_reducible repeat (first | apply Kd.R_alloc | apply Kd.R_drewN | apply Kd.R_drew)); exact Kd.R_mono HO593.out (fun _ hk => hk.2)), (zR HO596.out), (by (with_reducible repeat (first | apply Kd.R_alloc | apply Kd.R_drewN | apply Kd.R_drew)); exact Kd.R_mono HO604.out (fun _ hk => hk.2)), (by (with_reducible repeat (first | apply Kd.V_alloc | apply Kd.V_drewN | apply Kd.V_drew)); exact Kd.V_mono HO607.out (fun _ hk => ⟨hk.2.2.1, ⟨hk.2.2.2.1, ⟨hk.1, ⟨hk.2.1, ⟨hk.2.2.2.2.1, ⟨hk.2.2.2.2.2.1, ⟨hk.2.2.2.2.2.2.1, hk.2.2.2.2.2.2.2⟩⟩⟩⟩⟩⟩⟩)), (by (with_reducible repeat (first | apply Kd.V_alloc | apply Kd.V_drewN | apply Kd.V_drew)); exact Kd.V_mono HO_569001.out (fun _ hk => ⟨hk.1.1.2.1, ⟨hk.1.1.2.2.1, ⟨hk.2, ⟨hk.1.1.1, ⟨hk.1.1.2.2.2.1, ⟨hk.1.1.2.2.2.2.1, ⟨hk.1.1.2.2.2.2.2, hk.1.2⟩⟩⟩⟩⟩⟩⟩)), (by (with_reducible repeat (first | apply Kd.V_alloc | apply Kd.V_drewN | apply Kd.V_drew)); exact Kd.V_mono HO_569002.out (fun _ hk => ⟨hk.1.1.2.1, ⟨hk.1.1.2.2.1, ⟨hk.2, ⟨hk.1.1.1, ⟨hk.1.1.2.2.2.1, ⟨hk.1.1.2.2.2.2.1, ⟨hk.1.1.2.2.2.2.2, hk.1.2⟩⟩⟩⟩⟩⟩⟩)), (by (with_reducible repeat (first | apply Kd.V_alloc | apply Kd.V_drewN | apply Kd.V_drew)); exact Kd.V_mono HO_575001.out (fun _ hk => ⟨hk.1.1.2.1, ⟨hk.1.1.2.2.1, ⟨hk.2, ⟨hk.1.1.1, ⟨hk.1.1.2.2.2.1, ⟨hk.1.1.2.2.2.2.1, ⟨hk.1.1.2.2.2.2.2, hk.1.2⟩⟩⟩⟩⟩⟩⟩)), (by (with_reducible repeat (first | apply Kd.V_alloc | apply Kd.V_drewN | apply Kd.V_drew)); exact Kd.V_mono HO_575002.out (fun _ hk => ⟨hk.1.1.2.1, ⟨hk.1.1.2.2.1, ⟨hk.2, ⟨hk.1.1.1, ⟨hk.1.1.2.2.2.1, ⟨hk.1.1.2.2.2.2.1, ⟨hk.1.1.2.2.2.2.2, hk.1.2⟩⟩⟩⟩⟩⟩⟩)), (zR HO_7.out), (zK BK568.out), (zK BK574.out), (zK BK598.out), (zK BK609.out), GW609.out, GE609.out, NB568_609.out, NB609_568.out, NB574_609.out, NB609_574.out, NB598_609.out, NB609_598.out, (zL HB.out)⟩)
                          rintro ⟨v603, v606, gb609⟩ w86 ⟨hS_, h0_, h1_, h2_, h3_, h4_, h5_, h6_, h7_, h8_, h9_, h10_, h11_, h12_, h13_, h14_, h15_, h16_, h17_, h18_, h19_, h20_, h21_⟩
                          have n0_ : Aside0 (Kd.R k34 34 w86 w.heap.size (fun k_ => some k_ ≠ (v603 : Value).ownBlock) (.slice Ao78 t591.length co78) t591) := ⟨h0_⟩
                          have n1_ : Aside0 (Kd.R k32 32 w86 w.heap.size (fun _ => True) (.slice Ao80 t594.length co80) t594) := ⟨h1_⟩
                          have n2_ : Aside0 (Kd.R k34 34 w86 w.heap.size (fun k_ => some k_ ≠ (.slice Ao78 t591.length co78 : Value).ownBlock) v603 t602) := ⟨h2_⟩
                          have n3_ : Aside0 (Kd.V k32 32 w86 w.heap.size (fun k_ => some k_ ≠ (.slice Ao78 t591.length co78 : Value).ownBlock ∧ some k_ ≠ (.slice Ao80 t594.length co80 : Value).ownBlock ∧ some k_ ≠ (v603 : Value).ownBlock ∧ some k_ ≠ (.slice (some ⟨go65, 0, none⟩) x7_4.length co65 : Value).ownBlock ∧ k_ ≠ gb568 ∧ k_ ≠ gb574 ∧ k_ ≠ gb598 ∧ k_ ≠ gb609) v606 t605) := ⟨h3_⟩
                          have n4_ : Aside0 (Kd.V k34 34 w86 w.heap.size (fun k_ => some k_ ≠ (.slice Ao78 t591.length co78 : Value).ownBlock ∧ some k_ ≠ (.slice Ao80 t594.length co80 : Value).ownBlock ∧ some k_ ≠ (v603 : Value).ownBlock ∧ some k_ ≠ (.slice (some ⟨go65, 0, none⟩) x7_4.length co65 : Value).ownBlock ∧ k_ ≠ gb568 ∧ k_ ≠ gb574 ∧ k_ ≠ gb598 ∧ k_ ≠ gb609) (.slice Ao28 t577.length co28) t577) := ⟨h4_⟩
                          have n5_ : Aside0 (Kd.V k32 32 w86 w.heap.size (fun k_ => some k_ ≠ (.slice Ao78 t591.length co78 : Value).ownBlock ∧ some k_ ≠ (.slice Ao80 t594.length co80 : Value).ownBlock ∧ some k_ ≠ (v603 : Value).ownBlock ∧ some k_ ≠ (.slice (some ⟨go65, 0, none⟩) x7_4.length co65 : Value).ownBlock ∧ k_ ≠ gb568 ∧ k_ ≠ gb574 ∧ k_ ≠ gb598 ∧ k_ ≠ gb609) (.slice Ao30 t580.length co30) t580) := ⟨h5_⟩
                          have n6_ : Aside0 (Kd.V k34 34 w86 w.heap.size (fun k_ => some k_ ≠ (.slice Ao78 t591.length co78 : Value).ownBlock ∧ some k_ ≠ (.slice Ao80 t594.length co80 : Value).ownBlock ∧ some k_ ≠ (v603 : Value).ownBlock ∧ some k_ ≠ (.slice (some ⟨go65, 0, none⟩) x7_4.length co65 : Value).ownBlock ∧ k_ ≠ gb568 ∧ k_ ≠ gb574 ∧ k_ ≠ gb598 ∧ k_ ≠ gb609) (.slice Ao22 x569001_2.length co22) x569001_2) := ⟨h6_⟩
                          have n7_ : Aside0 (Kd.V k32 32 w86 w.heap.size (fun k_ => some k_ ≠ (.slice Ao78 t591.length co78 : Value).ownBlock ∧ some k_ ≠ (.slice Ao80 t594.length co80 : Value).ownBlock ∧ some k_ ≠ (v603 : Value).ownBlock ∧ some k_ ≠ (.slice (some ⟨go65, 0, none⟩) x7_4.length co65 : Value).ownBlock ∧ k_ ≠ gb568 ∧ k_ ≠ gb574 ∧ k_ ≠ gb598 ∧ k_ ≠ gb609) (.slice Ao23 x569002_2.length co23) x569002_2) := ⟨h7_⟩
                          have n8_ : Aside0 (Kd.R (Kd.int .i64) 3 w86 w.heap.size (fun _ => True) (.slice (some ⟨go65, 0, none⟩) x7_4.length co65) y587) := ⟨h8_⟩
                          have n9_ : Aside0 (w86.heap[gb568]? = some (.cells #[.int .i64 t576, .slice Ao28 t577.length co28, .slice Ao30 t580.length co30] 27 (0, 0))) := ⟨h9_⟩
                          have n10_ : Aside0 (w86.heap[gb574]? = some (.cells #[.int .i64 x569000_2, .slice Ao22 x569001_2.length co22, .slice Ao23 x569002_2.length co23] 27 (0, 0))) := ⟨h10_⟩
                          have n11_ : Aside0 (w86.heap[gb598]? = some (.cells #[.int .i64 t590, .slice Ao78 t591.length co78, .slice Ao80 t594.length co80] 27 (0, 0))) := ⟨h11_⟩
                          have n12_ : Aside0 (w86.heap[gb609]? = some (.cells #[.int .i64 0, .slice none 0 0, .slice none 0 0] 27 (0, 0))) := ⟨h12_⟩
                          have n13_ : Aside0 (w.heap.size ≤ gb609) := ⟨h13_⟩
                          have n14_ : Aside0 (w.heap.size ≤ gb609) := ⟨h14_⟩
                          have n15_ : Aside0 (gb568 ≠ gb609) := ⟨h15_⟩
                          have n16_ : Aside0 (gb609 ≠ gb568) := ⟨h16_⟩
                          have n17_ : Aside0 (gb574 ≠ gb609) := ⟨h17_⟩
                          have n18_ : Aside0 (gb609 ≠ gb574) := ⟨h18_⟩
                          have n19_ : Aside0 (gb598 ≠ gb609) := ⟨h19_⟩
                          have n20_ : Aside0 (gb609 ≠ gb598) := ⟨h20_⟩
                          have n21_ : Aside0 (Below w.heap.size w w86) := ⟨h21_⟩
                          clear HO_7
                          clear HO_569001
                          clear HO_569002
                          clear HO_575001
                          clear HO_575002
                          clear HO593
                          clear HO596
                          clear BK568
                          clear BK574
                          clear BK598
                          clear HB
                          clear h0_ h1_ h2_ h3_ h4_ h5_ h6_ h7_ h8_ h9_ h10_ h11_ h12_ h13_ h14_ h15_ h16_ h17_ h18_ h19_ h20_ h21_
                          have HO593 := n0_
                          have HO596 := n1_
                          have HO604 := n2_
                          have HO607 := n3_
                          have HO_569001 := n4_
                          have HO_569002 := n5_
                          have HO_575001 := n6_
                          have HO_575002 := n7_
                          have HO_7 := n8_
                          have BK568 := n9_
                          have BK574 := n10_
                          have BK598 := n11_
                          have BK609 := n12_
                          have GW609 := n13_
                          have GE609 := n14_
                          have NB568_609 := n15_
                          have NB609_568 := n16_
                          have NB574_609 := n17_
                          have NB609_574 := n18_
                          have NB598_609 := n19_
                          have NB609_598 := n20_
                          have HB := n21_
                          clear n0_ n1_ n2_ n3_ n4_ n5_ n6_ n7_ n8_ n9_ n10_ n11_ n12_ n13_ n14_ n15_ n16_ n17_ n18_ n19_ n20_ n21_
                          have hHeld : w86.cell? ⟨gb568, 0, none⟩ = some (.int .i64 t576) ∧ w86.cell? ⟨gb568, 1, none⟩ = some (.slice Ao28 t577.length co28) ∧ w86.cell? ⟨gb568, 2, none⟩ = some (.slice Ao30 t580.length co30) ∧ w86.cell? (ad572.add ((x8_2).toNat * 7)) = some (.int .i64 ((rd_T52 l0 x8_2).f0)) ∧ w86.cell? ⟨(ad572.add ((x8_2).toNat * 7)).block, (ad572.add ((x8_2).toNat * 7)).off + 1, none⟩ = some (.int .i64 ((rd_T52 l0 x8_2).f1)) ∧ w86.cell? ⟨(ad572.add ((x8_2).toNat * 7)).block, (ad572.add ((x8_2).toNat * 7)).off + 2, none⟩ = some (.int .i64 ((rd_T52 l0 x8_2).f2)) ∧ w86.cell? ⟨(ad572.add ((x8_2).toNat * 7)).block, (ad572.add ((x8_2).toNat * 7)).off + 3, none⟩ = some (.int .i64 ((rd_T52 l0 x8_2).f3)) ∧ w86.cell? ⟨(ad572.add ((x8_2).toNat * 7)).block, (ad572.add ((x8_2).toNat * 7)).off + 4, none⟩ = some (.int .i64 ((rd_T52 l0 x8_2).f4)) ∧ w86.cell? ⟨(ad572.add ((x8_2).toNat * 7)).block, (ad572.add ((x8_2).toNat * 7)).off + 5, none⟩ = some (.string ((rd_T52 l0 x8_2).f5)) ∧ w86.cell? ⟨(ad572.add ((x8_2).toNat * 7)).block, (ad572.add ((x8_2).toNat * 7)).off + 6, none⟩ = some (.bool ((rd_T52 l0 x8_2).f6)) ∧ w86.cell? (ad572.add ((x8_2).toNat * 7)) = some (.int .i64 ((rd_T52 l0 x8_2).f0)) ∧ w86.cell? ⟨(ad572.add ((x8_2).toNat * 7)).block, (ad572.add ((x8_2).toNat * 7)).off + 1, none⟩ = some (.int .i64 ((rd_T52 l0 x8_2).f1)) ∧ w86.cell? ⟨(ad572.add ((x8_2).toNat * 7)).block, (ad572.add ((x8_2).toNat * 7)).off + 2, none⟩ = some (.int .i64 ((rd_T52 l0 x8_2).f2)) ∧ w86.cell? ⟨(ad572.add ((x8_2).toNat * 7)).block, (ad572.add ((x8_2).toNat * 7)).off + 3, none⟩ = some (.int .i64 ((rd_T52 l0 x8_2).f3)) ∧ w86.cell? ⟨(ad572.add ((x8_2).toNat * 7)).block, (ad572.add ((x8_2).toNat * 7)).off + 4, none⟩ = some (.int .i64 ((rd_T52 l0 x8_2).f4)) ∧ w86.cell? ⟨(ad572.add ((x8_2).toNat * 7)).block, (ad572.add ((x8_2).toNat * 7)).off + 5, none⟩ = some (.string ((rd_T52 l0 x8_2).f5)) ∧ w86.cell? ⟨(ad572.add ((x8_2).toNat * 7)).block, (ad572.add ((x8_2).toNat * 7)).off + 6, none⟩ = some (.bool ((rd_T52 l0 x8_2).f6)) := hS_
                          obtain ⟨Ao88, co88, eo88⟩ := Kd.R_slice HO604.out
                          (first | subst eo88 | (injection eo88 with f1_ f2_ f3_; have f4_ := f1_.symm; have f5_ := f3_.symm; clear f1_ f2_ f3_; subst f4_; subst f5_))
                          obtain ⟨Ao90, co90, eo90⟩ := Kd.V_slice HO607.out
                          (first | subst eo90 | (injection eo90 with f1_ f2_ f3_; have f4_ := f1_.symm; have f5_ := f3_.symm; clear f1_ f2_ f3_; subst f4_; subst f5_))
                          refine norm_ (a' := ?_) ?_ ?_
                          rotate_left
                          ·simp only [putAll, Act.put, List.setIfInBounds_toArray, List.set_cons_zero, List.set_cons_succ]
                           rfl
                          refine one_ (i := 18) (N := none) #[true, true, true, true, true, true, true, true, true, true, true, true, true, true, true, true, true, true, true, false] rfl rfl (one_of HT_.out (by kernel_rfl)) (by decide) (fun K hK => ?_)
                          have hs87 : w86.cell? ⟨gb609, 0, none⟩ = some (.int .i64 0) := (blk_cell BK609.out 0).trans rfl
                          have hfs87 := blk_frozen BK609.out 0
                          have hns87_0 := NB568_609.out
                          have hns87_1 := NB574_609.out
                          have hns87_2 := NB598_609.out
                          have hms87_0 := NB609_568.out
                          have hms87_1 := NB609_574.out
                          have hms87_2 := NB609_598.out
                          have hs89 : w86.cell? ⟨gb609, 1, none⟩ = some (.slice none 0 0) := (blk_cell BK609.out 1).trans rfl
                          have hfs89 := blk_frozen BK609.out 1
                          have hns89_0 := NB568_609.out
                          have hns89_1 := NB574_609.out
                          have hns89_2 := NB598_609.out
                          have hms89_0 := NB609_568.out
                          have hms89_1 := NB609_574.out
                          have hms89_2 := NB609_598.out
                          have hs91 : w86.cell? ⟨gb609, 2, none⟩ = some (.slice none 0 0) := (blk_cell BK609.out 2).trans rfl
                          have hfs91 := blk_frozen BK609.out 2
                          have hns91_0 := NB568_609.out
                          have hns91_1 := NB574_609.out
                          have hns91_2 := NB598_609.out
                          have hms91_0 := NB609_568.out
                          have hms91_1 := NB609_574.out
                          have hms91_2 := NB609_598.out
                          refine skip_ (w1 := ?_) (by rfl) rfl ?_ ?_
                          rotate_left
                          ·go_simp
                           rfl
                          refine hK.out _ _ ⟨((cell_far (p := ⟨gb609, _, none⟩) NB568_609.out _).trans (((cell_far (p := ⟨gb609, _, none⟩) NB568_609.out _).trans (((cell_far (p := ⟨gb609, _, none⟩) NB568_609.out _).trans (hHeld.1)))))), ((cell_far (p := ⟨gb609, _, none⟩) NB568_609.out _).trans (((cell_far (p := ⟨gb609, _, none⟩) NB568_609.out _).trans (((cell_far (p := ⟨gb609, _, none⟩) NB568_609.out _).trans (hHeld.2.1)))))), ((cell_far (p := ⟨gb609, _, none⟩) NB568_609.out _).trans (((cell_far (p := ⟨gb609, _, none⟩) NB568_609.out _).trans (((cell_far (p := ⟨gb609, _, none⟩) NB568_609.out _).trans (hHeld.2.2.1)))))), ((cell_far (p := ⟨gb609, _, none⟩) (zY hw599_0 GW609.out) _).trans (((cell_far (p := ⟨gb609, _, none⟩) (zY hw599_0 GW609.out) _).trans (((cell_far (p := ⟨gb609, _, none⟩) (zY hw599_0 GW609.out) _).trans (hHeld.2.2.2.1)))))), ((cell_far (p := ⟨gb609, _, none⟩) (zY hw599_1 GW609.out) _).trans (((cell_far (p := ⟨gb609, _, none⟩) (zY hw599_1 GW609.out) _).trans (((cell_far (p := ⟨gb609, _, none⟩) (zY hw599_1 GW609.out) _).trans (hHeld.2.2.2.2.1)))))), ((cell_far (p := ⟨gb609, _, none⟩) (zY hw599_2 GW609.out) _).trans (((cell_far (p := ⟨gb609, _, none⟩) (zY hw599_2 GW609.out) _).trans (((cell_far (p := ⟨gb609, _, none⟩) (zY hw599_2 GW609.out) _).trans (hHeld.2.2.2.2.2.1)))))), ((cell_far (p := ⟨gb609, _, none⟩) (zY hw599_3 GW609.out) _).trans (((cell_far (p := ⟨gb609, _, none⟩) (zY hw599_3 GW609.out) _).trans (((cell_far (p := ⟨gb609, _, none⟩) (zY hw599_3 GW609.out) _).trans (hHeld.2.2.2.2.2.2.1)))))), ((cell_far (p := ⟨gb609, _, none⟩) (zY hw599_4 GW609.out) _).trans (((cell_far (p := ⟨gb609, _, none⟩) (zY hw599_4 GW609.out) _).trans (((cell_far (p := ⟨gb609, _, none⟩) (zY hw599_4 GW609.out) _).trans (hHeld.2.2.2.2.2.2.2.1)))))), ((cell_far (p := ⟨gb609, _, none⟩) (zY hw599_5 GW609.out) _).trans (((cell_far (p := ⟨gb609, _, none⟩) (zY hw599_5 GW609.out) _).trans (((cell_far (p := ⟨gb609, _, none⟩) (zY hw599_5 GW609.out) _).trans (hHeld.2.2.2.2.2.2.2.2.1)))))), ((cell_far (p := ⟨gb609, _, none⟩) (zY hw599_6 GW609.out) _).trans (((cell_far (p := ⟨gb609, _, none⟩) (zY hw599_6 GW609.out) _).trans (((cell_far (p := ⟨gb609, _, none⟩) (zY hw599_6 GW609.out) _).trans (hHeld.2.2.2.2.2.2.2.2.2.1)))))), ((cell_far (p := ⟨gb609, _, none⟩) (zY hw600_0 GW609.out) _).trans (((cell_far (p := ⟨gb609, _, none⟩) (zY hw600_0 GW609.out) _).trans (((cell_far (p := ⟨gb609, _, none⟩) (zY hw600_0 GW609.out) _).trans (hHeld.2.2.2.2.2.2.2.2.2.2.1)))))), ((cell_far (p := ⟨gb609, _, none⟩) (zY hw600_1 GW609.out) _).trans (((cell_far (p := ⟨gb609, _, none⟩) (zY hw600_1 GW609.out) _).trans (((cell_far (p := ⟨gb609, _, none⟩) (zY hw600_1 GW609.out) _).trans (hHeld.2.2.2.2.2.2.2.2.2.2.2.1)))))), ((cell_far (p := ⟨gb609, _, none⟩) (zY hw600_2 GW609.out) _).trans (((cell_far (p := ⟨gb609, _, none⟩) (zY hw600_2 GW609.out) _).trans (((cell_far (p := ⟨gb609, _, none⟩) (zY hw600_2 GW609.out) _).trans (hHeld.2.2.2.2.2.2.2.2.2.2.2.2.1)))))), ((cell_far (p := ⟨gb609, _, none⟩) (zY hw600_3 GW609.out) _).trans (((cell_far (p := ⟨gb609, _, none⟩) (zY hw600_3 GW609.out) _).trans (((cell_far (p := ⟨gb609, _, none⟩) (zY hw600_3 GW609.out) _).trans (hHeld.2.2.2.2.2.2.2.2.2.2.2.2.2.1)))))), ((cell_far (p := ⟨gb609, _, none⟩) (zY hw600_4 GW609.out) _).trans (((cell_far (p := ⟨gb609, _, none⟩) (zY hw600_4 GW609.out) _).trans (((cell_far (p := ⟨gb609, _, none⟩) (zY hw600_4 GW609.out) _).trans (hHeld.2.2.2.2.2.2.2.2.2.2.2.2.2.2.1)))))), ((cell_far (p := ⟨gb609, _, none⟩) (zY hw600_5 GW609.out) _).trans (((cell_far (p := ⟨gb609, _, none⟩) (zY hw600_5 GW609.out) _).trans (((cell_far (p := ⟨gb609, _, none⟩) (zY hw600_5 GW609.out) _).trans (hHeld.2.2.2.2.2.2.2.2.2.2.2.2.2.2.2.1)))))), ((cell_far (p := ⟨gb609, _, none⟩) (zY hw600_6 GW609.out) _).trans (((cell_far (p := ⟨gb609, _, none⟩) (zY hw600_6 GW609.out) _).trans (((cell_far (p := ⟨gb609, _, none⟩) (zY hw600_6 GW609.out) _).trans (hHeld.2.2.2.2.2.2.2.2.2.2.2.2.2.2.2.2))))))⟩ (fun hHeld => ?_)
                          clear hK K
                          refine pure_ (i := 19) (N := some 16) (v := ?_) (a' := ?_) #[true, true, true, true, true, true, true, true, true, true, true, true, true, true, true, true, true, true, true, true] rfl rfl (any_of HT_.out (by kernel_rfl)) (fun _ _ _ h => h) (Or.inl ⟨by rfl, ?_⟩) ?_ ?_
                          rotate_left
                          ·intro w'
                           go_simp
                           with_reducible rfl
                          rotate_left
                          ·simp only [Act.put, List.setIfInBounds_toArray, List.set_cons_zero, List.set_cons_succ, i64_w, i32_w]
                           rfl
                          refine done_ (done_of HT_.out (by kernel_rfl)) ?_
                          go_upto_region 30 with (fail)
                          go_cut [154] (fun v154 wc => ∃ (kq : Nat) (x154_69 : Bool), v154 = .bool x154_69 ∧ Aside0 (cooperagelaw16_LeaseOver.j6 kq l0 (wrap64 (x6_2 + t573)) y587 x8_2 x10_4 x154_69 t576 t577 t580 = some r) ∧ Aside0 (kq ≤ kj53) ∧ Aside0 (Kd.R (Kd.int .i64) 3 wc w.heap.size (fun _ => True) (.slice (some ⟨go65, 0, none⟩) x7_4.length co65) y587) ∧ Aside0 (Kd.V k34 34 wc w.heap.size (fun k_ => some k_ ≠ ((.slice (some ⟨go65, 0, none⟩) x7_4.length co65) : Value).ownBlock ∧ some k_ ≠ ((.slice Ao78 t591.length co78) : Value).ownBlock ∧ some k_ ≠ ((.slice Ao80 t594.length co80) : Value).ownBlock ∧ some k_ ≠ ((.slice Ao88 t602.length co88) : Value).ownBlock ∧ k_ ≠ gb568 ∧ k_ ≠ gb574 ∧ k_ ≠ gb598 ∧ k_ ≠ gb609) (.slice Ao28 t577.length co28) t577) ∧ Aside0 (Kd.V k32 32 wc w.heap.size (fun k_ => some k_ ≠ ((.slice (some ⟨go65, 0, none⟩) x7_4.length co65) : Value).ownBlock ∧ some k_ ≠ ((.slice Ao78 t591.length co78) : Value).ownBlock ∧ some k_ ≠ ((.slice Ao80 t594.length co80) : Value).ownBlock ∧ some k_ ≠ ((.slice Ao88 t602.length co88) : Value).ownBlock ∧ k_ ≠ gb568 ∧ k_ ≠ gb574 ∧ k_ ≠ gb598 ∧ k_ ≠ gb609) (.slice Ao30 t580.length co30) t580) ∧ Aside0 (Kd.V k34 34 wc w.heap.size (fun k_ => some k_ ≠ ((.slice (some ⟨go65, 0, none⟩) x7_4.length co65) : Value).ownBlock ∧ some k_ ≠ ((.slice Ao78 t591.length co78) : Value).ownBlock ∧ some k_ ≠ ((.slice Ao80 t594.length co80) : Value).ownBlock ∧ some k_ ≠ ((.slice Ao88 t602.length co88) : Value).ownBlock ∧ k_ ≠ gb568 ∧ k_ ≠ gb574 ∧ k_ ≠ gb598 ∧ k_ ≠ gb609) (.slice Ao22 x569001_2.length co22) x569001_2) ∧ Aside0 (Kd.V k32 32 wc w.heap.size (fun k_ => some k_ ≠ ((.slice (some ⟨go65, 0, none⟩) x7_4.length co65) : Value).ownBlock ∧ some k_ ≠ ((.slice Ao78 t591.length co78) : Value).ownBlock ∧ some k_ ≠ ((.slice Ao80 t594.length co80) : Value).ownBlock ∧ some k_ ≠ ((.slice Ao88 t602.length co88) : Value).ownBlock ∧ k_ ≠ gb568 ∧ k_ ≠ gb574 ∧ k_ ≠ gb598 ∧ k_ ≠ gb609) (.slice Ao23 x569002_2.length co23) x569002_2) ∧ Aside0 (Kd.R k34 34 wc w.heap.size (fun k_ => some k_ ≠ ((.slice Ao88 t602.length co88) : Value).ownBlock) (.slice Ao78 t591.length co78) t591) ∧ Aside0 (Kd.R k32 32 wc w.heap.size (fun _ => True) (.slice Ao80 t594.length co80) t594) ∧ Aside0 (Kd.R k34 34 wc w.heap.size (fun k_ => some k_ ≠ ((.slice Ao78 t591.length co78) : Value).ownBlock) (.slice Ao88 t602.length co88) t602) ∧ Aside0 (Kd.V k32 32 wc w.heap.size (fun k_ => some k_ ≠ ((.slice (some ⟨go65, 0, none⟩) x7_4.length co65) : Value).ownBlock ∧ some k_ ≠ ((.slice Ao78 t591.length co78) : Value).ownBlock ∧ some k_ ≠ ((.slice Ao80 t594.length co80) : Value).ownBlock ∧ some k_ ≠ ((.slice Ao88 t602.length co88) : Value).ownBlock ∧ k_ ≠ gb568 ∧ k_ ≠ gb574 ∧ k_ ≠ gb598 ∧ k_ ≠ gb609) (.slice Ao90 t605.length co90) t605) ∧ Aside0 (wc.heap[gb568]? = some (.cells #[.int .i64 t576, (.slice Ao28 t577.length co28), (.slice Ao30 t580.length co30)] 27 (0, 0))) ∧ Aside0 (wc.heap[gb574]? = some (.cells #[.int .i64 x569000_2, (.slice Ao22 x569001_2.length co22), (.slice Ao23 x569002_2.length co23)] 27 (0, 0))) ∧ Aside0 (wc.heap[gb598]? = some (.cells #[.int .i64 t590, (.slice Ao78 t591.length co78), (.slice Ao80 t594.length co80)] 27 (0, 0))) ∧ Aside0 (wc.heap[gb609]? = some (.cells #[.int .i64 t601, (.slice Ao88 t602.length co88), (.slice Ao90 t605.length co90)] 27 (0, 0))) ∧ Aside0 (Below w.heap.size w wc))
                          case first =>
                           have H := HC70.out
                           clear HC70
                           by_cases c92 : t597 = 8
                           ·rw [if_pos c92] at H
                            have c92b0 : (t597 == 8) = true := beq_iff_eq.mpr c92
                            have c92b1 : (t597 != 8) = false := bne_eq_false_iff_eq.mpr c92
                            clear c92
                            (first | rw [c92b0] | (simp only [i64_w, i32_w]; rw [c92b0]) | skip)
                            by_cases c93 : t608 = 8
                            ·rw [if_pos c93] at H
                             have c93b0 : (t608 == 8) = true := beq_iff_eq.mpr c93
                             have c93b1 : (t608 != 8) = false := bne_eq_false_iff_eq.mpr c93
                             clear c93
                             have H' := Aside0.mk H
                             clear H
                             have hnb94 := NB598_568.out
                             have hnc94 := NB568_598.out
                             have hnb95 := NB598_574.out
                             have hnc95 := NB574_598.out
                             have hnb96 := NB598_609.out
                             have hnc96 := NB609_598.out
                             obtain ⟨hcz97_0, hcz97_1, hcz97_2, hfz97_0, hfz97_1, hfz97_2⟩ := zC3 BK598.out
                             go_wp2
                             go_meet
                             case rel => exact ⟨_, (((t591.length : Int) != 0)), zS, H', ⟨by have := HJ3.out; have := HK2.out; have := HJ16.out; have := HK4.out; have := HK5.out; have := HJ53.out; first | omega | exact Nat.le_refl _⟩, ⟨by (with_reducible repeat (first | apply Kd.R_alloc | apply Kd.R_drewN | apply Kd.R_drew)); exact Kd.R_mono (zNT HO_7.out BK609.out) (fun _ hk => trivial)⟩, ⟨by (with_reducible repeat (first | apply Kd.V_alloc | apply Kd.V_drewN | apply Kd.V_drew)); exact Kd.V_mono (zNV HO_569001.out (g := gb609) (fun _ hk => hk.2.2.2.2.2.2.2)) (fun _ hk => ⟨hk.1.2.2.2.1, ⟨hk.1.1, ⟨hk.1.2.1, ⟨hk.1.2.2.1, ⟨hk.1.2.2.2.2.1, ⟨hk.1.2.2.2.2.2.1, ⟨hk.1.2.2.2.2.2.2.1, hk.1.2.2.2.2.2.2.2⟩⟩⟩⟩⟩⟩⟩)⟩, ⟨by (with_reducible repeat (first | apply Kd.V_alloc | apply Kd.V_drewN | apply Kd.V_drew)); exact Kd.V_mono (zNV HO_569002.out (g := gb609) (fun _ hk => hk.2.2.2.2.2.2.2)) (fun _ hk => ⟨hk.1.2.2.2.1, ⟨hk.1.1, ⟨hk.1.2.1, ⟨hk.1.2.2.1, ⟨hk.1.2.2.2.2.1, ⟨hk.1.2.2.2.2.2.1, ⟨hk.1.2.2.2.2.2.2.1, hk.1.2.2.2.2.2.2.2⟩⟩⟩⟩⟩⟩⟩)⟩, ⟨by (with_reducible repeat (first | apply Kd.V_alloc | apply Kd.V_drewN | apply Kd.V_drew)); exact Kd.V_mono (zNV HO_575001.out (g := gb609) (fun _ hk => hk.2.2.2.2.2.2.2)) (fun _ hk => ⟨hk.1.2.2.2.1, ⟨hk.1.1, ⟨hk.1.2.1, ⟨hk.1.2.2.1, ⟨hk.1.2.2.2.2.1, ⟨hk.1.2.2.2.2.2.1, ⟨hk.1.2.2.2.2.2.2.1, hk.1.2.2.2.2.2.2.2⟩⟩⟩⟩⟩⟩⟩)⟩, ⟨by (with_reducible repeat (first | apply Kd.V_alloc | apply Kd.V_drewN | apply Kd.V_drew)); exact Kd.V_mono (zNV HO_575002.out (g := gb609) (fun _ hk => hk.2.2.2.2.2.2.2)) (fun _ hk => ⟨hk.1.2.2.2.1, ⟨hk.1.1, ⟨hk.1.2.1, ⟨hk.1.2.2.1, ⟨hk.1.2.2.2.2.1, ⟨hk.1.2.2.2.2.2.1, ⟨hk.1.2.2.2.2.2.2.1, hk.1.2.2.2.2.2.2.2⟩⟩⟩⟩⟩⟩⟩)⟩, ⟨by (with_reducible repeat (first | apply Kd.R_alloc | apply Kd.R_drewN | apply Kd.R_drew)); exact Kd.R_mono (zNT HO593.out BK609.out) (fun _ hk => hk.1)⟩, ⟨by (with_reducible repeat (first | apply Kd.R_alloc | apply Kd.R_drewN | apply Kd.R_drew)); exact Kd.R_mono (zNT HO596.out BK609.out) (fun _ hk => trivial)⟩, ⟨by (with_reducible repeat (first | apply Kd.R_alloc | apply Kd.R_drewN | apply Kd.R_drew)); exact Kd.R_mono (zNT HO604.out BK609.out) (fun _ hk => hk.1)⟩, ⟨by (with_reducible repeat (first | apply Kd.V_alloc | apply Kd.V_drewN | apply Kd.V_drew)); exact Kd.V_mono (zNV HO607.out (g := gb609) (fun _ hk => hk.2.2.2.2.2.2.2)) (fun _ hk => ⟨hk.1.2.2.2.1, ⟨hk.1.1, ⟨hk.1.2.1, ⟨hk.1.2.2.1, ⟨hk.1.2.2.2.2.1, ⟨hk.1.2.2.2.2.2.1, ⟨hk.1.2.2.2.2.2.2.1, hk.1.2.2.2.2.2.2.2⟩⟩⟩⟩⟩⟩⟩)⟩, ⟨zK BK568.out⟩, ⟨zK BK574.out⟩, ⟨zK BK598.out⟩, ⟨zP3 BK609.out⟩, ⟨zL HB.out⟩⟩
                            ·rw [if_neg c93] at H
                             have c93b0 : (t608 == 8) = false := beq_eq_false_iff_ne.mpr c93
                             have c93b1 : (t608 != 8) = true := bne_iff_ne.mpr c93
                             have H' := Aside0.mk H
                             clear H
                             go_wp2
                             go_meet
                             case rel => exact ⟨_, (true), zS, H', ⟨by have := HJ3.out; have := HK2.out; have := HJ16.out; have := HK4.out; have := HK5.out; have := HJ53.out; first | omega | exact Nat.le_refl _⟩, ⟨by (with_reducible repeat (first | apply Kd.R_alloc | apply Kd.R_drewN | apply Kd.R_drew)); exact Kd.R_mono (zNT HO_7.out BK609.out) (fun _ hk => trivial)⟩, ⟨by (with_reducible repeat (first | apply Kd.V_alloc | apply Kd.V_drewN | apply Kd.V_drew)); exact Kd.V_mono (zNV HO_569001.out (g := gb609) (fun _ hk => hk.2.2.2.2.2.2.2)) (fun _ hk => ⟨hk.1.2.2.2.1, ⟨hk.1.1, ⟨hk.1.2.1, ⟨hk.1.2.2.1, ⟨hk.1.2.2.2.2.1, ⟨hk.1.2.2.2.2.2.1, ⟨hk.1.2.2.2.2.2.2.1, hk.1.2.2.2.2.2.2.2⟩⟩⟩⟩⟩⟩⟩)⟩, ⟨by (with_reducible repeat (first | apply Kd.V_alloc | apply Kd.V_drewN | apply Kd.V_drew)); exact Kd.V_mono (zNV HO_569002.out (g := gb609) (fun _ hk => hk.2.2.2.2.2.2.2)) (fun _ hk => ⟨hk.1.2.2.2.1, ⟨hk.1.1, ⟨hk.1.2.1, ⟨hk.1.2.2.1, ⟨hk.1.2.2.2.2.1, ⟨hk.1.2.2.2.2.2.1, ⟨hk.1.2.2.2.2.2.2.1, hk.1.2.2.2.2.2.2.2⟩⟩⟩⟩⟩⟩⟩)⟩, ⟨by (with_reducible repeat (first | apply Kd.V_alloc | apply Kd.V_drewN | apply Kd.V_drew)); exact Kd.V_mono (zNV HO_575001.out (g := gb609) (fun _ hk => hk.2.2.2.2.2.2.2)) (fun _ hk => ⟨hk.1.2.2.2.1, ⟨hk.1.1, ⟨hk.1.2.1, ⟨hk.1.2.2.1, ⟨hk.1.2.2.2.2.1, ⟨hk.1.2.2.2.2.2.1, ⟨hk.1.2.2.2.2.2.2.1, hk.1.2.2.2.2.2.2.2⟩⟩⟩⟩⟩⟩⟩)⟩, ⟨by (with_reducible repeat (first | apply Kd.V_alloc | apply Kd.V_drewN | apply Kd.V_drew)); exact Kd.V_mono (zNV HO_575002.out (g := gb609) (fun _ hk => hk.2.2.2.2.2.2.2)) (fun _ hk => ⟨hk.1.2.2.2.1, ⟨hk.1.1, ⟨hk.1.2.1, ⟨hk.1.2.2.1, ⟨hk.1.2.2.2.2.1, ⟨hk.1.2.2.2.2.2.1, ⟨hk.1.2.2.2.2.2.2.1, hk.1.2.2.2.2.2.2.2⟩⟩⟩⟩⟩⟩⟩)⟩, ⟨by (with_reducible repeat (first | apply Kd.R_alloc | apply Kd.R_drewN | apply Kd.R_drew)); exact Kd.R_mono (zNT HO593.out BK609.out) (fun _ hk => hk.1)⟩, ⟨by (with_reducible repeat (first | apply Kd.R_alloc | apply Kd.R_drewN | apply Kd.R_drew)); exact Kd.R_mono (zNT HO596.out BK609.out) (fun _ hk => trivial)⟩, ⟨by (with_reducible repeat (first | apply Kd.R_alloc | apply Kd.R_drewN | apply Kd.R_drew)); exact Kd.R_mono (zNT HO604.out BK609.out) (fun _ hk => hk.1)⟩, ⟨by (with_reducible repeat (first | apply Kd.V_alloc | apply Kd.V_drewN | apply Kd.V_drew)); exact Kd.V_mono (zNV HO607.out (g := gb609) (fun _ hk => hk.2.2.2.2.2.2.2)) (fun _ hk => ⟨hk.1.2.2.2.1, ⟨hk.1.1, ⟨hk.1.2.1, ⟨hk.1.2.2.1, ⟨hk.1.2.2.2.2.1, ⟨hk.1.2.2.2.2.2.1, ⟨hk.1.2.2.2.2.2.2.1, hk.1.2.2.2.2.2.2.2⟩⟩⟩⟩⟩⟩⟩)⟩, ⟨zK BK568.out⟩, ⟨zK BK574.out⟩, ⟨zK BK598.out⟩, ⟨zP3 BK609.out⟩, ⟨zL HB.out⟩⟩
                           ·rw [if_neg c92] at H
                            have c92b0 : (t597 == 8) = false := beq_eq_false_iff_ne.mpr c92
                            have c92b1 : (t597 != 8) = true := bne_iff_ne.mpr c92
                            (first | rw [c92b0] | (simp only [i64_w, i32_w]; rw [c92b0]) | skip)
                            have H' := Aside0.mk H
                            clear H
                            go_wp2
                            go_meet
                            case rel => exact ⟨_, (true), zS, H', ⟨by have := HJ3.out; have := HK2.out; have := HJ16.out; have := HK4.out; have := HK5.out; have := HJ53.out; first | omega | exact Nat.le_refl _⟩, ⟨by (with_reducible repeat (first | apply Kd.R_alloc | apply Kd.R_drewN | apply Kd.R_drew)); exact Kd.R_mono (zNT HO_7.out BK609.out) (fun _ hk => trivial)⟩, ⟨by (with_reducible repeat (first | apply Kd.V_alloc | apply Kd.V_drewN | apply Kd.V_drew)); exact Kd.V_mono (zNV HO_569001.out (g := gb609) (fun _ hk => hk.2.2.2.2.2.2.2)) (fun _ hk => ⟨hk.1.2.2.2.1, ⟨hk.1.1, ⟨hk.1.2.1, ⟨hk.1.2.2.1, ⟨hk.1.2.2.2.2.1, ⟨hk.1.2.2.2.2.2.1, ⟨hk.1.2.2.2.2.2.2.1, hk.1.2.2.2.2.2.2.2⟩⟩⟩⟩⟩⟩⟩)⟩, ⟨by (with_reducible repeat (first | apply Kd.V_alloc | apply Kd.V_drewN | apply Kd.V_drew)); exact Kd.V_mono (zNV HO_569002.out (g := gb609) (fun _ hk => hk.2.2.2.2.2.2.2)) (fun _ hk => ⟨hk.1.2.2.2.1, ⟨hk.1.1, ⟨hk.1.2.1, ⟨hk.1.2.2.1, ⟨hk.1.2.2.2.2.1, ⟨hk.1.2.2.2.2.2.1, ⟨hk.1.2.2.2.2.2.2.1, hk.1.2.2.2.2.2.2.2⟩⟩⟩⟩⟩⟩⟩)⟩, ⟨by (with_reducible repeat (first | apply Kd.V_alloc | apply Kd.V_drewN | apply Kd.V_drew)); exact Kd.V_mono (zNV HO_575001.out (g := gb609) (fun _ hk => hk.2.2.2.2.2.2.2)) (fun _ hk => ⟨hk.1.2.2.2.1, ⟨hk.1.1, ⟨hk.1.2.1, ⟨hk.1.2.2.1, ⟨hk.1.2.2.2.2.1, ⟨hk.1.2.2.2.2.2.1, ⟨hk.1.2.2.2.2.2.2.1, hk.1.2.2.2.2.2.2.2⟩⟩⟩⟩⟩⟩⟩)⟩, ⟨by (with_reducible repeat (first | apply Kd.V_alloc | apply Kd.V_drewN | apply Kd.V_drew)); exact Kd.V_mono (zNV HO_575002.out (g := gb609) (fun _ hk => hk.2.2.2.2.2.2.2)) (fun _ hk => ⟨hk.1.2.2.2.1, ⟨hk.1.1, ⟨hk.1.2.1, ⟨hk.1.2.2.1, ⟨hk.1.2.2.2.2.1, ⟨hk.1.2.2.2.2.2.1, ⟨hk.1.2.2.2.2.2.2.1, hk.1.2.2.2.2.2.2.2⟩⟩⟩⟩⟩⟩⟩)⟩, ⟨by (with_reducible repeat (first | apply Kd.R_alloc | apply Kd.R_drewN | apply Kd.R_drew)); exact Kd.R_mono (zNT HO593.out BK609.out) (fun _ hk => hk.1)⟩, ⟨by (with_reducible repeat (first | apply Kd.R_alloc | apply Kd.R_drewN | apply Kd.R_drew)); exact Kd.R_mono (zNT HO596.out BK609.out) (fun _ hk => trivial)⟩, ⟨by (with_reducible repeat (first | apply Kd.R_alloc | apply Kd.R_drewN | apply Kd.R_drew)); exact Kd.R_mono (zNT HO604.out BK609.out) (fun _ hk => hk.1)⟩, ⟨by (with_reducible repeat (first | apply Kd.V_alloc | apply Kd.V_drewN | apply Kd.V_drew)); exact Kd.V_mono (zNV HO607.out (g := gb609) (fun _ hk => hk.2.2.2.2.2.2.2)) (fun _ hk => ⟨hk.1.2.2.2.1, ⟨hk.1.1, ⟨hk.1.2.1, ⟨hk.1.2.2.1, ⟨hk.1.2.2.2.2.1, ⟨hk.1.2.2.2.2.2.1, ⟨hk.1.2.2.2.2.2.2.1, hk.1.2.2.2.2.2.2.2⟩⟩⟩⟩⟩⟩⟩)⟩, ⟨zK BK568.out⟩, ⟨zK BK574.out⟩, ⟨zK BK598.out⟩, ⟨zP3 BK609.out⟩, ⟨zL HB.out⟩⟩
                          case rest =>
                           clear HC70
                           try clear c2
                           try clear p2
                           try clear p5
                           try clear q5
                           try clear hx5
                           try clear p6
                           try clear q6
                           try clear hx6
                           try clear c9
                           try clear c25
                           try clear p59
                           try clear q59
                           try clear hx59
                           try clear p60
                           try clear q60
                           try clear hx60
                           try clear p64
                           try clear c92
                           try clear c92b0
                           try clear c92b1
                           try clear c93
                           try clear c93b0
                           try clear c93b1
                           try clear c94
                           try clear c95
                           try clear c96
                           try clear hcz97_0
                           try clear hcz97_1
                           try clear hcz97_2
                           try clear hfz97_0
                           try clear hfz97_1
                           try clear hfz97_2
                           try clear hx599_0
                           try clear hx599_1
                           try clear hx599_2
                           try clear hx599_3
                           try clear hx599_4
                           try clear hx599_5
                           try clear hx599_6
                           try clear hx600_0
                           try clear hx600_1
                           try clear hx600_2
                           try clear hx600_3
                           try clear hx600_4
                           try clear hx600_5
                           try clear hx600_6
                           try clear p599
                           try clear p600
                           try clear q599
                           try clear q600
                           obtain ⟨kq, x154_69, rfl, HA, HJ69, HO_7, HO_569001, HO_569002, HO_575001, HO_575002, HO_599001, HO_599002, HO_610001, HO_610002, BK568, BK574, BK598, BK609, HB⟩ := hcut
                           have hl7_69 := (Kd.R_reads' HO_7.out).1
                           rw [hl7_69] at HO_7
                           (try simp only [hl7_69])
                           (try simp only [hl7_69] at BK568)
                           (try simp only [hl7_69] at BK574)
                           (try simp only [hl7_69] at BK598)
                           (try simp only [hl7_69] at BK609)
                           (try simp only [hl7_69] at HO_569001)
                           (try simp only [hl7_69] at HO_569002)
                           (try simp only [hl7_69] at HO_575001)
                           (try simp only [hl7_69] at HO_575002)
                           (try simp only [hl7_69] at HO_599001)
                           (try simp only [hl7_69] at HO_599002)
                           (try simp only [hl7_69] at HO_610001)
                           (try simp only [hl7_69] at HO_610002)
                           cases kq with
                           | zero => exact absurd HA.out (by simp [cooperagelaw16_LeaseOver.j6])
                           | succ kj69 =>
                            have H := HA.out
                            clear HA
                            simp only [cooperagelaw16_LeaseOver.j6] at H
                            by_cases c98 : x154_69 = true
                            ·subst c98
                             have H1 : (some false) = some r := by rw [if_pos rfl] at H; exact H
                             clear H
                             have H := H1
                             clear H1
                             obtain rfl := Option.some.inj H
                             go_wp2
                             go_ret
                             exact ⟨zE, zL HB.out⟩
                            ·replace c98 := Bool.eq_false_iff.mpr c98
                             subst c98
                             have H1 : (cooperagelaw16_LeaseOver.l1 kj69 l0 (wrap64 (x6_2 + t573)) y587 x8_2 (wrap64 (x10_4 + 1)) t576 t577 t580) = some r := by rw [if_neg (show ¬ (false = true) by decide)] at H; exact H
                             clear H
                             have H := H1
                             clear H1
                             have H' := Aside0.mk H
                             clear H
                             go_wp2
                             (try simp only [← hl7_69])
                             go_roundg kj69
                             case measure => have := HJ3.out; have := HK2.out; have := HJ16.out; have := HK4.out; have := HK5.out; have := HJ53.out; have := HJ69.out; omega
                             case rel => exact ⟨(y587), (wrap64 (x10_4 + 1)), zS, H', ⟨by have := HJ3.out; have := HK2.out; have := HJ16.out; have := HK4.out; have := HK5.out; have := HJ53.out; have := HJ69.out; omega⟩, ⟨by (try simp only [hl7_69]); (with_reducible repeat (first | apply Kd.R_alloc | apply Kd.R_drewN | apply Kd.R_drew)); exact HO_7.out⟩, ⟨by (try simp only [hl7_69]); (with_reducible repeat (first | apply Kd.V_alloc | apply Kd.V_drewN | apply Kd.V_drew)); exact Kd.V_mono HO_569001.out (fun _ hk => ⟨hk.1, ⟨hk.2.2.2.2.1, hk.2.2.2.2.2.1⟩⟩)⟩, ⟨by (try simp only [hl7_69]); (with_reducible repeat (first | apply Kd.V_alloc | apply Kd.V_drewN | apply Kd.V_drew)); exact Kd.V_mono HO_569002.out (fun _ hk => ⟨hk.1, ⟨hk.2.2.2.2.1, hk.2.2.2.2.2.1⟩⟩)⟩, ⟨by (try simp only [hl7_69]); (with_reducible repeat (first | apply Kd.V_alloc | apply Kd.V_drewN | apply Kd.V_drew)); exact Kd.V_mono HO_575001.out (fun _ hk => ⟨hk.1, ⟨hk.2.2.2.2.1, hk.2.2.2.2.2.1⟩⟩)⟩, ⟨by (try simp only [hl7_69]); (with_reducible repeat (first | apply Kd.V_alloc | apply Kd.V_drewN | apply Kd.V_drew)); exact Kd.V_mono HO_575002.out (fun _ hk => ⟨hk.1, ⟨hk.2.2.2.2.1, hk.2.2.2.2.2.1⟩⟩)⟩, ⟨by (try simp only [hl7_69]); (with_reducible repeat (first | refine blk_drewN ?_ _ | refine blk_drew ?_ | refine blk_alloc ?_ _)); exact BK568.out⟩, ⟨by (try simp only [hl7_69]); (with_reducible repeat (first | refine blk_drewN ?_ _ | refine blk_drew ?_ | refine blk_alloc ?_ _)); exact BK574.out⟩, ⟨zL HB.out⟩⟩
                         ·rw [if_neg c67] at H
                          exact absurd H (by simp)
                        ·rw [if_neg c66] at H
                         exact absurd H (by simp)
                       ·rw [if_neg c64] at H
                        exact absurd H (by simp)
                      ·rw [if_neg c63] at H
                       exact absurd H (by simp)
              ·rw [if_neg c44] at H
               have c44b0 : decide (x10_4 ≤ t576) = false := decide_eq_false c44
               clear c44
               have H' := Aside0.mk H
               clear H
               have hnb99 := NB568_574.out
               have hnc99 := NB574_568.out
               obtain ⟨hcz100_0, hcz100_1, hcz100_2, hfz100_0, hfz100_1, hfz100_2⟩ := zC3 BK568.out
               go_wp2
               go_roundg k4
               case measure => have := HJ3.out; have := HK2.out; have := HJ16.out; have := HK4.out; omega
               case rel => exact ⟨((wrap64 (x6_2 + t573))), (x7_4), (wrap64 (x8_2 + 1)), (t576), (t577), (t580), (.slice Ao28 t577.length co28), (.slice Ao30 t580.length co30), zS, zS, H', ⟨by have := HJ3.out; have := HK2.out; have := HJ16.out; have := HK4.out; omega⟩, ⟨by (with_reducible repeat (first | apply Kd.R_alloc | apply Kd.R_drewN | apply Kd.R_drew)); exact HO_7.out⟩, ⟨by (with_reducible repeat (first | apply Kd.V_alloc | apply Kd.V_drewN | apply Kd.V_drew)); exact Kd.V_mono HO_569001.out (fun _ hk => ⟨hk.1, hk.2.1⟩)⟩, ⟨by (with_reducible repeat (first | apply Kd.V_alloc | apply Kd.V_drewN | apply Kd.V_drew)); exact Kd.V_mono HO_569002.out (fun _ hk => ⟨hk.1, hk.2.1⟩)⟩, ⟨zK BK568.out⟩, ⟨zL HB.out⟩⟩
        ·rw [if_neg c14] at H
         exact absurd H (by simp)
       ·rw [if_neg c13] at H
        have c13b0 : decide (x8_2 < (l0.length : Int)) = false := decide_eq_false c13
        clear c13
        obtain rfl := Option.some.inj H
        go_wp2
        go_ret
        exact ⟨zE, zL HB.out⟩
    ·rw [if_neg c8] at H
     exact absurd H (by simp)

/-- THE ONE PURE STATEMENT of cooperagelaw16_LeaseOver. -/
def cooperagelaw16_LeaseOver.Pure : Prop := ∀ (l0 : List (S52)), l0.length ≤ 9223372036854775807 → l0.length * 64 ≤ 140737488351232 → (∀ x ∈ l0, (Lit.int .i64 x.f0).wf = true ∧ (Lit.int .i64 x.f1).wf = true ∧ (Lit.int .i64 x.f2).wf = true ∧ (Lit.int .i64 x.f3).wf = true ∧ (Lit.int .i64 x.f4).wf = true ∧ x.f5.size ≤ 9223372036854775807) → ∃ k, cooperagelaw16_LeaseOver.f k l0 = some true
theorem cooperagelaw16_LeaseOver.walk (P : cooperagelaw16_LeaseOver.Pure) (A0 : Option Addr) (c0 : Nat) (l0 : List (S52)) (w : World) (r0 : Kd.C k52 w A0 l0.length l0) (q0 : l0.length ≤ c0) (m0 : l0.length ≤ 9223372036854775807) (y0 : l0.length * 64 ≤ 140737488351232) (e0 : ∀ x ∈ l0, (Lit.int .i64 x.f0).wf = true ∧ (Lit.int .i64 x.f1).wf = true ∧ (Lit.int .i64 x.f2).wf = true ∧ (Lit.int .i64 x.f3).wf = true ∧ (Lit.int .i64 x.f4).wf = true ∧ x.f5.size ≤ 9223372036854775807) :
  Calls Tryd.prog 7 #[.slice A0 l0.length c0] w fun e w' => e = .returned (.bool true) ∧ Below w.heap.size w w' := by
 obtain ⟨k, h⟩ := P l0 m0 y0 e0
 refine (cooperagelaw16_LeaseOver.calls k _ _ l0 true w r0 q0 h).mono ?_
 rintro e w' ⟨rfl, hd⟩
 exact ⟨rfl, hd⟩

end Go.Proofs.YtgcghjkaomgloaaDoor.PLease
