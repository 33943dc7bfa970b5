-- Written by a program of this session (wip/tools/ext.py, over the kit's printer); not trusted: Lean checks it.
import Derived.Test.YtgcghjkaomgloaaDoorPLeasex0
import Derived.Test.YtgcghjkaomgloaaDoorPLeasex1
import Derived.Test.YtgcghjkaomgloaaDoorPLeasex6
import Derived.Test.YtgcghjkaomgloaaDoorPLeasex7
import Derived.Test.YtgcghjkaomgloaaDoorPLeasex9
namespace Go.Proofs.YtgcghjkaomgloaaDoor.PLease
open Go.RowKit Go.Proofs.YtgcghjkaomgloaaDoorW.PrintWords Go.Proofs.YtgcghjkaomgloaaDoorW.PrintLast Go.Proofs.YtgcghjkaomgloaaDoorW.PrintMore
attribute [local go_sem] max2_int min2_int max_two min_two max_three min_three max_four min_four   -- for this text's walks alone
set_option linter.unusedVariables false
set_option linter.unusedSimpArgs false

/-! ### cooperagelaw16_LeaseApart: function 8 -/
mutual
def cooperagelaw16_LeaseApart.j0 : Nat → List (S52) → Int → Bool → Bool → Option (Bool)
 | 0, _, _, _, _ => none
 | k + 1, x0, x1, x5, x27 => if x27 = true then (some x5) else (cooperagelaw16_LeaseApart.l0 k x0 x1 0 0 ([] : List (S34)) ([] : List (S32)))
def cooperagelaw16_LeaseApart.l0 : Nat → List (S52) → Int → Int → Int → List (S34) → List (S32) → Option (Bool)
 | 0, _, _, _, _, _, _ => none
 | k + 1, x0, x1, x8, x613000, x613001, x613002 => if x8 < (x0.length : Int) then (if 0 ≤ x8 then ((cooperagelaw16_does.f k x613000 x613001 x613002 ((rd_T52 x0 x8).f0) ((rd_T52 x0 x8).f1) ((rd_T52 x0 x8).f2) ((rd_T52 x0 x8).f3) ((rd_T52 x0 x8).f4) ((rd_T52 x0 x8).f5) ((rd_T52 x0 x8).f6) x8).bind fun bt615 => ((cooperagelaw16_pick.f ((rd_T52 x0 x8).f0) 10).bind fun t625 => (cooperagelaw16_LeaseApart.l1 k x0 x1 x8 t625 0 bt615.1 bt615.2.1 bt615.2.2.1 x613000 x613001 x613002))) else (none)) else ((lease_Leave.f k x613000 x613001 x613002 x1 (x0.length : Int)).bind fun bt630 => (cooperagelaw16_LeaseApart.l2 k x1 0 x613000 x613001 x613002 bt630.1 bt630.2.1 bt630.2.2))
def cooperagelaw16_LeaseApart.l1 : Nat → List (S52) → Int → Int → Int → Int → Int → List (S34) → List (S32) → Int → List (S34) → List (S32) → Option (Bool)
 | 0, _, _, _, _, _, _, _, _, _, _, _ => none
 | k + 1, x0, x1, x8, x10, x11, x613000, x613001, x613002, x614000, x614001, x614002 => if x11 < (x614001.length : Int) then (cooperagelaw16_LeaseApart.j3 k x0 x1 x8 x10 x11 (decide (x10 < 8)) x613000 x613001 x613002 x614000 x614001 x614002) else (cooperagelaw16_LeaseApart.j3 k x0 x1 x8 x10 x11 false x613000 x613001 x613002 x614000 x614001 x614002)
def cooperagelaw16_LeaseApart.j3 : Nat → List (S52) → Int → Int → Int → Int → Bool → Int → List (S34) → List (S32) → Int → List (S34) → List (S32) → Option (Bool)
 | 0, _, _, _, _, _, _, _, _, _, _, _, _ => none
 | k + 1, x0, x1, x8, x10, x11, x62, x613000, x613001, x613002, x614000, x614001, x614002 => if x62 = true then (if 0 ≤ x11 then (if x11 < (x614001.length : Int) then (if 0 ≤ x8 then (if x8 < (x0.length : Int) then (if ((rd_T34 x614001 x11).f1).toList = ((rd_T52 x0 x8).f5).toList then (cooperagelaw16_LeaseApart.j4 k x0 x1 x8 x10 x11 false x613000 x613001 x613002 x614000 x614001 x614002) else ((lease_Valid.f k x613000 x613001 x613002 ((rd_T34 x614001 x11).f0) ((rd_T34 x614001 x11).f1) ((rd_T34 x614001 x11).f3)).bind fun t629 => (cooperagelaw16_LeaseApart.j4 k x0 x1 x8 x10 x11 (!t629) x613000 x613001 x613002 x614000 x614001 x614002))) else (none)) else (none)) else (none)) else (none)) else (cooperagelaw16_LeaseApart.l0 k x0 x1 (wrap64 (x8 + 1)) x613000 x613001 x613002)
def cooperagelaw16_LeaseApart.j4 : Nat → List (S52) → Int → Int → Int → Int → Bool → Int → List (S34) → List (S32) → Int → List (S34) → List (S32) → Option (Bool)
 | 0, _, _, _, _, _, _, _, _, _, _, _, _ => none
 | k + 1, x0, x1, x8, x10, x11, x88, x613000, x613001, x613002, x614000, x614001, x614002 => if x88 = true then (some false) else (cooperagelaw16_LeaseApart.l1 k x0 x1 x8 x10 (wrap64 (x11 + 1)) x613000 x613001 x613002 x614000 x614001 x614002)
def cooperagelaw16_LeaseApart.l2 : Nat → Int → Int → Int → List (S34) → List (S32) → Int → List (S34) → List (S32) → Option (Bool)
 | 0, _, _, _, _, _, _, _, _ => none
 | k + 1, x1, x14, x613000, x613001, x613002, x638000, x638001, x638002 => if x14 < (x638001.length : Int) then (if 0 ≤ x14 then (if ((rd_T34 x638001 x14).f0) = x1 then (some false) else (cooperagelaw16_LeaseApart.l2 k x1 (wrap64 (x14 + 1)) x613000 x613001 x613002 x638000 x638001 x638002)) else (none)) else (cooperagelaw16_LeaseApart.l3 k x1 0 x613000 x613001 x613002 x638000 x638001 x638002)
def cooperagelaw16_LeaseApart.l3 : Nat → Int → Int → Int → List (S34) → List (S32) → Int → List (S34) → List (S32) → Option (Bool)
 | 0, _, _, _, _, _, _, _, _ => none
 | k + 1, x1, x15, x613000, x613001, x613002, x638000, x638001, x638002 => if x15 < (x613001.length : Int) then (if 0 ≤ x15 then (if ((rd_T34 x613001 x15).f0) = x1 then (cooperagelaw16_LeaseApart.j7 k x1 x15 false x613000 x613001 x613002 x638000 x638001 x638002) else ((lease_Valid.f k x638000 x638001 x638002 ((rd_T34 x613001 x15).f0) ((rd_T34 x613001 x15).f1) ((rd_T34 x613001 x15).f3)).bind fun t647 => (cooperagelaw16_LeaseApart.j7 k x1 x15 (!t647) x613000 x613001 x613002 x638000 x638001 x638002))) else (none)) else ((lease_Waits.f k x638000 x638001 x638002 x1).bind fun bt639 => (some (!bt639.2.2.2.2)))
def cooperagelaw16_LeaseApart.j7 : Nat → Int → Int → Bool → Int → List (S34) → List (S32) → Int → List (S34) → List (S32) → Option (Bool)
 | 0, _, _, _, _, _, _, _, _, _ => none
 | k + 1, x1, x15, x135, x613000, x613001, x613002, x638000, x638001, x638002 => if x135 = true then (some false) else (cooperagelaw16_LeaseApart.l3 k x1 (wrap64 (x15 + 1)) x613000 x613001 x613002 x638000 x638001 x638002)
end
def cooperagelaw16_LeaseApart.f (k : Nat) (l0 : List (S52)) (a1 : Int) : Option (Bool) := (cooperagelaw16_shown.f k).bind fun t610 => ((cooperagelaw16_right.f k l0).bind fun t611 => (if t610 = true then (cooperagelaw16_LeaseApart.j0 k l0 a1 t610 (!t611)) else (cooperagelaw16_LeaseApart.j0 k l0 a1 t610 true)))
theorem cooperagelaw16_LeaseApart.mono_l : ∀ k, (∀ y0 y1 y2 y3, LeO (cooperagelaw16_LeaseApart.j0 k y0 y1 y2 y3) (cooperagelaw16_LeaseApart.j0 (k + 1) y0 y1 y2 y3)) ∧ (∀ y0 y1 y2 y3 y4 y5, LeO (cooperagelaw16_LeaseApart.l0 k y0 y1 y2 y3 y4 y5) (cooperagelaw16_LeaseApart.l0 (k + 1) y0 y1 y2 y3 y4 y5)) ∧ (∀ y0 y1 y2 y3 y4 y5 y6 y7 y8 y9 y10, LeO (cooperagelaw16_LeaseApart.l1 k y0 y1 y2 y3 y4 y5 y6 y7 y8 y9 y10) (cooperagelaw16_LeaseApart.l1 (k + 1) y0 y1 y2 y3 y4 y5 y6 y7 y8 y9 y10)) ∧ (∀ y0 y1 y2 y3 y4 y5 y6 y7 y8 y9 y10 y11, LeO (cooperagelaw16_LeaseApart.j3 k y0 y1 y2 y3 y4 y5 y6 y7 y8 y9 y10 y11) (cooperagelaw16_LeaseApart.j3 (k + 1) y0 y1 y2 y3 y4 y5 y6 y7 y8 y9 y10 y11)) ∧ (∀ y0 y1 y2 y3 y4 y5 y6 y7 y8 y9 y10 y11, LeO (cooperagelaw16_LeaseApart.j4 k y0 y1 y2 y3 y4 y5 y6 y7 y8 y9 y10 y11) (cooperagelaw16_LeaseApart.j4 (k + 1) y0 y1 y2 y3 y4 y5 y6 y7 y8 y9 y10 y11)) ∧ (∀ y0 y1 y2 y3 y4 y5 y6 y7, LeO (cooperagelaw16_LeaseApart.l2 k y0 y1 y2 y3 y4 y5 y6 y7) (cooperagelaw16_LeaseApart.l2 (k + 1) y0 y1 y2 y3 y4 y5 y6 y7)) ∧ (∀ y0 y1 y2 y3 y4 y5 y6 y7, LeO (cooperagelaw16_LeaseApart.l3 k y0 y1 y2 y3 y4 y5 y6 y7) (cooperagelaw16_LeaseApart.l3 (k + 1) y0 y1 y2 y3 y4 y5 y6 y7)) ∧ (∀ y0 y1 y2 y3 y4 y5 y6 y7 y8, LeO (cooperagelaw16_LeaseApart.j7 k y0 y1 y2 y3 y4 y5 y6 y7 y8) (cooperagelaw16_LeaseApart.j7 (k + 1) y0 y1 y2 y3 y4 y5 y6 y7 y8))
 | 0 => ⟨fun _ _ _ _ r h => by simp [cooperagelaw16_LeaseApart.j0] at h, fun _ _ _ _ _ _ r h => by simp [cooperagelaw16_LeaseApart.l0] at h, fun _ _ _ _ _ _ _ _ _ _ _ r h => by simp [cooperagelaw16_LeaseApart.l1] at h, fun _ _ _ _ _ _ _ _ _ _ _ _ r h => by simp [cooperagelaw16_LeaseApart.j3] at h, fun _ _ _ _ _ _ _ _ _ _ _ _ r h => by simp [cooperagelaw16_LeaseApart.j4] at h, fun _ _ _ _ _ _ _ _ r h => by simp [cooperagelaw16_LeaseApart.l2] at h, fun _ _ _ _ _ _ _ _ r h => by simp [cooperagelaw16_LeaseApart.l3] at h, fun _ _ _ _ _ _ _ _ _ r h => by simp [cooperagelaw16_LeaseApart.j7] at h⟩
 | k + 1 => by
  obtain ⟨ih0, ih1, ih2, ih3, ih4, ih5, ih6, ih7⟩ := cooperagelaw16_LeaseApart.mono_l k
  refine ⟨?_, ?_, ?_, ?_, ?_, ?_, ?_, ?_⟩
  ·intro y0 y1 y2 y3
   unfold cooperagelaw16_LeaseApart.j0
   repeat' first
   | (with_reducible exact ih0 _ _ _ _)
   | (with_reducible exact ih1 _ _ _ _ _ _)
   | (with_reducible exact ih2 _ _ _ _ _ _ _ _ _ _ _)
   | (with_reducible exact ih3 _ _ _ _ _ _ _ _ _ _ _ _)
   | (with_reducible exact ih4 _ _ _ _ _ _ _ _ _ _ _ _)
   | (with_reducible exact ih5 _ _ _ _ _ _ _ _)
   | (with_reducible exact ih6 _ _ _ _ _ _ _ _)
   | (with_reducible exact ih7 _ _ _ _ _ _ _ _ _)
   | (with_reducible exact cooperagelaw16_does.mono _ _ _ _ _ _ _ _ _ _ _ _)
   | (with_reducible exact cooperagelaw16_right.mono _ _)
   | (with_reducible exact cooperagelaw16_shown.mono _)
   | (with_reducible exact lease_Leave.mono _ _ _ _ _ _)
   | (with_reducible exact lease_Valid.mono _ _ _ _ _ _ _)
   | (with_reducible exact lease_Waits.mono _ _ _ _ _)
   | (with_reducible exact LeO.refl _)
   | (with_reducible exact LeO.none _)
   | (with_reducible refine LeO.ite ?_ ?_)
   | (with_reducible refine LeO.bind ?_ (fun _ => ?_))
   | exact ih0 _ _ _ _
   | exact ih1 _ _ _ _ _ _
   | exact ih2 _ _ _ _ _ _ _ _ _ _ _
   | exact ih3 _ _ _ _ _ _ _ _ _ _ _ _
   | exact ih4 _ _ _ _ _ _ _ _ _ _ _ _
   | exact ih5 _ _ _ _ _ _ _ _
   | exact ih6 _ _ _ _ _ _ _ _
   | exact ih7 _ _ _ _ _ _ _ _ _
   | exact cooperagelaw16_does.mono _ _ _ _ _ _ _ _ _ _ _ _
   | exact cooperagelaw16_right.mono _ _
   | exact cooperagelaw16_shown.mono _
   | exact lease_Leave.mono _ _ _ _ _ _
   | exact lease_Valid.mono _ _ _ _ _ _ _
   | exact lease_Waits.mono _ _ _ _ _
   | exact LeO.none _
   | refine LeO.ite ?_ ?_
   | refine LeO.bind ?_ (fun _ => ?_)
  ·intro y0 y1 y2 y3 y4 y5
   unfold cooperagelaw16_LeaseApart.l0
   repeat' first
   | (with_reducible exact ih0 _ _ _ _)
   | (with_reducible exact ih1 _ _ _ _ _ _)
   | (with_reducible exact ih2 _ _ _ _ _ _ _ _ _ _ _)
   | (with_reducible exact ih3 _ _ _ _ _ _ _ _ _ _ _ _)
   | (with_reducible exact ih4 _ _ _ _ _ _ _ _ _ _ _ _)
   | (with_reducible exact ih5 _ _ _ _ _ _ _ _)
   | (with_reducible exact ih6 _ _ _ _ _ _ _ _)
   | (with_reducible exact ih7 _ _ _ _ _ _ _ _ _)
   | (with_reducible exact cooperagelaw16_does.mono _ _ _ _ _ _ _ _ _ _ _ _)
   | (with_reducible exact cooperagelaw16_right.mono _ _)
   | (with_reducible exact cooperagelaw16_shown.mono _)
   | (with_reducible exact lease_Leave.mono _ _ _ _ _ _)
   | (with_reducible exact lease_Valid.mono _ _ _ _ _ _ _)
   | (with_reducible exact lease_Waits.mono _ _ _ _ _)
   | (with_reducible exact LeO.refl _)
   | (with_reducible exact LeO.none _)
   | (with_reducible refine LeO.ite ?_ ?_)
   | (with_reducible refine LeO.bind ?_ (fun _ => ?_))
   | exact ih0 _ _ _ _
   | exact ih1 _ _ _ _ _ _
   | exact ih2 _ _ _ _ _ _ _ _ _ _ _
   | exact ih3 _ _ _ _ _ _ _ _ _ _ _ _
   | exact ih4 _ _ _ _ _ _ _ _ _ _ _ _
   | exact ih5 _ _ _ _ _ _ _ _
   | exact ih6 _ _ _ _ _ _ _ _
   | exact ih7 _ _ _ _ _ _ _ _ _
   | exact cooperagelaw16_does.mono _ _ _ _ _ _ _ _ _ _ _ _
   | exact cooperagelaw16_right.mono _ _
   | exact cooperagelaw16_shown.mono _
   | exact lease_Leave.mono _ _ _ _ _ _
   | exact lease_Valid.mono _ _ _ _ _ _ _
   | exact lease_Waits.mono _ _ _ _ _
   | exact LeO.none _
   | refine LeO.ite ?_ ?_
   | refine LeO.bind ?_ (fun _ => ?_)
  ·intro y0 y1 y2 y3 y4 y5 y6 y7 y8 y9 y10
   unfold cooperagelaw16_LeaseApart.l1
   repeat' first
   | (with_reducible exact ih0 _ _ _ _)
   | (with_reducible exact ih1 _ _ _ _ _ _)
   | (with_reducible exact ih2 _ _ _ _ _ _ _ _ _ _ _)
   | (with_reducible exact ih3 _ _ _ _ _ _ _ _ _ _ _ _)
   | (with_reducible exact ih4 _ _ _ _ _ _ _ _ _ _ _ _)
   | (with_reducible exact ih5 _ _ _ _ _ _ _ _)
   | (with_reducible exact ih6 _ _ _ _ _ _ _ _)
   | (with_reducible exact ih7 _ _ _ _ _ _ _ _ _)
   | (with_reducible exact cooperagelaw16_does.mono _ _ _ _ _ _ _ _ _ _ _ _)
   | (with_reducible exact cooperagelaw16_right.mono _ _)
   | (with_reducible exact cooperagelaw16_shown.mono _)
   | (with_reducible exact lease_Leave.mono _ _ _ _ _ _)
   | (with_reducible exact lease_Valid.mono _ _ _ _ _ _ _)
   | (with_reducible exact lease_Waits.mono _ _ _ _ _)
   | (with_reducible exact LeO.refl _)
   | (with_reducible exact LeO.none _)
   | (with_reducible refine LeO.ite ?_ ?_)
   | (with_reducible refine LeO.bind ?_ (fun _ => ?_))
   | exact ih0 _ _ _ _
   | exact ih1 _ _ _ _ _ _
   | exact ih2 _ _ _ _ _ _ _ _ _ _ _
   | exact ih3 _ _ _ _ _ _ _ _ _ _ _ _
   | exact ih4 _ _ _ _ _ _ _ _ _ _ _ _
   | exact ih5 _ _ _ _ _ _ _ _
   | exact ih6 _ _ _ _ _ _ _ _
   | exact ih7 _ _ _ _ _ _ _ _ _
   | exact cooperagelaw16_does.mono _ _ _ _ _ _ _ _ _ _ _ _
   | exact cooperagelaw16_right.mono _ _
   | exact cooperagelaw16_shown.mono _
   | exact lease_Leave.mono _ _ _ _ _ _
   | exact lease_Valid.mono _ _ _ _ _ _ _
   | exact lease_Waits.mono _ _ _ _ _
   | exact LeO.none _
   | refine LeO.ite ?_ ?_
   | refine LeO.bind ?_ (fun _ => ?_)
  ·intro y0 y1 y2 y3 y4 y5 y6 y7 y8 y9 y10 y11
   unfold cooperagelaw16_LeaseApart.j3
   repeat' first
   | (with_reducible exact ih0 _ _ _ _)
   | (with_reducible exact ih1 _ _ _ _ _ _)
   | (with_reducible exact ih2 _ _ _ _ _ _ _ _ _ _ _)
   | (with_reducible exact ih3 _ _ _ _ _ _ _ _ _ _ _ _)
   | (with_reducible exact ih4 _ _ _ _ _ _ _ _ _ _ _ _)
   | (with_reducible exact ih5 _ _ _ _ _ _ _ _)
   | (with_reducible exact ih6 _ _ _ _ _ _ _ _)
   | (with_reducible exact ih7 _ _ _ _ _ _ _ _ _)
   | (with_reducible exact cooperagelaw16_does.mono _ _ _ _ _ _ _ _ _ _ _ _)
   | (with_reducible exact cooperagelaw16_right.mono _ _)
   | (with_reducible exact cooperagelaw16_shown.mono _)
   | (with_reducible exact lease_Leave.mono _ _ _ _ _ _)
   | (with_reducible exact lease_Valid.mono _ _ _ _ _ _ _)
   | (with_reducible exact lease_Waits.mono _ _ _ _ _)
   | (with_reducible exact LeO.refl _)
   | (with_reducible exact LeO.none _)
   | (with_reducible refine LeO.ite ?_ ?_)
   | (with_reducible refine LeO.bind ?_ (fun _ => ?_))
   | exact ih0 _ _ _ _
   | exact ih1 _ _ _ _ _ _
   | exact ih2 _ _ _ _ _ _ _ _ _ _ _
   | exact ih3 _ _ _ _ _ _ _ _ _ _ _ _
   | exact ih4 _ _ _ _ _ _ _ _ _ _ _ _
   | exact ih5 _ _ _ _ _ _ _ _
   | exact ih6 _ _ _ _ _ _ _ _
   | exact ih7 _ _ _ _ _ _ _ _ _
   | exact cooperagelaw16_does.mono _ _ _ _ _ _ _ _ _ _ _ _
   | exact cooperagelaw16_right.mono _ _
   | exact cooperagelaw16_shown.mono _
   | exact lease_Leave.mono _ _ _ _ _ _
   | exact lease_Valid.mono _ _ _ _ _ _ _
   | exact lease_Waits.mono _ _ _ _ _
   | exact LeO.none _
   | refine LeO.ite ?_ ?_
   | refine LeO.bind ?_ (fun _ => ?_)
  ·intro y0 y1 y2 y3 y4 y5 y6 y7 y8 y9 y10 y11
   unfold cooperagelaw16_LeaseApart.j4
   repeat' first
   | (with_reducible exact ih0 _ _ _ _)
   | (with_reducible exact ih1 _ _ _ _ _ _)
   | (with_reducible exact ih2 _ _ _ _ _ _ _ _ _ _ _)
   | (with_reducible exact ih3 _ _ _ _ _ _ _ _ _ _ _ _)
   | (with_reducible exact ih4 _ _ _ _ _ _ _ _ _ _ _ _)
   | (with_reducible exact ih5 _ _ _ _ _ _ _ _)
   | (with_reducible exact ih6 _ _ _ _ _ _ _ _)
   | (with_reducible exact ih7 _ _ _ _ _ _ _ _ _)
   | (with_reducible exact cooperagelaw16_does.mono _ _ _ _ _ _ _ _ _ _ _ _)
   | (with_reducible exact cooperagelaw16_right.mono _ _)
   | (with_reducible exact cooperagelaw16_shown.mono _)
   | (with_reducible exact lease_Leave.mono _ _ _ _ _ _)
   | (with_reducible exact lease_Valid.mono _ _ _ _ _ _ _)
   | (with_reducible exact lease_Waits.mono _ _ _ _ _)
   | (with_reducible exact LeO.refl _)
   | (with_reducible exact LeO.none _)
   | (with_reducible refine LeO.ite ?_ ?_)
   | (with_reducible refine LeO.bind ?_ (fun _ => ?_))
   | exact ih0 _ _ _ _
   | exact ih1 _ _ _ _ _ _
   | exact ih2 _ _ _ _ _ _ _ _ _ _ _
   | exact ih3 _ _ _ _ _ _ _ _ _ _ _ _
   | exact ih4 _ _ _ _ _ _ _ _ _ _ _ _
   | exact ih5 _ _ _ _ _ _ _ _
   | exact ih6 _ _ _ _ _ _ _ _
   | exact ih7 _ _ _ _ _ _ _ _ _
   | exact cooperagelaw16_does.mono _ _ _ _ _ _ _ _ _ _ _ _
   | exact cooperagelaw16_right.mono _ _
   | exact cooperagelaw16_shown.mono _
   | exact lease_Leave.mono _ _ _ _ _ _
   | exact lease_Valid.mono _ _ _ _ _ _ _
   | exact lease_Waits.mono _ _ _ _ _
   | exact LeO.none _
   | refine LeO.ite ?_ ?_
   | refine LeO.bind ?_ (fun _ => ?_)
  ·intro y0 y1 y2 y3 y4 y5 y6 y7
   unfold cooperagelaw16_LeaseApart.l2
   repeat' first
   | (with_reducible exact ih0 _ _ _ _)
   | (with_reducible exact ih1 _ _ _ _ _ _)
   | (with_reducible exact ih2 _ _ _ _ _ _ _ _ _ _ _)
   | (with_reducible exact ih3 _ _ _ _ _ _ _ _ _ _ _ _)
   | (with_reducible exact ih4 _ _ _ _ _ _ _ _ _ _ _ _)
   | (with_reducible exact ih5 _ _ _ _ _ _ _ _)
   | (with_reducible exact ih6 _ _ _ _ _ _ _ _)
   | (with_reducible exact ih7 _ _ _ _ _ _ _ _ _)
   | (with_reducible exact cooperagelaw16_does.mono _ _ _ _ _ _ _ _ _ _ _ _)
   | (with_reducible exact cooperagelaw16_right.mono _ _)
   | (with_reducible exact cooperagelaw16_shown.mono _)
   | (with_reducible exact lease_Leave.mono _ _ _ _ _ _)
   | (with_reducible exact lease_Valid.mono _ _ _ _ _ _ _)
   | (with_reducible exact lease_Waits.mono _ _ _ _ _)
   | (with_reducible exact LeO.refl _)
   | (with_reducible exact LeO.none _)
   | (with_reducible refine LeO.ite ?_ ?_)
   | (with_reducible refine LeO.bind ?_ (fun _ => ?_))
   | exact ih0 _ _ _ _
   | exact ih1 _ _ _ _ _ _
   | exact ih2 _ _ _ _ _ _ _ _ _ _ _
   | exact ih3 _ _ _ _ _ _ _ _ _ _ _ _
   | exact ih4 _ _ _ _ _ _ _ _ _ _ _ _
   | exact ih5 _ _ _ _ _ _ _ _
   | exact ih6 _ _ _ _ _ _ _ _
   | exact ih7 _ _ _ _ _ _ _ _ _
   | exact cooperagelaw16_does.mono _ _ _ _ _ _ _ _ _ _ _ _
   | exact cooperagelaw16_right.mono _ _
   | exact cooperagelaw16_shown.mono _
   | exact lease_Leave.mono _ _ _ _ _ _
   | exact lease_Valid.mono _ _ _ _ _ _ _
   | exact lease_Waits.mono _ _ _ _ _
   | exact LeO.none _
   | refine LeO.ite ?_ ?_
   | refine LeO.bind ?_ (fun _ => ?_)
  ·intro y0 y1 y2 y3 y4 y5 y6 y7
   unfold cooperagelaw16_LeaseApart.l3
   repeat' first
   | (with_reducible exact ih0 _ _ _ _)
   | (with_reducible exact ih1 _ _ _ _ _ _)
   | (with_reducible exact ih2 _ _ _ _ _ _ _ _ _ _ _)
   | (with_reducible exact ih3 _ _ _ _ _ _ _ _ _ _ _ _)
   | (with_reducible exact ih4 _ _ _ _ _ _ _ _ _ _ _ _)
   | (with_reducible exact ih5 _ _ _ _ _ _ _ _)
   | (with_reducible exact ih6 _ _ _ _ _ _ _ _)
   | (with_reducible exact ih7 _ _ _ _ _ _ _ _ _)
   | (with_reducible exact cooperagelaw16_does.mono _ _ _ _ _ _ _ _ _ _ _ _)
   | (with_reducible exact cooperagelaw16_right.mono _ _)
   | (with_reducible exact cooperagelaw16_shown.mono _)
   | (with_reducible exact lease_Leave.mono _ _ _ _ _ _)
   | (with_reducible exact lease_Valid.mono _ _ _ _ _ _ _)
   | (with_reducible exact lease_Waits.mono _ _ _ _ _)
   | (with_reducible exact LeO.refl _)
   | (with_reducible exact LeO.none _)
   | (with_reducible refine LeO.ite ?_ ?_)
   | (with_reducible refine LeO.bind ?_ (fun _ => ?_))
   | exact ih0 _ _ _ _
   | exact ih1 _ _ _ _ _ _
   | exact ih2 _ _ _ _ _ _ _ _ _ _ _
   | exact ih3 _ _ _ _ _ _ _ _ _ _ _ _
   | exact ih4 _ _ _ _ _ _ _ _ _ _ _ _
   | exact ih5 _ _ _ _ _ _ _ _
   | exact ih6 _ _ _ _ _ _ _ _
   | exact ih7 _ _ _ _ _ _ _ _ _
   | exact cooperagelaw16_does.mono _ _ _ _ _ _ _ _ _ _ _ _
   | exact cooperagelaw16_right.mono _ _
   | exact cooperagelaw16_shown.mono _
   | exact lease_Leave.mono _ _ _ _ _ _
   | exact lease_Valid.mono _ _ _ _ _ _ _
   | exact lease_Waits.mono _ _ _ _ _
   | exact LeO.none _
   | refine LeO.ite ?_ ?_
   | refine LeO.bind ?_ (fun _ => ?_)
  ·intro y0 y1 y2 y3 y4 y5 y6 y7 y8
   unfold cooperagelaw16_LeaseApart.j7
   repeat' first
   | (with_reducible exact ih0 _ _ _ _)
   | (with_reducible exact ih1 _ _ _ _ _ _)
   | (with_reducible exact ih2 _ _ _ _ _ _ _ _ _ _ _)
   | (with_reducible exact ih3 _ _ _ _ _ _ _ _ _ _ _ _)
   | (with_reducible exact ih4 _ _ _ _ _ _ _ _ _ _ _ _)
   | (with_reducible exact ih5 _ _ _ _ _ _ _ _)
   | (with_reducible exact ih6 _ _ _ _ _ _ _ _)
   | (with_reducible exact ih7 _ _ _ _ _ _ _ _ _)
   | (with_reducible exact cooperagelaw16_does.mono _ _ _ _ _ _ _ _ _ _ _ _)
   | (with_reducible exact cooperagelaw16_right.mono _ _)
   | (with_reducible exact cooperagelaw16_shown.mono _)
   | (with_reducible exact lease_Leave.mono _ _ _ _ _ _)
   | (with_reducible exact lease_Valid.mono _ _ _ _ _ _ _)
   | (with_reducible exact lease_Waits.mono _ _ _ _ _)
   | (with_reducible exact LeO.refl _)
   | (with_reducible exact LeO.none _)
   | (with_reducible refine LeO.ite ?_ ?_)
   | (with_reducible refine LeO.bind ?_ (fun _ => ?_))
   | exact ih0 _ _ _ _
   | exact ih1 _ _ _ _ _ _
   | exact ih2 _ _ _ _ _ _ _ _ _ _ _
   | exact ih3 _ _ _ _ _ _ _ _ _ _ _ _
   | exact ih4 _ _ _ _ _ _ _ _ _ _ _ _
   | exact ih5 _ _ _ _ _ _ _ _
   | exact ih6 _ _ _ _ _ _ _ _
   | exact ih7 _ _ _ _ _ _ _ _ _
   | exact cooperagelaw16_does.mono _ _ _ _ _ _ _ _ _ _ _ _
   | exact cooperagelaw16_right.mono _ _
   | exact cooperagelaw16_shown.mono _
   | exact lease_Leave.mono _ _ _ _ _ _
   | exact lease_Valid.mono _ _ _ _ _ _ _
   | exact lease_Waits.mono _ _ _ _ _
   | exact LeO.none _
   | refine LeO.ite ?_ ?_
   | refine LeO.bind ?_ (fun _ => ?_)
theorem cooperagelaw16_LeaseApart.mono : ∀ a0 a1 k, LeO (cooperagelaw16_LeaseApart.f k a0 a1) (cooperagelaw16_LeaseApart.f (k + 1) a0 a1) := by
 intro a0 a1 k
 obtain ⟨ih0, ih1, ih2, ih3, ih4, ih5, ih6, ih7⟩ := cooperagelaw16_LeaseApart.mono_l k
 unfold cooperagelaw16_LeaseApart.f
 repeat' first
   | (with_reducible exact ih0 _ _ _ _)
   | (with_reducible exact ih1 _ _ _ _ _ _)
   | (with_reducible exact ih2 _ _ _ _ _ _ _ _ _ _ _)
   | (with_reducible exact ih3 _ _ _ _ _ _ _ _ _ _ _ _)
   | (with_reducible exact ih4 _ _ _ _ _ _ _ _ _ _ _ _)
   | (with_reducible exact ih5 _ _ _ _ _ _ _ _)
   | (with_reducible exact ih6 _ _ _ _ _ _ _ _)
   | (with_reducible exact ih7 _ _ _ _ _ _ _ _ _)
   | (with_reducible exact cooperagelaw16_does.mono _ _ _ _ _ _ _ _ _ _ _ _)
   | (with_reducible exact cooperagelaw16_right.mono _ _)
   | (with_reducible exact cooperagelaw16_shown.mono _)
   | (with_reducible exact lease_Leave.mono _ _ _ _ _ _)
   | (with_reducible exact lease_Valid.mono _ _ _ _ _ _ _)
   | (with_reducible exact lease_Waits.mono _ _ _ _ _)
   | (with_reducible exact LeO.refl _)
   | (with_reducible exact LeO.none _)
   | (with_reducible refine LeO.ite ?_ ?_)
   | (with_reducible refine LeO.bind ?_ (fun _ => ?_))
   | exact ih0 _ _ _ _
   | exact ih1 _ _ _ _ _ _
   | exact ih2 _ _ _ _ _ _ _ _ _ _ _
   | exact ih3 _ _ _ _ _ _ _ _ _ _ _ _
   | exact ih4 _ _ _ _ _ _ _ _ _ _ _ _
   | exact ih5 _ _ _ _ _ _ _ _
   | exact ih6 _ _ _ _ _ _ _ _
   | exact ih7 _ _ _ _ _ _ _ _ _
   | exact cooperagelaw16_does.mono _ _ _ _ _ _ _ _ _ _ _ _
   | exact cooperagelaw16_right.mono _ _
   | exact cooperagelaw16_shown.mono _
   | exact lease_Leave.mono _ _ _ _ _ _
   | exact lease_Valid.mono _ _ _ _ _ _ _
   | exact lease_Waits.mono _ _ _ _ _
   | exact LeO.none _
   | refine LeO.ite ?_ ?_
   | refine LeO.bind ?_ (fun _ => ?_)
def cooperagelaw16_LeaseApart.T10 : Bool × List (List Nat × List Nat) := (true, [([], []), ([], []), ([], []), ([1, 2], [1, 2]), ([3], [3]), ([], []), ([0, 4, 5], [0, 4, 5]), ([6], [6]), ([7], [7]), ([7], [7]), ([7], [7]), ([8, 6, 0, 1, 2, 3, 4, 5, 6, 7, 8], [8])])
def cooperagelaw16_LeaseApart.B10 : List Nat := [0, 0, 0, 6, 14, 0, 63, 127, 255, 255, 255, 511]
theorem cooperagelaw16_LeaseApart.tab10 : rtab .any (opsOf Tryd.f8 10) = cooperagelaw16_LeaseApart.T10 := by kernel_rfl
theorem cooperagelaw16_LeaseApart.bits10 : waitsOk cooperagelaw16_LeaseApart.T10.2 cooperagelaw16_LeaseApart.B10 = true := by kernel_rfl
def cooperagelaw16_LeaseApart.T16 : Bool × List (List Nat × List Nat) := (true, [([], []), ([0], [0]), ([], []), ([], []), ([2, 3], [2, 3]), ([4], [4]), ([5], [5]), ([1, 6], [1, 6]), ([7], [7]), ([8], [8]), ([8], [8]), ([10, 8], [8, 10]), ([8], [8]), ([12, 8], [8, 12]), ([8], [8]), ([14, 8], [8, 14]), ([9, 11, 13, 15, 8, 8], [8, 9, 11, 13, 15]), ([16, 8], [8, 16]), ([8, 17], [8, 17])])
def cooperagelaw16_LeaseApart.B16 : List Nat := [0, 1, 0, 0, 12, 28, 60, 127, 255, 511, 511, 1535, 511, 4607, 511, 16895, 65535, 131071, 262143]
theorem cooperagelaw16_LeaseApart.tab16 : rtab .any (opsOf Tryd.f8 16) = cooperagelaw16_LeaseApart.T16 := by kernel_rfl
theorem cooperagelaw16_LeaseApart.bits16 : waitsOk cooperagelaw16_LeaseApart.T16.2 cooperagelaw16_LeaseApart.B16 = true := by kernel_rfl
set_option maxHeartbeats 8000000 in
set_option maxRecDepth 100000 in
theorem cooperagelaw16_LeaseApart.calls (k : Nat) (A0 : Option Addr) (c0 : Nat) (l0 : List (S52)) (a1 : Int) (r : Bool) (w : World) (hr0 : Kd.C k52 w A0 l0.length l0) (hc0 : l0.length ≤ c0) (h : cooperagelaw16_LeaseApart.f k l0 a1 = some r) :
  Calls Tryd.prog 8 #[.slice A0 l0.length c0, .int .i64 a1] w fun e w' => e = .returned (.bool r) ∧ Below w.heap.size w w' := by
 have hu27 := Tryd.underlying27
 have hu52 := Tryd.underlying52
 have hu34 := Tryd.underlying34
 have hu32 := Tryd.underlying32
 have HR0 := Aside0.mk hr0
 have HC0 := Aside0.mk hc0
 clear hr0 hc0
 have HB := Aside0.mk (Below.refl w.heap.size w)
 have H : ((cooperagelaw16_shown.f k).bind fun t610 => ((cooperagelaw16_right.f k l0).bind fun t611 => (if t610 = true then (cooperagelaw16_LeaseApart.j0 k l0 a1 t610 (!t611)) else (cooperagelaw16_LeaseApart.j0 k l0 a1 t610 true)))) = some r := h
 clear h
 replace H := Option.bind_eq_some_iff.mp H
 obtain ⟨t610, A30, H⟩ := H
 replace H : ((cooperagelaw16_right.f k l0).bind fun t611 => (if t610 = true then (cooperagelaw16_LeaseApart.j0 k l0 a1 t610 (!t611)) else (cooperagelaw16_LeaseApart.j0 k l0 a1 t610 true))) = some r := H
 have A3 := Aside0.mk A30
 clear A30
 replace H := Option.bind_eq_some_iff.mp H
 obtain ⟨t611, A40, H⟩ := H
 replace H : (if t610 = true then (cooperagelaw16_LeaseApart.j0 k l0 a1 t610 (!t611)) else (cooperagelaw16_LeaseApart.j0 k l0 a1 t610 true)) = some r := H
 have A4 := Aside0.mk A40
 clear A40
 have HC5 := Aside0.mk H
 clear H
 go_enter Tryd.func8, Tryd.ntmps8
 go_upto_region 3 with (first | ((with_reducible refine gate_callee (f := 9) rfl ?_); refine goesL_ (some 19) rfl rfl Tryd.func9 (by kernel_rfl) rfl #[] rfl zA ?_; (with_reducible refine (cooperagelaw16_shown.calls k  t610 _ A3.out).mono ?_); rintro e w6 ⟨rfl, hb⟩; refine ⟨_, rfl, ?_⟩; have n0_ := Aside0.mk (below_step (zL HB.out) hb); revert n0_; clear HB; intro HB; (try clear hb); (try clear hb2); (try clear hk); (try clear hi)) | ((with_reducible refine gate_callee (f := 16) rfl ?_); refine goesL_ (some 21) rfl rfl Tryd.func16 (by kernel_rfl) rfl #[.slice A0 l0.length c0] rfl zA ?_; (with_reducible refine (cooperagelaw16_right.calls k _ _ l0 t611 _ ?side1 ?side2 A4.out).mono ?_); (case side1 => repeat (first | exact (Kd.C_below HR0.out HB.out) | (with_reducible refine Kd.C_alloc ?_ _) | (with_reducible refine Kd.C_drewN ?_ _) | (with_reducible refine Kd.C_drew ?_))); (case side2 => exact HC0.out); rintro e w' ⟨rfl, ⟨nd, rfl⟩⟩; refine ⟨_, rfl, ?_⟩))
 (try simp only [Act.put, List.setIfInBounds_toArray, List.set_cons_zero, List.set_cons_succ])
 go_cut [27] (fun v27 wc => ∃ (kq : Nat) (x27_4 : Bool), v27 = .bool x27_4 ∧ Aside0 (cooperagelaw16_LeaseApart.j0 kq l0 a1 t610 x27_4 = some r) ∧ Aside0 (kq ≤ k) ∧ Aside0 (Below w.heap.size w wc))
 case first =>
  have H := HC5.out
  clear HC5
  by_cases c7 : t610 = true
  ·subst c7
   have H1 : (cooperagelaw16_LeaseApart.j0 k l0 a1 true (!t611)) = some r := by rw [if_pos rfl] at H; exact H
   clear H
   have H := H1
   clear H1
   have H' := Aside0.mk H
   clear H
   go_wp2
   go_meet
   case rel => exact ⟨_, (!t611), zS, H', ⟨by first | omega | exact Nat.le_refl _⟩, ⟨zL HB.out⟩⟩
  ·replace c7 := Bool.eq_false_iff.mpr c7
   subst c7
   have H1 : (cooperagelaw16_LeaseApart.j0 k l0 a1 false true) = some r := by rw [if_neg (show ¬ (false = true) by decide)] at H; exact H
   clear H
   have H := H1
   clear H1
   have H' := Aside0.mk H
   clear H
   go_wp2
   go_meet
   case rel => exact ⟨_, (true), zS, H', ⟨by first | omega | exact Nat.le_refl _⟩, ⟨zL HB.out⟩⟩
 case rest =>
  clear HC5
  try clear c1
  try clear p2
  try clear c7
  obtain ⟨kq, x27_4, rfl, HA, HJ4, HB⟩ := hcut
  cases kq with
  | zero => exact absurd HA.out (by simp [cooperagelaw16_LeaseApart.j0])
  | succ kj4 =>
   have H := HA.out
   clear HA
   simp only [cooperagelaw16_LeaseApart.j0] at H
   by_cases c8 : x27_4 = true
   ·subst c8
    have H1 : (some t610) = some r := by rw [if_pos rfl] at H; exact H
    clear H
    have H := H1
    clear H1
    obtain rfl := Option.some.inj H
    go_wp2
    go_ret
    exact ⟨zE, zL HB.out⟩
   ·replace c8 := Bool.eq_false_iff.mpr c8
    subst c8
    have H1 : (cooperagelaw16_LeaseApart.l0 kj4 l0 a1 0 0 ([] : List (S34)) ([] : List (S32))) = some r := by rw [if_neg (show ¬ (false = true) by decide)] at H; exact H
    clear H
    have H := H1
    clear H1
    have H' := Aside0.mk H
    clear H
    go_wp2_with (first | ((with_reducible refine gate_dst (N := 7) rfl ?_); refine box_event ?hg (N := 7) ?hd (cs := #[.int .i64 0, .slice none 0 0, .slice none 0 0]) (t := 27) ?hr ?_; (case hd => rfl); (case hg => rfl); (case hr => first | (go_simp; done) | (go_simp; rfl)); intro gb612 hg w9 hbox hb; have n0_ := Aside0.mk (below_step (zL HB.out) hb); have n1_ := Aside0.mk (hbox); have n2_ := Aside0.mk (zG hg (zL HB.out)); have n3_ := Aside0.mk (zG hg (zL HB.out)); revert n0_ n1_ n2_ n3_; clear HB; intro HB BK612 GW612 GE612; clear hb hbox hg; obtain ⟨hcz10_0, hcz10_1, hcz10_2, hfz10_0, hfz10_1, hfz10_2⟩ := zC3 BK612.out))
    go_loopg [8] kj4 (fun kq v8 w' => ∃ (x8_2 : Int) (x613000_2 : Int) (x613001_2 : List (S34)) (x613002_2 : List (S32)) (u613001 : Value) (u613002 : Value), v8 = .int .i64 x8_2 ∧ Aside0 (cooperagelaw16_LeaseApart.l0 kq l0 a1 x8_2 x613000_2 x613001_2 x613002_2 = some r) ∧ Aside0 (kq ≤ kj4) ∧ Aside0 (Kd.V k34 34 w' w.heap.size (fun k_ => k_ ≠ gb612) u613001 x613001_2) ∧ Aside0 (Kd.V k32 32 w' w.heap.size (fun k_ => k_ ≠ gb612) u613002 x613002_2) ∧ Aside0 (w'.heap[gb612]? = some (.cells #[.int .i64 x613000_2, u613001, u613002] 27 (0, 0))) ∧ Aside0 (Below w.heap.size w w'))
    case atStart => exact ⟨(0), (0), (([] : List (S34))), (([] : List (S32))), (.slice none 0 0), (.slice none 0 0), zS, H', ⟨Nat.le_refl _⟩, ⟨Kd.V_nil _ _ _ _ _⟩, ⟨Kd.V_nil _ _ _ _ _⟩, ⟨zP3 BK612.out⟩, ⟨zL HB.out⟩⟩
    case round =>
     clear H'
     try clear c1
     try clear p2
     try clear c7
     try clear c8
     try clear c9
     try clear hcz10_0
     try clear hcz10_1
     try clear hcz10_2
     try clear hfz10_0
     try clear hfz10_1
     try clear hfz10_2
     try clear p2
     obtain ⟨x8_2, x613000_2, x613001_2, x613002_2, u613001, u613002, rfl, HA, HK2, HO_613001, HO_613002, BK612, HB⟩ := hrel
     cases gk with
     | zero => exact absurd HA.out (by simp [cooperagelaw16_LeaseApart.l0])
     | succ k2 =>
      have H := HA.out
      clear HA
      simp only [cooperagelaw16_LeaseApart.l0] at H
      by_cases c11 : x8_2 < (l0.length : Int)
      ·rw [if_pos c11] at H
       have c11b0 : decide (x8_2 < (l0.length : Int)) = true := decide_eq_true c11
       clear c11
       by_cases c12 : 0 ≤ x8_2
       ·rw [if_pos c12] at H
        have c12b0 : decide (0 ≤ x8_2) = true := decide_eq_true c12
        clear c12
        replace H := Option.bind_eq_some_iff.mp H
        obtain ⟨⟨t615, t616, t619, t622, t623⟩, A130, H⟩ := H
        replace H : ((cooperagelaw16_pick.f ((rd_T52 l0 x8_2).f0) 10).bind fun t625 => (cooperagelaw16_LeaseApart.l1 k2 l0 a1 x8_2 t625 0 t615 t616 t619 x613000_2 x613001_2 x613002_2)) = some r := H
        have A13 := Aside0.mk A130
        clear A130
        replace H := Option.bind_eq_some_iff.mp H
        obtain ⟨t625, A140, H⟩ := H
        replace H : (cooperagelaw16_LeaseApart.l1 k2 l0 a1 x8_2 t625 0 t615 t616 t619 x613000_2 x613001_2 x613002_2) = some r := H
        have A14 := Aside0.mk A140
        clear A140
        have H' := Aside0.mk H
        clear H
        obtain ⟨hcz15_0, hcz15_1, hcz15_2, hfz15_0, hfz15_1, hfz15_2⟩ := zC3 BK612.out
        try go_wp2_with (first | ((with_reducible refine gate_dst (N := 9) rfl ?_); refine box_event ?hg (N := 9) ?hd (cs := #[.int .i64 0, .slice none 0 0, .slice none 0 0]) (t := 27) ?hr ?_; (case hd => rfl); (case hg => rfl); (case hr => first | (go_simp; done) | (go_simp; rfl)); intro gb613 hg w16 hbox hb; have n0_ := Aside0.mk (Kd.V_below (Kd.V_elderB (zV HO_613001.out) gb613 (Nat.le_of_eq hg.symm)) hb); have n1_ := Aside0.mk (Kd.V_below (Kd.V_elderB (zV HO_613002.out) gb613 (Nat.le_of_eq hg.symm)) hb); have n2_ := Aside0.mk (blk_below (g := gb612) (o := .cells #[.int .i64 x613000_2, u613001, u613002] 27 (0, 0)) (zK BK612.out) hb); have n3_ := Aside0.mk (below_step (zL HB.out) hb); have n4_ := Aside0.mk (hbox); have n5_ := Aside0.mk (zG hg (zL HB.out)); have n6_ := Aside0.mk (zG hg (zL HB.out)); have n7_ := Aside0.mk (zN (g := gb612) (o := .cells #[.int .i64 x613000_2, u613001, u613002] 27 (0, 0)) hg (zK BK612.out)); have n8_ := Aside0.mk (zO (g := gb612) (o := .cells #[.int .i64 x613000_2, u613001, u613002] 27 (0, 0)) hg (zK BK612.out)); revert n0_ n1_ n2_ n3_ n4_ n5_ n6_ n7_ n8_; clear HO_613001 HO_613002 BK612 HB; intro HO_613001 HO_613002 BK612 HB BK613 GW613 GE613 NB612_613 NB613_612; clear hb hbox hg; have hnb17 := NB613_612.out; have hnc17 := NB612_613.out; obtain ⟨hcz18_0, hcz18_1, hcz18_2, hfz18_0, hfz18_1, hfz18_2⟩ := zC3 BK613.out; obtain ⟨Ao19, co19, eo19⟩ := Kd.V_slice HO_613001.out; subst eo19; obtain ⟨Ao20, co20, eo20⟩ := Kd.V_slice HO_613002.out; subst eo20))
        have n0_ : Aside0 (Kd.V k34 34 (((w16.setCell ⟨gb613, 0, none⟩ (.int .i64 x613000_2)).setCell ⟨gb613, 1, none⟩ (.slice Ao19 x613001_2.length co19)).setCell ⟨gb613, 2, none⟩ (.slice Ao20 x613002_2.length co20)) w.heap.size (fun k_ => k_ ≠ gb612 ∧ k_ ≠ gb613) (.slice Ao19 x613001_2.length co19) x613001_2) := ⟨by (with_reducible repeat (first | apply Kd.V_alloc | apply Kd.V_drewN | apply Kd.V_drew)); exact Kd.V_mono (zNV HO_613001.out (g := gb613) (fun _ hk => hk.2)) (fun _ hk => ⟨hk.1.1, hk.1.2⟩)⟩
        have n1_ : Aside0 (Kd.V k32 32 (((w16.setCell ⟨gb613, 0, none⟩ (.int .i64 x613000_2)).setCell ⟨gb613, 1, none⟩ (.slice Ao19 x613001_2.length co19)).setCell ⟨gb613, 2, none⟩ (.slice Ao20 x613002_2.length co20)) w.heap.size (fun k_ => k_ ≠ gb612 ∧ k_ ≠ gb613) (.slice Ao20 x613002_2.length co20) x613002_2) := ⟨by (with_reducible repeat (first | apply Kd.V_alloc | apply Kd.V_drewN | apply Kd.V_drew)); exact Kd.V_mono (zNV HO_613002.out (g := gb613) (fun _ hk => hk.2)) (fun _ hk => ⟨hk.1.1, hk.1.2⟩)⟩
        have n2_ : Aside0 ((((w16.setCell ⟨gb613, 0, none⟩ (.int .i64 x613000_2)).setCell ⟨gb613, 1, none⟩ (.slice Ao19 x613001_2.length co19)).setCell ⟨gb613, 2, none⟩ (.slice Ao20 x613002_2.length co20)).heap[gb612]? = some (.cells #[.int .i64 x613000_2, .slice Ao19 x613001_2.length co19, .slice Ao20 x613002_2.length co20] 27 (0, 0))) := ⟨zK BK612.out⟩
        have n3_ : Aside0 ((((w16.setCell ⟨gb613, 0, none⟩ (.int .i64 x613000_2)).setCell ⟨gb613, 1, none⟩ (.slice Ao19 x613001_2.length co19)).setCell ⟨gb613, 2, none⟩ (.slice Ao20 x613002_2.length co20)).heap[gb613]? = some (.cells #[.int .i64 x613000_2, .slice Ao19 x613001_2.length co19, .slice Ao20 x613002_2.length co20] 27 (0, 0))) := ⟨zP3 BK613.out⟩
        have n4_ : Aside0 (Below w.heap.size w (((w16.setCell ⟨gb613, 0, none⟩ (.int .i64 x613000_2)).setCell ⟨gb613, 1, none⟩ (.slice Ao19 x613001_2.length co19)).setCell ⟨gb613, 2, none⟩ (.slice Ao20 x613002_2.length co20))) := ⟨zL HB.out⟩
        (try clear HO_613001)
        (try clear HO_613002)
        (try clear BK612)
        (try clear BK613)
        (try clear HB)
        generalize (((w16.setCell ⟨gb613, 0, none⟩ (.int .i64 x613000_2)).setCell ⟨gb613, 1, none⟩ (.slice Ao19 x613001_2.length co19)).setCell ⟨gb613, 2, none⟩ (.slice Ao20 x613002_2.length co20)) = w21 at n0_ n1_ n2_ n3_ n4_ ⊢
        have HO_613001 := n0_
        have HO_613002 := n1_
        have BK612 := n2_
        have BK613 := n3_
        have HB := n4_
        clear n0_ n1_ n2_ n3_ n4_
        have n0_ := Aside0.mk (Kd.V_drew HO_613001.out)
        have n1_ := Aside0.mk (Kd.V_drew HO_613002.out)
        have n2_ := Aside0.mk (blk_drew BK612.out)
        have n3_ := Aside0.mk (blk_drew BK613.out)
        have n4_ := Aside0.mk (below_drew1 HB.out)
        clear HO_613001
        clear HO_613002
        clear BK612
        clear BK613
        clear HB
        have HO_613001 := n0_
        have HO_613002 := n1_
        have BK612 := n2_
        have BK613 := n3_
        have HB := n4_
        clear n0_ n1_ n2_ n3_ n4_
        have p614 : 0 ≤ (x8_2 : Int) := zD
        have q614 : x8_2 < (l0.length : Int) := zD
        obtain ⟨ad614, e614, hx614_0, hx614_1, hx614_2, hx614_3, hx614_4, hx614_5, hx614_6⟩ := at_T52 HR0.out x8_2 p614 q614
        have hw614_6 := hx614_6
        have hw614_5 := hx614_5
        have hw614_4 := hx614_4
        have hw614_3 := hx614_3
        have hw614_2 := hx614_2
        have hw614_1 := hx614_1
        have hw614_0 := hx614_0
        have m0_ := HO_613001
        have m1_ := HO_613002
        have m2_ := BK612
        have m3_ := HB
        cases e614
        have HO_613001 := m0_
        have HO_613002 := m1_
        have BK612 := m2_
        have HB := m3_
        clear m0_ m1_ m2_ m3_
        replace hx614_0 := zX HB.out hx614_0
        replace hx614_1 := zX HB.out hx614_1
        replace hx614_2 := zX HB.out hx614_2
        replace hx614_3 := zX HB.out hx614_3
        replace hx614_4 := zX HB.out hx614_4
        replace hx614_5 := zX HB.out hx614_5
        replace hx614_6 := zX HB.out hx614_6
        replace p614 := eq_true p614
        replace q614 := eq_true q614
        refine start_ (n := 12) (S := fun w' => w'.cell? ⟨gb612, 0, none⟩ = some (.int .i64 x613000_2) ∧ w'.cell? ⟨gb612, 1, none⟩ = some (.slice Ao19 x613001_2.length co19) ∧ w'.cell? ⟨gb612, 2, none⟩ = some (.slice Ao20 x613002_2.length co20) ∧ w'.cell? (ad614.add ((x8_2).toNat * 7)) = some (.int .i64 ((rd_T52 l0 x8_2).f0)) ∧ w'.cell? ⟨(ad614.add ((x8_2).toNat * 7)).block, (ad614.add ((x8_2).toNat * 7)).off + 1, none⟩ = some (.int .i64 ((rd_T52 l0 x8_2).f1)) ∧ w'.cell? ⟨(ad614.add ((x8_2).toNat * 7)).block, (ad614.add ((x8_2).toNat * 7)).off + 2, none⟩ = some (.int .i64 ((rd_T52 l0 x8_2).f2)) ∧ w'.cell? ⟨(ad614.add ((x8_2).toNat * 7)).block, (ad614.add ((x8_2).toNat * 7)).off + 3, none⟩ = some (.int .i64 ((rd_T52 l0 x8_2).f3)) ∧ w'.cell? ⟨(ad614.add ((x8_2).toNat * 7)).block, (ad614.add ((x8_2).toNat * 7)).off + 4, none⟩ = some (.int .i64 ((rd_T52 l0 x8_2).f4)) ∧ w'.cell? ⟨(ad614.add ((x8_2).toNat * 7)).block, (ad614.add ((x8_2).toNat * 7)).off + 5, none⟩ = some (.string ((rd_T52 l0 x8_2).f5)) ∧ w'.cell? ⟨(ad614.add ((x8_2).toNat * 7)).block, (ad614.add ((x8_2).toNat * 7)).off + 6, none⟩ = some (.bool ((rd_T52 l0 x8_2).f6))) (ds := [11]) #[false, false, false, false, false, false, false, false, false, false, false, false] (by kernel_rfl) rfl rfl ⟨(blk_cell BK612.out 0).trans rfl, (blk_cell BK612.out 1).trans rfl, (blk_cell BK612.out 2).trans rfl, (zX HB.out hw614_0), (zX HB.out hw614_1), (zX HB.out hw614_2), (zX HB.out hw614_3), (zX HB.out hw614_4), (zX HB.out hw614_5), (zX HB.out hw614_6)⟩ (fun hHeld => ?_); refine with_tabW cooperagelaw16_LeaseApart.tab10 cooperagelaw16_LeaseApart.bits10 (fun HT_ HW_ => ?_)
        generalize w21.drew = w22 at HO_613001 HO_613002 BK612 BK613 HB hx614_0 hx614_1 hx614_2 hx614_3 hx614_4 hx614_5 hx614_6 hHeld ⊢
        refine pure_ (i := 1) (N := some 39) (v := ?_) (a' := ?_) #[false, true, false, false, false, false, false, false, false, false, false, false] rfl rfl (any_of HT_.out (by kernel_rfl)) (fun _ _ _ h => h) (Or.inl ⟨by rfl, ?_⟩) ?_ ?_
        rotate_left
        ·intro w'
         go_simp
         with_reducible rfl
        rotate_left
        ·simp only [Act.put, List.setIfInBounds_toArray, List.set_cons_zero, List.set_cons_succ, i64_w, i32_w]
         rfl
        refine pure_ (i := 2) (N := some 40) (v := ?_) (a' := ?_) #[false, true, true, false, false, false, false, false, false, false, false, false] rfl rfl (any_of HT_.out (by kernel_rfl)) (fun _ _ _ h => h) (Or.inl ⟨by rfl, ?_⟩) ?_ ?_
        rotate_left
        ·intro w'
         go_simp
         with_reducible rfl
        rotate_left
        ·simp only [Act.put, List.setIfInBounds_toArray, List.set_cons_zero, List.set_cons_succ, i64_w, i32_w]
         rfl
        refine pure_ (i := 3) (N := some 41) (v := ?_) (a' := ?_) #[false, true, true, true, false, false, false, false, false, false, false, false] rfl rfl (any_of HT_.out (by kernel_rfl)) (fun _ _ _ h => h) (Or.inl ⟨by rfl, ?_⟩) ?_ ?_
        rotate_left
        ·intro w'
         go_simp
         with_reducible rfl
        rotate_left
        ·simp only [Act.put, List.setIfInBounds_toArray, List.set_cons_zero, List.set_cons_succ, i64_w, i32_w]
         rfl
        refine pure_ (i := 5) (N := some 43) (v := ?_) (a' := ?_) #[false, true, true, true, false, true, false, false, false, false, false, false] rfl rfl (any_of HT_.out (by kernel_rfl)) (fun _ _ _ h => h) (Or.inl ⟨by rfl, ?_⟩) ?_ ?_
        rotate_left
        ·intro w'
         go_simp
         with_reducible rfl
        rotate_left
        ·simp only [Act.put, List.setIfInBounds_toArray, List.set_cons_zero, List.set_cons_succ, i64_w, i32_w]
         rfl
        refine take_ (i := 0) (N := some 38) (v := ?_) (a' := ?_) #[true, true, true, true, false, true, false, false, false, false, false, false] rfl rfl (take_ofW HT_.out HW_.out (by kernel_rfl)) (fun _ _ _ h => h) (Or.inl ⟨by rfl, ?_⟩) hHeld ?_ ?_
        rotate_left
        ·rintro w' ⟨s0, s1, s2, s3, s4, s5, s6, s7, s8, s9⟩
         go_simp
         with_reducible rfl
        rotate_left
        ·simp only [Act.put, List.setIfInBounds_toArray, List.set_cons_zero, List.set_cons_succ, i64_w, i32_w]
         rfl
        refine take_ (i := 4) (N := some 42) (v := ?_) (a' := ?_) #[true, true, true, true, true, true, false, false, false, false, false, false] rfl rfl (take_ofW HT_.out HW_.out (by kernel_rfl)) (fun _ _ _ h => h) (Or.inl ⟨by rfl, ?_⟩) hHeld ?_ ?_
        rotate_left
        ·rintro w' ⟨s0, s1, s2, s3, s4, s5, s6, s7, s8, s9⟩
         go_simp
         with_reducible rfl
        rotate_left
        ·simp only [Act.put, List.setIfInBounds_toArray, List.set_cons_zero, List.set_cons_succ, i64_w, i32_w]
         rfl
        refine one_ (i := 6) (N := some 44) #[true, true, true, true, true, true, true, false, false, false, false, false] rfl rfl (one_of HT_.out (by kernel_rfl)) (by decide) (fun K hK => ?_)
        refine goes_ Tryd.func17 (by kernel_rfl) rfl #[.agg #[.int .i64 x613000_2, .slice Ao19 x613001_2.length co19, .slice Ao20 x613002_2.length co20], .agg #[.int .i64 ((rd_T52 l0 x8_2).f0), .int .i64 ((rd_T52 l0 x8_2).f1), .int .i64 ((rd_T52 l0 x8_2).f2), .int .i64 ((rd_T52 l0 x8_2).f3), .int .i64 ((rd_T52 l0 x8_2).f4), .string ((rd_T52 l0 x8_2).f5), .bool ((rd_T52 l0 x8_2).f6)], .int .i64 x8_2] (by rfl) rfl rfl zA ?_
        with_reducible refine (cooperagelaw16_does.calls k2 x613000_2 (fun k_ => (k_ ≠ gb612 ∧ k_ ≠ gb613)) _ _ x613001_2 (fun k_ => (k_ ≠ gb612 ∧ k_ ≠ gb613)) _ _ x613002_2 ((rd_T52 l0 x8_2).f0) ((rd_T52 l0 x8_2).f1) ((rd_T52 l0 x8_2).f2) ((rd_T52 l0 x8_2).f3) ((rd_T52 l0 x8_2).f4) ((rd_T52 l0 x8_2).f5) ((rd_T52 l0 x8_2).f6) x8_2 t615 t616 t619 t622 t623 _ ?side1 ?side2 A13.out).mono ?_
        (case side1 => exact HO_613001.out)
        (case side2 => exact HO_613002.out)
        rintro e w23 ⟨v617, v620, rfl, ho0, ho1, hb⟩
        refine ⟨_, rfl, ?_⟩
        have n0_ := Aside0.mk (Kd.V_below (zV HO_613001.out) hb)
        have n1_ := Aside0.mk (Kd.V_below (zV HO_613002.out) hb)
        have n2_ := Aside0.mk (Kd.V_lower (Kd.V_mono (ok' := fun k_ => k_ ≠ gb612 ∧ k_ ≠ gb613) ho0 (fun k_ hk_ => ⟨Or.elim hk_ (fun hs_ => Or.elim hs_ (fun hs_ => hs_.1) (fun hs_ => hs_.1)) (fun hn_ => (Kd.freshB (g := gb612) (o := .cells #[.int .i64 x613000_2, .slice Ao19 x613001_2.length co19, .slice Ao20 x613002_2.length co20] 27 (0, 0)) (zK BK612.out) k_ hn_)), Or.elim hk_ (fun hs_ => Or.elim hs_ (fun hs_ => hs_.2) (fun hs_ => hs_.2)) (fun hn_ => (Kd.freshB (g := gb613) (o := .cells #[.int .i64 x613000_2, .slice Ao19 x613001_2.length co19, .slice Ao20 x613002_2.length co20] 27 (0, 0)) (zK BK613.out) k_ hn_))⟩)) (below_size (zL HB.out)))
        have n3_ := Aside0.mk (Kd.V_lower (Kd.V_mono (ok' := fun k_ => k_ ≠ gb612 ∧ k_ ≠ gb613) ho1 (fun k_ hk_ => ⟨Or.elim hk_ (fun hs_ => Or.elim hs_ (fun hs_ => hs_.1) (fun hs_ => hs_.1)) (fun hn_ => (Kd.freshB (g := gb612) (o := .cells #[.int .i64 x613000_2, .slice Ao19 x613001_2.length co19, .slice Ao20 x613002_2.length co20] 27 (0, 0)) (zK BK612.out) k_ hn_)), Or.elim hk_ (fun hs_ => Or.elim hs_ (fun hs_ => hs_.2) (fun hs_ => hs_.2)) (fun hn_ => (Kd.freshB (g := gb613) (o := .cells #[.int .i64 x613000_2, .slice Ao19 x613001_2.length co19, .slice Ao20 x613002_2.length co20] 27 (0, 0)) (zK BK613.out) k_ hn_))⟩)) (below_size (zL HB.out)))
        have n4_ := Aside0.mk (blk_below (g := gb612) (o := .cells #[.int .i64 x613000_2, .slice Ao19 x613001_2.length co19, .slice Ao20 x613002_2.length co20] 27 (0, 0)) (zK BK612.out) hb)
        have n5_ := Aside0.mk (blk_below (g := gb613) (o := .cells #[.int .i64 x613000_2, .slice Ao19 x613001_2.length co19, .slice Ao20 x613002_2.length co20] 27 (0, 0)) (zK BK613.out) hb)
        have n6_ := Aside0.mk (below_step (zL HB.out) hb)
        clear HO_613001
        clear HO_613002
        clear BK612
        clear BK613
        clear HB
        have HO_613001 := n0_
        have HO_613002 := n1_
        have HO618 := n2_
        have HO621 := n3_
        have BK612 := n4_
        have BK613 := n5_
        have HB := n6_
        clear n0_ n1_ n2_ n3_ n4_ n5_ n6_
        (try clear hb)
        (try clear hb2)
        (try clear hk)
        (try clear hi)
        (try clear ho0)
        (try clear ho1)
        obtain ⟨Ao25, co25, eo25⟩ := Kd.V_slice HO618.out
        (first | subst eo25 | (injection eo25 with f1_ f2_ f3_; have f4_ := f1_.symm; have f5_ := f3_.symm; clear f1_ f2_ f3_; subst f4_; subst f5_))
        obtain ⟨Ao27, co27, eo27⟩ := Kd.V_slice HO621.out
        (first | subst eo27 | (injection eo27 with f1_ f2_ f3_; have f4_ := f1_.symm; have f5_ := f3_.symm; clear f1_ f2_ f3_; subst f4_; subst f5_))
        refine hK.out _ _ ⟨(blk_cell BK612.out 0).trans rfl, (blk_cell BK612.out 1).trans rfl, (blk_cell BK612.out 2).trans rfl, (zX HB.out hw614_0), (zX HB.out hw614_1), (zX HB.out hw614_2), (zX HB.out hw614_3), (zX HB.out hw614_4), (zX HB.out hw614_5), (zX HB.out hw614_6)⟩ (fun hHeld => ?_)
        clear hK K
        refine norm_ (a' := ?_) ?_ ?_
        rotate_left
        ·show Act.put _ (some 44) _ = _
         simp only [Act.put, List.setIfInBounds_toArray, List.set_cons_zero, List.set_cons_succ, i64_w, i32_w]
         rfl
        refine pure_ (i := 7) (N := some 37) (v := ?_) (a' := ?_) #[true, true, true, true, true, true, true, true, false, false, false, false] rfl rfl (any_of HT_.out (by kernel_rfl)) (fun _ _ _ h => h) (Or.inl ⟨by rfl, ?_⟩) ?_ ?_
        rotate_left
        ·intro w'
         go_simp
         with_reducible rfl
        rotate_left
        ·simp only [Act.put, List.setIfInBounds_toArray, List.set_cons_zero, List.set_cons_succ, i64_w, i32_w]
         rfl
        refine pure_ (i := 8) (N := some 45) (v := ?_) (a' := ?_) #[true, true, true, true, true, true, true, true, true, false, false, false] rfl rfl (any_of HT_.out (by kernel_rfl)) (fun _ _ _ h => h) (Or.inl ⟨by rfl, ?_⟩) ?_ ?_
        rotate_left
        ·intro w'
         go_simp
         with_reducible rfl
        rotate_left
        ·simp only [Act.put, List.setIfInBounds_toArray, List.set_cons_zero, List.set_cons_succ, i64_w, i32_w]
         rfl
        refine pure_ (i := 9) (N := some 46) (v := ?_) (a' := ?_) #[true, true, true, true, true, true, true, true, true, true, false, false] rfl rfl (any_of HT_.out (by kernel_rfl)) (fun _ _ _ h => h) (Or.inl ⟨by rfl, ?_⟩) ?_ ?_
        rotate_left
        ·intro w'
         go_simp
         with_reducible rfl
        rotate_left
        ·simp only [Act.put, List.setIfInBounds_toArray, List.set_cons_zero, List.set_cons_succ, i64_w, i32_w]
         rfl
        refine pure_ (i := 10) (N := some 47) (v := ?_) (a' := ?_) #[true, true, true, true, true, true, true, true, true, true, true, false] rfl rfl (any_of HT_.out (by kernel_rfl)) (fun _ _ _ h => h) (Or.inl ⟨by rfl, ?_⟩) ?_ ?_
        rotate_left
        ·intro w'
         go_simp
         with_reducible rfl
        rotate_left
        ·simp only [Act.put, List.setIfInBounds_toArray, List.set_cons_zero, List.set_cons_succ, i64_w, i32_w]
         rfl
        refine last_ (i := 11) (N := none) #[true, true, true, true, true, true, true, true, true, true, true, true] rfl rfl (one_of HT_.out (by kernel_rfl)) (by decide) (fun K hK => ?_)
        have hs24 : w23.cell? ⟨gb612, 0, none⟩ = some (.int .i64 x613000_2) := (blk_cell BK612.out 0).trans rfl
        have hfs24 := blk_frozen BK612.out 0
        have hns24_1 := NB613_612.out
        have hms24_1 := NB612_613.out
        have hs26 : w23.cell? ⟨gb612, 1, none⟩ = some (.slice Ao19 x613001_2.length co19) := (blk_cell BK612.out 1).trans rfl
        have hfs26 := blk_frozen BK612.out 1
        have hns26_1 := NB613_612.out
        have hms26_1 := NB612_613.out
        have hs28 : w23.cell? ⟨gb612, 2, none⟩ = some (.slice Ao20 x613002_2.length co20) := (blk_cell BK612.out 2).trans rfl
        have hfs28 := blk_frozen BK612.out 2
        have hns28_1 := NB613_612.out
        have hms28_1 := NB612_613.out
        refine skip_ (w1 := ?_) (by rfl) rfl ?_ ?_
        rotate_left
        ·go_simp
         rfl
        refine hK.out _ _ ?_
        clear hK K
        refine done_ (done_of HT_.out (by kernel_rfl)) ?_
        have p624 : 0 ≤ (x8_2 : Int) := zD
        have q624 : x8_2 < (l0.length : Int) := zD
        obtain ⟨ad624, e624, hx624_0, hx624_1, hx624_2, hx624_3, hx624_4, hx624_5, hx624_6⟩ := at_T52 HR0.out x8_2 p624 q624
        obtain rfl : ad614 = ad624 := (by injection e624)
        have hn624_0 : ad614.block ≠ gb612 := Nat.ne_of_lt (Nat.lt_of_lt_of_le (by have := World.block_lt_of_cell? _ _ hx624_0; first | rwa [add_block] at this | exact this) GW612.out)
        have hn624_1 : ad614.block ≠ gb612 := Nat.ne_of_lt (Nat.lt_of_lt_of_le (by have := World.block_lt_of_cell? _ _ hx624_0; first | rwa [add_block] at this | exact this) GW612.out)
        have hn624_2 : ad614.block ≠ gb612 := Nat.ne_of_lt (Nat.lt_of_lt_of_le (by have := World.block_lt_of_cell? _ _ hx624_0; first | rwa [add_block] at this | exact this) GW612.out)
        replace hx624_0 := zX HB.out hx624_0
        replace hx624_1 := zX HB.out hx624_1
        replace hx624_2 := zX HB.out hx624_2
        replace hx624_3 := zX HB.out hx624_3
        replace hx624_4 := zX HB.out hx624_4
        replace hx624_5 := zX HB.out hx624_5
        replace hx624_6 := zX HB.out hx624_6
        replace hx624_0 := (cell_far (p := ⟨gb612, 0, none⟩) (by first | (rw [add_block]; exact hn624_0) | (show (Addr.add _ _).block ≠ _; rw [add_block]; exact hn624_0) | exact hn624_0) (.int .i64 t615)).trans hx624_0
        replace hx624_1 := (cell_far (p := ⟨gb612, 0, none⟩) (by first | (rw [add_block]; exact hn624_0) | (show (Addr.add _ _).block ≠ _; rw [add_block]; exact hn624_0) | exact hn624_0) (.int .i64 t615)).trans hx624_1
        replace hx624_2 := (cell_far (p := ⟨gb612, 0, none⟩) (by first | (rw [add_block]; exact hn624_0) | (show (Addr.add _ _).block ≠ _; rw [add_block]; exact hn624_0) | exact hn624_0) (.int .i64 t615)).trans hx624_2
        replace hx624_3 := (cell_far (p := ⟨gb612, 0, none⟩) (by first | (rw [add_block]; exact hn624_0) | (show (Addr.add _ _).block ≠ _; rw [add_block]; exact hn624_0) | exact hn624_0) (.int .i64 t615)).trans hx624_3
        replace hx624_4 := (cell_far (p := ⟨gb612, 0, none⟩) (by first | (rw [add_block]; exact hn624_0) | (show (Addr.add _ _).block ≠ _; rw [add_block]; exact hn624_0) | exact hn624_0) (.int .i64 t615)).trans hx624_4
        replace hx624_5 := (cell_far (p := ⟨gb612, 0, none⟩) (by first | (rw [add_block]; exact hn624_0) | (show (Addr.add _ _).block ≠ _; rw [add_block]; exact hn624_0) | exact hn624_0) (.int .i64 t615)).trans hx624_5
        replace hx624_6 := (cell_far (p := ⟨gb612, 0, none⟩) (by first | (rw [add_block]; exact hn624_0) | (show (Addr.add _ _).block ≠ _; rw [add_block]; exact hn624_0) | exact hn624_0) (.int .i64 t615)).trans hx624_6
        replace hx624_0 := (cell_far (p := ⟨gb612, 1, none⟩) (by first | (rw [add_block]; exact hn624_1) | (show (Addr.add _ _).block ≠ _; rw [add_block]; exact hn624_1) | exact hn624_1) (.slice Ao25 t616.length co25)).trans hx624_0
        replace hx624_1 := (cell_far (p := ⟨gb612, 1, none⟩) (by first | (rw [add_block]; exact hn624_1) | (show (Addr.add _ _).block ≠ _; rw [add_block]; exact hn624_1) | exact hn624_1) (.slice Ao25 t616.length co25)).trans hx624_1
        replace hx624_2 := (cell_far (p := ⟨gb612, 1, none⟩) (by first | (rw [add_block]; exact hn624_1) | (show (Addr.add _ _).block ≠ _; rw [add_block]; exact hn624_1) | exact hn624_1) (.slice Ao25 t616.length co25)).trans hx624_2
        replace hx624_3 := (cell_far (p := ⟨gb612, 1, none⟩) (by first | (rw [add_block]; exact hn624_1) | (show (Addr.add _ _).block ≠ _; rw [add_block]; exact hn624_1) | exact hn624_1) (.slice Ao25 t616.length co25)).trans hx624_3
        replace hx624_4 := (cell_far (p := ⟨gb612, 1, none⟩) (by first | (rw [add_block]; exact hn624_1) | (show (Addr.add _ _).block ≠ _; rw [add_block]; exact hn624_1) | exact hn624_1) (.slice Ao25 t616.length co25)).trans hx624_4
        replace hx624_5 := (cell_far (p := ⟨gb612, 1, none⟩) (by first | (rw [add_block]; exact hn624_1) | (show (Addr.add _ _).block ≠ _; rw [add_block]; exact hn624_1) | exact hn624_1) (.slice Ao25 t616.length co25)).trans hx624_5
        replace hx624_6 := (cell_far (p := ⟨gb612, 1, none⟩) (by first | (rw [add_block]; exact hn624_1) | (show (Addr.add _ _).block ≠ _; rw [add_block]; exact hn624_1) | exact hn624_1) (.slice Ao25 t616.length co25)).trans hx624_6
        replace hx624_0 := (cell_far (p := ⟨gb612, 2, none⟩) (by first | (rw [add_block]; exact hn624_2) | (show (Addr.add _ _).block ≠ _; rw [add_block]; exact hn624_2) | exact hn624_2) (.slice Ao27 t619.length co27)).trans hx624_0
        replace hx624_1 := (cell_far (p := ⟨gb612, 2, none⟩) (by first | (rw [add_block]; exact hn624_2) | (show (Addr.add _ _).block ≠ _; rw [add_block]; exact hn624_2) | exact hn624_2) (.slice Ao27 t619.length co27)).trans hx624_1
        replace hx624_2 := (cell_far (p := ⟨gb612, 2, none⟩) (by first | (rw [add_block]; exact hn624_2) | (show (Addr.add _ _).block ≠ _; rw [add_block]; exact hn624_2) | exact hn624_2) (.slice Ao27 t619.length co27)).trans hx624_2
        replace hx624_3 := (cell_far (p := ⟨gb612, 2, none⟩) (by first | (rw [add_block]; exact hn624_2) | (show (Addr.add _ _).block ≠ _; rw [add_block]; exact hn624_2) | exact hn624_2) (.slice Ao27 t619.length co27)).trans hx624_3
        replace hx624_4 := (cell_far (p := ⟨gb612, 2, none⟩) (by first | (rw [add_block]; exact hn624_2) | (show (Addr.add _ _).block ≠ _; rw [add_block]; exact hn624_2) | exact hn624_2) (.slice Ao27 t619.length co27)).trans hx624_4
        replace hx624_5 := (cell_far (p := ⟨gb612, 2, none⟩) (by first | (rw [add_block]; exact hn624_2) | (show (Addr.add _ _).block ≠ _; rw [add_block]; exact hn624_2) | exact hn624_2) (.slice Ao27 t619.length co27)).trans hx624_5
        replace hx624_6 := (cell_far (p := ⟨gb612, 2, none⟩) (by first | (rw [add_block]; exact hn624_2) | (show (Addr.add _ _).block ≠ _; rw [add_block]; exact hn624_2) | exact hn624_2) (.slice Ao27 t619.length co27)).trans hx624_6
        clear hn624_0
        clear hn624_1
        clear hn624_2
        replace p624 := eq_true p624
        replace q624 := eq_true q624
        try go_wp2_with (first | ((with_reducible refine gate_callee (f := 13) rfl ?_); refine goesL_ (some 53) rfl rfl Tryd.func13 (by kernel_rfl) rfl #[.int .i64 ((rd_T52 l0 x8_2).f0), .int .i64 10] rfl zA ?_; (with_reducible refine (cooperagelaw16_pick.calls ((rd_T52 l0 x8_2).f0) 10 t625 _ A14.out).mono ?_); rintro e w' ⟨rfl, ⟨nd, rfl⟩⟩; refine ⟨_, rfl, ?_⟩))
        go_loopg [11] k2 (fun kq v11 w' => ∃ (x11_3 : Int), v11 = .int .i64 x11_3 ∧ Aside0 (cooperagelaw16_LeaseApart.l1 kq l0 a1 x8_2 t625 x11_3 t615 t616 t619 x613000_2 x613001_2 x613002_2 = some r) ∧ Aside0 (kq ≤ k2) ∧ Aside0 (Kd.V k34 34 w' w.heap.size (fun k_ => k_ ≠ gb612 ∧ k_ ≠ gb613) (.slice Ao25 t616.length co25) t616) ∧ Aside0 (Kd.V k32 32 w' w.heap.size (fun k_ => k_ ≠ gb612 ∧ k_ ≠ gb613) (.slice Ao27 t619.length co27) t619) ∧ Aside0 (Kd.V k34 34 w' w.heap.size (fun k_ => k_ ≠ gb612 ∧ k_ ≠ gb613) (.slice Ao19 x613001_2.length co19) x613001_2) ∧ Aside0 (Kd.V k32 32 w' w.heap.size (fun k_ => k_ ≠ gb612 ∧ k_ ≠ gb613) (.slice Ao20 x613002_2.length co20) x613002_2) ∧ Aside0 (w'.heap[gb612]? = some (.cells #[.int .i64 t615, (.slice Ao25 t616.length co25), (.slice Ao27 t619.length co27)] 27 (0, 0))) ∧ Aside0 (w'.heap[gb613]? = some (.cells #[.int .i64 x613000_2, (.slice Ao19 x613001_2.length co19), (.slice Ao20 x613002_2.length co20)] 27 (0, 0))) ∧ Aside0 (Below w.heap.size w w'))
        case atStart => exact ⟨(0), zS, H', ⟨Nat.le_refl _⟩, ⟨by (with_reducible repeat (first | apply Kd.V_alloc | apply Kd.V_drewN | apply Kd.V_drew)); exact Kd.V_mono (zNV HO618.out (g := gb612) (fun _ hk => hk.1)) (fun _ hk => ⟨hk.1.1, hk.1.2⟩)⟩, ⟨by (with_reducible repeat (first | apply Kd.V_alloc | apply Kd.V_drewN | apply Kd.V_drew)); exact Kd.V_mono (zNV HO621.out (g := gb612) (fun _ hk => hk.1)) (fun _ hk => ⟨hk.1.1, hk.1.2⟩)⟩, ⟨by (with_reducible repeat (first | apply Kd.V_alloc | apply Kd.V_drewN | apply Kd.V_drew)); exact Kd.V_mono (zNV HO_613001.out (g := gb612) (fun _ hk => hk.1)) (fun _ hk => ⟨hk.1.1, hk.1.2⟩)⟩, ⟨by (with_reducible repeat (first | apply Kd.V_alloc | apply Kd.V_drewN | apply Kd.V_drew)); exact Kd.V_mono (zNV HO_613002.out (g := gb612) (fun _ hk => hk.1)) (fun _ hk => ⟨hk.1.1, hk.1.2⟩)⟩, ⟨zP3 BK612.out⟩, ⟨zK BK613.out⟩, ⟨zL HB.out⟩⟩
        case round =>
         clear H'
         try clear c1
         try clear p2
         try clear p6
         try clear q6
         try clear hx6
         try clear c7
         try clear c8
         try clear c9
         try clear c11
         try clear c11b0
         try clear c12
         try clear c12b0
         try clear c13
         try clear c16
         try clear c17
         try clear hcz10_0
         try clear hcz10_1
         try clear hcz10_2
         try clear hcz15_0
         try clear hcz15_1
         try clear hcz15_2
         try clear hcz18_0
         try clear hcz18_1
         try clear hcz18_2
         try clear hfz10_0
         try clear hfz10_1
         try clear hfz10_2
         try clear hfz15_0
         try clear hfz15_1
         try clear hfz15_2
         try clear hfz18_0
         try clear hfz18_1
         try clear hfz18_2
         try clear hx614_0
         try clear hx614_1
         try clear hx614_2
         try clear hx614_3
         try clear hx614_4
         try clear hx614_5
         try clear hx614_6
         try clear hx624_0
         try clear hx624_1
         try clear hx624_2
         try clear hx624_3
         try clear hx624_4
         try clear hx624_5
         try clear hx624_6
         try clear p2
         try clear p614
         try clear p624
         try clear q614
         try clear q624
         obtain ⟨x11_3, rfl, HA, HK3, HO_613001, HO_613002, HO_614001, HO_614002, BK612, BK613, HB⟩ := hrel
         cases gk with
         | zero => exact absurd HA.out (by simp [cooperagelaw16_LeaseApart.l1])
         | succ k3 =>
          have H := HA.out
          clear HA
          simp only [cooperagelaw16_LeaseApart.l1] at H
          have HC29 := Aside0.mk H
          clear H
          go_upto_region 13 with (fail)
          go_cut [62] (fun v62 wc => ∃ (kq : Nat) (x62_28 : Bool), v62 = .bool x62_28 ∧ Aside0 (cooperagelaw16_LeaseApart.j3 kq l0 a1 x8_2 t625 x11_3 x62_28 t615 t616 t619 x613000_2 x613001_2 x613002_2 = some r) ∧ Aside0 (kq ≤ k3) ∧ Aside0 (Kd.V k34 34 wc w.heap.size (fun k_ => k_ ≠ gb612 ∧ k_ ≠ gb613) (.slice Ao25 t616.length co25) t616) ∧ Aside0 (Kd.V k32 32 wc w.heap.size (fun k_ => k_ ≠ gb612 ∧ k_ ≠ gb613) (.slice Ao27 t619.length co27) t619) ∧ Aside0 (Kd.V k34 34 wc w.heap.size (fun k_ => k_ ≠ gb612 ∧ k_ ≠ gb613) (.slice Ao19 x613001_2.length co19) x613001_2) ∧ Aside0 (Kd.V k32 32 wc w.heap.size (fun k_ => k_ ≠ gb612 ∧ k_ ≠ gb613) (.slice Ao20 x613002_2.length co20) x613002_2) ∧ Aside0 (wc.heap[gb612]? = some (.cells #[.int .i64 t615, (.slice Ao25 t616.length co25), (.slice Ao27 t619.length co27)] 27 (0, 0))) ∧ Aside0 (wc.heap[gb613]? = some (.cells #[.int .i64 x613000_2, (.slice Ao19 x613001_2.length co19), (.slice Ao20 x613002_2.length co20)] 27 (0, 0))) ∧ Aside0 (Below w.heap.size w wc))
          case first =>
           have H := HC29.out
           clear HC29
           by_cases c30 : x11_3 < (x613001_2.length : Int)
           ·rw [if_pos c30] at H
            have c30b0 : decide (x11_3 < (x613001_2.length : Int)) = true := decide_eq_true c30
            clear c30
            (first | rw [c30b0] | (simp only [i64_w, i32_w]; rw [c30b0]) | skip)
            have H' := Aside0.mk H
            clear H
            have hnb31 := NB613_612.out
            have hnc31 := NB612_613.out
            obtain ⟨hcz32_0, hcz32_1, hcz32_2, hfz32_0, hfz32_1, hfz32_2⟩ := zC3 BK613.out
            go_wp2
            go_meet
            case rel => exact ⟨_, (decide (t625 < 8)), zS, H', ⟨by have := HJ4.out; have := HK2.out; have := HK3.out; first | omega | exact Nat.le_refl _⟩, ⟨by (with_reducible repeat (first | apply Kd.V_alloc | apply Kd.V_drewN | apply Kd.V_drew)); exact HO_613001.out⟩, ⟨by (with_reducible repeat (first | apply Kd.V_alloc | apply Kd.V_drewN | apply Kd.V_drew)); exact HO_613002.out⟩, ⟨by (with_reducible repeat (first | apply Kd.V_alloc | apply Kd.V_drewN | apply Kd.V_drew)); exact HO_614001.out⟩, ⟨by (with_reducible repeat (first | apply Kd.V_alloc | apply Kd.V_drewN | apply Kd.V_drew)); exact HO_614002.out⟩, ⟨zK BK612.out⟩, ⟨zK BK613.out⟩, ⟨zL HB.out⟩⟩
           ·rw [if_neg c30] at H
            have c30b0 : decide (x11_3 < (x613001_2.length : Int)) = false := decide_eq_false c30
            clear c30
            (first | rw [c30b0] | (simp only [i64_w, i32_w]; rw [c30b0]) | skip)
            have H' := Aside0.mk H
            clear H
            have hnb33 := NB613_612.out
            have hnc33 := NB612_613.out
            obtain ⟨hcz34_0, hcz34_1, hcz34_2, hfz34_0, hfz34_1, hfz34_2⟩ := zC3 BK613.out
            go_wp2
            go_meet
            case rel => exact ⟨_, (false), zS, H', ⟨by have := HJ4.out; have := HK2.out; have := HK3.out; first | omega | exact Nat.le_refl _⟩, ⟨by (with_reducible repeat (first | apply Kd.V_alloc | apply Kd.V_drewN | apply Kd.V_drew)); exact HO_613001.out⟩, ⟨by (with_reducible repeat (first | apply Kd.V_alloc | apply Kd.V_drewN | apply Kd.V_drew)); exact HO_613002.out⟩, ⟨by (with_reducible repeat (first | apply Kd.V_alloc | apply Kd.V_drewN | apply Kd.V_drew)); exact HO_614001.out⟩, ⟨by (with_reducible repeat (first | apply Kd.V_alloc | apply Kd.V_drewN | apply Kd.V_drew)); exact HO_614002.out⟩, ⟨zK BK612.out⟩, ⟨zK BK613.out⟩, ⟨zL HB.out⟩⟩
          case rest =>
           clear HC29
           try clear c1
           try clear p2
           try clear c3
           try clear p6
           try clear q6
           try clear hx6
           try clear c7
           try clear c8
           try clear c9
           try clear c11
           try clear c11b0
           try clear c12
           try clear c12b0
           try clear c13
           try clear c16
           try clear c17
           try clear c30
           try clear c30b0
           try clear c31
           try clear c33
           try clear hcz10_0
           try clear hcz10_1
           try clear hcz10_2
           try clear hcz15_0
           try clear hcz15_1
           try clear hcz15_2
           try clear hcz18_0
           try clear hcz18_1
           try clear hcz18_2
           try clear hcz32_0
           try clear hcz32_1
           try clear hcz32_2
           try clear hcz34_0
           try clear hcz34_1
           try clear hcz34_2
           try clear hfz10_0
           try clear hfz10_1
           try clear hfz10_2
           try clear hfz15_0
           try clear hfz15_1
           try clear hfz15_2
           try clear hfz18_0
           try clear hfz18_1
           try clear hfz18_2
           try clear hfz32_0
           try clear hfz32_1
           try clear hfz32_2
           try clear hfz34_0
           try clear hfz34_1
           try clear hfz34_2
           try clear hx614_0
           try clear hx614_1
           try clear hx614_2
           try clear hx614_3
           try clear hx614_4
           try clear hx614_5
           try clear hx614_6
           try clear hx624_0
           try clear hx624_1
           try clear hx624_2
           try clear hx624_3
           try clear hx624_4
           try clear hx624_5
           try clear hx624_6
           try clear p2
           try clear p6
           try clear p614
           try clear p624
           try clear q6
           try clear q614
           try clear q624
           obtain ⟨kq, x62_28, rfl, HA, HJ28, HO_613001, HO_613002, HO_614001, HO_614002, BK612, BK613, HB⟩ := hcut
           cases kq with
           | zero => exact absurd HA.out (by simp [cooperagelaw16_LeaseApart.j3])
           | succ kj28 =>
            have H := HA.out
            clear HA
            simp only [cooperagelaw16_LeaseApart.j3] at H
            by_cases c35 : x62_28 = true
            ·subst c35
             have H1 : (if 0 ≤ x11_3 then (if x11_3 < (x613001_2.length : Int) then (if 0 ≤ x8_2 then (if x8_2 < (l0.length : Int) then (if ((rd_T34 x613001_2 x11_3).f1).toList = ((rd_T52 l0 x8_2).f5).toList then (cooperagelaw16_LeaseApart.j4 kj28 l0 a1 x8_2 t625 x11_3 false t615 t616 t619 x613000_2 x613001_2 x613002_2) else ((lease_Valid.f kj28 t615 t616 t619 ((rd_T34 x613001_2 x11_3).f0) ((rd_T34 x613001_2 x11_3).f1) ((rd_T34 x613001_2 x11_3).f3)).bind fun t629 => (cooperagelaw16_LeaseApart.j4 kj28 l0 a1 x8_2 t625 x11_3 (!t629) t615 t616 t619 x613000_2 x613001_2 x613002_2))) else (none)) else (none)) else (none)) else (none)) = some r := by rw [if_pos rfl] at H; exact H
             clear H
             have H := H1
             clear H1
             by_cases c36 : 0 ≤ x11_3
             ·rw [if_pos c36] at H
              have c36b0 : decide (0 ≤ x11_3) = true := decide_eq_true c36
              clear c36
              by_cases c37 : x11_3 < (x613001_2.length : Int)
              ·rw [if_pos c37] at H
               have c37b0 : decide (x11_3 < (x613001_2.length : Int)) = true := decide_eq_true c37
               clear c37
               have HC38 := Aside0.mk H
               clear H
               have hnb39 := NB613_612.out
               have hnc39 := NB612_613.out
               obtain ⟨hcz40_0, hcz40_1, hcz40_2, hfz40_0, hfz40_1, hfz40_2⟩ := zC3 BK613.out
               have p626 : 0 ≤ (x11_3 : Int) := zD
               have q626 : x11_3 < (x613001_2.length : Int) := zD
               obtain ⟨ad626, e626, hx626_0, hx626_1, hx626_2, hx626_3, hx626_4⟩ := at_T34 (Kd.V_reads' HO_614001.out).2.2 x11_3 p626 q626
               have m0_ := HO_613001
               have m1_ := HO_613002
               have m2_ := HO_614001
               have m3_ := HO_614002
               have m4_ := BK612
               have m5_ := BK613
               have m6_ := HB
               cases e626
               have HO_613001 := m0_
               have HO_613002 := m1_
               have HO_614001 := m2_
               have HO_614002 := m3_
               have BK612 := m4_
               have BK613 := m5_
               have HB := m6_
               clear m0_ m1_ m2_ m3_ m4_ m5_ m6_
               replace p626 := eq_true p626
               replace q626 := eq_true q626
               go_upto_region 16 with (first | ((with_reducible refine gate_dst (N := 12) rfl ?_); refine box_event ?hg (N := 12) ?hd (cs := #[.int .i64 0, .string (⟨#[]⟩ : ByteArray), .bool false, .int .i64 0, .int .i64 0]) (t := 34) ?hr ?_; (case hd => rfl); (case hg => rfl); (case hr => first | (go_simp; done) | (go_simp; rfl)); intro gb627 hg w41 hbox hb; have n0_ := Aside0.mk (Kd.V_below (Kd.V_elderB (zV HO_613001.out) gb627 (Nat.le_of_eq hg.symm)) hb); have n1_ := Aside0.mk (Kd.V_below (Kd.V_elderB (zV HO_613002.out) gb627 (Nat.le_of_eq hg.symm)) hb); have n2_ := Aside0.mk (Kd.V_below (Kd.V_elderB (zV HO_614001.out) gb627 (Nat.le_of_eq hg.symm)) hb); have n3_ := Aside0.mk (Kd.V_below (Kd.V_elderB (zV HO_614002.out) gb627 (Nat.le_of_eq hg.symm)) hb); have n4_ := Aside0.mk (blk_below (g := gb612) (o := .cells #[.int .i64 t615, .slice Ao25 t616.length co25, .slice Ao27 t619.length co27] 27 (0, 0)) (zK BK612.out) hb); have n5_ := Aside0.mk (blk_below (g := gb613) (o := .cells #[.int .i64 x613000_2, .slice (some ad626) x613001_2.length co19, .slice Ao20 x613002_2.length co20] 27 (0, 0)) (zK BK613.out) hb); have n6_ := Aside0.mk (below_step (zL HB.out) hb); have n7_ := Aside0.mk (hbox); have n8_ := Aside0.mk (zG hg (zL HB.out)); have n9_ := Aside0.mk (zG hg (zL HB.out)); have n10_ := Aside0.mk (zN (g := gb612) (o := .cells #[.int .i64 t615, .slice Ao25 t616.length co25, .slice Ao27 t619.length co27] 27 (0, 0)) hg (zK BK612.out)); have n11_ := Aside0.mk (zO (g := gb612) (o := .cells #[.int .i64 t615, .slice Ao25 t616.length co25, .slice Ao27 t619.length co27] 27 (0, 0)) hg (zK BK612.out)); have n12_ := Aside0.mk (zN (g := gb613) (o := .cells #[.int .i64 x613000_2, .slice (some ad626) x613001_2.length co19, .slice Ao20 x613002_2.length co20] 27 (0, 0)) hg (zK BK613.out)); have n13_ := Aside0.mk (zO (g := gb613) (o := .cells #[.int .i64 x613000_2, .slice (some ad626) x613001_2.length co19, .slice Ao20 x613002_2.length co20] 27 (0, 0)) hg (zK BK613.out)); revert n0_ n1_ n2_ n3_ n4_ n5_ n6_ n7_ n8_ n9_ n10_ n11_ n12_ n13_; clear HO_613001 HO_613002 HO_614001 HO_614002 BK612 BK613 HB; intro HO_613001 HO_613002 HO_614001 HO_614002 BK612 BK613 HB BK627 GW627 GE627 NB612_627 NB627_612 NB613_627 NB627_613; clear hb hbox hg; have hnb42 := NB627_612.out; have hnc42 := NB612_627.out; have hnb43 := NB627_613.out; have hnc43 := NB613_627.out; obtain ⟨hcz44_0, hcz44_1, hcz44_2, hcz44_3, hcz44_4, hfz44_0, hfz44_1, hfz44_2, hfz44_3, hfz44_4⟩ := zC5 BK627.out))
               (try simp only [Act.put, List.setIfInBounds_toArray, List.set_cons_zero, List.set_cons_succ])
               go_cut [88] (fun v88 wc => ∃ (kq : Nat) (x88_37 : Bool), v88 = .bool x88_37 ∧ Aside0 (cooperagelaw16_LeaseApart.j4 kq l0 a1 x8_2 t625 x11_3 x88_37 t615 t616 t619 x613000_2 x613001_2 x613002_2 = some r) ∧ Aside0 (kq ≤ kj28) ∧ Aside0 (Kd.V k34 34 wc w.heap.size (fun k_ => k_ ≠ gb612 ∧ k_ ≠ gb613 ∧ k_ ≠ gb627) (.slice Ao25 t616.length co25) t616) ∧ Aside0 (Kd.V k32 32 wc w.heap.size (fun k_ => k_ ≠ gb612 ∧ k_ ≠ gb613 ∧ k_ ≠ gb627) (.slice Ao27 t619.length co27) t619) ∧ Aside0 (Kd.V k34 34 wc w.heap.size (fun k_ => k_ ≠ gb612 ∧ k_ ≠ gb613 ∧ k_ ≠ gb627) (.slice (some ad626) x613001_2.length co19) x613001_2) ∧ Aside0 (Kd.V k32 32 wc w.heap.size (fun k_ => k_ ≠ gb612 ∧ k_ ≠ gb613 ∧ k_ ≠ gb627) (.slice Ao20 x613002_2.length co20) x613002_2) ∧ Aside0 (wc.heap[gb612]? = some (.cells #[.int .i64 t615, (.slice Ao25 t616.length co25), (.slice Ao27 t619.length co27)] 27 (0, 0))) ∧ Aside0 (wc.heap[gb613]? = some (.cells #[.int .i64 x613000_2, (.slice (some ad626) x613001_2.length co19), (.slice Ao20 x613002_2.length co20)] 27 (0, 0))) ∧ Aside0 (wc.heap[gb627]? = some (.cells #[.int .i64 ((rd_T34 x613001_2 x11_3).f0), .string ((rd_T34 x613001_2 x11_3).f1), .bool ((rd_T34 x613001_2 x11_3).f2), .int .i64 ((rd_T34 x613001_2 x11_3).f3), .int .i64 ((rd_T34 x613001_2 x11_3).f4)] 34 (0, 0))) ∧ Aside0 (Below w.heap.size w wc))
               case first =>
                have H := HC38.out
                clear HC38
                by_cases c45 : 0 ≤ x8_2
                ·rw [if_pos c45] at H
                 have c45b0 : decide (0 ≤ x8_2) = true := decide_eq_true c45
                 clear c45
                 (first | rw [c45b0] | (simp only [i64_w, i32_w]; rw [c45b0]) | skip)
                 by_cases c46 : x8_2 < (l0.length : Int)
                 ·rw [if_pos c46] at H
                  have c46b0 : decide (x8_2 < (l0.length : Int)) = true := decide_eq_true c46
                  clear c46
                  by_cases c47 : ((rd_T34 x613001_2 x11_3).f1).toList = ((rd_T52 l0 x8_2).f5).toList
                  ·rw [if_pos c47] at H
                   have c47b0 : (((rd_T34 x613001_2 x11_3).f1).toList == ((rd_T52 l0 x8_2).f5).toList) = true := beq_iff_eq.mpr c47
                   have c47b1 : (((rd_T34 x613001_2 x11_3).f1).toList != ((rd_T52 l0 x8_2).f5).toList) = false := bne_eq_false_iff_eq.mpr c47
                   clear c47
                   have H' := Aside0.mk H
                   clear H
                   try go_wp2
                   have n0_ : Aside0 (Kd.V k34 34 (((((w41.setCell ⟨gb627, 0, none⟩ (.int .i64 ((rd_T34 x613001_2 x11_3).f0))).setCell ⟨gb627, 1, none⟩ (.string ((rd_T34 x613001_2 x11_3).f1))).setCell ⟨gb627, 2, none⟩ (.bool ((rd_T34 x613001_2 x11_3).f2))).setCell ⟨gb627, 3, none⟩ (.int .i64 ((rd_T34 x613001_2 x11_3).f3))).setCell ⟨gb627, 4, none⟩ (.int .i64 ((rd_T34 x613001_2 x11_3).f4))) w.heap.size (fun k_ => k_ ≠ gb612 ∧ k_ ≠ gb613 ∧ k_ ≠ gb627) (.slice Ao25 t616.length co25) t616) := ⟨by (with_reducible repeat (first | apply Kd.V_alloc | apply Kd.V_drewN | apply Kd.V_drew)); exact Kd.V_mono (zNV HO_613001.out (g := gb627) (fun _ hk => hk.2)) (fun _ hk => ⟨hk.1.1.1, ⟨hk.1.1.2, hk.1.2⟩⟩)⟩
                   have n1_ : Aside0 (Kd.V k32 32 (((((w41.setCell ⟨gb627, 0, none⟩ (.int .i64 ((rd_T34 x613001_2 x11_3).f0))).setCell ⟨gb627, 1, none⟩ (.string ((rd_T34 x613001_2 x11_3).f1))).setCell ⟨gb627, 2, none⟩ (.bool ((rd_T34 x613001_2 x11_3).f2))).setCell ⟨gb627, 3, none⟩ (.int .i64 ((rd_T34 x613001_2 x11_3).f3))).setCell ⟨gb627, 4, none⟩ (.int .i64 ((rd_T34 x613001_2 x11_3).f4))) w.heap.size (fun k_ => k_ ≠ gb612 ∧ k_ ≠ gb613 ∧ k_ ≠ gb627) (.slice Ao27 t619.length co27) t619) := ⟨by (with_reducible repeat (first | apply Kd.V_alloc | apply Kd.V_drewN | apply Kd.V_drew)); exact Kd.V_mono (zNV HO_613002.out (g := gb627) (fun _ hk => hk.2)) (fun _ hk => ⟨hk.1.1.1, ⟨hk.1.1.2, hk.1.2⟩⟩)⟩
                   have n2_ : Aside0 (Kd.V k34 34 (((((w41.setCell ⟨gb627, 0, none⟩ (.int .i64 ((rd_T34 x613001_2 x11_3).f0))).setCell ⟨gb627, 1, none⟩ (.string ((rd_T34 x613001_2 x11_3).f1))).setCell ⟨gb627, 2, none⟩ (.bool ((rd_T34 x613001_2 x11_3).f2))).setCell ⟨gb627, 3, none⟩ (.int .i64 ((rd_T34 x613001_2 x11_3).f3))).setCell ⟨gb627, 4, none⟩ (.int .i64 ((rd_T34 x613001_2 x11_3).f4))) w.heap.size (fun k_ => k_ ≠ gb612 ∧ k_ ≠ gb613 ∧ k_ ≠ gb627) (.slice (some ad626) x613001_2.length co19) x613001_2) := ⟨by (with_reducible repeat (first | apply Kd.V_alloc | apply Kd.V_drewN | apply Kd.V_drew)); exact Kd.V_mono (zNV HO_614001.out (g := gb627) (fun _ hk => hk.2)) (fun _ hk => ⟨hk.1.1.1, ⟨hk.1.1.2, hk.1.2⟩⟩)⟩
                   have n3_ : Aside0 (Kd.V k32 32 (((((w41.setCell ⟨gb627, 0, none⟩ (.int .i64 ((rd_T34 x613001_2 x11_3).f0))).setCell ⟨gb627, 1, none⟩ (.string ((rd_T34 x613001_2 x11_3).f1))).setCell ⟨gb627, 2, none⟩ (.bool ((rd_T34 x613001_2 x11_3).f2))).setCell ⟨gb627, 3, none⟩ (.int .i64 ((rd_T34 x613001_2 x11_3).f3))).setCell ⟨gb627, 4, none⟩ (.int .i64 ((rd_T34 x613001_2 x11_3).f4))) w.heap.size (fun k_ => k_ ≠ gb612 ∧ k_ ≠ gb613 ∧ k_ ≠ gb627) (.slice Ao20 x613002_2.length co20) x613002_2) := ⟨by (with_reducible repeat (first | apply Kd.V_alloc | apply Kd.V_drewN | apply Kd.V_drew)); exact Kd.V_mono (zNV HO_614002.out (g := gb627) (fun _ hk => hk.2)) (fun _ hk => ⟨hk.1.1.1, ⟨hk.1.1.2, hk.1.2⟩⟩)⟩
                   have n4_ : Aside0 ((((((w41.setCell ⟨gb627, 0, none⟩ (.int .i64 ((rd_T34 x613001_2 x11_3).f0))).setCell ⟨gb627, 1, none⟩ (.string ((rd_T34 x613001_2 x11_3).f1))).setCell ⟨gb627, 2, none⟩ (.bool ((rd_T34 x613001_2 x11_3).f2))).setCell ⟨gb627, 3, none⟩ (.int .i64 ((rd_T34 x613001_2 x11_3).f3))).setCell ⟨gb627, 4, none⟩ (.int .i64 ((rd_T34 x613001_2 x11_3).f4))).heap[gb612]? = some (.cells #[.int .i64 t615, .slice Ao25 t616.length co25, .slice Ao27 t619.length co27] 27 (0, 0))) := ⟨zK BK612.out⟩
                   have n5_ : Aside0 ((((((w41.setCell ⟨gb627, 0, none⟩ (.int .i64 ((rd_T34 x613001_2 x11_3).f0))).setCell ⟨gb627, 1, none⟩ (.string ((rd_T34 x613001_2 x11_3).f1))).setCell ⟨gb627, 2, none⟩ (.bool ((rd_T34 x613001_2 x11_3).f2))).setCell ⟨gb627, 3, none⟩ (.int .i64 ((rd_T34 x613001_2 x11_3).f3))).setCell ⟨gb627, 4, none⟩ (.int .i64 ((rd_T34 x613001_2 x11_3).f4))).heap[gb613]? = some (.cells #[.int .i64 x613000_2, .slice (some ad626) x613001_2.length co19, .slice Ao20 x613002_2.length co20] 27 (0, 0))) := ⟨zK BK613.out⟩
                   have n6_ : Aside0 ((((((w41.setCell ⟨gb627, 0, none⟩ (.int .i64 ((rd_T34 x613001_2 x11_3).f0))).setCell ⟨gb627, 1, none⟩ (.string ((rd_T34 x613001_2 x11_3).f1))).setCell ⟨gb627, 2, none⟩ (.bool ((rd_T34 x613001_2 x11_3).f2))).setCell ⟨gb627, 3, none⟩ (.int .i64 ((rd_T34 x613001_2 x11_3).f3))).setCell ⟨gb627, 4, none⟩ (.int .i64 ((rd_T34 x613001_2 x11_3).f4))).heap[gb627]? = some (.cells #[.int .i64 ((rd_T34 x613001_2 x11_3).f0), .string ((rd_T34 x613001_2 x11_3).f1), .bool ((rd_T34 x613001_2 x11_3).f2), .int .i64 ((rd_T34 x613001_2 x11_3).f3), .int .i64 ((rd_T34 x613001_2 x11_3).f4)] 34 (0, 0))) := ⟨zP5 BK627.out⟩
                   have n7_ : Aside0 (Below w.heap.size w (((((w41.setCell ⟨gb627, 0, none⟩ (.int .i64 ((rd_T34 x613001_2 x11_3).f0))).setCell ⟨gb627, 1, none⟩ (.string ((rd_T34 x613001_2 x11_3).f1))).setCell ⟨gb627, 2, none⟩ (.bool ((rd_T34 x613001_2 x11_3).f2))).setCell ⟨gb627, 3, none⟩ (.int .i64 ((rd_T34 x613001_2 x11_3).f3))).setCell ⟨gb627, 4, none⟩ (.int .i64 ((rd_T34 x613001_2 x11_3).f4)))) := ⟨zL HB.out⟩
                   (try clear HO_613001)
                   (try clear HO_613002)
                   (try clear HO_614001)
                   (try clear HO_614002)
                   (try clear BK612)
                   (try clear BK613)
                   (try clear BK627)
                   (try clear HB)
                   generalize (((((w41.setCell ⟨gb627, 0, none⟩ (.int .i64 ((rd_T34 x613001_2 x11_3).f0))).setCell ⟨gb627, 1, none⟩ (.string ((rd_T34 x613001_2 x11_3).f1))).setCell ⟨gb627, 2, none⟩ (.bool ((rd_T34 x613001_2 x11_3).f2))).setCell ⟨gb627, 3, none⟩ (.int .i64 ((rd_T34 x613001_2 x11_3).f3))).setCell ⟨gb627, 4, none⟩ (.int .i64 ((rd_T34 x613001_2 x11_3).f4))) = w48 at n0_ n1_ n2_ n3_ n4_ n5_ n6_ n7_ ⊢
                   have HO_613001 := n0_
                   have HO_613002 := n1_
                   have HO_614001 := n2_
                   have HO_614002 := n3_
                   have BK612 := n4_
                   have BK613 := n5_
                   have BK627 := n6_
                   have HB := n7_
                   clear n0_ n1_ n2_ n3_ n4_ n5_ n6_ n7_
                   have n0_ := Aside0.mk (Kd.V_drew HO_613001.out)
                   have n1_ := Aside0.mk (Kd.V_drew HO_613002.out)
                   have n2_ := Aside0.mk (Kd.V_drew HO_614001.out)
                   have n3_ := Aside0.mk (Kd.V_drew HO_614002.out)
                   have n4_ := Aside0.mk (blk_drew BK612.out)
                   have n5_ := Aside0.mk (blk_drew BK613.out)
                   have n6_ := Aside0.mk (blk_drew BK627.out)
                   have n7_ := Aside0.mk (below_drew1 HB.out)
                   clear HO_613001
                   clear HO_613002
                   clear HO_614001
                   clear HO_614002
                   clear BK612
                   clear BK613
                   clear BK627
                   clear HB
                   have HO_613001 := n0_
                   have HO_613002 := n1_
                   have HO_614001 := n2_
                   have HO_614002 := n3_
                   have BK612 := n4_
                   have BK613 := n5_
                   have BK627 := n6_
                   have HB := n7_
                   clear n0_ n1_ n2_ n3_ n4_ n5_ n6_ n7_
                   have p628 : 0 ≤ (x8_2 : Int) := zD
                   have q628 : x8_2 < (l0.length : Int) := zD
                   obtain ⟨ad628, e628, hx628_0, hx628_1, hx628_2, hx628_3, hx628_4, hx628_5, hx628_6⟩ := at_T52 HR0.out x8_2 p628 q628
                   have hw628_6 := hx628_6
                   have hw628_5 := hx628_5
                   have hw628_4 := hx628_4
                   have hw628_3 := hx628_3
                   have hw628_2 := hx628_2
                   have hw628_1 := hx628_1
                   have hw628_0 := hx628_0
                   obtain rfl : ad614 = ad628 := (by injection e628)
                   replace hx628_0 := zX HB.out hx628_0
                   replace hx628_1 := zX HB.out hx628_1
                   replace hx628_2 := zX HB.out hx628_2
                   replace hx628_3 := zX HB.out hx628_3
                   replace hx628_4 := zX HB.out hx628_4
                   replace hx628_5 := zX HB.out hx628_5
                   replace hx628_6 := zX HB.out hx628_6
                   replace p628 := eq_true p628
                   replace q628 := eq_true q628
                   refine start_ (n := 19) (S := fun w' => w'.cell? ⟨gb627, 0, none⟩ = some (.int .i64 ((rd_T34 x613001_2 x11_3).f0)) ∧ w'.cell? ⟨gb627, 1, none⟩ = some (.string ((rd_T34 x613001_2 x11_3).f1)) ∧ w'.cell? ⟨gb627, 2, none⟩ = some (.bool ((rd_T34 x613001_2 x11_3).f2)) ∧ w'.cell? ⟨gb627, 3, none⟩ = some (.int .i64 ((rd_T34 x613001_2 x11_3).f3)) ∧ w'.cell? ⟨gb627, 4, none⟩ = some (.int .i64 ((rd_T34 x613001_2 x11_3).f4)) ∧ w'.cell? (ad614.add ((x8_2).toNat * 7)) = some (.int .i64 ((rd_T52 l0 x8_2).f0)) ∧ w'.cell? ⟨(ad614.add ((x8_2).toNat * 7)).block, (ad614.add ((x8_2).toNat * 7)).off + 1, none⟩ = some (.int .i64 ((rd_T52 l0 x8_2).f1)) ∧ w'.cell? ⟨(ad614.add ((x8_2).toNat * 7)).block, (ad614.add ((x8_2).toNat * 7)).off + 2, none⟩ = some (.int .i64 ((rd_T52 l0 x8_2).f2)) ∧ w'.cell? ⟨(ad614.add ((x8_2).toNat * 7)).block, (ad614.add ((x8_2).toNat * 7)).off + 3, none⟩ = some (.int .i64 ((rd_T52 l0 x8_2).f3)) ∧ w'.cell? ⟨(ad614.add ((x8_2).toNat * 7)).block, (ad614.add ((x8_2).toNat * 7)).off + 4, none⟩ = some (.int .i64 ((rd_T52 l0 x8_2).f4)) ∧ w'.cell? ⟨(ad614.add ((x8_2).toNat * 7)).block, (ad614.add ((x8_2).toNat * 7)).off + 5, none⟩ = some (.string ((rd_T52 l0 x8_2).f5)) ∧ w'.cell? ⟨(ad614.add ((x8_2).toNat * 7)).block, (ad614.add ((x8_2).toNat * 7)).off + 6, none⟩ = some (.bool ((rd_T52 l0 x8_2).f6))) (ds := []) #[false, false, false, false, false, false, false, false, false, false, false, false, false, false, false, false, false, false, false] (by kernel_rfl) rfl rfl ⟨(blk_cell BK627.out 0).trans rfl, (blk_cell BK627.out 1).trans rfl, (blk_cell BK627.out 2).trans rfl, (blk_cell BK627.out 3).trans rfl, (blk_cell BK627.out 4).trans rfl, (zX HB.out hw628_0), (zX HB.out hw628_1), (zX HB.out hw628_2), (zX HB.out hw628_3), (zX HB.out hw628_4), (zX HB.out hw628_5), (zX HB.out hw628_6)⟩ (fun hHeld => ?_); refine with_tabW cooperagelaw16_LeaseApart.tab16 cooperagelaw16_LeaseApart.bits16 (fun HT_ HW_ => ?_)
                   generalize w48.drew = w49 at HO_613001 HO_613002 HO_614001 HO_614002 BK612 BK613 BK627 HB hx628_0 hx628_1 hx628_2 hx628_3 hx628_4 hx628_5 hx628_6 hHeld ⊢
                   refine pure_ (i := 0) (N := some 70) (v := ?_) (a' := ?_) #[true, false, false, false, false, false, false, false, false, false, false, false, false, false, false, false, false, false, false] rfl rfl (any_of HT_.out (by kernel_rfl)) (fun _ _ _ h => h) (Or.inl ⟨by rfl, ?_⟩) ?_ ?_
                   rotate_left
                   ·intro w'
                    go_simp
                    with_reducible rfl
                   rotate_left
                   ·simp only [Act.put, List.setIfInBounds_toArray, List.set_cons_zero, List.set_cons_succ, i64_w, i32_w]
                    rfl
                   refine pure_ (i := 2) (N := some 72) (v := ?_) (a' := ?_) #[true, false, true, false, false, false, false, false, false, false, false, false, false, false, false, false, false, false, false] rfl rfl (any_of HT_.out (by kernel_rfl)) (fun _ _ _ h => h) (Or.inl ⟨by rfl, ?_⟩) ?_ ?_
                   rotate_left
                   ·intro w'
                    go_simp
                    with_reducible rfl
                   rotate_left
                   ·simp only [Act.put, List.setIfInBounds_toArray, List.set_cons_zero, List.set_cons_succ, i64_w, i32_w]
                    rfl
                   refine pure_ (i := 3) (N := some 73) (v := ?_) (a' := ?_) #[true, false, true, true, false, false, false, false, false, false, false, false, false, false, false, false, false, false, false] rfl rfl (any_of HT_.out (by kernel_rfl)) (fun _ _ _ h => h) (Or.inl ⟨by rfl, ?_⟩) ?_ ?_
                   rotate_left
                   ·intro w'
                    go_simp
                    with_reducible rfl
                   rotate_left
                   ·simp only [Act.put, List.setIfInBounds_toArray, List.set_cons_zero, List.set_cons_succ, i64_w, i32_w]
                    rfl
                   refine pure_ (i := 4) (N := some 74) (v := ?_) (a' := ?_) #[true, false, true, true, true, false, false, false, false, false, false, false, false, false, false, false, false, false, false] rfl rfl (any_of HT_.out (by kernel_rfl)) (fun _ _ _ h => h) (Or.inl ⟨by rfl, ?_⟩) ?_ ?_
                   rotate_left
                   ·intro w'
                    go_simp
                    with_reducible rfl
                   rotate_left
                   ·simp only [Act.put, List.setIfInBounds_toArray, List.set_cons_zero, List.set_cons_succ, i64_w, i32_w]
                    rfl
                   refine pure_ (i := 5) (N := some 75) (v := ?_) (a' := ?_) #[true, false, true, true, true, true, false, false, false, false, false, false, false, false, false, false, false, false, false] rfl rfl (any_of HT_.out (by kernel_rfl)) (fun _ _ _ h => h) (Or.inl ⟨by rfl, ?_⟩) ?_ ?_
                   rotate_left
                   ·intro w'
                    go_simp
                    with_reducible rfl
                   rotate_left
                   ·simp only [Act.put, List.setIfInBounds_toArray, List.set_cons_zero, List.set_cons_succ, i64_w, i32_w]
                    rfl
                   refine take_ (i := 1) (N := some 71) (v := ?_) (a' := ?_) #[true, true, true, true, true, true, false, false, false, false, false, false, false, false, false, false, false, false, false] rfl rfl (take_ofW HT_.out HW_.out (by kernel_rfl)) (fun _ _ _ h => h) (Or.inl ⟨by rfl, ?_⟩) hHeld ?_ ?_
                   rotate_left
                   ·rintro w' ⟨s0, s1, s2, s3, s4, s5, s6, s7, s8, s9, s10, s11⟩
                    go_simp
                    with_reducible rfl
                   rotate_left
                   ·simp only [Act.put, List.setIfInBounds_toArray, List.set_cons_zero, List.set_cons_succ, i64_w, i32_w]
                    rfl
                   refine take_ (i := 6) (N := some 76) (v := ?_) (a' := ?_) #[true, true, true, true, true, true, true, false, false, false, false, false, false, false, false, false, false, false, false] rfl rfl (take_ofW HT_.out HW_.out (by kernel_rfl)) (fun _ _ _ h => h) (Or.inl ⟨by rfl, ?_⟩) hHeld ?_ ?_
                   rotate_left
                   ·rintro w' ⟨s0, s1, s2, s3, s4, s5, s6, s7, s8, s9, s10, s11⟩
                    go_simp
                    with_reducible rfl
                   rotate_left
                   ·simp only [Act.put, List.setIfInBounds_toArray, List.set_cons_zero, List.set_cons_succ, i64_w, i32_w]
                    rfl
                   refine pure_ (i := 7) (N := some 77) (v := ?_) (a' := ?_) #[true, true, true, true, true, true, true, true, false, false, false, false, false, false, false, false, false, false, false] rfl rfl (any_of HT_.out (by kernel_rfl)) (fun _ _ _ h => h) (Or.inl ⟨by rfl, ?_⟩) ?_ ?_
                   rotate_left
                   ·intro w'
                    go_simp
                    with_reducible rfl
                   rotate_left
                   ·simp only [Act.put, List.setIfInBounds_toArray, List.set_cons_zero, List.set_cons_succ, i64_w, i32_w]
                    rfl
                   refine pure_ (i := 8) (N := some 78) (v := ?_) (a' := ?_) #[true, true, true, true, true, true, true, true, true, false, false, false, false, false, false, false, false, false, false] rfl rfl (any_of HT_.out (by kernel_rfl)) (fun _ _ _ h => h) (Or.inl ⟨by rfl, ?_⟩) ?_ ?_
                   rotate_left
                   ·intro w'
                    go_simp
                    with_reducible rfl
                   rotate_left
                   ·simp only [Act.put, List.setIfInBounds_toArray, List.set_cons_zero, List.set_cons_succ, i64_w, i32_w]
                    rfl
                   refine pure_ (i := 9) (N := some 79) (v := undef) (a' := ?_) #[true, true, true, true, true, true, true, true, true, true, false, false, false, false, false, false, false, false, false] rfl rfl (any_of HT_.out (by kernel_rfl)) (fun _ _ _ h => h) (Or.inr ⟨by rfl, rfl⟩) ?_ ?_
                   rotate_left
                   ·simp only [Act.put, List.setIfInBounds_toArray, List.set_cons_zero, List.set_cons_succ, i64_w, i32_w]
                    rfl
                   refine pure_ (i := 10) (N := some 80) (v := undef) (a' := ?_) #[true, true, true, true, true, true, true, true, true, true, true, false, false, false, false, false, false, false, false] rfl rfl (any_of HT_.out (by kernel_rfl)) (fun _ _ _ h => h) (Or.inr ⟨by rfl, rfl⟩) ?_ ?_
                   rotate_left
                   ·simp only [Act.put, List.setIfInBounds_toArray, List.set_cons_zero, List.set_cons_succ, i64_w, i32_w]
                    rfl
                   refine pure_ (i := 11) (N := some 81) (v := undef) (a' := ?_) #[true, true, true, true, true, true, true, true, true, true, true, true, false, false, false, false, false, false, false] rfl rfl (any_of HT_.out (by kernel_rfl)) (fun _ _ _ h => h) (Or.inr ⟨by rfl, rfl⟩) ?_ ?_
                   rotate_left
                   ·simp only [Act.put, List.setIfInBounds_toArray, List.set_cons_zero, List.set_cons_succ, i64_w, i32_w]
                    rfl
                   refine pure_ (i := 12) (N := some 82) (v := undef) (a' := ?_) #[true, true, true, true, true, true, true, true, true, true, true, true, true, false, false, false, false, false, false] rfl rfl (any_of HT_.out (by kernel_rfl)) (fun _ _ _ h => h) (Or.inr ⟨by rfl, rfl⟩) ?_ ?_
                   rotate_left
                   ·simp only [Act.put, List.setIfInBounds_toArray, List.set_cons_zero, List.set_cons_succ, i64_w, i32_w]
                    rfl
                   refine pure_ (i := 13) (N := some 83) (v := undef) (a' := ?_) #[true, true, true, true, true, true, true, true, true, true, true, true, true, true, false, false, false, false, false] rfl rfl (any_of HT_.out (by kernel_rfl)) (fun _ _ _ h => h) (Or.inr ⟨by rfl, rfl⟩) ?_ ?_
                   rotate_left
                   ·simp only [Act.put, List.setIfInBounds_toArray, List.set_cons_zero, List.set_cons_succ, i64_w, i32_w]
                    rfl
                   refine pure_ (i := 14) (N := some 84) (v := undef) (a' := ?_) #[true, true, true, true, true, true, true, true, true, true, true, true, true, true, true, false, false, false, false] rfl rfl (any_of HT_.out (by kernel_rfl)) (fun _ _ _ h => h) (Or.inr ⟨by rfl, rfl⟩) ?_ ?_
                   rotate_left
                   ·simp only [Act.put, List.setIfInBounds_toArray, List.set_cons_zero, List.set_cons_succ, i64_w, i32_w]
                    rfl
                   refine pure_ (i := 15) (N := some 85) (v := undef) (a' := ?_) #[true, true, true, true, true, true, true, true, true, true, true, true, true, true, true, true, false, false, false] rfl rfl (any_of HT_.out (by kernel_rfl)) (fun _ _ _ h => h) (Or.inr ⟨by rfl, rfl⟩) ?_ ?_
                   rotate_left
                   ·simp only [Act.put, List.setIfInBounds_toArray, List.set_cons_zero, List.set_cons_succ, i64_w, i32_w]
                    rfl
                   refine pure_ (i := 16) (N := some 86) (v := undef) (a' := ?_) #[true, true, true, true, true, true, true, true, true, true, true, true, true, true, true, true, true, false, false] rfl rfl (any_of HT_.out (by kernel_rfl)) (fun _ _ _ h => h) (Or.inr ⟨by rfl, rfl⟩) ?_ ?_
                   rotate_left
                   ·simp only [Act.put, List.setIfInBounds_toArray, List.set_cons_zero, List.set_cons_succ, i64_w, i32_w]
                    rfl
                   refine pure_ (i := 17) (N := some 87) (v := undef) (a' := ?_) #[true, true, true, true, true, true, true, true, true, true, true, true, true, true, true, true, true, true, false] rfl rfl (any_of HT_.out (by kernel_rfl)) (fun _ _ _ h => h) (Or.inr ⟨by rfl, rfl⟩) ?_ ?_
                   rotate_left
                   ·simp only [Act.put, List.setIfInBounds_toArray, List.set_cons_zero, List.set_cons_succ, i64_w, i32_w]
                    rfl
                   refine pure_ (i := 18) (N := some 88) (v := ?_) (a' := ?_) #[true, true, true, true, true, true, true, true, true, true, true, true, true, true, true, true, true, true, true] rfl rfl (any_of HT_.out (by kernel_rfl)) (fun _ _ _ h => h) (Or.inl ⟨by rfl, ?_⟩) ?_ ?_
                   rotate_left
                   ·intro w'
                    go_simp
                    with_reducible rfl
                   rotate_left
                   ·simp only [Act.put, List.setIfInBounds_toArray, List.set_cons_zero, List.set_cons_succ, i64_w, i32_w]
                    rfl
                   refine done_ (done_of HT_.out (by kernel_rfl)) ?_
                   try go_wp2
                   go_meet
                   case rel => exact ⟨_, (false), zS, H', ⟨by have := HJ4.out; have := HK2.out; have := HK3.out; have := HJ28.out; first | omega | exact Nat.le_refl _⟩, ⟨by (with_reducible repeat (first | apply Kd.V_alloc | apply Kd.V_drewN | apply Kd.V_drew)); exact HO_613001.out⟩, ⟨by (with_reducible repeat (first | apply Kd.V_alloc | apply Kd.V_drewN | apply Kd.V_drew)); exact HO_613002.out⟩, ⟨by (with_reducible repeat (first | apply Kd.V_alloc | apply Kd.V_drewN | apply Kd.V_drew)); exact HO_614001.out⟩, ⟨by (with_reducible repeat (first | apply Kd.V_alloc | apply Kd.V_drewN | apply Kd.V_drew)); exact HO_614002.out⟩, ⟨zK BK612.out⟩, ⟨zK BK613.out⟩, ⟨zK BK627.out⟩, ⟨zL HB.out⟩⟩
                  ·rw [if_neg c47] at H
                   have c47b0 : (((rd_T34 x613001_2 x11_3).f1).toList == ((rd_T52 l0 x8_2).f5).toList) = false := beq_eq_false_iff_ne.mpr c47
                   have c47b1 : (((rd_T34 x613001_2 x11_3).f1).toList != ((rd_T52 l0 x8_2).f5).toList) = true := bne_iff_ne.mpr c47
                   replace H := Option.bind_eq_some_iff.mp H
                   obtain ⟨t629, A500, H⟩ := H
                   replace H : (cooperagelaw16_LeaseApart.j4 kj28 l0 a1 x8_2 t625 x11_3 (!t629) t615 t616 t619 x613000_2 x613001_2 x613002_2) = some r := H
                   have A50 := Aside0.mk A500
                   clear A500
                   have H' := Aside0.mk H
                   clear H
                   try go_wp2
                   have n0_ : Aside0 (Kd.V k34 34 (((((w41.setCell ⟨gb627, 0, none⟩ (.int .i64 ((rd_T34 x613001_2 x11_3).f0))).setCell ⟨gb627, 1, none⟩ (.string ((rd_T34 x613001_2 x11_3).f1))).setCell ⟨gb627, 2, none⟩ (.bool ((rd_T34 x613001_2 x11_3).f2))).setCell ⟨gb627, 3, none⟩ (.int .i64 ((rd_T34 x613001_2 x11_3).f3))).setCell ⟨gb627, 4, none⟩ (.int .i64 ((rd_T34 x613001_2 x11_3).f4))) w.heap.size (fun k_ => k_ ≠ gb612 ∧ k_ ≠ gb613 ∧ k_ ≠ gb627) (.slice Ao25 t616.length co25) t616) := ⟨by (with_reducible repeat (first | apply Kd.V_alloc | apply Kd.V_drewN | apply Kd.V_drew)); exact Kd.V_mono (zNV HO_613001.out (g := gb627) (fun _ hk => hk.2)) (fun _ hk => ⟨hk.1.1.1, ⟨hk.1.1.2, hk.1.2⟩⟩)⟩
                   have n1_ : Aside0 (Kd.V k32 32 (((((w41.setCell ⟨gb627, 0, none⟩ (.int .i64 ((rd_T34 x613001_2 x11_3).f0))).setCell ⟨gb627, 1, none⟩ (.string ((rd_T34 x613001_2 x11_3).f1))).setCell ⟨gb627, 2, none⟩ (.bool ((rd_T34 x613001_2 x11_3).f2))).setCell ⟨gb627, 3, none⟩ (.int .i64 ((rd_T34 x613001_2 x11_3).f3))).setCell ⟨gb627, 4, none⟩ (.int .i64 ((rd_T34 x613001_2 x11_3).f4))) w.heap.size (fun k_ => k_ ≠ gb612 ∧ k_ ≠ gb613 ∧ k_ ≠ gb627) (.slice Ao27 t619.length co27) t619) := ⟨by (with_reducible repeat (first | apply Kd.V_alloc | apply Kd.V_drewN | apply Kd.V_drew)); exact Kd.V_mono (zNV HO_613002.out (g := gb627) (fun _ hk => hk.2)) (fun _ hk => ⟨hk.1.1.1, ⟨hk.1.1.2, hk.1.2⟩⟩)⟩
                   have n2_ : Aside0 (Kd.V k34 34 (((((w41.setCell ⟨gb627, 0, none⟩ (.int .i64 ((rd_T34 x613001_2 x11_3).f0))).setCell ⟨gb627, 1, none⟩ (.string ((rd_T34 x613001_2 x11_3).f1))).setCell ⟨gb627, 2, none⟩ (.bool ((rd_T34 x613001_2 x11_3).f2))).setCell ⟨gb627, 3, none⟩ (.int .i64 ((rd_T34 x613001_2 x11_3).f3))).setCell ⟨gb627, 4, none⟩ (.int .i64 ((rd_T34 x613001_2 x11_3).f4))) w.heap.size (fun k_ => k_ ≠ gb612 ∧ k_ ≠ gb613 ∧ k_ ≠ gb627) (.slice (some ad626) x613001_2.length co19) x613001_2) := ⟨by (with_reducible repeat (first | apply Kd.V_alloc | apply Kd.V_drewN | apply Kd.V_drew)); exact Kd.V_mono (zNV HO_614001.out (g := gb627) (fun _ hk => hk.2)) (fun _ hk => ⟨hk.1.1.1, ⟨hk.1.1.2, hk.1.2⟩⟩)⟩
                   have n3_ : Aside0 (Kd.V k32 32 (((((w41.setCell ⟨gb627, 0, none⟩ (.int .i64 ((rd_T34 x613001_2 x11_3).f0))).setCell ⟨gb627, 1, none⟩ (.string ((rd_T34 x613001_2 x11_3).f1))).setCell ⟨gb627, 2, none⟩ (.bool ((rd_T34 x613001_2 x11_3).f2))).setCell ⟨gb627, 3, none⟩ (.int .i64 ((rd_T34 x613001_2 x11_3).f3))).setCell ⟨gb627, 4, none⟩ (.int .i64 ((rd_T34 x613001_2 x11_3).f4))) w.heap.size (fun k_ => k_ ≠ gb612 ∧ k_ ≠ gb613 ∧ k_ ≠ gb627) (.slice Ao20 x613002_2.length co20) x613002_2) := ⟨by (with_reducible repeat (first | apply Kd.V_alloc | apply Kd.V_drewN | apply Kd.V_drew)); exact Kd.V_mono (zNV HO_614002.out (g := gb627) (fun _ hk => hk.2)) (fun _ hk => ⟨hk.1.1.1, ⟨hk.1.1.2, hk.1.2⟩⟩)⟩
                   have n4_ : Aside0 ((((((w41.setCell ⟨gb627, 0, none⟩ (.int .i64 ((rd_T34 x613001_2 x11_3).f0))).setCell ⟨gb627, 1, none⟩ (.string ((rd_T34 x613001_2 x11_3).f1))).setCell ⟨gb627, 2, none⟩ (.bool ((rd_T34 x613001_2 x11_3).f2))).setCell ⟨gb627, 3, none⟩ (.int .i64 ((rd_T34 x613001_2 x11_3).f3))).setCell ⟨gb627, 4, none⟩ (.int .i64 ((rd_T34 x613001_2 x11_3).f4))).heap[gb612]? = some (.cells #[.int .i64 t615, .slice Ao25 t616.length co25, .slice Ao27 t619.length co27] 27 (0, 0))) := ⟨zK BK612.out⟩
                   have n5_ : Aside0 ((((((w41.setCell ⟨gb627, 0, none⟩ (.int .i64 ((rd_T34 x613001_2 x11_3).f0))).setCell ⟨gb627, 1, none⟩ (.string ((rd_T34 x613001_2 x11_3).f1))).setCell ⟨gb627, 2, none⟩ (.bool ((rd_T34 x613001_2 x11_3).f2))).setCell ⟨gb627, 3, none⟩ (.int .i64 ((rd_T34 x613001_2 x11_3).f3))).setCell ⟨gb627, 4, none⟩ (.int .i64 ((rd_T34 x613001_2 x11_3).f4))).heap[gb613]? = some (.cells #[.int .i64 x613000_2, .slice (some ad626) x613001_2.length co19, .slice Ao20 x613002_2.length co20] 27 (0, 0))) := ⟨zK BK613.out⟩
                   have n6_ : Aside0 ((((((w41.setCell ⟨gb627, 0, none⟩ (.int .i64 ((rd_T34 x613001_2 x11_3).f0))).setCell ⟨gb627, 1, none⟩ (.string ((rd_T34 x613001_2 x11_3).f1))).setCell ⟨gb627, 2, none⟩ (.bool ((rd_T34 x613001_2 x11_3).f2))).setCell ⟨gb627, 3, none⟩ (.int .i64 ((rd_T34 x613001_2 x11_3).f3))).setCell ⟨gb627, 4, none⟩ (.int .i64 ((rd_T34 x613001_2 x11_3).f4))).heap[gb627]? = some (.cells #[.int .i64 ((rd_T34 x613001_2 x11_3).f0), .string ((rd_T34 x613001_2 x11_3).f1), .bool ((rd_T34 x613001_2 x11_3).f2), .int .i64 ((rd_T34 x613001_2 x11_3).f3), .int .i64 ((rd_T34 x613001_2 x11_3).f4)] 34 (0, 0))) := ⟨zP5 BK627.out⟩
                   have n7_ : Aside0 (Below w.heap.size w (((((w41.setCell ⟨gb627, 0, none⟩ (.int .i64 ((rd_T34 x613001_2 x11_3).f0))).setCell ⟨gb627, 1, none⟩ (.string ((rd_T34 x613001_2 x11_3).f1))).setCell ⟨gb627, 2, none⟩ (.bool ((rd_T34 x613001_2 x11_3).f2))).setCell ⟨gb627, 3, none⟩ (.int .i64 ((rd_T34 x613001_2 x11_3).f3))).setCell ⟨gb627, 4, none⟩ (.int .i64 ((rd_T34 x613001_2 x11_3).f4)))) := ⟨zL HB.out⟩
                   (try clear HO_613001)
                   (try clear HO_613002)
                   (try clear HO_614001)
                   (try clear HO_614002)
                   (try clear BK612)
                   (try clear BK613)
                   (try clear BK627)
                   (try clear HB)
                   generalize (((((w41.setCell ⟨gb627, 0, none⟩ (.int .i64 ((rd_T34 x613001_2 x11_3).f0))).setCell ⟨gb627, 1, none⟩ (.string ((rd_T34 x613001_2 x11_3).f1))).setCell ⟨gb627, 2, none⟩ (.bool ((rd_T34 x613001_2 x11_3).f2))).setCell ⟨gb627, 3, none⟩ (.int .i64 ((rd_T34 x613001_2 x11_3).f3))).setCell ⟨gb627, 4, none⟩ (.int .i64 ((rd_T34 x613001_2 x11_3).f4))) = w51 at n0_ n1_ n2_ n3_ n4_ n5_ n6_ n7_ ⊢
                   have HO_613001 := n0_
                   have HO_613002 := n1_
                   have HO_614001 := n2_
                   have HO_614002 := n3_
                   have BK612 := n4_
                   have BK613 := n5_
                   have BK627 := n6_
                   have HB := n7_
                   clear n0_ n1_ n2_ n3_ n4_ n5_ n6_ n7_
                   have n0_ := Aside0.mk (Kd.V_drew HO_613001.out)
                   have n1_ := Aside0.mk (Kd.V_drew HO_613002.out)
                   have n2_ := Aside0.mk (Kd.V_drew HO_614001.out)
                   have n3_ := Aside0.mk (Kd.V_drew HO_614002.out)
                   have n4_ := Aside0.mk (blk_drew BK612.out)
                   have n5_ := Aside0.mk (blk_drew BK613.out)
                   have n6_ := Aside0.mk (blk_drew BK627.out)
                   have n7_ := Aside0.mk (below_drew1 HB.out)
                   clear HO_613001
                   clear HO_613002
                   clear HO_614001
                   clear HO_614002
                   clear BK612
                   clear BK613
                   clear BK627
                   clear HB
                   have HO_613001 := n0_
                   have HO_613002 := n1_
                   have HO_614001 := n2_
                   have HO_614002 := n3_
                   have BK612 := n4_
                   have BK613 := n5_
                   have BK627 := n6_
                   have HB := n7_
                   clear n0_ n1_ n2_ n3_ n4_ n5_ n6_ n7_
                   have p628 : 0 ≤ (x8_2 : Int) := zD
                   have q628 : x8_2 < (l0.length : Int) := zD
                   obtain ⟨ad628, e628, hx628_0, hx628_1, hx628_2, hx628_3, hx628_4, hx628_5, hx628_6⟩ := at_T52 HR0.out x8_2 p628 q628
                   have hw628_6 := hx628_6
                   have hw628_5 := hx628_5
                   have hw628_4 := hx628_4
                   have hw628_3 := hx628_3
                   have hw628_2 := hx628_2
                   have hw628_1 := hx628_1
                   have hw628_0 := hx628_0
                   obtain rfl : ad614 = ad628 := (by injection e628)
                   replace hx628_0 := zX HB.out hx628_0
                   replace hx628_1 := zX HB.out hx628_1
                   replace hx628_2 := zX HB.out hx628_2
                   replace hx628_3 := zX HB.out hx628_3
                   replace hx628_4 := zX HB.out hx628_4
                   replace hx628_5 := zX HB.out hx628_5
                   replace hx628_6 := zX HB.out hx628_6
                   replace p628 := eq_true p628
                   replace q628 := eq_true q628
                   refine start_ (n := 19) (S := fun w' => w'.cell? ⟨gb627, 0, none⟩ = some (.int .i64 ((rd_T34 x613001_2 x11_3).f0)) ∧ w'.cell? ⟨gb627, 1, none⟩ = some (.string ((rd_T34 x613001_2 x11_3).f1)) ∧ w'.cell? ⟨gb627, 2, none⟩ = some (.bool ((rd_T34 x613001_2 x11_3).f2)) ∧ w'.cell? ⟨gb627, 3, none⟩ = some (.int .i64 ((rd_T34 x613001_2 x11_3).f3)) ∧ w'.cell? ⟨gb627, 4, none⟩ = some (.int .i64 ((rd_T34 x613001_2 x11_3).f4)) ∧ w'.cell? ⟨gb612, 0, none⟩ = some (.int .i64 t615) ∧ w'.cell? ⟨gb612, 1, none⟩ = some (.slice Ao25 t616.length co25) ∧ w'.cell? ⟨gb612, 2, none⟩ = some (.slice Ao27 t619.length co27) ∧ w'.cell? (ad614.add ((x8_2).toNat * 7)) = some (.int .i64 ((rd_T52 l0 x8_2).f0)) ∧ w'.cell? ⟨(ad614.add ((x8_2).toNat * 7)).block, (ad614.add ((x8_2).toNat * 7)).off + 1, none⟩ = some (.int .i64 ((rd_T52 l0 x8_2).f1)) ∧ w'.cell? ⟨(ad614.add ((x8_2).toNat * 7)).block, (ad614.add ((x8_2).toNat * 7)).off + 2, none⟩ = some (.int .i64 ((rd_T52 l0 x8_2).f2)) ∧ w'.cell? ⟨(ad614.add ((x8_2).toNat * 7)).block, (ad614.add ((x8_2).toNat * 7)).off + 3, none⟩ = some (.int .i64 ((rd_T52 l0 x8_2).f3)) ∧ w'.cell? ⟨(ad614.add ((x8_2).toNat * 7)).block, (ad614.add ((x8_2).toNat * 7)).off + 4, none⟩ = some (.int .i64 ((rd_T52 l0 x8_2).f4)) ∧ w'.cell? ⟨(ad614.add ((x8_2).toNat * 7)).block, (ad614.add ((x8_2).toNat * 7)).off + 5, none⟩ = some (.string ((rd_T52 l0 x8_2).f5)) ∧ w'.cell? ⟨(ad614.add ((x8_2).toNat * 7)).block, (ad614.add ((x8_2).toNat * 7)).off + 6, none⟩ = some (.bool ((rd_T52 l0 x8_2).f6))) (ds := []) #[false, false, false, false, false, false, false, false, false, false, false, false, false, false, false, false, false, false, false] (by kernel_rfl) rfl rfl ⟨(blk_cell BK627.out 0).trans rfl, (blk_cell BK627.out 1).trans rfl, (blk_cell BK627.out 2).trans rfl, (blk_cell BK627.out 3).trans rfl, (blk_cell BK627.out 4).trans rfl, (blk_cell BK612.out 0).trans rfl, (blk_cell BK612.out 1).trans rfl, (blk_cell BK612.out 2).trans rfl, (zX HB.out hw628_0), (zX HB.out hw628_1), (zX HB.out hw628_2), (zX HB.out hw628_3), (zX HB.out hw628_4), (zX HB.out hw628_5), (zX HB.out hw628_6)⟩ (fun hHeld => ?_); refine with_tabW cooperagelaw16_LeaseApart.tab16 cooperagelaw16_LeaseApart.bits16 (fun HT_ HW_ => ?_)
                   generalize w51.drew = w52 at HO_613001 HO_613002 HO_614001 HO_614002 BK612 BK613 BK627 HB hx628_0 hx628_1 hx628_2 hx628_3 hx628_4 hx628_5 hx628_6 hHeld ⊢
                   refine pure_ (i := 0) (N := some 70) (v := ?_) (a' := ?_) #[true, false, false, false, false, false, false, false, false, false, false, false, false, false, false, false, false, false, false] rfl rfl (any_of HT_.out (by kernel_rfl)) (fun _ _ _ h => h) (Or.inl ⟨by rfl, ?_⟩) ?_ ?_
                   rotate_left
                   ·intro w'
                    go_simp
                    with_reducible rfl
                   rotate_left
                   ·simp only [Act.put, List.setIfInBounds_toArray, List.set_cons_zero, List.set_cons_succ, i64_w, i32_w]
                    rfl
                   refine pure_ (i := 2) (N := some 72) (v := ?_) (a' := ?_) #[true, false, true, false, false, false, false, false, false, false, false, false, false, false, false, false, false, false, false] rfl rfl (any_of HT_.out (by kernel_rfl)) (fun _ _ _ h => h) (Or.inl ⟨by rfl, ?_⟩) ?_ ?_
                   rotate_left
                   ·intro w'
                    go_simp
                    with_reducible rfl
                   rotate_left
                   ·simp only [Act.put, List.setIfInBounds_toArray, List.set_cons_zero, List.set_cons_succ, i64_w, i32_w]
                    rfl
                   refine pure_ (i := 3) (N := some 73) (v := ?_) (a' := ?_) #[true, false, true, true, false, false, false, false, false, false, false, false, false, false, false, false, false, false, false] rfl rfl (any_of HT_.out (by kernel_rfl)) (fun _ _ _ h => h) (Or.inl ⟨by rfl, ?_⟩) ?_ ?_
                   rotate_left
                   ·intro w'
                    go_simp
                    with_reducible rfl
                   rotate_left
                   ·simp only [Act.put, List.setIfInBounds_toArray, List.set_cons_zero, List.set_cons_succ, i64_w, i32_w]
                    rfl
                   refine pure_ (i := 4) (N := some 74) (v := ?_) (a' := ?_) #[true, false, true, true, true, false, false, false, false, false, false, false, false, false, false, false, false, false, false] rfl rfl (any_of HT_.out (by kernel_rfl)) (fun _ _ _ h => h) (Or.inl ⟨by rfl, ?_⟩) ?_ ?_
                   rotate_left
                   ·intro w'
                    go_simp
                    with_reducible rfl
                   rotate_left
                   ·simp only [Act.put, List.setIfInBounds_toArray, List.set_cons_zero, List.set_cons_succ, i64_w, i32_w]
                    rfl
                   refine pure_ (i := 5) (N := some 75) (v := ?_) (a' := ?_) #[true, false, true, true, true, true, false, false, false, false, false, false, false, false, false, false, false, false, false] rfl rfl (any_of HT_.out (by kernel_rfl)) (fun _ _ _ h => h) (Or.inl ⟨by rfl, ?_⟩) ?_ ?_
                   rotate_left
                   ·intro w'
                    go_simp
                    with_reducible rfl
                   rotate_left
                   ·simp only [Act.put, List.setIfInBounds_toArray, List.set_cons_zero, List.set_cons_succ, i64_w, i32_w]
                    rfl
                   refine take_ (i := 1) (N := some 71) (v := ?_) (a' := ?_) #[true, true, true, true, true, true, false, false, false, false, false, false, false, false, false, false, false, false, false] rfl rfl (take_ofW HT_.out HW_.out (by kernel_rfl)) (fun _ _ _ h => h) (Or.inl ⟨by rfl, ?_⟩) hHeld ?_ ?_
                   rotate_left
                   ·rintro w' ⟨s0, s1, s2, s3, s4, s5, s6, s7, s8, s9, s10, s11, s12, s13, s14⟩
                    go_simp
                    with_reducible rfl
                   rotate_left
                   ·simp only [Act.put, List.setIfInBounds_toArray, List.set_cons_zero, List.set_cons_succ, i64_w, i32_w]
                    rfl
                   refine take_ (i := 6) (N := some 76) (v := ?_) (a' := ?_) #[true, true, true, true, true, true, true, false, false, false, false, false, false, false, false, false, false, false, false] rfl rfl (take_ofW HT_.out HW_.out (by kernel_rfl)) (fun _ _ _ h => h) (Or.inl ⟨by rfl, ?_⟩) hHeld ?_ ?_
                   rotate_left
                   ·rintro w' ⟨s0, s1, s2, s3, s4, s5, s6, s7, s8, s9, s10, s11, s12, s13, s14⟩
                    go_simp
                    with_reducible rfl
                   rotate_left
                   ·simp only [Act.put, List.setIfInBounds_toArray, List.set_cons_zero, List.set_cons_succ, i64_w, i32_w]
                    rfl
                   refine pure_ (i := 7) (N := some 77) (v := ?_) (a' := ?_) #[true, true, true, true, true, true, true, true, false, false, false, false, false, false, false, false, false, false, false] rfl rfl (any_of HT_.out (by kernel_rfl)) (fun _ _ _ h => h) (Or.inl ⟨by rfl, ?_⟩) ?_ ?_
                   rotate_left
                   ·intro w'
                    go_simp
                    with_reducible rfl
                   rotate_left
                   ·simp only [Act.put, List.setIfInBounds_toArray, List.set_cons_zero, List.set_cons_succ, i64_w, i32_w]
                    rfl
                   refine pure_ (i := 8) (N := some 78) (v := ?_) (a' := ?_) #[true, true, true, true, true, true, true, true, true, false, false, false, false, false, false, false, false, false, false] rfl rfl (any_of HT_.out (by kernel_rfl)) (fun _ _ _ h => h) (Or.inl ⟨by rfl, ?_⟩) ?_ ?_
                   rotate_left
                   ·intro w'
                    go_simp
                    with_reducible rfl
                   rotate_left
                   ·simp only [Act.put, List.setIfInBounds_toArray, List.set_cons_zero, List.set_cons_succ, i64_w, i32_w]
                    rfl
                   refine pure_ (i := 10) (N := some 80) (v := ?_) (a' := ?_) #[true, true, true, true, true, true, true, true, true, false, true, false, false, false, false, false, false, false, false] rfl rfl (any_of HT_.out (by kernel_rfl)) (fun _ _ _ h => h) (Or.inl ⟨by rfl, ?_⟩) ?_ ?_
                   rotate_left
                   ·intro w'
                    go_simp
                    with_reducible rfl
                   rotate_left
                   ·simp only [Act.put, List.setIfInBounds_toArray, List.set_cons_zero, List.set_cons_succ, i64_w, i32_w]
                    rfl
                   refine pure_ (i := 12) (N := some 82) (v := ?_) (a' := ?_) #[true, true, true, true, true, true, true, true, true, false, true, false, true, false, false, false, false, false, false] rfl rfl (any_of HT_.out (by kernel_rfl)) (fun _ _ _ h => h) (Or.inl ⟨by rfl, ?_⟩) ?_ ?_
                   rotate_left
                   ·intro w'
                    go_simp
                    with_reducible rfl
                   rotate_left
                   ·simp only [Act.put, List.setIfInBounds_toArray, List.set_cons_zero, List.set_cons_succ, i64_w, i32_w]
                    rfl
                   refine pure_ (i := 14) (N := some 84) (v := ?_) (a' := ?_) #[true, true, true, true, true, true, true, true, true, false, true, false, true, false, true, false, false, false, false] rfl rfl (any_of HT_.out (by kernel_rfl)) (fun _ _ _ h => h) (Or.inl ⟨by rfl, ?_⟩) ?_ ?_
                   rotate_left
                   ·intro w'
                    go_simp
                    with_reducible rfl
                   rotate_left
                   ·simp only [Act.put, List.setIfInBounds_toArray, List.set_cons_zero, List.set_cons_succ, i64_w, i32_w]
                    rfl
                   refine take_ (i := 9) (N := some 79) (v := ?_) (a' := ?_) #[true, true, true, true, true, true, true, true, true, true, true, false, true, false, true, false, false, false, false] rfl rfl (take_ofW HT_.out HW_.out (by kernel_rfl)) (fun _ _ _ h => h) (Or.inl ⟨by rfl, ?_⟩) hHeld ?_ ?_
                   rotate_left
                   ·rintro w' ⟨s0, s1, s2, s3, s4, s5, s6, s7, s8, s9, s10, s11, s12, s13, s14⟩
                    go_simp
                    with_reducible rfl
                   rotate_left
                   ·simp only [Act.put, List.setIfInBounds_toArray, List.set_cons_zero, List.set_cons_succ, i64_w, i32_w]
                    rfl
                   refine take_ (i := 11) (N := some 81) (v := ?_) (a' := ?_) #[true, true, true, true, true, true, true, true, true, true, true, true, true, false, true, false, false, false, false] rfl rfl (take_ofW HT_.out HW_.out (by kernel_rfl)) (fun _ _ _ h => h) (Or.inl ⟨by rfl, ?_⟩) hHeld ?_ ?_
                   rotate_left
                   ·rintro w' ⟨s0, s1, s2, s3, s4, s5, s6, s7, s8, s9, s10, s11, s12, s13, s14⟩
                    go_simp
                    with_reducible rfl
                   rotate_left
                   ·simp only [Act.put, List.setIfInBounds_toArray, List.set_cons_zero, List.set_cons_succ, i64_w, i32_w]
                    rfl
                   refine take_ (i := 13) (N := some 83) (v := ?_) (a' := ?_) #[true, true, true, true, true, true, true, true, true, true, true, true, true, true, true, false, false, false, false] rfl rfl (take_ofW HT_.out HW_.out (by kernel_rfl)) (fun _ _ _ h => h) (Or.inl ⟨by rfl, ?_⟩) hHeld ?_ ?_
                   rotate_left
                   ·rintro w' ⟨s0, s1, s2, s3, s4, s5, s6, s7, s8, s9, s10, s11, s12, s13, s14⟩
                    go_simp
                    with_reducible rfl
                   rotate_left
                   ·simp only [Act.put, List.setIfInBounds_toArray, List.set_cons_zero, List.set_cons_succ, i64_w, i32_w]
                    rfl
                   refine take_ (i := 15) (N := some 85) (v := ?_) (a' := ?_) #[true, true, true, true, true, true, true, true, true, true, true, true, true, true, true, true, false, false, false] rfl rfl (take_ofW HT_.out HW_.out (by kernel_rfl)) (fun _ _ _ h => h) (Or.inl ⟨by rfl, ?_⟩) hHeld ?_ ?_
                   rotate_left
                   ·rintro w' ⟨s0, s1, s2, s3, s4, s5, s6, s7, s8, s9, s10, s11, s12, s13, s14⟩
                    go_simp
                    with_reducible rfl
                   rotate_left
                   ·simp only [Act.put, List.setIfInBounds_toArray, List.set_cons_zero, List.set_cons_succ, i64_w, i32_w]
                    rfl
                   refine one_ (i := 16) (N := some 86) #[true, true, true, true, true, true, true, true, true, true, true, true, true, true, true, true, true, false, false] rfl rfl (one_of HT_.out (by kernel_rfl)) (by decide) (fun K hK => ?_)
                   refine goes_ Tryd.func23 (by kernel_rfl) rfl #[.agg #[.int .i64 t615, .slice Ao25 t616.length co25, .slice Ao27 t619.length co27], .int .i64 ((rd_T34 x613001_2 x11_3).f0), .string ((rd_T34 x613001_2 x11_3).f1), .int .i64 ((rd_T34 x613001_2 x11_3).f3)] (by rfl) rfl rfl zA ?_
                   with_reducible refine (lease_Valid.calls kj28 t615 _ _ t616 _ _ t619 ((rd_T34 x613001_2 x11_3).f0) ((rd_T34 x613001_2 x11_3).f1) ((rd_T34 x613001_2 x11_3).f3) t629 _ ?side1 ?side2 ?side3 ?side4 A50.out).mono ?_
                   (case side1 => repeat (first | exact (Kd.V_reads' HO_613001.out).2.2 | (with_reducible refine Kd.C_alloc ?_ _) | (with_reducible refine Kd.C_drewN ?_ _) | (with_reducible refine Kd.C_drew ?_)))
                   (case side2 => exact (Kd.V_reads' HO_613001.out).2.1)
                   (case side3 => repeat (first | exact (Kd.V_reads' HO_613002.out).2.2 | (with_reducible refine Kd.C_alloc ?_ _) | (with_reducible refine Kd.C_drewN ?_ _) | (with_reducible refine Kd.C_drew ?_)))
                   (case side4 => exact (Kd.V_reads' HO_613002.out).2.1)
                   rintro e w53 ⟨rfl, hb⟩
                   refine ⟨_, rfl, ?_⟩
                   have n0_ := Aside0.mk (Kd.V_below (zV HO_613001.out) hb)
                   have n1_ := Aside0.mk (Kd.V_below (zV HO_613002.out) hb)
                   have n2_ := Aside0.mk (Kd.V_below (zV HO_614001.out) hb)
                   have n3_ := Aside0.mk (Kd.V_below (zV HO_614002.out) hb)
                   have n4_ := Aside0.mk (blk_below (g := gb612) (o := .cells #[.int .i64 t615, .slice Ao25 t616.length co25, .slice Ao27 t619.length co27] 27 (0, 0)) (zK BK612.out) hb)
                   have n5_ := Aside0.mk (blk_below (g := gb613) (o := .cells #[.int .i64 x613000_2, .slice (some ad626) x613001_2.length co19, .slice Ao20 x613002_2.length co20] 27 (0, 0)) (zK BK613.out) hb)
                   have n6_ := Aside0.mk (blk_below (g := gb627) (o := .cells #[.int .i64 ((rd_T34 x613001_2 x11_3).f0), .string ((rd_T34 x613001_2 x11_3).f1), .bool ((rd_T34 x613001_2 x11_3).f2), .int .i64 ((rd_T34 x613001_2 x11_3).f3), .int .i64 ((rd_T34 x613001_2 x11_3).f4)] 34 (0, 0)) (zK BK627.out) hb)
                   have n7_ := Aside0.mk (below_step (zL HB.out) hb)
                   clear HO_613001
                   clear HO_613002
                   clear HO_614001
                   clear HO_614002
                   clear BK612
                   clear BK613
                   clear BK627
                   clear HB
                   have HO_613001 := n0_
                   have HO_613002 := n1_
                   have HO_614001 := n2_
                   have HO_614002 := n3_
                   have BK612 := n4_
                   have BK613 := n5_
                   have BK627 := n6_
                   have HB := n7_
                   clear n0_ n1_ n2_ n3_ n4_ n5_ n6_ n7_
                   (try clear hb)
                   (try clear hb2)
                   (try clear hk)
                   (try clear hi)
                   refine hK.out _ _ ⟨(blk_cell BK627.out 0).trans rfl, (blk_cell BK627.out 1).trans rfl, (blk_cell BK627.out 2).trans rfl, (blk_cell BK627.out 3).trans rfl, (blk_cell BK627.out 4).trans rfl, (blk_cell BK612.out 0).trans rfl, (blk_cell BK612.out 1).trans rfl, (blk_cell BK612.out 2).trans rfl, (zX HB.out hw628_0), (zX HB.out hw628_1), (zX HB.out hw628_2), (zX HB.out hw628_3), (zX HB.out hw628_4), (zX HB.out hw628_5), (zX HB.out hw628_6)⟩ (fun hHeld => ?_)
                   clear hK K
                   refine norm_ (a' := ?_) ?_ ?_
                   rotate_left
                   ·show Act.put _ (some 86) _ = _
                    simp only [Act.put, List.setIfInBounds_toArray, List.set_cons_zero, List.set_cons_succ, i64_w, i32_w]
                    rfl
                   refine pure_ (i := 17) (N := some 87) (v := ?_) (a' := ?_) #[true, true, true, true, true, true, true, true, true, true, true, true, true, true, true, true, true, true, false] rfl rfl (any_of HT_.out (by kernel_rfl)) (fun _ _ _ h => h) (Or.inl ⟨by rfl, ?_⟩) ?_ ?_
                   rotate_left
                   ·intro w'
                    go_simp
                    with_reducible rfl
                   rotate_left
                   ·simp only [Act.put, List.setIfInBounds_toArray, List.set_cons_zero, List.set_cons_succ, i64_w, i32_w]
                    rfl
                   refine pure_ (i := 18) (N := some 88) (v := ?_) (a' := ?_) #[true, true, true, true, true, true, true, true, true, true, true, true, true, true, true, true, true, true, true] rfl rfl (any_of HT_.out (by kernel_rfl)) (fun _ _ _ h => h) (Or.inl ⟨by rfl, ?_⟩) ?_ ?_
                   rotate_left
                   ·intro w'
                    go_simp
                    with_reducible rfl
                   rotate_left
                   ·simp only [Act.put, List.setIfInBounds_toArray, List.set_cons_zero, List.set_cons_succ, i64_w, i32_w]
                    rfl
                   refine done_ (done_of HT_.out (by kernel_rfl)) ?_
                   try go_wp2
                   go_meet
                   case rel => exact ⟨_, (!t629), zS, H', ⟨by have := HJ4.out; have := HK2.out; have := HK3.out; have := HJ28.out; first | omega | exact Nat.le_refl _⟩, ⟨by (with_reducible repeat (first | apply Kd.V_alloc | apply Kd.V_drewN | apply Kd.V_drew)); exact HO_613001.out⟩, ⟨by (with_reducible repeat (first | apply Kd.V_alloc | apply Kd.V_drewN | apply Kd.V_drew)); exact HO_613002.out⟩, ⟨by (with_reducible repeat (first | apply Kd.V_alloc | apply Kd.V_drewN | apply Kd.V_drew)); exact HO_614001.out⟩, ⟨by (with_reducible repeat (first | apply Kd.V_alloc | apply Kd.V_drewN | apply Kd.V_drew)); exact HO_614002.out⟩, ⟨zK BK612.out⟩, ⟨zK BK613.out⟩, ⟨zK BK627.out⟩, ⟨zL HB.out⟩⟩
                 ·rw [if_neg c46] at H
                  exact absurd H (by simp)
                ·rw [if_neg c45] at H
                 exact absurd H (by simp)
               case rest =>
                clear HC38
                try clear c1
                try clear c2
                try clear p2
                try clear c3
                try clear c4
                try clear p6
                try clear q6
                try clear hx6
                try clear c8
                try clear c9
                try clear c11
                try clear c11b0
                try clear c12
                try clear c12b0
                try clear c13
                try clear c16
                try clear c17
                try clear c23
                try clear c30
                try clear c30b0
                try clear c31
                try clear c33
                try clear c35
                try clear c36
                try clear c36b0
                try clear c37
                try clear c37b0
                try clear c39
                try clear c42
                try clear c43
                try clear c45
                try clear c45b0
                try clear c46
                try clear c46b0
                try clear c47
                try clear c47b0
                try clear c47b1
                try clear hcz10_0
                try clear hcz10_1
                try clear hcz10_2
                try clear hcz15_0
                try clear hcz15_1
                try clear hcz15_2
                try clear hcz18_0
                try clear hcz18_1
                try clear hcz18_2
                try clear hcz32_0
                try clear hcz32_1
                try clear hcz32_2
                try clear hcz34_0
                try clear hcz34_1
                try clear hcz34_2
                try clear hcz40_0
                try clear hcz40_1
                try clear hcz40_2
                try clear hcz44_0
                try clear hcz44_1
                try clear hcz44_2
                try clear hcz44_3
                try clear hcz44_4
                try clear hfz10_0
                try clear hfz10_1
                try clear hfz10_2
                try clear hfz15_0
                try clear hfz15_1
                try clear hfz15_2
                try clear hfz18_0
                try clear hfz18_1
                try clear hfz18_2
                try clear hfz32_0
                try clear hfz32_1
                try clear hfz32_2
                try clear hfz34_0
                try clear hfz34_1
                try clear hfz34_2
                try clear hfz40_0
                try clear hfz40_1
                try clear hfz40_2
                try clear hfz44_0
                try clear hfz44_1
                try clear hfz44_2
                try clear hfz44_3
                try clear hfz44_4
                try clear hx614_0
                try clear hx614_1
                try clear hx614_2
                try clear hx614_3
                try clear hx614_4
                try clear hx614_5
                try clear hx614_6
                try clear hx624_0
                try clear hx624_1
                try clear hx624_2
                try clear hx624_3
                try clear hx624_4
                try clear hx624_5
                try clear hx624_6
                try clear hx626_0
                try clear hx626_1
                try clear hx626_2
                try clear hx626_3
                try clear hx626_4
                try clear hx628_0
                try clear hx628_1
                try clear hx628_2
                try clear hx628_3
                try clear hx628_4
                try clear hx628_5
                try clear hx628_6
                try clear p2
                try clear p6
                try clear p614
                try clear p624
                try clear p626
                try clear p628
                try clear q6
                try clear q614
                try clear q624
                try clear q626
                try clear q628
                obtain ⟨kq, x88_37, rfl, HA, HJ37, HO_613001, HO_613002, HO_614001, HO_614002, BK612, BK613, BK627, HB⟩ := hcut
                cases kq with
                | zero => exact absurd HA.out (by simp [cooperagelaw16_LeaseApart.j4])
                | succ kj37 =>
                 have H := HA.out
                 clear HA
                 simp only [cooperagelaw16_LeaseApart.j4] at H
                 by_cases c54 : x88_37 = true
                 ·subst c54
                  have H1 : (some false) = some r := by rw [if_pos rfl] at H; exact H
                  clear H
                  have H := H1
                  clear H1
                  obtain rfl := Option.some.inj H
                  go_wp2
                  go_ret
                  exact ⟨zE, zL HB.out⟩
                 ·replace c54 := Bool.eq_false_iff.mpr c54
                  subst c54
                  have H1 : (cooperagelaw16_LeaseApart.l1 kj37 l0 a1 x8_2 t625 (wrap64 (x11_3 + 1)) t615 t616 t619 x613000_2 x613001_2 x613002_2) = some r := by rw [if_neg (show ¬ (false = true) by decide)] at H; exact H
                  clear H
                  have H := H1
                  clear H1
                  have H' := Aside0.mk H
                  clear H
                  go_wp2
                  go_roundg kj37
                  case measure => have := HJ4.out; have := HK2.out; have := HK3.out; have := HJ28.out; have := HJ37.out; omega
                  case rel => exact ⟨(wrap64 (x11_3 + 1)), zS, H', ⟨by have := HJ4.out; have := HK2.out; have := HK3.out; have := HJ28.out; have := HJ37.out; omega⟩, ⟨by (with_reducible repeat (first | apply Kd.V_alloc | apply Kd.V_drewN | apply Kd.V_drew)); exact Kd.V_mono HO_613001.out (fun _ hk => ⟨hk.1, hk.2.1⟩)⟩, ⟨by (with_reducible repeat (first | apply Kd.V_alloc | apply Kd.V_drewN | apply Kd.V_drew)); exact Kd.V_mono HO_613002.out (fun _ hk => ⟨hk.1, hk.2.1⟩)⟩, ⟨by (with_reducible repeat (first | apply Kd.V_alloc | apply Kd.V_drewN | apply Kd.V_drew)); exact Kd.V_mono HO_614001.out (fun _ hk => ⟨hk.1, hk.2.1⟩)⟩, ⟨by (with_reducible repeat (first | apply Kd.V_alloc | apply Kd.V_drewN | apply Kd.V_drew)); exact Kd.V_mono HO_614002.out (fun _ hk => ⟨hk.1, hk.2.1⟩)⟩, ⟨zK BK612.out⟩, ⟨zK BK613.out⟩, ⟨zL HB.out⟩⟩
              ·rw [if_neg c37] at H
               exact absurd H (by simp)
             ·rw [if_neg c36] at H
              exact absurd H (by simp)
            ·replace c35 := Bool.eq_false_iff.mpr c35
             subst c35
             have H1 : (cooperagelaw16_LeaseApart.l0 kj28 l0 a1 (wrap64 (x8_2 + 1)) t615 t616 t619) = some r := by rw [if_neg (show ¬ (false = true) by decide)] at H; exact H
             clear H
             have H := H1
             clear H1
             have H' := Aside0.mk H
             clear H
             go_wp2
             go_roundg kj28
             case measure => have := HJ4.out; have := HK2.out; have := HK3.out; have := HJ28.out; omega
             case rel => exact ⟨(wrap64 (x8_2 + 1)), (t615), (t616), (t619), (.slice Ao25 t616.length co25), (.slice Ao27 t619.length co27), zS, H', ⟨by have := HJ4.out; have := HK2.out; have := HK3.out; have := HJ28.out; omega⟩, ⟨by (with_reducible repeat (first | apply Kd.V_alloc | apply Kd.V_drewN | apply Kd.V_drew)); exact Kd.V_mono HO_613001.out (fun _ hk => hk.1)⟩, ⟨by (with_reducible repeat (first | apply Kd.V_alloc | apply Kd.V_drewN | apply Kd.V_drew)); exact Kd.V_mono HO_613002.out (fun _ hk => hk.1)⟩, ⟨zK BK612.out⟩, ⟨zL HB.out⟩⟩
       ·rw [if_neg c12] at H
        exact absurd H (by simp)
      ·rw [if_neg c11] at H
       have c11b0 : decide (x8_2 < (l0.length : Int)) = false := decide_eq_false c11
       clear c11
       replace H := Option.bind_eq_some_iff.mp H
       obtain ⟨⟨t630, t631, t634⟩, A550, H⟩ := H
       replace H : (cooperagelaw16_LeaseApart.l2 k2 a1 0 x613000_2 x613001_2 x613002_2 t630 t631 t634) = some r := H
       have A55 := Aside0.mk A550
       clear A550
       have H' := Aside0.mk H
       clear H
       obtain ⟨hcz56_0, hcz56_1, hcz56_2, hfz56_0, hfz56_1, hfz56_2⟩ := zC3 BK612.out
       obtain ⟨Ao57, co57, eo57⟩ := Kd.V_slice HO_613001.out
       subst eo57
       obtain ⟨Ao58, co58, eo58⟩ := Kd.V_slice HO_613002.out
       subst eo58
       go_wp2_with (first | ((with_reducible refine gate_callee (f := 15) rfl ?_); refine goesL_ (some 93) rfl rfl Tryd.func15 (by kernel_rfl) rfl #[.agg #[.int .i64 x613000_2, .slice Ao57 x613001_2.length co57, .slice Ao58 x613002_2.length co58], .int .i64 a1, .int .i64 (l0.length : Int)] rfl zA ?_; (with_reducible refine (lease_Leave.calls k2 x613000_2 (fun k_ => k_ ≠ gb612) _ _ x613001_2 (fun k_ => k_ ≠ gb612) _ _ x613002_2 a1 (l0.length : Int) t630 t631 t634 _ ?side1 ?side2 A55.out).mono ?_); (case side1 => exact HO_613001.out); (case side2 => exact HO_613002.out); rintro e w59 ⟨v632, v635, rfl, ho0, ho1, hb⟩; refine ⟨_, rfl, ?_⟩; have n0_ := Aside0.mk (Kd.V_below (zV HO_613001.out) hb); have n1_ := Aside0.mk (Kd.V_below (zV HO_613002.out) hb); have n2_ := Aside0.mk (Kd.V_lower (Kd.V_mono (ok' := fun k_ => k_ ≠ gb612) ho0 (fun k_ hk_ => Or.elim hk_ (fun hs_ => Or.elim hs_ (fun hs_ => hs_) (fun hs_ => hs_)) (fun hn_ => (Kd.freshB (g := gb612) (o := .cells #[.int .i64 x613000_2, .slice Ao57 x613001_2.length co57, .slice Ao58 x613002_2.length co58] 27 (0, 0)) (zK BK612.out) k_ hn_)))) (below_size (zL HB.out))); have n3_ := Aside0.mk (Kd.V_lower (Kd.V_mono (ok' := fun k_ => k_ ≠ gb612) ho1 (fun k_ hk_ => Or.elim hk_ (fun hs_ => Or.elim hs_ (fun hs_ => hs_) (fun hs_ => hs_)) (fun hn_ => (Kd.freshB (g := gb612) (o := .cells #[.int .i64 x613000_2, .slice Ao57 x613001_2.length co57, .slice Ao58 x613002_2.length co58] 27 (0, 0)) (zK BK612.out) k_ hn_)))) (below_size (zL HB.out))); have n4_ := Aside0.mk (blk_below (g := gb612) (o := .cells #[.int .i64 x613000_2, .slice Ao57 x613001_2.length co57, .slice Ao58 x613002_2.length co58] 27 (0, 0)) (zK BK612.out) hb); have n5_ := Aside0.mk (below_step (zL HB.out) hb); revert n0_ n1_ n2_ n3_ n4_ n5_; clear HO_613001 HO_613002 BK612 HB; intro HO_613001 HO_613002 HO633 HO636 BK612 HB; (try clear hb); (try clear hb2); (try clear hk); (try clear hi); (try clear ho0); (try clear ho1)) | ((with_reducible refine gate_dst (N := 13) rfl ?_); refine box_event ?hg (N := 13) ?hd (cs := #[.int .i64 0, .slice none 0 0, .slice none 0 0]) (t := 27) ?hr ?_; (case hd => rfl); (case hg => rfl); (case hr => first | (go_simp; done) | (go_simp; rfl)); intro gb637 hg w60 hbox hb; have n0_ := Aside0.mk (Kd.V_below (Kd.V_elderB (zV HO_613001.out) gb637 (Nat.le_of_eq hg.symm)) hb); have n1_ := Aside0.mk (Kd.V_below (Kd.V_elderB (zV HO_613002.out) gb637 (Nat.le_of_eq hg.symm)) hb); have n2_ := Aside0.mk (Kd.V_below (Kd.V_elderB (zV HO633.out) gb637 (Nat.le_of_eq hg.symm)) hb); have n3_ := Aside0.mk (Kd.V_below (Kd.V_elderB (zV HO636.out) gb637 (Nat.le_of_eq hg.symm)) hb); have n4_ := Aside0.mk (blk_below (g := gb612) (o := .cells #[.int .i64 x613000_2, .slice Ao57 x613001_2.length co57, .slice Ao58 x613002_2.length co58] 27 (0, 0)) (zK BK612.out) hb); have n5_ := Aside0.mk (below_step (zL HB.out) hb); have n6_ := Aside0.mk (hbox); have n7_ := Aside0.mk (zG hg (zL HB.out)); have n8_ := Aside0.mk (zG hg (zL HB.out)); have n9_ := Aside0.mk (zN (g := gb612) (o := .cells #[.int .i64 x613000_2, .slice Ao57 x613001_2.length co57, .slice Ao58 x613002_2.length co58] 27 (0, 0)) hg (zK BK612.out)); have n10_ := Aside0.mk (zO (g := gb612) (o := .cells #[.int .i64 x613000_2, .slice Ao57 x613001_2.length co57, .slice Ao58 x613002_2.length co58] 27 (0, 0)) hg (zK BK612.out)); revert n0_ n1_ n2_ n3_ n4_ n5_ n6_ n7_ n8_ n9_ n10_; clear HO_613001 HO_613002 HO633 HO636 BK612 HB; intro HO_613001 HO_613002 HO633 HO636 BK612 HB BK637 GW637 GE637 NB612_637 NB637_612; clear hb hbox hg; have hnb61 := NB637_612.out; have hnc61 := NB612_637.out; obtain ⟨hcz62_0, hcz62_1, hcz62_2, hfz62_0, hfz62_1, hfz62_2⟩ := zC3 BK637.out; obtain ⟨Ao63, co63, eo63⟩ := Kd.V_slice HO633.out; subst eo63; obtain ⟨Ao64, co64, eo64⟩ := Kd.V_slice HO636.out; subst eo64))
       go_loopg [14] k2 (fun kq v14 w' => ∃ (x14_3 : Int), v14 = .int .i64 x14_3 ∧ Aside0 (cooperagelaw16_LeaseApart.l2 kq a1 x14_3 x613000_2 x613001_2 x613002_2 t630 t631 t634 = some r) ∧ Aside0 (kq ≤ k2) ∧ Aside0 (Kd.V k34 34 w' w.heap.size (fun k_ => k_ ≠ gb612 ∧ k_ ≠ gb637) (.slice Ao57 x613001_2.length co57) x613001_2) ∧ Aside0 (Kd.V k32 32 w' w.heap.size (fun k_ => k_ ≠ gb612 ∧ k_ ≠ gb637) (.slice Ao58 x613002_2.length co58) x613002_2) ∧ Aside0 (Kd.V k34 34 w' w.heap.size (fun k_ => k_ ≠ gb612 ∧ k_ ≠ gb637) (.slice Ao63 t631.length co63) t631) ∧ Aside0 (Kd.V k32 32 w' w.heap.size (fun k_ => k_ ≠ gb612 ∧ k_ ≠ gb637) (.slice Ao64 t634.length co64) t634) ∧ Aside0 (w'.heap[gb612]? = some (.cells #[.int .i64 x613000_2, (.slice Ao57 x613001_2.length co57), (.slice Ao58 x613002_2.length co58)] 27 (0, 0))) ∧ Aside0 (w'.heap[gb637]? = some (.cells #[.int .i64 t630, (.slice Ao63 t631.length co63), (.slice Ao64 t634.length co64)] 27 (0, 0))) ∧ Aside0 (Below w.heap.size w w'))
       case atStart => exact ⟨(0), zS, H', ⟨Nat.le_refl _⟩, ⟨by (with_reducible repeat (first | apply Kd.V_alloc | apply Kd.V_drewN | apply Kd.V_drew)); exact Kd.V_mono (zNV HO_613001.out (g := gb637) (fun _ hk => hk.2)) (fun _ hk => ⟨hk.1.1, hk.1.2⟩)⟩, ⟨by (with_reducible repeat (first | apply Kd.V_alloc | apply Kd.V_drewN | apply Kd.V_drew)); exact Kd.V_mono (zNV HO_613002.out (g := gb637) (fun _ hk => hk.2)) (fun _ hk => ⟨hk.1.1, hk.1.2⟩)⟩, ⟨by (with_reducible repeat (first | apply Kd.V_alloc | apply Kd.V_drewN | apply Kd.V_drew)); exact Kd.V_mono (zNV HO633.out (g := gb637) (fun _ hk => hk.2)) (fun _ hk => ⟨hk.1.1, hk.1.2⟩)⟩, ⟨by (with_reducible repeat (first | apply Kd.V_alloc | apply Kd.V_drewN | apply Kd.V_drew)); exact Kd.V_mono (zNV HO636.out (g := gb637) (fun _ hk => hk.2)) (fun _ hk => ⟨hk.1.1, hk.1.2⟩)⟩, ⟨zK BK612.out⟩, ⟨zP3 BK637.out⟩, ⟨zL HB.out⟩⟩
       case round =>
        clear H'
        try clear c1
        try clear c2
        try clear p2
        try clear c3
        try clear c4
        try clear c5
        try clear c6
        try clear p6
        try clear q6
        try clear hx6
        try clear c8
        try clear c9
        try clear c11
        try clear c11b0
        try clear c12
        try clear c12b0
        try clear c13
        try clear c15
        try clear c16
        try clear c17
        try clear c23
        try clear c30
        try clear c30b0
        try clear c31
        try clear c33
        try clear c35
        try clear c36
        try clear c36b0
        try clear c37
        try clear c37b0
        try clear c39
        try clear c42
        try clear c43
        try clear c45
        try clear c45b0
        try clear c46
        try clear c46b0
        try clear c47
        try clear c47b0
        try clear c47b1
        try clear c54
        try clear c61
        try clear p61
        try clear q61
        try clear hx61
        try clear p62
        try clear q62
        try clear hx62
        try clear p64
        try clear hcz10_0
        try clear hcz10_1
        try clear hcz10_2
        try clear hcz15_0
        try clear hcz15_1
        try clear hcz15_2
        try clear hcz18_0
        try clear hcz18_1
        try clear hcz18_2
        try clear hcz32_0
        try clear hcz32_1
        try clear hcz32_2
        try clear hcz34_0
        try clear hcz34_1
        try clear hcz34_2
        try clear hcz40_0
        try clear hcz40_1
        try clear hcz40_2
        try clear hcz44_0
        try clear hcz44_1
        try clear hcz44_2
        try clear hcz44_3
        try clear hcz44_4
        try clear hcz56_0
        try clear hcz56_1
        try clear hcz56_2
        try clear hcz62_0
        try clear hcz62_1
        try clear hcz62_2
        try clear hfz10_0
        try clear hfz10_1
        try clear hfz10_2
        try clear hfz15_0
        try clear hfz15_1
        try clear hfz15_2
        try clear hfz18_0
        try clear hfz18_1
        try clear hfz18_2
        try clear hfz32_0
        try clear hfz32_1
        try clear hfz32_2
        try clear hfz34_0
        try clear hfz34_1
        try clear hfz34_2
        try clear hfz40_0
        try clear hfz40_1
        try clear hfz40_2
        try clear hfz44_0
        try clear hfz44_1
        try clear hfz44_2
        try clear hfz44_3
        try clear hfz44_4
        try clear hfz56_0
        try clear hfz56_1
        try clear hfz56_2
        try clear hfz62_0
        try clear hfz62_1
        try clear hfz62_2
        try clear hx614_0
        try clear hx614_1
        try clear hx614_2
        try clear hx614_3
        try clear hx614_4
        try clear hx614_5
        try clear hx614_6
        try clear hx624_0
        try clear hx624_1
        try clear hx624_2
        try clear hx624_3
        try clear hx624_4
        try clear hx624_5
        try clear hx624_6
        try clear hx626_0
        try clear hx626_1
        try clear hx626_2
        try clear hx626_3
        try clear hx626_4
        try clear hx628_0
        try clear hx628_1
        try clear hx628_2
        try clear hx628_3
        try clear hx628_4
        try clear hx628_5
        try clear hx628_6
        try clear p2
        try clear p6
        try clear p614
        try clear p624
        try clear p626
        try clear p628
        try clear q6
        try clear q614
        try clear q624
        try clear q626
        try clear q628
        obtain ⟨x14_3, rfl, HA, HK3, HO_613001, HO_613002, HO_638001, HO_638002, BK612, BK637, HB⟩ := hrel
        cases gk with
        | zero => exact absurd HA.out (by simp [cooperagelaw16_LeaseApart.l2])
        | succ k3 =>
         have H := HA.out
         clear HA
         simp only [cooperagelaw16_LeaseApart.l2] at H
         by_cases c65 : x14_3 < (t631.length : Int)
         ·rw [if_pos c65] at H
          have c65b0 : decide (x14_3 < (t631.length : Int)) = true := decide_eq_true c65
          clear c65
          by_cases c66 : 0 ≤ x14_3
          ·rw [if_pos c66] at H
           have c66b0 : decide (0 ≤ x14_3) = true := decide_eq_true c66
           clear c66
           by_cases c67 : ((rd_T34 t631 x14_3).f0) = a1
           ·rw [if_pos c67] at H
            have c67b0 : (((rd_T34 t631 x14_3).f0) == a1) = true := beq_iff_eq.mpr c67
            have c67b1 : (((rd_T34 t631 x14_3).f0) != a1) = false := bne_eq_false_iff_eq.mpr c67
            clear c67
            obtain rfl := Option.some.inj H
            have hnb68 := NB637_612.out
            have hnc68 := NB612_637.out
            obtain ⟨hcz69_0, hcz69_1, hcz69_2, hfz69_0, hfz69_1, hfz69_2⟩ := zC3 BK637.out
            have p638 : 0 ≤ (x14_3 : Int) := zD
            have q638 : x14_3 < (t631.length : Int) := zD
            obtain ⟨ad638, e638, hx638_0, hx638_1, hx638_2, hx638_3, hx638_4⟩ := at_T34 (Kd.V_reads' HO_638001.out).2.2 x14_3 p638 q638
            have m0_ := HO_613001
            have m1_ := HO_613002
            have m2_ := HO_638001
            have m3_ := HO_638002
            have m4_ := BK612
            have m5_ := BK637
            have m6_ := HB
            cases e638
            have HO_613001 := m0_
            have HO_613002 := m1_
            have HO_638001 := m2_
            have HO_638002 := m3_
            have BK612 := m4_
            have BK637 := m5_
            have HB := m6_
            clear m0_ m1_ m2_ m3_ m4_ m5_ m6_
            replace p638 := eq_true p638
            replace q638 := eq_true q638
            go_wp2
            go_ret
            exact ⟨zE, zL HB.out⟩
           ·rw [if_neg c67] at H
            have c67b0 : (((rd_T34 t631 x14_3).f0) == a1) = false := beq_eq_false_iff_ne.mpr c67
            have c67b1 : (((rd_T34 t631 x14_3).f0) != a1) = true := bne_iff_ne.mpr c67
            have H' := Aside0.mk H
            clear H
            have hnb70 := NB637_612.out
            have hnc70 := NB612_637.out
            obtain ⟨hcz71_0, hcz71_1, hcz71_2, hfz71_0, hfz71_1, hfz71_2⟩ := zC3 BK637.out
            have p638 : 0 ≤ (x14_3 : Int) := zD
            have q638 : x14_3 < (t631.length : Int) := zD
            obtain ⟨ad638, e638, hx638_0, hx638_1, hx638_2, hx638_3, hx638_4⟩ := at_T34 (Kd.V_reads' HO_638001.out).2.2 x14_3 p638 q638
            have m0_ := HO_613001
            have m1_ := HO_613002
            have m2_ := HO_638001
            have m3_ := HO_638002
            have m4_ := BK612
            have m5_ := BK637
            have m6_ := HB
            cases e638
            have HO_613001 := m0_
            have HO_613002 := m1_
            have HO_638001 := m2_
            have HO_638002 := m3_
            have BK612 := m4_
            have BK637 := m5_
            have HB := m6_
            clear m0_ m1_ m2_ m3_ m4_ m5_ m6_
            replace p638 := eq_true p638
            replace q638 := eq_true q638
            go_wp2
            go_roundg k3
            case measure => have := HJ4.out; have := HK2.out; have := HK3.out; omega
            case rel => exact ⟨(wrap64 (x14_3 + 1)), zS, H', ⟨by have := HJ4.out; have := HK2.out; have := HK3.out; omega⟩, ⟨by (with_reducible repeat (first | apply Kd.V_alloc | apply Kd.V_drewN | apply Kd.V_drew)); exact HO_613001.out⟩, ⟨by (with_reducible repeat (first | apply Kd.V_alloc | apply Kd.V_drewN | apply Kd.V_drew)); exact HO_613002.out⟩, ⟨by (with_reducible repeat (first | apply Kd.V_alloc | apply Kd.V_drewN | apply Kd.V_drew)); exact HO_638001.out⟩, ⟨by (with_reducible repeat (first | apply Kd.V_alloc | apply Kd.V_drewN | apply Kd.V_drew)); exact HO_638002.out⟩, ⟨zK BK612.out⟩, ⟨zK BK637.out⟩, ⟨zL HB.out⟩⟩
          ·rw [if_neg c66] at H
           exact absurd H (by simp)
         ·rw [if_neg c65] at H
          have c65b0 : decide (x14_3 < (t631.length : Int)) = false := decide_eq_false c65
          clear c65
          have H' := Aside0.mk H
          clear H
          have hnb72 := NB637_612.out
          have hnc72 := NB612_637.out
          obtain ⟨hcz73_0, hcz73_1, hcz73_2, hfz73_0, hfz73_1, hfz73_2⟩ := zC3 BK637.out
          go_wp2
          go_loopg [15] k3 (fun kq v15 w' => ∃ (x15_4 : Int), v15 = .int .i64 x15_4 ∧ Aside0 (cooperagelaw16_LeaseApart.l3 kq a1 x15_4 x613000_2 x613001_2 x613002_2 t630 t631 t634 = some r) ∧ Aside0 (kq ≤ k3) ∧ Aside0 (Kd.V k34 34 w' w.heap.size (fun k_ => k_ ≠ gb612 ∧ k_ ≠ gb637) (.slice Ao57 x613001_2.length co57) x613001_2) ∧ Aside0 (Kd.V k32 32 w' w.heap.size (fun k_ => k_ ≠ gb612 ∧ k_ ≠ gb637) (.slice Ao58 x613002_2.length co58) x613002_2) ∧ Aside0 (Kd.V k34 34 w' w.heap.size (fun k_ => k_ ≠ gb612 ∧ k_ ≠ gb637) (.slice Ao63 t631.length co63) t631) ∧ Aside0 (Kd.V k32 32 w' w.heap.size (fun k_ => k_ ≠ gb612 ∧ k_ ≠ gb637) (.slice Ao64 t634.length co64) t634) ∧ Aside0 (w'.heap[gb612]? = some (.cells #[.int .i64 x613000_2, (.slice Ao57 x613001_2.length co57), (.slice Ao58 x613002_2.length co58)] 27 (0, 0))) ∧ Aside0 (w'.heap[gb637]? = some (.cells #[.int .i64 t630, (.slice Ao63 t631.length co63), (.slice Ao64 t634.length co64)] 27 (0, 0))) ∧ Aside0 (Below w.heap.size w w'))
          case atStart => exact ⟨(0), zS, H', ⟨Nat.le_refl _⟩, ⟨by (with_reducible repeat (first | apply Kd.V_alloc | apply Kd.V_drewN | apply Kd.V_drew)); exact HO_613001.out⟩, ⟨by (with_reducible repeat (first | apply Kd.V_alloc | apply Kd.V_drewN | apply Kd.V_drew)); exact HO_613002.out⟩, ⟨by (with_reducible repeat (first | apply Kd.V_alloc | apply Kd.V_drewN | apply Kd.V_drew)); exact HO_638001.out⟩, ⟨by (with_reducible repeat (first | apply Kd.V_alloc | apply Kd.V_drewN | apply Kd.V_drew)); exact HO_638002.out⟩, ⟨zK BK612.out⟩, ⟨zK BK637.out⟩, ⟨zL HB.out⟩⟩
          case round =>
           clear H'
           try clear c1
           try clear c2
           try clear p2
           try clear c3
           try clear c4
           try clear c5
           try clear c6
           try clear p6
           try clear q6
           try clear hx6
           try clear c7
           try clear c8
           try clear c9
           try clear c11
           try clear c11b0
           try clear c12
           try clear c12b0
           try clear c13
           try clear c15
           try clear c16
           try clear c17
           try clear c23
           try clear c30
           try clear c30b0
           try clear c31
           try clear c33
           try clear c35
           try clear c36
           try clear c36b0
           try clear c37
           try clear c37b0
           try clear c39
           try clear c42
           try clear c43
           try clear c45
           try clear c45b0
           try clear c46
           try clear c46b0
           try clear c47
           try clear c47b0
           try clear c47b1
           try clear c54
           try clear c61
           try clear p61
           try clear q61
           try clear hx61
           try clear p62
           try clear q62
           try clear hx62
           try clear p63
           try clear q63
           try clear hx63
           try clear p64
           try clear c65
           try clear c65b0
           try clear c66
           try clear c66b0
           try clear c67
           try clear c67b0
           try clear c67b1
           try clear c68
           try clear c70
           try clear c72
           try clear hcz10_0
           try clear hcz10_1
           try clear hcz10_2
           try clear hcz15_0
           try clear hcz15_1
           try clear hcz15_2
           try clear hcz18_0
           try clear hcz18_1
           try clear hcz18_2
           try clear hcz32_0
           try clear hcz32_1
           try clear hcz32_2
           try clear hcz34_0
           try clear hcz34_1
           try clear hcz34_2
           try clear hcz40_0
           try clear hcz40_1
           try clear hcz40_2
           try clear hcz44_0
           try clear hcz44_1
           try clear hcz44_2
           try clear hcz44_3
           try clear hcz44_4
           try clear hcz56_0
           try clear hcz56_1
           try clear hcz56_2
           try clear hcz62_0
           try clear hcz62_1
           try clear hcz62_2
           try clear hcz69_0
           try clear hcz69_1
           try clear hcz69_2
           try clear hcz71_0
           try clear hcz71_1
           try clear hcz71_2
           try clear hcz73_0
           try clear hcz73_1
           try clear hcz73_2
           try clear hfz10_0
           try clear hfz10_1
           try clear hfz10_2
           try clear hfz15_0
           try clear hfz15_1
           try clear hfz15_2
           try clear hfz18_0
           try clear hfz18_1
           try clear hfz18_2
           try clear hfz32_0
           try clear hfz32_1
           try clear hfz32_2
           try clear hfz34_0
           try clear hfz34_1
           try clear hfz34_2
           try clear hfz40_0
           try clear hfz40_1
           try clear hfz40_2
           try clear hfz44_0
           try clear hfz44_1
           try clear hfz44_2
           try clear hfz44_3
           try clear hfz44_4
           try clear hfz56_0
           try clear hfz56_1
           try clear hfz56_2
           try clear hfz62_0
           try clear hfz62_1
           try clear hfz62_2
           try clear hfz69_0
           try clear hfz69_1
           try clear hfz69_2
           try clear hfz71_0
           try clear hfz71_1
           try clear hfz71_2
           try clear hfz73_0
           try clear hfz73_1
           try clear hfz73_2
           try clear hx614_0
           try clear hx614_1
           try clear hx614_2
           try clear hx614_3
           try clear hx614_4
           try clear hx614_5
           try clear hx614_6
           try clear hx624_0
           try clear hx624_1
           try clear hx624_2
           try clear hx624_3
           try clear hx624_4
           try clear hx624_5
           try clear hx624_6
           try clear hx626_0
           try clear hx626_1
           try clear hx626_2
           try clear hx626_3
           try clear hx626_4
           try clear hx628_0
           try clear hx628_1
           try clear hx628_2
           try clear hx628_3
           try clear hx628_4
           try clear hx628_5
           try clear hx628_6
           try clear hx638_0
           try clear hx638_1
           try clear hx638_2
           try clear hx638_3
           try clear hx638_4
           try clear p2
           try clear p6
           try clear p61
           try clear p614
           try clear p62
           try clear p624
           try clear p626
           try clear p628
           try clear p638
           try clear p64
           try clear q6
           try clear q61
           try clear q614
           try clear q62
           try clear q624
           try clear q626
           try clear q628
           try clear q638
           obtain ⟨x15_4, rfl, HA, HK4, HO_613001, HO_613002, HO_638001, HO_638002, BK612, BK637, HB⟩ := hrel
           cases gk with
           | zero => exact absurd HA.out (by simp [cooperagelaw16_LeaseApart.l3])
           | succ k4 =>
            have H := HA.out
            clear HA
            simp only [cooperagelaw16_LeaseApart.l3] at H
            by_cases c74 : x15_4 < (x613001_2.length : Int)
            ·rw [if_pos c74] at H
             have c74b0 : decide (x15_4 < (x613001_2.length : Int)) = true := decide_eq_true c74
             clear c74
             by_cases c75 : 0 ≤ x15_4
             ·rw [if_pos c75] at H
              have c75b0 : decide (0 ≤ x15_4) = true := decide_eq_true c75
              clear c75
              have HC76 := Aside0.mk H
              clear H
              have hnb77 := NB612_637.out
              have hnc77 := NB637_612.out
              obtain ⟨hcz78_0, hcz78_1, hcz78_2, hfz78_0, hfz78_1, hfz78_2⟩ := zC3 BK612.out
              have p645 : 0 ≤ (x15_4 : Int) := zD
              have q645 : x15_4 < (x613001_2.length : Int) := zD
              obtain ⟨ad645, e645, hx645_0, hx645_1, hx645_2, hx645_3, hx645_4⟩ := at_T34 (Kd.V_reads' HO_613001.out).2.2 x15_4 p645 q645
              have m0_ := HO_613001
              have m1_ := HO_613002
              have m2_ := HO_638001
              have m3_ := HO_638002
              have m4_ := BK612
              have m5_ := BK637
              have m6_ := HB
              cases e645
              have HO_613001 := m0_
              have HO_613002 := m1_
              have HO_638001 := m2_
              have HO_638002 := m3_
              have BK612 := m4_
              have BK637 := m5_
              have HB := m6_
              clear m0_ m1_ m2_ m3_ m4_ m5_ m6_
              replace p645 := eq_true p645
              replace q645 := eq_true q645
              go_upto_region 28 with (first | ((with_reducible refine gate_dst (N := 16) rfl ?_); refine box_event ?hg (N := 16) ?hd (cs := #[.int .i64 0, .string (⟨#[]⟩ : ByteArray), .bool false, .int .i64 0, .int .i64 0]) (t := 34) ?hr ?_; (case hd => rfl); (case hg => rfl); (case hr => first | (go_simp; done) | (go_simp; rfl)); intro gb646 hg w79 hbox hb; have n0_ := Aside0.mk (Kd.V_below (Kd.V_elderB (zV HO_613001.out) gb646 (Nat.le_of_eq hg.symm)) hb); have n1_ := Aside0.mk (Kd.V_below (Kd.V_elderB (zV HO_613002.out) gb646 (Nat.le_of_eq hg.symm)) hb); have n2_ := Aside0.mk (Kd.V_below (Kd.V_elderB (zV HO_638001.out) gb646 (Nat.le_of_eq hg.symm)) hb); have n3_ := Aside0.mk (Kd.V_below (Kd.V_elderB (zV HO_638002.out) gb646 (Nat.le_of_eq hg.symm)) hb); have n4_ := Aside0.mk (blk_below (g := gb612) (o := .cells #[.int .i64 x613000_2, .slice (some ad645) x613001_2.length co57, .slice Ao58 x613002_2.length co58] 27 (0, 0)) (zK BK612.out) hb); have n5_ := Aside0.mk (blk_below (g := gb637) (o := .cells #[.int .i64 t630, .slice Ao63 t631.length co63, .slice Ao64 t634.length co64] 27 (0, 0)) (zK BK637.out) hb); have n6_ := Aside0.mk (below_step (zL HB.out) hb); have n7_ := Aside0.mk (hbox); have n8_ := Aside0.mk (zG hg (zL HB.out)); have n9_ := Aside0.mk (zG hg (zL HB.out)); have n10_ := Aside0.mk (zN (g := gb612) (o := .cells #[.int .i64 x613000_2, .slice (some ad645) x613001_2.length co57, .slice Ao58 x613002_2.length co58] 27 (0, 0)) hg (zK BK612.out)); have n11_ := Aside0.mk (zO (g := gb612) (o := .cells #[.int .i64 x613000_2, .slice (some ad645) x613001_2.length co57, .slice Ao58 x613002_2.length co58] 27 (0, 0)) hg (zK BK612.out)); have n12_ := Aside0.mk (zN (g := gb637) (o := .cells #[.int .i64 t630, .slice Ao63 t631.length co63, .slice Ao64 t634.length co64] 27 (0, 0)) hg (zK BK637.out)); have n13_ := Aside0.mk (zO (g := gb637) (o := .cells #[.int .i64 t630, .slice Ao63 t631.length co63, .slice Ao64 t634.length co64] 27 (0, 0)) hg (zK BK637.out)); revert n0_ n1_ n2_ n3_ n4_ n5_ n6_ n7_ n8_ n9_ n10_ n11_ n12_ n13_; clear HO_613001 HO_613002 HO_638001 HO_638002 BK612 BK637 HB; intro HO_613001 HO_613002 HO_638001 HO_638002 BK612 BK637 HB BK646 GW646 GE646 NB612_646 NB646_612 NB637_646 NB646_637; clear hb hbox hg; have hnb80 := NB646_612.out; have hnc80 := NB612_646.out; have hnb81 := NB646_637.out; have hnc81 := NB637_646.out; obtain ⟨hcz82_0, hcz82_1, hcz82_2, hcz82_3, hcz82_4, hfz82_0, hfz82_1, hfz82_2, hfz82_3, hfz82_4⟩ := zC5 BK646.out))
              (try simp only [Act.put, List.setIfInBounds_toArray, List.set_cons_zero, List.set_cons_succ])
              go_cut [135] (fun v135 wc => ∃ (kq : Nat) (x135_75 : Bool), v135 = .bool x135_75 ∧ Aside0 (cooperagelaw16_LeaseApart.j7 kq a1 x15_4 x135_75 x613000_2 x613001_2 x613002_2 t630 t631 t634 = some r) ∧ Aside0 (kq ≤ k4) ∧ Aside0 (Kd.V k34 34 wc w.heap.size (fun k_ => k_ ≠ gb612 ∧ k_ ≠ gb637 ∧ k_ ≠ gb646) (.slice (some ad645) x613001_2.length co57) x613001_2) ∧ Aside0 (Kd.V k32 32 wc w.heap.size (fun k_ => k_ ≠ gb612 ∧ k_ ≠ gb637 ∧ k_ ≠ gb646) (.slice Ao58 x613002_2.length co58) x613002_2) ∧ Aside0 (Kd.V k34 34 wc w.heap.size (fun k_ => k_ ≠ gb612 ∧ k_ ≠ gb637 ∧ k_ ≠ gb646) (.slice Ao63 t631.length co63) t631) ∧ Aside0 (Kd.V k32 32 wc w.heap.size (fun k_ => k_ ≠ gb612 ∧ k_ ≠ gb637 ∧ k_ ≠ gb646) (.slice Ao64 t634.length co64) t634) ∧ Aside0 (wc.heap[gb612]? = some (.cells #[.int .i64 x613000_2, (.slice (some ad645) x613001_2.length co57), (.slice Ao58 x613002_2.length co58)] 27 (0, 0))) ∧ Aside0 (wc.heap[gb637]? = some (.cells #[.int .i64 t630, (.slice Ao63 t631.length co63), (.slice Ao64 t634.length co64)] 27 (0, 0))) ∧ Aside0 (wc.heap[gb646]? = some (.cells #[.int .i64 ((rd_T34 x613001_2 x15_4).f0), .string ((rd_T34 x613001_2 x15_4).f1), .bool ((rd_T34 x613001_2 x15_4).f2), .int .i64 ((rd_T34 x613001_2 x15_4).f3), .int .i64 ((rd_T34 x613001_2 x15_4).f4)] 34 (0, 0))) ∧ Aside0 (Below w.heap.size w wc))
              case first =>
               have H := HC76.out
               clear HC76
               by_cases c83 : ((rd_T34 x613001_2 x15_4).f0) = a1
               ·rw [if_pos c83] at H
                have c83b0 : (((rd_T34 x613001_2 x15_4).f0) == a1) = true := beq_iff_eq.mpr c83
                have c83b1 : (((rd_T34 x613001_2 x15_4).f0) != a1) = false := bne_eq_false_iff_eq.mpr c83
                clear c83
                (first | rw [c83b0] | (simp only [i64_w, i32_w]; rw [c83b0]) | skip)
                have H' := Aside0.mk H
                clear H
                have hnb84 := NB646_612.out
                have hnc84 := NB612_646.out
                have hnb85 := NB646_637.out
                have hnc85 := NB637_646.out
                obtain ⟨hcz86_0, hcz86_1, hcz86_2, hcz86_3, hcz86_4, hfz86_0, hfz86_1, hfz86_2, hfz86_3, hfz86_4⟩ := zC5 BK646.out
                go_wp2
                go_meet
                case rel => exact ⟨_, (false), zS, H', ⟨by have := HJ4.out; have := HK2.out; have := HK3.out; have := HK4.out; first | omega | exact Nat.le_refl _⟩, ⟨by (with_reducible repeat (first | apply Kd.V_alloc | apply Kd.V_drewN | apply Kd.V_drew)); exact Kd.V_mono (zNV HO_613001.out (g := gb646) (fun _ hk => hk.2)) (fun _ hk => ⟨hk.1.1.1, ⟨hk.1.1.2, hk.1.2⟩⟩)⟩, ⟨by (with_reducible repeat (first | apply Kd.V_alloc | apply Kd.V_drewN | apply Kd.V_drew)); exact Kd.V_mono (zNV HO_613002.out (g := gb646) (fun _ hk => hk.2)) (fun _ hk => ⟨hk.1.1.1, ⟨hk.1.1.2, hk.1.2⟩⟩)⟩, ⟨by (with_reducible repeat (first | apply Kd.V_alloc | apply Kd.V_drewN | apply Kd.V_drew)); exact Kd.V_mono (zNV HO_638001.out (g := gb646) (fun _ hk => hk.2)) (fun _ hk => ⟨hk.1.1.1, ⟨hk.1.1.2, hk.1.2⟩⟩)⟩, ⟨by (with_reducible repeat (first | apply Kd.V_alloc | apply Kd.V_drewN | apply Kd.V_drew)); exact Kd.V_mono (zNV HO_638002.out (g := gb646) (fun _ hk => hk.2)) (fun _ hk => ⟨hk.1.1.1, ⟨hk.1.1.2, hk.1.2⟩⟩)⟩, ⟨zK BK612.out⟩, ⟨zK BK637.out⟩, ⟨zP5 BK646.out⟩, ⟨zL HB.out⟩⟩
               ·rw [if_neg c83] at H
                have c83b0 : (((rd_T34 x613001_2 x15_4).f0) == a1) = false := beq_eq_false_iff_ne.mpr c83
                have c83b1 : (((rd_T34 x613001_2 x15_4).f0) != a1) = true := bne_iff_ne.mpr c83
                (first | rw [c83b0] | (simp only [i64_w, i32_w]; rw [c83b0]) | skip)
                replace H := Option.bind_eq_some_iff.mp H
                obtain ⟨t647, A870, H⟩ := H
                replace H : (cooperagelaw16_LeaseApart.j7 k4 a1 x15_4 (!t647) x613000_2 x613001_2 x613002_2 t630 t631 t634) = some r := H
                have A87 := Aside0.mk A870
                clear A870
                have H' := Aside0.mk H
                clear H
                have hnb88 := NB646_612.out
                have hnc88 := NB612_646.out
                have hnb89 := NB646_637.out
                have hnc89 := NB637_646.out
                obtain ⟨hcz90_0, hcz90_1, hcz90_2, hcz90_3, hcz90_4, hfz90_0, hfz90_1, hfz90_2, hfz90_3, hfz90_4⟩ := zC5 BK646.out
                have hnb91 := NB637_612.out
                have hnc91 := NB612_637.out
                obtain ⟨hcz92_0, hcz92_1, hcz92_2, hfz92_0, hfz92_1, hfz92_2⟩ := zC3 BK637.out
                go_wp2_with (first | (go_at_call 23; (with_reducible refine (lease_Valid.calls k4 t630 _ _ t631 _ _ t634 ((rd_T34 x613001_2 x15_4).f0) ((rd_T34 x613001_2 x15_4).f1) ((rd_T34 x613001_2 x15_4).f3) t647 _ ?side1 ?side2 ?side3 ?side4 A87.out).mono ?_); (case side1 => refine (Kd.V_reads' (e := 34) (base := w.heap.size) (ok := fun k_ => ((k_ ≠ gb612 ∧ k_ ≠ gb637) ∧ k_ ≠ gb646)) (n := t631.length) (c := co63) ?_).2.2; exact (zMV HO_638001.out (g := gb646) (fun _ hk => hk.2))); (case side2 => exact (Kd.V_reads' HO_638001.out).2.1); (case side3 => refine (Kd.V_reads' (e := 32) (base := w.heap.size) (ok := fun k_ => ((k_ ≠ gb612 ∧ k_ ≠ gb637) ∧ k_ ≠ gb646)) (n := t634.length) (c := co64) ?_).2.2; exact (zMV HO_638002.out (g := gb646) (fun _ hk => hk.2))); (case side4 => exact (Kd.V_reads' HO_638002.out).2.1); rintro e w93 ⟨rfl, hb⟩; have n0_ := Aside0.mk (Kd.V_below (zMV HO_613001.out (g := gb646) (fun _ hk => hk.2)) hb); have n1_ := Aside0.mk (Kd.V_below (zMV HO_613002.out (g := gb646) (fun _ hk => hk.2)) hb); have n2_ := Aside0.mk (Kd.V_below (zMV HO_638001.out (g := gb646) (fun _ hk => hk.2)) hb); have n3_ := Aside0.mk (Kd.V_below (zMV HO_638002.out (g := gb646) (fun _ hk => hk.2)) hb); have n4_ := Aside0.mk (blk_below (g := gb612) (o := .cells #[.int .i64 x613000_2, .slice (some ad645) x613001_2.length co57, .slice Ao58 x613002_2.length co58] 27 (0, 0)) (zK BK612.out) hb); have n5_ := Aside0.mk (blk_below (g := gb637) (o := .cells #[.int .i64 t630, .slice Ao63 t631.length co63, .slice Ao64 t634.length co64] 27 (0, 0)) (zK BK637.out) hb); have n6_ := Aside0.mk (blk_below (g := gb646) (o := .cells #[.int .i64 ((rd_T34 x613001_2 x15_4).f0), .string ((rd_T34 x613001_2 x15_4).f1), .bool ((rd_T34 x613001_2 x15_4).f2), .int .i64 ((rd_T34 x613001_2 x15_4).f3), .int .i64 ((rd_T34 x613001_2 x15_4).f4)] 34 (0, 0)) (zP5 BK646.out) hb); have n7_ := Aside0.mk (below_step (zL HB.out) hb); revert n0_ n1_ n2_ n3_ n4_ n5_ n6_ n7_; clear HO_613001 HO_613002 HO_638001 HO_638002 BK612 BK637 BK646 HB; intro HO_613001 HO_613002 HO_638001 HO_638002 BK612 BK637 BK646 HB; (try clear hb); (try clear hb2); (try clear hk); (try clear hi)))
                go_meet
                case rel => exact ⟨_, (!t647), zS, H', ⟨by have := HJ4.out; have := HK2.out; have := HK3.out; have := HK4.out; first | omega | exact Nat.le_refl _⟩, ⟨by (with_reducible repeat (first | apply Kd.V_alloc | apply Kd.V_drewN | apply Kd.V_drew)); exact Kd.V_mono HO_613001.out (fun _ hk => ⟨hk.1.1, ⟨hk.1.2, hk.2⟩⟩)⟩, ⟨by (with_reducible repeat (first | apply Kd.V_alloc | apply Kd.V_drewN | apply Kd.V_drew)); exact Kd.V_mono HO_613002.out (fun _ hk => ⟨hk.1.1, ⟨hk.1.2, hk.2⟩⟩)⟩, ⟨by (with_reducible repeat (first | apply Kd.V_alloc | apply Kd.V_drewN | apply Kd.V_drew)); exact Kd.V_mono HO_638001.out (fun _ hk => ⟨hk.1.1, ⟨hk.1.2, hk.2⟩⟩)⟩, ⟨by (with_reducible repeat (first | apply Kd.V_alloc | apply Kd.V_drewN | apply Kd.V_drew)); exact Kd.V_mono HO_638002.out (fun _ hk => ⟨hk.1.1, ⟨hk.1.2, hk.2⟩⟩)⟩, ⟨zK BK612.out⟩, ⟨zK BK637.out⟩, ⟨zK BK646.out⟩, ⟨zL HB.out⟩⟩
              case rest =>
               clear HC76
               try clear c1
               try clear c2
               try clear p2
               try clear c3
               try clear c4
               try clear c5
               try clear c6
               try clear p6
               try clear q6
               try clear hx6
               try clear c7
               try clear c8
               try clear c9
               try clear c11
               try clear c11b0
               try clear c12
               try clear c12b0
               try clear c13
               try clear c15
               try clear c16
               try clear c17
               try clear c23
               try clear c30
               try clear c30b0
               try clear c31
               try clear c33
               try clear c35
               try clear c36
               try clear c36b0
               try clear c37
               try clear c37b0
               try clear c39
               try clear c42
               try clear c43
               try clear c45
               try clear c45b0
               try clear c46
               try clear c46b0
               try clear c47
               try clear c47b0
               try clear c47b1
               try clear c54
               try clear c61
               try clear p61
               try clear q61
               try clear hx61
               try clear p62
               try clear q62
               try clear hx62
               try clear p63
               try clear q63
               try clear hx63
               try clear p64
               try clear q64
               try clear hx64
               try clear c65
               try clear c65b0
               try clear c66
               try clear c66b0
               try clear c67
               try clear c67b0
               try clear c67b1
               try clear c68
               try clear c70
               try clear c72
               try clear c74
               try clear c74b0
               try clear c75
               try clear c75b0
               try clear c77
               try clear c80
               try clear c81
               try clear c83
               try clear c83b0
               try clear c83b1
               try clear c84
               try clear c85
               try clear c88
               try clear c89
               try clear c91
               try clear hcz10_0
               try clear hcz10_1
               try clear hcz10_2
               try clear hcz15_0
               try clear hcz15_1
               try clear hcz15_2
               try clear hcz18_0
               try clear hcz18_1
               try clear hcz18_2
               try clear hcz32_0
               try clear hcz32_1
               try clear hcz32_2
               try clear hcz34_0
               try clear hcz34_1
               try clear hcz34_2
               try clear hcz40_0
               try clear hcz40_1
               try clear hcz40_2
               try clear hcz44_0
               try clear hcz44_1
               try clear hcz44_2
               try clear hcz44_3
               try clear hcz44_4
               try clear hcz56_0
               try clear hcz56_1
               try clear hcz56_2
               try clear hcz62_0
               try clear hcz62_1
               try clear hcz62_2
               try clear hcz69_0
               try clear hcz69_1
               try clear hcz69_2
               try clear hcz71_0
               try clear hcz71_1
               try clear hcz71_2
               try clear hcz73_0
               try clear hcz73_1
               try clear hcz73_2
               try clear hcz78_0
               try clear hcz78_1
               try clear hcz78_2
               try clear hcz82_0
               try clear hcz82_1
               try clear hcz82_2
               try clear hcz82_3
               try clear hcz82_4
               try clear hcz86_0
               try clear hcz86_1
               try clear hcz86_2
               try clear hcz86_3
               try clear hcz86_4
               try clear hcz90_0
               try clear hcz90_1
               try clear hcz90_2
               try clear hcz90_3
               try clear hcz90_4
               try clear hcz92_0
               try clear hcz92_1
               try clear hcz92_2
               try clear hfz10_0
               try clear hfz10_1
               try clear hfz10_2
               try clear hfz15_0
               try clear hfz15_1
               try clear hfz15_2
               try clear hfz18_0
               try clear hfz18_1
               try clear hfz18_2
               try clear hfz32_0
               try clear hfz32_1
               try clear hfz32_2
               try clear hfz34_0
               try clear hfz34_1
               try clear hfz34_2
               try clear hfz40_0
               try clear hfz40_1
               try clear hfz40_2
               try clear hfz44_0
               try clear hfz44_1
               try clear hfz44_2
               try clear hfz44_3
               try clear hfz44_4
               try clear hfz56_0
               try clear hfz56_1
               try clear hfz56_2
               try clear hfz62_0
               try clear hfz62_1
               try clear hfz62_2
               try clear hfz69_0
               try clear hfz69_1
               try clear hfz69_2
               try clear hfz71_0
               try clear hfz71_1
               try clear hfz71_2
               try clear hfz73_0
               try clear hfz73_1
               try clear hfz73_2
               try clear hfz78_0
               try clear hfz78_1
               try clear hfz78_2
               try clear hfz82_0
               try clear hfz82_1
               try clear hfz82_2
               try clear hfz82_3
               try clear hfz82_4
               try clear hfz86_0
               try clear hfz86_1
               try clear hfz86_2
               try clear hfz86_3
               try clear hfz86_4
               try clear hfz90_0
               try clear hfz90_1
               try clear hfz90_2
               try clear hfz90_3
               try clear hfz90_4
               try clear hfz92_0
               try clear hfz92_1
               try clear hfz92_2
               try clear hx614_0
               try clear hx614_1
               try clear hx614_2
               try clear hx614_3
               try clear hx614_4
               try clear hx614_5
               try clear hx614_6
               try clear hx624_0
               try clear hx624_1
               try clear hx624_2
               try clear hx624_3
               try clear hx624_4
               try clear hx624_5
               try clear hx624_6
               try clear hx626_0
               try clear hx626_1
               try clear hx626_2
               try clear hx626_3
               try clear hx626_4
               try clear hx628_0
               try clear hx628_1
               try clear hx628_2
               try clear hx628_3
               try clear hx628_4
               try clear hx628_5
               try clear hx628_6
               try clear hx638_0
               try clear hx638_1
               try clear hx638_2
               try clear hx638_3
               try clear hx638_4
               try clear hx645_0
               try clear hx645_1
               try clear hx645_2
               try clear hx645_3
               try clear hx645_4
               try clear p2
               try clear p6
               try clear p61
               try clear p614
               try clear p62
               try clear p624
               try clear p626
               try clear p628
               try clear p63
               try clear p638
               try clear p64
               try clear p645
               try clear q6
               try clear q61
               try clear q614
               try clear q62
               try clear q624
               try clear q626
               try clear q628
               try clear q63
               try clear q638
               try clear q645
               obtain ⟨kq, x135_75, rfl, HA, HJ75, HO_613001, HO_613002, HO_638001, HO_638002, BK612, BK637, BK646, HB⟩ := hcut
               cases kq with
               | zero => exact absurd HA.out (by simp [cooperagelaw16_LeaseApart.j7])
               | succ kj75 =>
                have H := HA.out
                clear HA
                simp only [cooperagelaw16_LeaseApart.j7] at H
                by_cases c94 : x135_75 = true
                ·subst c94
                 have H1 : (some false) = some r := by rw [if_pos rfl] at H; exact H
                 clear H
                 have H := H1
                 clear H1
                 obtain rfl := Option.some.inj H
                 go_wp2
                 go_ret
                 exact ⟨zE, zL HB.out⟩
                ·replace c94 := Bool.eq_false_iff.mpr c94
                 subst c94
                 have H1 : (cooperagelaw16_LeaseApart.l3 kj75 a1 (wrap64 (x15_4 + 1)) x613000_2 x613001_2 x613002_2 t630 t631 t634) = some r := by rw [if_neg (show ¬ (false = true) by decide)] at H; exact H
                 clear H
                 have H := H1
                 clear H1
                 have H' := Aside0.mk H
                 clear H
                 go_wp2
                 go_roundg kj75
                 case measure => have := HJ4.out; have := HK2.out; have := HK3.out; have := HK4.out; have := HJ75.out; omega
                 case rel => exact ⟨(wrap64 (x15_4 + 1)), zS, H', ⟨by have := HJ4.out; have := HK2.out; have := HK3.out; have := HK4.out; have := HJ75.out; omega⟩, ⟨by (with_reducible repeat (first | apply Kd.V_alloc | apply Kd.V_drewN | apply Kd.V_drew)); exact Kd.V_mono HO_613001.out (fun _ hk => ⟨hk.1, hk.2.1⟩)⟩, ⟨by (with_reducible repeat (first | apply Kd.V_alloc | apply Kd.V_drewN | apply Kd.V_drew)); exact Kd.V_mono HO_613002.out (fun _ hk => ⟨hk.1, hk.2.1⟩)⟩, ⟨by (with_reducible repeat (first | apply Kd.V_alloc | apply Kd.V_drewN | apply Kd.V_drew)); exact Kd.V_mono HO_638001.out (fun _ hk => ⟨hk.1, hk.2.1⟩)⟩, ⟨by (with_reducible repeat (first | apply Kd.V_alloc | apply Kd.V_drewN | apply Kd.V_drew)); exact Kd.V_mono HO_638002.out (fun _ hk => ⟨hk.1, hk.2.1⟩)⟩, ⟨zK BK612.out⟩, ⟨zK BK637.out⟩, ⟨zL HB.out⟩⟩
             ·rw [if_neg c75] at H
              exact absurd H (by simp)
            ·rw [if_neg c74] at H
             have c74b0 : decide (x15_4 < (x613001_2.length : Int)) = false := decide_eq_false c74
             clear c74
             replace H := Option.bind_eq_some_iff.mp H
             obtain ⟨⟨t639, t640, t641, t642, t643⟩, A950, H⟩ := H
             replace H : (some (!t643)) = some r := H
             have A95 := Aside0.mk A950
             clear A950
             obtain rfl := Option.some.inj H
             have hnb96 := NB612_637.out
             have hnc96 := NB637_612.out
             obtain ⟨hcz97_0, hcz97_1, hcz97_2, hfz97_0, hfz97_1, hfz97_2⟩ := zC3 BK612.out
             obtain ⟨hcz98_0, hcz98_1, hcz98_2, hfz98_0, hfz98_1, hfz98_2⟩ := zC3 BK637.out
             go_wp2_with (first | ((with_reducible refine gate_callee (f := 21) rfl ?_); refine goesL_ (some 139) rfl rfl Tryd.func21 (by kernel_rfl) rfl #[.agg #[.int .i64 t630, .slice Ao63 t631.length co63, .slice Ao64 t634.length co64], .int .i64 a1] rfl zA ?_; (with_reducible refine (lease_Waits.calls k4 t630 _ _ t631 _ _ t634 a1 t639 t640 t641 t642 t643 _ ?side1 ?side2 ?side3 ?side4 A95.out).mono ?_); (case side1 => repeat (first | exact (Kd.V_reads' HO_638001.out).2.2 | (with_reducible refine Kd.C_alloc ?_ _) | (with_reducible refine Kd.C_drewN ?_ _) | (with_reducible refine Kd.C_drew ?_))); (case side2 => exact (Kd.V_reads' HO_638001.out).2.1); (case side3 => repeat (first | exact (Kd.V_reads' HO_638002.out).2.2 | (with_reducible refine Kd.C_alloc ?_ _) | (with_reducible refine Kd.C_drewN ?_ _) | (with_reducible refine Kd.C_drew ?_))); (case side4 => exact (Kd.V_reads' HO_638002.out).2.1); rintro e w99 ⟨rfl, hb⟩; refine ⟨_, rfl, ?_⟩; have n0_ := Aside0.mk (Kd.V_below (zV HO_613001.out) hb); have n1_ := Aside0.mk (Kd.V_below (zV HO_613002.out) hb); have n2_ := Aside0.mk (Kd.V_below (zV HO_638001.out) hb); have n3_ := Aside0.mk (Kd.V_below (zV HO_638002.out) hb); have n4_ := Aside0.mk (blk_below (g := gb612) (o := .cells #[.int .i64 x613000_2, .slice Ao57 x613001_2.length co57, .slice Ao58 x613002_2.length co58] 27 (0, 0)) (zK BK612.out) hb); have n5_ := Aside0.mk (blk_below (g := gb637) (o := .cells #[.int .i64 t630, .slice Ao63 t631.length co63, .slice Ao64 t634.length co64] 27 (0, 0)) (zK BK637.out) hb); have n6_ := Aside0.mk (below_step (zL HB.out) hb); revert n0_ n1_ n2_ n3_ n4_ n5_ n6_; clear HO_613001 HO_613002 HO_638001 HO_638002 BK612 BK637 HB; intro HO_613001 HO_613002 HO_638001 HO_638002 BK612 BK637 HB; (try clear hb); (try clear hb2); (try clear hk); (try clear hi)) | ((with_reducible refine gate_dst (N := 17) rfl ?_); refine box_event ?hg (N := 17) ?hd (cs := #[.int .i64 0, .string (⟨#[]⟩ : ByteArray), .bool false, .int .i64 0]) (t := 32) ?hr ?_; (case hd => rfl); (case hg => rfl); (case hr => first | (go_simp; done) | (go_simp; rfl)); intro gb644 hg w100 hbox hb; have n0_ := Aside0.mk (Kd.V_below (Kd.V_elderB (zV HO_613001.out) gb644 (Nat.le_of_eq hg.symm)) hb); have n1_ := Aside0.mk (Kd.V_below (Kd.V_elderB (zV HO_613002.out) gb644 (Nat.le_of_eq hg.symm)) hb); have n2_ := Aside0.mk (Kd.V_below (Kd.V_elderB (zV HO_638001.out) gb644 (Nat.le_of_eq hg.symm)) hb); have n3_ := Aside0.mk (Kd.V_below (Kd.V_elderB (zV HO_638002.out) gb644 (Nat.le_of_eq hg.symm)) hb); have n4_ := Aside0.mk (blk_below (g := gb612) (o := .cells #[.int .i64 x613000_2, .slice Ao57 x613001_2.length co57, .slice Ao58 x613002_2.length co58] 27 (0, 0)) (zK BK612.out) hb); have n5_ := Aside0.mk (blk_below (g := gb637) (o := .cells #[.int .i64 t630, .slice Ao63 t631.length co63, .slice Ao64 t634.length co64] 27 (0, 0)) (zK BK637.out) hb); have n6_ := Aside0.mk (below_step (zL HB.out) hb); have n7_ := Aside0.mk (hbox); have n8_ := Aside0.mk (zG hg (zL HB.out)); have n9_ := Aside0.mk (zG hg (zL HB.out)); have n10_ := Aside0.mk (zN (g := gb612) (o := .cells #[.int .i64 x613000_2, .slice Ao57 x613001_2.length co57, .slice Ao58 x613002_2.length co58] 27 (0, 0)) hg (zK BK612.out)); have n11_ := Aside0.mk (zO (g := gb612) (o := .cells #[.int .i64 x613000_2, .slice Ao57 x613001_2.length co57, .slice Ao58 x613002_2.length co58] 27 (0, 0)) hg (zK BK612.out)); have n12_ := Aside0.mk (zN (g := gb637) (o := .cells #[.int .i64 t630, .slice Ao63 t631.length co63, .slice Ao64 t634.length co64] 27 (0, 0)) hg (zK BK637.out)); have n13_ := Aside0.mk (zO (g := gb637) (o := .cells #[.int .i64 t630, .slice Ao63 t631.length co63, .slice Ao64 t634.length co64] 27 (0, 0)) hg (zK BK637.out)); revert n0_ n1_ n2_ n3_ n4_ n5_ n6_ n7_ n8_ n9_ n10_ n11_ n12_ n13_; clear HO_613001 HO_613002 HO_638001 HO_638002 BK612 BK637 HB; intro HO_613001 HO_613002 HO_638001 HO_638002 BK612 BK637 HB BK644 GW644 GE644 NB612_644 NB644_612 NB637_644 NB644_637; clear hb hbox hg; have hnb101 := NB644_612.out; have hnc101 := NB612_644.out; have hnb102 := NB644_637.out; have hnc102 := NB637_644.out; obtain ⟨hcz103_0, hcz103_1, hcz103_2, hcz103_3, hfz103_0, hfz103_1, hfz103_2, hfz103_3⟩ := zC4 BK644.out))
             go_ret
             exact ⟨zE, zL HB.out⟩

/-- THE ONE PURE STATEMENT of cooperagelaw16_LeaseApart. -/
def cooperagelaw16_LeaseApart.Pure : Prop := ∀ (l0 : List (S52)) (a1 : Int), l0.length ≤ 9223372036854775807 → l0.length * 64 ≤ 140737488351232 → (∀ x ∈ l0, (Lit.int .i64 x.f0).wf = true ∧ (Lit.int .i64 x.f1).wf = true ∧ (Lit.int .i64 x.f2).wf = true ∧ (Lit.int .i64 x.f3).wf = true ∧ (Lit.int .i64 x.f4).wf = true ∧ x.f5.size ≤ 9223372036854775807) → (Lit.int .i64 a1).wf = true → ∃ k, cooperagelaw16_LeaseApart.f k l0 a1 = some true
theorem cooperagelaw16_LeaseApart.walk (P : cooperagelaw16_LeaseApart.Pure) (A0 : Option Addr) (c0 : Nat) (l0 : List (S52)) (a1 : Int) (w : World) (r0 : Kd.C k52 w A0 l0.length l0) (q0 : l0.length ≤ c0) (m0 : l0.length ≤ 9223372036854775807) (y0 : l0.length * 64 ≤ 140737488351232) (e0 : ∀ x ∈ l0, (Lit.int .i64 x.f0).wf = true ∧ (Lit.int .i64 x.f1).wf = true ∧ (Lit.int .i64 x.f2).wf = true ∧ (Lit.int .i64 x.f3).wf = true ∧ (Lit.int .i64 x.f4).wf = true ∧ x.f5.size ≤ 9223372036854775807) (w1 : (Lit.int .i64 a1).wf = true) :
  Calls Tryd.prog 8 #[.slice A0 l0.length c0, .int .i64 a1] w fun e w' => e = .returned (.bool true) ∧ Below w.heap.size w w' := by
 obtain ⟨k, h⟩ := P l0 a1 m0 y0 e0 w1
 refine (cooperagelaw16_LeaseApart.calls k _ _ l0 a1 true w r0 q0 h).mono ?_
 rintro e w' ⟨rfl, hd⟩
 exact ⟨rfl, hd⟩

end Go.Proofs.YtgcghjkaomgloaaDoor.PLease
