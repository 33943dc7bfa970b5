-- Written by a program of this session (wip/tools/ext.py, over the kit's printer); not trusted: Lean checks it.
import Derived.Test.YtgcghjkaomgloaaDoorPLeasex0
import Derived.Test.YtgcghjkaomgloaaDoorPLeasex5
import Derived.Test.YtgcghjkaomgloaaDoorPLeasex6
import Derived.Test.YtgcghjkaomgloaaDoorPLeasex7
namespace Go.Proofs.YtgcghjkaomgloaaDoor.PLease
open Go.RowKit Go.Proofs.YtgcghjkaomgloaaDoorW.PrintWords Go.Proofs.YtgcghjkaomgloaaDoorW.PrintLast Go.Proofs.YtgcghjkaomgloaaDoorW.PrintMore
attribute [local go_sem] max2_int min2_int max_two min_two max_three min_three max_four min_four   -- for this text's walks alone
set_option linter.unusedVariables false
set_option linter.unusedSimpArgs false

/-! ### cooperagelaw16_LeaseTurn: function 3 -/
mutual
def cooperagelaw16_LeaseTurn.j0 : Nat → List Bool → List Bool → Bool → Bool → Option (Bool)
  | 0, _, _, _, _ => none
  | k + 1, x0, x1, x5, x31 => if x31 = true then (some x5) else (cooperagelaw16_LeaseTurn.l0 k x0 x1 0 0 0 ([] : List (S34)) ([] : List (S32)))
def cooperagelaw16_LeaseTurn.l0 : Nat → List Bool → List Bool → Int → Int → Int → List (S34) → List (S32) → Option (Bool)
  | 0, _, _, _, _, _, _, _ => none
  | k + 1, x0, x1, x7, x8, x455000, x455001, x455002 => if x8 < (x0.length : Int) then (if 0 ≤ x8 then ((lease_Take.f k x455000 x455001 x455002 (wrap64 (x8 + 1)) (⟨#[110]⟩ : ByteArray) (rdOf false x0 x8) 10 x7).bind fun bt456 => (if bt456.2.2.2.2 = 0 then (cooperagelaw16_LeaseTurn.l0 k x0 x1 x7 (wrap64 (x8 + 1)) bt456.1 bt456.2.1 bt456.2.2.1) else (some false))) else (none)) else (cooperagelaw16_LeaseTurn.l1 k x0 x1 x7 1 0 x455000 x455001 x455002)
def cooperagelaw16_LeaseTurn.l1 : Nat → List Bool → List Bool → Int → Int → Int → Int → List (S34) → List (S32) → Option (Bool)
  | 0, _, _, _, _, _, _, _, _ => none
  | k + 1, x0, x1, x7, x12, x13, x455000, x455001, x455002 => if x13 < 100 then (cooperagelaw16_LeaseTurn.j3 k x0 x1 x7 x12 x13 (decide ((x455001.length : Int) > 0)) x455000 x455001 x455002) else (cooperagelaw16_LeaseTurn.j3 k x0 x1 x7 x12 x13 false x455000 x455001 x455002)
def cooperagelaw16_LeaseTurn.j3 : Nat → List Bool → List Bool → Int → Int → Int → Bool → Int → List (S34) → List (S32) → Option (Bool)
  | 0, _, _, _, _, _, _, _, _, _ => none
  | k + 1, x0, x1, x7, x12, x13, x64, x455000, x455001, x455002 => if x64 = true then (cooperagelaw16_LeaseTurn.l2 k x0 x1 x7 x12 x13 0 x455000 x455001 x455002) else (if (x455002.length : Int) = 0 then (if (x455001.length : Int) = 0 then (if x12 = (wrap64 ((x0.length : Int) + 1)) then (some (x455000 == (x0.length : Int))) else (some false)) else (some false)) else (some false))
def cooperagelaw16_LeaseTurn.l2 : Nat → List Bool → List Bool → Int → Int → Int → Int → Int → List (S34) → List (S32) → Option (Bool)
  | 0, _, _, _, _, _, _, _, _, _ => none
  | k + 1, x0, x1, x7, x12, x13, x14, x455000, x455001, x455002 => if x14 < (x455001.length : Int) then (if 0 ≤ x14 then (if ((rd_T34 x455001 x14).f0) > x12 then (some false) else (if ((rd_T34 x455001 x14).f0) = x12 then (cooperagelaw16_LeaseTurn.l2 k x0 x1 x7 (wrap64 (x12 + 1)) x13 (wrap64 (x14 + 1)) x455000 x455001 x455002) else (cooperagelaw16_LeaseTurn.l2 k x0 x1 x7 x12 x13 (wrap64 (x14 + 1)) x455000 x455001 x455002))) else (none)) else (if x13 < (x1.length : Int) then (if 0 ≤ x13 then (cooperagelaw16_LeaseTurn.j5 k x0 x1 x7 x12 x13 (rdOf false x1 x13) x455000 x455001 x455002) else (none)) else (cooperagelaw16_LeaseTurn.j5 k x0 x1 x7 x12 x13 false x455000 x455001 x455002))
def cooperagelaw16_LeaseTurn.j5 : Nat → List Bool → List Bool → Int → Int → Int → Bool → Int → List (S34) → List (S32) → Option (Bool)
  | 0, _, _, _, _, _, _, _, _, _ => none
  | k + 1, x0, x1, x7, x12, x13, x98, x455000, x455001, x455002 => if x98 = true then ((lease_Tick.f k x455000 x455001 x455002 (wrap64 (x7 + 10))).bind fun bt469 => (cooperagelaw16_LeaseTurn.l1 k x0 x1 (wrap64 (x7 + 10)) x12 (wrap64 (x13 + 1)) bt469.1 bt469.2.1 bt469.2.2)) else (if 0 < (x455001.length : Int) then ((lease_Give.f k x455000 x455001 x455002 ((rd_T34 x455001 0).f0) ((rd_T34 x455001 0).f1) ((rd_T34 x455001 0).f3) x7).bind fun bt478 => (if bt478.2.2.2 = 0 then (cooperagelaw16_LeaseTurn.l1 k x0 x1 x7 x12 (wrap64 (x13 + 1)) bt478.1 bt478.2.1 bt478.2.2.1) else (some false))) else (none))
end
def cooperagelaw16_LeaseTurn.f (k : Nat) (l0 : List Bool) (l1 : List Bool) : Option (Bool) := (cooperagelaw16_shown.f k).bind fun t453 => (if t453 = true then (if (l0.length : Int) > 40 then (cooperagelaw16_LeaseTurn.j0 k l0 l1 t453 true) else (cooperagelaw16_LeaseTurn.j0 k l0 l1 t453 (decide ((l1.length : Int) > 80)))) else (cooperagelaw16_LeaseTurn.j0 k l0 l1 t453 true))
theorem cooperagelaw16_LeaseTurn.mono_l : ∀ k, (∀ y0 y1 y2 y3, LeO (cooperagelaw16_LeaseTurn.j0 k y0 y1 y2 y3) (cooperagelaw16_LeaseTurn.j0 (k + 1) y0 y1 y2 y3)) ∧ (∀ y0 y1 y2 y3 y4 y5 y6, LeO (cooperagelaw16_LeaseTurn.l0 k y0 y1 y2 y3 y4 y5 y6) (cooperagelaw16_LeaseTurn.l0 (k + 1) y0 y1 y2 y3 y4 y5 y6)) ∧ (∀ y0 y1 y2 y3 y4 y5 y6 y7, LeO (cooperagelaw16_LeaseTurn.l1 k y0 y1 y2 y3 y4 y5 y6 y7) (cooperagelaw16_LeaseTurn.l1 (k + 1) y0 y1 y2 y3 y4 y5 y6 y7)) ∧ (∀ y0 y1 y2 y3 y4 y5 y6 y7 y8, LeO (cooperagelaw16_LeaseTurn.j3 k y0 y1 y2 y3 y4 y5 y6 y7 y8) (cooperagelaw16_LeaseTurn.j3 (k + 1) y0 y1 y2 y3 y4 y5 y6 y7 y8)) ∧ (∀ y0 y1 y2 y3 y4 y5 y6 y7 y8, LeO (cooperagelaw16_LeaseTurn.l2 k y0 y1 y2 y3 y4 y5 y6 y7 y8) (cooperagelaw16_LeaseTurn.l2 (k + 1) y0 y1 y2 y3 y4 y5 y6 y7 y8)) ∧ (∀ y0 y1 y2 y3 y4 y5 y6 y7 y8, LeO (cooperagelaw16_LeaseTurn.j5 k y0 y1 y2 y3 y4 y5 y6 y7 y8) (cooperagelaw16_LeaseTurn.j5 (k + 1) y0 y1 y2 y3 y4 y5 y6 y7 y8))
  | 0 => ⟨fun _ _ _ _ r h => by simp [cooperagelaw16_LeaseTurn.j0] at h, fun _ _ _ _ _ _ _ r h => by simp [cooperagelaw16_LeaseTurn.l0] at h, fun _ _ _ _ _ _ _ _ r h => by simp [cooperagelaw16_LeaseTurn.l1] at h, fun _ _ _ _ _ _ _ _ _ r h => by simp [cooperagelaw16_LeaseTurn.j3] at h, fun _ _ _ _ _ _ _ _ _ r h => by simp [cooperagelaw16_LeaseTurn.l2] at h, fun _ _ _ _ _ _ _ _ _ r h => by simp [cooperagelaw16_LeaseTurn.j5] at h⟩
  | k + 1 => by
    obtain ⟨ih0, ih1, ih2, ih3, ih4, ih5⟩ := cooperagelaw16_LeaseTurn.mono_l k
    refine ⟨?_, ?_, ?_, ?_, ?_, ?_⟩
    · intro y0 y1 y2 y3
      unfold cooperagelaw16_LeaseTurn.j0
      repeat' first
      | (with_reducible exact ih0 _ _ _ _)
      | (with_reducible exact ih1 _ _ _ _ _ _ _)
      | (with_reducible exact ih2 _ _ _ _ _ _ _ _)
      | (with_reducible exact ih3 _ _ _ _ _ _ _ _ _)
      | (with_reducible exact ih4 _ _ _ _ _ _ _ _ _)
      | (with_reducible exact ih5 _ _ _ _ _ _ _ _ _)
      | (with_reducible exact cooperagelaw16_shown.mono _)
      | (with_reducible exact lease_Give.mono _ _ _ _ _ _ _ _)
      | (with_reducible exact lease_Take.mono _ _ _ _ _ _ _ _ _)
      | (with_reducible exact lease_Tick.mono _ _ _ _ _)
      | (with_reducible exact LeO.refl _)
      | (with_reducible exact LeO.none _)
      | (with_reducible refine LeO.ite ?_ ?_)
      | (with_reducible refine LeO.bind ?_ (fun _ => ?_))
      | exact ih0 _ _ _ _
      | exact ih1 _ _ _ _ _ _ _
      | exact ih2 _ _ _ _ _ _ _ _
      | exact ih3 _ _ _ _ _ _ _ _ _
      | exact ih4 _ _ _ _ _ _ _ _ _
      | exact ih5 _ _ _ _ _ _ _ _ _
      | exact cooperagelaw16_shown.mono _
      | exact lease_Give.mono _ _ _ _ _ _ _ _
      | exact lease_Take.mono _ _ _ _ _ _ _ _ _
      | exact lease_Tick.mono _ _ _ _ _
      | exact LeO.none _
      | refine LeO.ite ?_ ?_
      | refine LeO.bind ?_ (fun _ => ?_)
    · intro y0 y1 y2 y3 y4 y5 y6
      unfold cooperagelaw16_LeaseTurn.l0
      repeat' first
      | (with_reducible exact ih0 _ _ _ _)
      | (with_reducible exact ih1 _ _ _ _ _ _ _)
      | (with_reducible exact ih2 _ _ _ _ _ _ _ _)
      | (with_reducible exact ih3 _ _ _ _ _ _ _ _ _)
      | (with_reducible exact ih4 _ _ _ _ _ _ _ _ _)
      | (with_reducible exact ih5 _ _ _ _ _ _ _ _ _)
      | (with_reducible exact cooperagelaw16_shown.mono _)
      | (with_reducible exact lease_Give.mono _ _ _ _ _ _ _ _)
      | (with_reducible exact lease_Take.mono _ _ _ _ _ _ _ _ _)
      | (with_reducible exact lease_Tick.mono _ _ _ _ _)
      | (with_reducible exact LeO.refl _)
      | (with_reducible exact LeO.none _)
      | (with_reducible refine LeO.ite ?_ ?_)
      | (with_reducible refine LeO.bind ?_ (fun _ => ?_))
      | exact ih0 _ _ _ _
      | exact ih1 _ _ _ _ _ _ _
      | exact ih2 _ _ _ _ _ _ _ _
      | exact ih3 _ _ _ _ _ _ _ _ _
      | exact ih4 _ _ _ _ _ _ _ _ _
      | exact ih5 _ _ _ _ _ _ _ _ _
      | exact cooperagelaw16_shown.mono _
      | exact lease_Give.mono _ _ _ _ _ _ _ _
      | exact lease_Take.mono _ _ _ _ _ _ _ _ _
      | exact lease_Tick.mono _ _ _ _ _
      | exact LeO.none _
      | refine LeO.ite ?_ ?_
      | refine LeO.bind ?_ (fun _ => ?_)
    · intro y0 y1 y2 y3 y4 y5 y6 y7
      unfold cooperagelaw16_LeaseTurn.l1
      repeat' first
      | (with_reducible exact ih0 _ _ _ _)
      | (with_reducible exact ih1 _ _ _ _ _ _ _)
      | (with_reducible exact ih2 _ _ _ _ _ _ _ _)
      | (with_reducible exact ih3 _ _ _ _ _ _ _ _ _)
      | (with_reducible exact ih4 _ _ _ _ _ _ _ _ _)
      | (with_reducible exact ih5 _ _ _ _ _ _ _ _ _)
      | (with_reducible exact cooperagelaw16_shown.mono _)
      | (with_reducible exact lease_Give.mono _ _ _ _ _ _ _ _)
      | (with_reducible exact lease_Take.mono _ _ _ _ _ _ _ _ _)
      | (with_reducible exact lease_Tick.mono _ _ _ _ _)
      | (with_reducible exact LeO.refl _)
      | (with_reducible exact LeO.none _)
      | (with_reducible refine LeO.ite ?_ ?_)
      | (with_reducible refine LeO.bind ?_ (fun _ => ?_))
      | exact ih0 _ _ _ _
      | exact ih1 _ _ _ _ _ _ _
      | exact ih2 _ _ _ _ _ _ _ _
      | exact ih3 _ _ _ _ _ _ _ _ _
      | exact ih4 _ _ _ _ _ _ _ _ _
      | exact ih5 _ _ _ _ _ _ _ _ _
      | exact cooperagelaw16_shown.mono _
      | exact lease_Give.mono _ _ _ _ _ _ _ _
      | exact lease_Take.mono _ _ _ _ _ _ _ _ _
      | exact lease_Tick.mono _ _ _ _ _
      | exact LeO.none _
      | refine LeO.ite ?_ ?_
      | refine LeO.bind ?_ (fun _ => ?_)
    · intro y0 y1 y2 y3 y4 y5 y6 y7 y8
      unfold cooperagelaw16_LeaseTurn.j3
      repeat' first
      | (with_reducible exact ih0 _ _ _ _)
      | (with_reducible exact ih1 _ _ _ _ _ _ _)
      | (with_reducible exact ih2 _ _ _ _ _ _ _ _)
      | (with_reducible exact ih3 _ _ _ _ _ _ _ _ _)
      | (with_reducible exact ih4 _ _ _ _ _ _ _ _ _)
      | (with_reducible exact ih5 _ _ _ _ _ _ _ _ _)
      | (with_reducible exact cooperagelaw16_shown.mono _)
      | (with_reducible exact lease_Give.mono _ _ _ _ _ _ _ _)
      | (with_reducible exact lease_Take.mono _ _ _ _ _ _ _ _ _)
      | (with_reducible exact lease_Tick.mono _ _ _ _ _)
      | (with_reducible exact LeO.refl _)
      | (with_reducible exact LeO.none _)
      | (with_reducible refine LeO.ite ?_ ?_)
      | (with_reducible refine LeO.bind ?_ (fun _ => ?_))
      | exact ih0 _ _ _ _
      | exact ih1 _ _ _ _ _ _ _
      | exact ih2 _ _ _ _ _ _ _ _
      | exact ih3 _ _ _ _ _ _ _ _ _
      | exact ih4 _ _ _ _ _ _ _ _ _
      | exact ih5 _ _ _ _ _ _ _ _ _
      | exact cooperagelaw16_shown.mono _
      | exact lease_Give.mono _ _ _ _ _ _ _ _
      | exact lease_Take.mono _ _ _ _ _ _ _ _ _
      | exact lease_Tick.mono _ _ _ _ _
      | exact LeO.none _
      | refine LeO.ite ?_ ?_
      | refine LeO.bind ?_ (fun _ => ?_)
    · intro y0 y1 y2 y3 y4 y5 y6 y7 y8
      unfold cooperagelaw16_LeaseTurn.l2
      repeat' first
      | (with_reducible exact ih0 _ _ _ _)
      | (with_reducible exact ih1 _ _ _ _ _ _ _)
      | (with_reducible exact ih2 _ _ _ _ _ _ _ _)
      | (with_reducible exact ih3 _ _ _ _ _ _ _ _ _)
      | (with_reducible exact ih4 _ _ _ _ _ _ _ _ _)
      | (with_reducible exact ih5 _ _ _ _ _ _ _ _ _)
      | (with_reducible exact cooperagelaw16_shown.mono _)
      | (with_reducible exact lease_Give.mono _ _ _ _ _ _ _ _)
      | (with_reducible exact lease_Take.mono _ _ _ _ _ _ _ _ _)
      | (with_reducible exact lease_Tick.mono _ _ _ _ _)
      | (with_reducible exact LeO.refl _)
      | (with_reducible exact LeO.none _)
      | (with_reducible refine LeO.ite ?_ ?_)
      | (with_reducible refine LeO.bind ?_ (fun _ => ?_))
      | exact ih0 _ _ _ _
      | exact ih1 _ _ _ _ _ _ _
      | exact ih2 _ _ _ _ _ _ _ _
      | exact ih3 _ _ _ _ _ _ _ _ _
      | exact ih4 _ _ _ _ _ _ _ _ _
      | exact ih5 _ _ _ _ _ _ _ _ _
      | exact cooperagelaw16_shown.mono _
      | exact lease_Give.mono _ _ _ _ _ _ _ _
      | exact lease_Take.mono _ _ _ _ _ _ _ _ _
      | exact lease_Tick.mono _ _ _ _ _
      | exact LeO.none _
      | refine LeO.ite ?_ ?_
      | refine LeO.bind ?_ (fun _ => ?_)
    · intro y0 y1 y2 y3 y4 y5 y6 y7 y8
      unfold cooperagelaw16_LeaseTurn.j5
      repeat' first
      | (with_reducible exact ih0 _ _ _ _)
      | (with_reducible exact ih1 _ _ _ _ _ _ _)
      | (with_reducible exact ih2 _ _ _ _ _ _ _ _)
      | (with_reducible exact ih3 _ _ _ _ _ _ _ _ _)
      | (with_reducible exact ih4 _ _ _ _ _ _ _ _ _)
      | (with_reducible exact ih5 _ _ _ _ _ _ _ _ _)
      | (with_reducible exact cooperagelaw16_shown.mono _)
      | (with_reducible exact lease_Give.mono _ _ _ _ _ _ _ _)
      | (with_reducible exact lease_Take.mono _ _ _ _ _ _ _ _ _)
      | (with_reducible exact lease_Tick.mono _ _ _ _ _)
      | (with_reducible exact LeO.refl _)
      | (with_reducible exact LeO.none _)
      | (with_reducible refine LeO.ite ?_ ?_)
      | (with_reducible refine LeO.bind ?_ (fun _ => ?_))
      | exact ih0 _ _ _ _
      | exact ih1 _ _ _ _ _ _ _
      | exact ih2 _ _ _ _ _ _ _ _
      | exact ih3 _ _ _ _ _ _ _ _ _
      | exact ih4 _ _ _ _ _ _ _ _ _
      | exact ih5 _ _ _ _ _ _ _ _ _
      | exact cooperagelaw16_shown.mono _
      | exact lease_Give.mono _ _ _ _ _ _ _ _
      | exact lease_Take.mono _ _ _ _ _ _ _ _ _
      | exact lease_Tick.mono _ _ _ _ _
      | exact LeO.none _
      | refine LeO.ite ?_ ?_
      | refine LeO.bind ?_ (fun _ => ?_)
theorem cooperagelaw16_LeaseTurn.mono : ∀ a0 a1 k, LeO (cooperagelaw16_LeaseTurn.f k a0 a1) (cooperagelaw16_LeaseTurn.f (k + 1) a0 a1) := by
  intro a0 a1 k
  obtain ⟨ih0, ih1, ih2, ih3, ih4, ih5⟩ := cooperagelaw16_LeaseTurn.mono_l k
  unfold cooperagelaw16_LeaseTurn.f
  repeat' first
      | (with_reducible exact ih0 _ _ _ _)
      | (with_reducible exact ih1 _ _ _ _ _ _ _)
      | (with_reducible exact ih2 _ _ _ _ _ _ _ _)
      | (with_reducible exact ih3 _ _ _ _ _ _ _ _ _)
      | (with_reducible exact ih4 _ _ _ _ _ _ _ _ _)
      | (with_reducible exact ih5 _ _ _ _ _ _ _ _ _)
      | (with_reducible exact cooperagelaw16_shown.mono _)
      | (with_reducible exact lease_Give.mono _ _ _ _ _ _ _ _)
      | (with_reducible exact lease_Take.mono _ _ _ _ _ _ _ _ _)
      | (with_reducible exact lease_Tick.mono _ _ _ _ _)
      | (with_reducible exact LeO.refl _)
      | (with_reducible exact LeO.none _)
      | (with_reducible refine LeO.ite ?_ ?_)
      | (with_reducible refine LeO.bind ?_ (fun _ => ?_))
      | exact ih0 _ _ _ _
      | exact ih1 _ _ _ _ _ _ _
      | exact ih2 _ _ _ _ _ _ _ _
      | exact ih3 _ _ _ _ _ _ _ _ _
      | exact ih4 _ _ _ _ _ _ _ _ _
      | exact ih5 _ _ _ _ _ _ _ _ _
      | exact cooperagelaw16_shown.mono _
      | exact lease_Give.mono _ _ _ _ _ _ _ _
      | exact lease_Take.mono _ _ _ _ _ _ _ _ _
      | exact lease_Tick.mono _ _ _ _ _
      | exact LeO.none _
      | refine LeO.ite ?_ ?_
      | refine LeO.bind ?_ (fun _ => ?_)
def cooperagelaw16_LeaseTurn.T9 : Bool × List (List Nat × List Nat) := (true, [([], []), ([], []), ([1], [1]), ([], []), ([], []), ([3, 4], [3, 4]), ([5], [5]), ([2, 6], [2, 6]), ([], []), ([0, 7, 8], [0, 7, 8]), ([9], [9]), ([10], [10]), ([10], [10]), ([10], [10]), ([], []), ([14, 11, 9, 0, 1, 2, 3, 4, 5, 6, 7, 8, 9, 10, 11, 14], [11, 14]), ([12, 15, 0, 1, 2, 3, 4, 5, 6, 7, 8, 9, 10, 11, 12, 14, 15], [12]), ([13, 16, 0, 1, 2, 3, 4, 5, 6, 7, 8, 9, 10, 11, 12, 13, 14, 15, 16], [13])])
def cooperagelaw16_LeaseTurn.B9 : List Nat := [0, 0, 2, 0, 0, 24, 56, 126, 0, 511, 1023, 2047, 2047, 2047, 0, 20479, 57343, 131071]
theorem cooperagelaw16_LeaseTurn.tab9 : rtab .any (opsOf Tryd.f3 9) = cooperagelaw16_LeaseTurn.T9 := by kernel_rfl
theorem cooperagelaw16_LeaseTurn.bits9 : waitsOk cooperagelaw16_LeaseTurn.T9.2 cooperagelaw16_LeaseTurn.B9 = true := by kernel_rfl
set_option maxHeartbeats 8000000 in
set_option maxRecDepth 100000 in
theorem cooperagelaw16_LeaseTurn.calls (k : Nat) (A0 : Option Addr) (c0 : Nat) (l0 : List Bool) (A1 : Option Addr) (c1 : Nat) (l1 : List Bool) (r : Bool) (w : World) (hr0 : Kd.C Kd.bool w A0 l0.length l0) (hc0 : l0.length ≤ c0) (hr1 : Kd.C Kd.bool w A1 l1.length l1) (hc1 : l1.length ≤ c1) (h : cooperagelaw16_LeaseTurn.f k l0 l1 = some r) :
    Calls Tryd.prog 3 #[.slice A0 l0.length c0, .slice A1 l1.length c1] w fun e w' => e = .returned (.bool r) ∧ Below w.heap.size w w' := by
  have hu27 := Tryd.underlying27
  have hu32 := Tryd.underlying32
  have hu34 := Tryd.underlying34
  have HR0 := Aside0.mk hr0
  have HC0 := Aside0.mk hc0
  clear hr0 hc0
  have HR1 := Aside0.mk hr1
  have HC1 := Aside0.mk hc1
  clear hr1 hc1
  have HB := Aside0.mk (Below.refl w.heap.size w)
  have H : ((cooperagelaw16_shown.f k).bind fun t453 => (if t453 = true then (if (l0.length : Int) > 40 then (cooperagelaw16_LeaseTurn.j0 k l0 l1 t453 true) else (cooperagelaw16_LeaseTurn.j0 k l0 l1 t453 (decide ((l1.length : Int) > 80)))) else (cooperagelaw16_LeaseTurn.j0 k l0 l1 t453 true))) = some r := h
  clear h
  replace H := Option.bind_eq_some_iff.mp H
  obtain ⟨t453, A30, H⟩ := H
  replace H : (if t453 = true then (if (l0.length : Int) > 40 then (cooperagelaw16_LeaseTurn.j0 k l0 l1 t453 true) else (cooperagelaw16_LeaseTurn.j0 k l0 l1 t453 (decide ((l1.length : Int) > 80)))) else (cooperagelaw16_LeaseTurn.j0 k l0 l1 t453 true)) = some r := H
  have A3 := Aside0.mk A30
  clear A30
  have HC4 := Aside0.mk H
  clear H
  go_enter Tryd.func3, Tryd.ntmps3
  go_upto_region 2 with (first | ((with_reducible refine gate_callee (f := 9) rfl ?_); refine goesL_ (some 19) rfl rfl Tryd.func9 (by kernel_rfl) rfl #[] rfl zA ?_; (with_reducible refine (cooperagelaw16_shown.calls k  t453 _ A3.out).mono ?_); rintro e w5 ⟨rfl, hb⟩; refine ⟨_, rfl, ?_⟩; have n0_ := Aside0.mk (below_step (zL HB.out) hb); clear HB; have HB := n0_; clear n0_; (try clear hb); (try clear hb2); (try clear hk); (try clear hi)))
  (try simp only [Act.put, List.setIfInBounds_toArray, List.set_cons_zero, List.set_cons_succ])
  go_cut [31] (fun v31 wc => ∃ (kq : Nat) (x31_3 : Bool), v31 = .bool x31_3 ∧ Aside0 (cooperagelaw16_LeaseTurn.j0 kq l0 l1 t453 x31_3 = some r) ∧ Aside0 (kq ≤ k) ∧ Aside0 (Below w.heap.size w wc))
  case first =>
    have H := HC4.out
    clear HC4
    by_cases c6 : t453 = true
    · subst c6
      have H1 : (if (l0.length : Int) > 40 then (cooperagelaw16_LeaseTurn.j0 k l0 l1 true true) else (cooperagelaw16_LeaseTurn.j0 k l0 l1 true (decide ((l1.length : Int) > 80)))) = some r := by rw [if_pos rfl] at H; exact H
      clear H
      have H := H1
      clear H1
      by_cases c7 : (l0.length : Int) > 40
      · rw [if_pos c7] at H
        have c7b0 : decide (40 < (l0.length : Int)) = true := decide_eq_true c7
        have c7b1 : decide (40 < l0.length) = true := decide_eq_true (by omega)
        clear c7
        (first | rw [c7b0] | (simp only [i64_w, i32_w]; rw [c7b0]) | skip)
        have H' := Aside0.mk H
        clear H
        go_wp2
        go_meet
        case rel => exact ⟨_, (true), (by first | rfl | (simp; done) | (simp [*]; done)), H', ⟨by first | omega | exact Nat.le_refl _⟩, ⟨zL HB.out⟩⟩
      · rw [if_neg c7] at H
        have c7b0 : decide (40 < (l0.length : Int)) = false := decide_eq_false c7
        have c7b1 : decide (40 < l0.length) = false := decide_eq_false (by omega)
        clear c7
        (first | rw [c7b0] | (simp only [i64_w, i32_w]; rw [c7b0]) | skip)
        have H' := Aside0.mk H
        clear H
        go_wp2
        go_meet
        case rel => exact ⟨_, (decide ((l1.length : Int) > 80)), (by first | rfl | (simp; done) | (simp [*]; done)), H', ⟨by first | omega | exact Nat.le_refl _⟩, ⟨zL HB.out⟩⟩
    · replace c6 := Bool.eq_false_iff.mpr c6
      subst c6
      have H1 : (cooperagelaw16_LeaseTurn.j0 k l0 l1 false true) = some r := by rw [if_neg (show ¬ (false = true) by decide)] at H; exact H
      clear H
      have H := H1
      clear H1
      have H' := Aside0.mk H
      clear H
      go_wp2
      go_meet
      case rel => exact ⟨_, (true), (by first | rfl | (simp; done) | (simp [*]; done)), H', ⟨by first | omega | exact Nat.le_refl _⟩, ⟨zL HB.out⟩⟩
  case rest =>
    clear HC4
    try clear c1
    try clear p2
    try clear c3
    try clear c6
    try clear c7
    try clear c7b0
    try clear c7b1
    obtain ⟨kq, x31_3, rfl, HA, HJ3, HB⟩ := hcut
    cases kq with
    | zero => exact absurd HA.out (by simp [cooperagelaw16_LeaseTurn.j0])
    | succ kj3 =>
      have H := HA.out
      clear HA
      simp only [cooperagelaw16_LeaseTurn.j0] at H
      by_cases c8 : x31_3 = true
      · subst c8
        have H1 : (some t453) = some r := by rw [if_pos rfl] at H; exact H
        clear H
        have H := H1
        clear H1
        obtain rfl := Option.some.inj H
        go_wp2
        go_ret
        exact ⟨by first | rfl | (simp [errW_none, errW_some] <;> rfl) | (simp [*, errW_none, errW_some] <;> rfl), zL HB.out⟩
      · replace c8 := Bool.eq_false_iff.mpr c8
        subst c8
        have H1 : (cooperagelaw16_LeaseTurn.l0 kj3 l0 l1 0 0 0 ([] : List (S34)) ([] : List (S32))) = some r := by rw [if_neg (show ¬ (false = true) by decide)] at H; exact H
        clear H
        have H := H1
        clear H1
        have H' := Aside0.mk H
        clear H
        go_wp2_with (first | ((with_reducible refine gate_dst (N := 6) rfl ?_); (try (refine gate_guard (by rfl) ?_; dsimp only)); refine box_event ?hg (N := 6) ?hd (cs := #[.int .i64 0, .slice none 0 0, .slice none 0 0]) (t := 27) ?hr ?_; (case hd => rfl); (case hg => rfl); (case hr => first | (go_simp; done) | (go_simp; rfl)); intro gb454 hg w9 hbox hb; have n0_ := Aside0.mk (below_step (zL HB.out) hb); have n1_ := Aside0.mk (hbox); have n2_ := Aside0.mk (zG hg (zL HB.out)); have n3_ := Aside0.mk (zG hg (zL HB.out)); clear HB; have HB := n0_; have BK454 := n1_; have GW454 := n2_; have GE454 := n3_; clear n0_ n1_ n2_ n3_; clear hb hbox hg; have hcz10_0 : w9.cell? ⟨gb454, 0, none⟩ = some (.int .i64 0) := (blk_cell BK454.out 0).trans rfl; have hcz10_1 : w9.cell? ⟨gb454, 1, none⟩ = some (.slice none 0 0) := (blk_cell BK454.out 1).trans rfl; have hcz10_2 : w9.cell? ⟨gb454, 2, none⟩ = some (.slice none 0 0) := (blk_cell BK454.out 2).trans rfl; have hfz10_0 := blk_frozen BK454.out 0; have hfz10_1 := blk_frozen BK454.out 1; have hfz10_2 := blk_frozen BK454.out 2))
        go_loopg [8] kj3 (fun kq v8 w' => ∃ (x8_2 : Int) (x455000_2 : Int) (x455001_2 : List (S34)) (x455002_2 : List (S32)) (u455001 : Value) (u455002 : Value), v8 = .int .i64 x8_2 ∧ Aside0 (cooperagelaw16_LeaseTurn.l0 kq l0 l1 0 x8_2 x455000_2 x455001_2 x455002_2 = some r) ∧ Aside0 (kq ≤ kj3) ∧ Aside0 (Kd.V k34 34 w' w.heap.size (fun k_ => k_ ≠ gb454) u455001 x455001_2) ∧ Aside0 (Kd.V k32 32 w' w.heap.size (fun k_ => k_ ≠ gb454) u455002 x455002_2) ∧ Aside0 (w'.heap[gb454]? = some (.cells #[.int .i64 x455000_2, u455001, u455002] 27 (0, 0))) ∧ Aside0 (Below w.heap.size w w'))
        case atStart => exact ⟨(0), (0), (([] : List (S34))), (([] : List (S32))), (.slice none 0 0), (.slice none 0 0), (by first | rfl | (simp; done) | (simp [*]; done)), H', ⟨Nat.le_refl _⟩, ⟨Kd.V_nil _ _ _ _ _⟩, ⟨Kd.V_nil _ _ _ _ _⟩, ⟨by (with_reducible repeat (first | refine blk_drewN ?_ _ | refine blk_drew ?_ | refine blk_alloc ?_ _)); refine blk_put (cs := #[.int .i64 0, .slice none 0 0, .slice none 0 0]) ?_ 2 _ rfl; (with_reducible repeat (first | refine blk_drewN ?_ _ | refine blk_drew ?_ | refine blk_alloc ?_ _)); refine blk_put (cs := #[.int .i64 0, .slice none 0 0, .slice none 0 0]) ?_ 1 _ rfl; (with_reducible repeat (first | refine blk_drewN ?_ _ | refine blk_drew ?_ | refine blk_alloc ?_ _)); refine blk_put (cs := #[.int .i64 0, .slice none 0 0, .slice none 0 0]) ?_ 0 _ rfl; (with_reducible repeat (first | refine blk_drewN ?_ _ | refine blk_drew ?_ | refine blk_alloc ?_ _)); exact BK454.out⟩, ⟨zL HB.out⟩⟩
        case round =>
          clear H'
          try clear c1
          try clear p2
          try clear c3
          try clear c6
          try clear c7
          try clear c7b0
          try clear c7b1
          try clear c8
          try clear c9
          try clear hcz10_0
          try clear hcz10_1
          try clear hcz10_2
          try clear hfz10_0
          try clear hfz10_1
          try clear hfz10_2
          try clear p2
          obtain ⟨x8_2, x455000_2, x455001_2, x455002_2, u455001, u455002, rfl, HA, HK2, HO_455001, HO_455002, BK454, HB⟩ := hrel
          cases gk with
          | zero => exact absurd HA.out (by simp [cooperagelaw16_LeaseTurn.l0])
          | succ k2 =>
            have H := HA.out
            clear HA
            simp only [cooperagelaw16_LeaseTurn.l0] at H
            by_cases c11 : x8_2 < (l0.length : Int)
            · rw [if_pos c11] at H
              have c11b0 : decide (x8_2 < (l0.length : Int)) = true := decide_eq_true c11
              clear c11
              by_cases c12 : 0 ≤ x8_2
              · rw [if_pos c12] at H
                have c12b0 : decide (0 ≤ x8_2) = true := decide_eq_true c12
                clear c12
                replace H := Option.bind_eq_some_iff.mp H
                obtain ⟨⟨t456, t457, t460, t463, t464⟩, A130, H⟩ := H
                replace H : (if t464 = 0 then (cooperagelaw16_LeaseTurn.l0 k2 l0 l1 0 (wrap64 (x8_2 + 1)) t456 t457 t460) else (some false)) = some r := H
                have A13 := Aside0.mk A130
                clear A130
                by_cases c14 : t464 = 0
                · rw [if_pos c14] at H
                  have c14b0 : (t464 == 0) = true := beq_iff_eq.mpr c14
                  have c14b1 : (t464 != 0) = false := bne_eq_false_iff_eq.mpr c14
                  clear c14
                  have H' := Aside0.mk H
                  clear H
                  obtain ⟨Ao15, co15, eo15⟩ := Kd.V_slice HO_455001.out
                  subst eo15
                  obtain ⟨Ao16, co16, eo16⟩ := Kd.V_slice HO_455002.out
                  subst eo16
                  try go_wp2
                  have n0_ := Aside0.mk (Kd.V_drew HO_455001.out)
                  have n1_ := Aside0.mk (Kd.V_drew HO_455002.out)
                  have n2_ := Aside0.mk (blk_drew BK454.out)
                  have n3_ := Aside0.mk (below_drew1 HB.out)
                  clear HO_455001
                  clear HO_455002
                  clear BK454
                  clear HB
                  have HO_455001 := n0_
                  have HO_455002 := n1_
                  have BK454 := n2_
                  have HB := n3_
                  clear n0_ n1_ n2_ n3_
                  have p455 : 0 ≤ (x8_2 : Int) := of_decide_eq_true (by first | (with_reducible assumption) | assumption)
                  have q455 : x8_2 < (l0.length : Int) := of_decide_eq_true (by first | (with_reducible assumption) | assumption)
                  obtain ⟨ad455, e455, hx455_0⟩ := Kd.at_bool HR0.out x8_2 p455 q455
                  have hw455_0 := hx455_0
                  cases e455
                  replace hx455_0 := (HB.out.cell (World.block_lt_of_cell? w _ hx455_0)).trans hx455_0
                  replace p455 := eq_true p455
                  replace q455 := eq_true q455
                  refine start_ (n := 18) (S := fun w' => w'.cell? ⟨gb454, 0, none⟩ = some (.int .i64 x455000_2) ∧ w'.cell? ⟨gb454, 1, none⟩ = some (.slice Ao15 x455001_2.length co15) ∧ w'.cell? ⟨gb454, 2, none⟩ = some (.slice Ao16 x455002_2.length co16) ∧ w'.cell? (ad455.add (x8_2).toNat) = some (.bool (rdOf false l0 x8_2))) (ds := []) #[false, false, false, false, false, false, false, false, false, false, false, false, false, false, false, false, false, false] (by kernel_rfl) rfl rfl ⟨(blk_cell BK454.out 0).trans rfl, (blk_cell BK454.out 1).trans rfl, (blk_cell BK454.out 2).trans rfl, ((HB.out.cell (World.block_lt_of_cell? w _ hw455_0)).trans hw455_0)⟩ (fun hHeld => ?_); refine with_tabW cooperagelaw16_LeaseTurn.tab9 cooperagelaw16_LeaseTurn.bits9 (fun HT_ HW_ => ?_)
                  generalize wr.drew = w17 at HO_455001 HO_455002 BK454 HB hx455_0 hHeld ⊢
                  refine pure_ (i := 1) (N := some 42) (v := ?_) (a' := ?_) #[false, true, false, false, false, false, false, false, false, false, false, false, false, false, false, false, false, false] rfl rfl (any_of HT_.out (by kernel_rfl)) (fun _ _ _ h => h) (Or.inl ⟨by rfl, ?_⟩) ?_ ?_
                  rotate_left
                  · intro w'
                    go_simp
                    with_reducible rfl
                  rotate_left
                  · simp only [Act.put, List.setIfInBounds_toArray, List.set_cons_zero, List.set_cons_succ, i64_w, i32_w]
                    rfl
                  refine pure_ (i := 2) (N := some 43) (v := ?_) (a' := ?_) #[false, true, true, false, false, false, false, false, false, false, false, false, false, false, false, false, false, false] rfl rfl (any_of HT_.out (by kernel_rfl)) (fun _ _ _ h => h) (Or.inl ⟨by rfl, ?_⟩) ?_ ?_
                  rotate_left
                  · intro w'
                    go_simp
                    with_reducible rfl
                  rotate_left
                  · simp only [Act.put, List.setIfInBounds_toArray, List.set_cons_zero, List.set_cons_succ, i64_w, i32_w]
                    rfl
                  refine pure_ (i := 3) (N := some 44) (v := ?_) (a' := ?_) #[false, true, true, true, false, false, false, false, false, false, false, false, false, false, false, false, false, false] rfl rfl (any_of HT_.out (by kernel_rfl)) (fun _ _ _ h => h) (Or.inl ⟨by rfl, ?_⟩) ?_ ?_
                  rotate_left
                  · intro w'
                    go_simp
                    with_reducible rfl
                  rotate_left
                  · simp only [Act.put, List.setIfInBounds_toArray, List.set_cons_zero, List.set_cons_succ, i64_w, i32_w]
                    rfl
                  refine pure_ (i := 4) (N := some 45) (v := ?_) (a' := ?_) #[false, true, true, true, true, false, false, false, false, false, false, false, false, false, false, false, false, false] rfl rfl (any_of HT_.out (by kernel_rfl)) (fun _ _ _ h => h) (Or.inl ⟨by rfl, ?_⟩) ?_ ?_
                  rotate_left
                  · intro w'
                    go_simp
                    with_reducible rfl
                  rotate_left
                  · simp only [Act.put, List.setIfInBounds_toArray, List.set_cons_zero, List.set_cons_succ, i64_w, i32_w]
                    rfl
                  refine pure_ (i := 5) (N := some 46) (v := ?_) (a' := ?_) #[false, true, true, true, true, true, false, false, false, false, false, false, false, false, false, false, false, false] rfl rfl (any_of HT_.out (by kernel_rfl)) (fun _ _ _ h => h) (Or.inl ⟨by rfl, ?_⟩) ?_ ?_
                  rotate_left
                  · intro w'
                    go_simp
                    with_reducible rfl
                  rotate_left
                  · simp only [Act.put, List.setIfInBounds_toArray, List.set_cons_zero, List.set_cons_succ, i64_w, i32_w]
                    rfl
                  refine pure_ (i := 8) (N := some 49) (v := ?_) (a' := ?_) #[false, true, true, true, true, true, false, false, true, false, false, false, false, false, false, false, false, false] rfl rfl (any_of HT_.out (by kernel_rfl)) (fun _ _ _ h => h) (Or.inl ⟨by rfl, ?_⟩) ?_ ?_
                  rotate_left
                  · intro w'
                    go_simp
                    with_reducible rfl
                  rotate_left
                  · simp only [Act.put, List.setIfInBounds_toArray, List.set_cons_zero, List.set_cons_succ, i64_w, i32_w]
                    rfl
                  refine take_ (i := 0) (N := some 41) (v := ?_) (a' := ?_) #[true, true, true, true, true, true, false, false, true, false, false, false, false, false, false, false, false, false] rfl rfl (take_ofW HT_.out HW_.out (by kernel_rfl)) (fun _ _ _ h => h) (Or.inl ⟨by rfl, ?_⟩) hHeld ?_ ?_
                  rotate_left
                  · rintro w' ⟨s0, s1, s2, s3⟩
                    go_simp
                    with_reducible rfl
                  rotate_left
                  · simp only [Act.put, List.setIfInBounds_toArray, List.set_cons_zero, List.set_cons_succ, i64_w, i32_w]
                    rfl
                  refine take_ (i := 6) (N := some 47) (v := ?_) (a' := ?_) #[true, true, true, true, true, true, true, false, true, false, false, false, false, false, false, false, false, false] rfl rfl (take_ofW HT_.out HW_.out (by kernel_rfl)) (fun _ _ _ h => h) (Or.inl ⟨by rfl, ?_⟩) hHeld ?_ ?_
                  rotate_left
                  · rintro w' ⟨s0, s1, s2, s3⟩
                    go_simp
                    with_reducible rfl
                  rotate_left
                  · simp only [Act.put, List.setIfInBounds_toArray, List.set_cons_zero, List.set_cons_succ, i64_w, i32_w]
                    rfl
                  refine pure_ (i := 7) (N := some 48) (v := ?_) (a' := ?_) #[true, true, true, true, true, true, true, true, true, false, false, false, false, false, false, false, false, false] rfl rfl (any_of HT_.out (by kernel_rfl)) (fun _ _ _ h => h) (Or.inl ⟨by rfl, ?_⟩) ?_ ?_
                  rotate_left
                  · intro w'
                    go_simp
                    with_reducible rfl
                  rotate_left
                  · simp only [Act.put, List.setIfInBounds_toArray, List.set_cons_zero, List.set_cons_succ, i64_w, i32_w]
                    rfl
                  refine join_ (σ := Value × Value × Nat) 3 #[true, true, true, true, true, true, true, true, true, true, true, true, true, true, true, false, false, false] (fun s_ => [(50, .tuple #[.agg #[.int .i64 t456, s_.1, s_.2.1], .int .i64 t463, .int .i64 t464]), (9, .pointer (some ⟨s_.2.2, 0, none⟩)), (40, .tuple #[.agg #[.int .i64 t456, s_.1, s_.2.1], .int .i64 t463, .int .i64 t464]), (51, .agg #[.int .i64 t456, s_.1, s_.2.1]), (52, .int .i64 t463), (53, .int .i64 t464)]) (fun s_ w' => (w'.cell? ⟨gb454, 0, none⟩ = some (.int .i64 x455000_2) ∧ w'.cell? ⟨gb454, 1, none⟩ = some (.slice Ao15 x455001_2.length co15) ∧ w'.cell? ⟨gb454, 2, none⟩ = some (.slice Ao16 x455002_2.length co16) ∧ w'.cell? (ad455.add (x8_2).toNat) = some (.bool (rdOf false l0 x8_2))) ∧ (Kd.R k34 34 w' w.heap.size (fun _ => True) s_.1 t457) ∧ (Kd.R k32 32 w' w.heap.size (fun _ => True) s_.2.1 t460) ∧ (Kd.V k34 34 w' w.heap.size (fun k_ => some k_ ≠ (s_.1 : Value).ownBlock ∧ some k_ ≠ (s_.2.1 : Value).ownBlock ∧ k_ ≠ gb454 ∧ k_ ≠ s_.2.2) (.slice Ao15 x455001_2.length co15) x455001_2) ∧ (Kd.V k32 32 w' w.heap.size (fun k_ => some k_ ≠ (s_.1 : Value).ownBlock ∧ some k_ ≠ (s_.2.1 : Value).ownBlock ∧ k_ ≠ gb454 ∧ k_ ≠ s_.2.2) (.slice Ao16 x455002_2.length co16) x455002_2) ∧ (w'.heap[gb454]? = some (.cells #[.int .i64 x455000_2, .slice Ao15 x455001_2.length co15, .slice Ao16 x455002_2.length co16] 27 (0, 0))) ∧ (w'.heap[s_.2.2]? = some (.cells #[.int .i64 0, .slice none 0 0, .slice none 0 0] 27 (0, 0))) ∧ (w.heap.size ≤ s_.2.2) ∧ (w.heap.size ≤ s_.2.2) ∧ (gb454 ≠ s_.2.2) ∧ (s_.2.2 ≠ gb454) ∧ (Below w.heap.size w w')) ?_ ?_
                  rotate_left
                  · intro hCont
                    refine two_ (i := 9) (j := 14) (Ni := some 50) (Nj := some 9) #[true, true, true, true, true, true, true, true, true, true, false, false, false, false, false, false, false, false] #[true, true, true, true, true, true, true, true, true, false, false, false, false, false, true, false, false, false] rfl rfl rfl rfl (two_of HT_.out (by kernel_rfl)) (by decide) (by decide) (fun K hK => ?_) (fun K hK => ?_)
                    · skip
                      refine goes_ Tryd.func10 (by kernel_rfl) rfl #[.agg #[.int .i64 x455000_2, .slice Ao15 x455001_2.length co15, .slice Ao16 x455002_2.length co16], .agg #[.int .i64 (wrap64 (x8_2 + 1)), .string (⟨#[110]⟩ : ByteArray), .bool (rdOf false l0 x8_2), .int .i64 10], .int .i64 0] (by rfl) rfl rfl zA ?_
                      with_reducible refine (lease_Take.calls k2 x455000_2 _ _ x455001_2 _ _ x455002_2 (wrap64 (x8_2 + 1)) (⟨#[110]⟩ : ByteArray) (rdOf false l0 x8_2) 10 0 t456 t457 t460 t463 t464 _ ?side1 ?side2 ?side3 ?side4 A13.out).mono ?_
                      (case side1 => repeat (first | exact (Kd.V_reads' HO_455001.out).2.2 | (with_reducible refine Kd.C_alloc ?_ _) | (with_reducible refine Kd.C_drewN ?_ _) | (with_reducible refine Kd.C_drew ?_)))
                      (case side2 => exact (Kd.V_reads' HO_455001.out).2.1)
                      (case side3 => repeat (first | exact (Kd.V_reads' HO_455002.out).2.2 | (with_reducible refine Kd.C_alloc ?_ _) | (with_reducible refine Kd.C_drewN ?_ _) | (with_reducible refine Kd.C_drew ?_)))
                      (case side4 => exact (Kd.V_reads' HO_455002.out).2.1)
                      rintro e w18 ⟨v458, v461, rfl, ho0, ho1, hb⟩
                      refine ⟨_, rfl, ?_⟩
                      have n0_ := Aside0.mk (Kd.V_mono (Kd.V_told (Kd.V_told (Kd.V_old (zV HO_455001.out) hb) (Kd.R_base ho0)) (Kd.R_base ho1)) (fun _ h_ => h_.1))
                      have n1_ := Aside0.mk (Kd.V_mono (Kd.V_told (Kd.V_told (Kd.V_old (zV HO_455002.out) hb) (Kd.R_base ho0)) (Kd.R_base ho1)) (fun _ h_ => h_.1))
                      have n2_ := Aside0.mk (Kd.R_lower ho0 (below_size (zL HB.out)))
                      have n3_ := Aside0.mk (Kd.R_lower ho1 (below_size (zL HB.out)))
                      have n4_ := Aside0.mk (blk_below (g := gb454) (o := .cells #[.int .i64 x455000_2, .slice Ao15 x455001_2.length co15, .slice Ao16 x455002_2.length co16] 27 (0, 0)) (zK BK454.out) hb)
                      have n5_ := Aside0.mk (below_step (zL HB.out) hb)
                      clear HO_455001
                      clear HO_455002
                      clear BK454
                      clear HB
                      have HO_455001 := n0_
                      have HO_455002 := n1_
                      have HO459 := n2_
                      have HO462 := n3_
                      have BK454 := n4_
                      have HB := n5_
                      clear n0_ n1_ n2_ n3_ n4_ n5_
                      (try clear hb)
                      (try clear hb2)
                      (try clear hk)
                      (try clear hi)
                      (try clear ho0)
                      (try clear ho1)
                      refine hK.out _ _ ⟨(blk_cell BK454.out 0).trans rfl, (blk_cell BK454.out 1).trans rfl, (blk_cell BK454.out 2).trans rfl, ((HB.out.cell (World.block_lt_of_cell? w _ hw455_0)).trans hw455_0)⟩ (fun hHeld => ?_)
                      clear hK K
                      refine norm_ (a' := ?_) ?_ ?_
                      rotate_left
                      · show Act.put _ (some 50) _ = _
                        simp only [Act.put, List.setIfInBounds_toArray, List.set_cons_zero, List.set_cons_succ, i64_w, i32_w]
                        rfl
                      refine pure_ (i := 10) (N := some 40) (v := ?_) (a' := ?_) #[true, true, true, true, true, true, true, true, true, true, true, false, false, false, false, false, false, false] rfl rfl (any_of HT_.out (by kernel_rfl)) (fun _ _ _ h => h) (Or.inl ⟨by rfl, ?_⟩) ?_ ?_
                      rotate_left
                      · intro w'
                        go_simp
                        with_reducible rfl
                      rotate_left
                      · simp only [Act.put, List.setIfInBounds_toArray, List.set_cons_zero, List.set_cons_succ, i64_w, i32_w]
                        rfl
                      refine pure_ (i := 11) (N := some 51) (v := ?_) (a' := ?_) #[true, true, true, true, true, true, true, true, true, true, true, true, false, false, false, false, false, false] rfl rfl (any_of HT_.out (by kernel_rfl)) (fun _ _ _ h => h) (Or.inl ⟨by rfl, ?_⟩) ?_ ?_
                      rotate_left
                      · intro w'
                        go_simp
                        with_reducible rfl
                      rotate_left
                      · simp only [Act.put, List.setIfInBounds_toArray, List.set_cons_zero, List.set_cons_succ, i64_w, i32_w]
                        rfl
                      refine pure_ (i := 12) (N := some 52) (v := ?_) (a' := ?_) #[true, true, true, true, true, true, true, true, true, true, true, true, true, false, false, false, false, false] rfl rfl (any_of HT_.out (by kernel_rfl)) (fun _ _ _ h => h) (Or.inl ⟨by rfl, ?_⟩) ?_ ?_
                      rotate_left
                      · intro w'
                        go_simp
                        with_reducible rfl
                      rotate_left
                      · simp only [Act.put, List.setIfInBounds_toArray, List.set_cons_zero, List.set_cons_succ, i64_w, i32_w]
                        rfl
                      refine pure_ (i := 13) (N := some 53) (v := ?_) (a' := ?_) #[true, true, true, true, true, true, true, true, true, true, true, true, true, true, false, false, false, false] rfl rfl (any_of HT_.out (by kernel_rfl)) (fun _ _ _ h => h) (Or.inl ⟨by rfl, ?_⟩) ?_ ?_
                      rotate_left
                      · intro w'
                        go_simp
                        with_reducible rfl
                      rotate_left
                      · simp only [Act.put, List.setIfInBounds_toArray, List.set_cons_zero, List.set_cons_succ, i64_w, i32_w]
                        rfl
                      refine one_ (i := 14) (N := some 9) #[true, true, true, true, true, true, true, true, true, true, true, true, true, true, true, false, false, false] rfl rfl (one_of HT_.out (by kernel_rfl)) (by decide) (fun K hK => ?_)
                      refine box_step ?hg (N := 9) ?hd (cs := #[.int .i64 0, .slice none 0 0, .slice none 0 0]) (t := 27) ?hr ?_; (case hd => rfl); (case hg => rfl); (case hr => first | (go_simp; done) | (go_simp; rfl))
                      intro gb465 hg w19 hbox hb
                      have n0_ := Aside0.mk (Kd.V_below (Kd.V_elderB (zV HO_455001.out) gb465 (Nat.le_of_eq hg.symm)) hb)
                      have n1_ := Aside0.mk (Kd.V_below (Kd.V_elderB (zV HO_455002.out) gb465 (Nat.le_of_eq hg.symm)) hb)
                      have n2_ := Aside0.mk (Kd.R_below (zR HO459.out) hb)
                      have n3_ := Aside0.mk (Kd.R_below (zR HO462.out) hb)
                      have n4_ := Aside0.mk (blk_below (g := gb454) (o := .cells #[.int .i64 x455000_2, .slice Ao15 x455001_2.length co15, .slice Ao16 x455002_2.length co16] 27 (0, 0)) (zK BK454.out) hb)
                      have n5_ := Aside0.mk (below_step (zL HB.out) hb)
                      have n6_ := Aside0.mk (hbox)
                      have n7_ := Aside0.mk (zG hg (zL HB.out))
                      have n8_ := Aside0.mk (zG hg (zL HB.out))
                      have n9_ := Aside0.mk (zN (g := gb454) (o := .cells #[.int .i64 x455000_2, .slice Ao15 x455001_2.length co15, .slice Ao16 x455002_2.length co16] 27 (0, 0)) hg (zK BK454.out))
                      have n10_ := Aside0.mk (zO (g := gb454) (o := .cells #[.int .i64 x455000_2, .slice Ao15 x455001_2.length co15, .slice Ao16 x455002_2.length co16] 27 (0, 0)) hg (zK BK454.out))
                      clear HO_455001
                      clear HO_455002
                      clear HO459
                      clear HO462
                      clear BK454
                      clear HB
                      have HO_455001 := n0_
                      have HO_455002 := n1_
                      have HO459 := n2_
                      have HO462 := n3_
                      have BK454 := n4_
                      have HB := n5_
                      have BK465 := n6_
                      have GW465 := n7_
                      have GE465 := n8_
                      have NB454_465 := n9_
                      have NB465_454 := n10_
                      clear n0_ n1_ n2_ n3_ n4_ n5_ n6_ n7_ n8_ n9_ n10_
                      clear hb hbox hg
                      refine hK.out _ _ ⟨(blk_cell BK454.out 0).trans rfl, (blk_cell BK454.out 1).trans rfl, (blk_cell BK454.out 2).trans rfl, ((HB.out.cell (World.block_lt_of_cell? w _ hw455_0)).trans hw455_0)⟩ (fun hHeld => ?_)
                      clear hK K
                      refine norm_ (a' := ?_) ?_ ?_
                      rotate_left
                      · show Act.put _ (some 9) _ = _
                        simp only [Act.put, List.setIfInBounds_toArray, List.set_cons_zero, List.set_cons_succ, i64_w, i32_w]
                        rfl
                      exact norm_ (by simp only [putAll, Act.put, List.setIfInBounds_toArray, List.set_cons_zero, List.set_cons_succ]) (hCont (v458, v461, gb465) _ ⟨hHeld, (zR HO459.out), (zR HO462.out), (by (with_reducible repeat (first | apply Kd.V_alloc | apply Kd.V_drewN | apply Kd.V_drew)); exact Kd.V_mono HO_455001.out (fun _ hk => ⟨hk.1.1.2, ⟨hk.1.2, ⟨hk.1.1.1, hk.2⟩⟩⟩)), (by (with_reducible repeat (first | apply Kd.V_alloc | apply Kd.V_drewN | apply Kd.V_drew)); exact Kd.V_mono HO_455002.out (fun _ hk => ⟨hk.1.1.2, ⟨hk.1.2, ⟨hk.1.1.1, hk.2⟩⟩⟩)), (zK BK454.out), (zK BK465.out), GW465.out, GE465.out, NB454_465.out, NB465_454.out, (zL HB.out)⟩)
                    · skip
                      refine box_step ?hg (N := 9) ?hd (cs := #[.int .i64 0, .slice none 0 0, .slice none 0 0]) (t := 27) ?hr ?_; (case hd => rfl); (case hg => rfl); (case hr => first | (go_simp; done) | (go_simp; rfl))
                      intro gb465 hg w18 hbox hb
                      have n0_ := Aside0.mk (Kd.V_below (Kd.V_elderB (zV HO_455001.out) gb465 (Nat.le_of_eq hg.symm)) hb)
                      have n1_ := Aside0.mk (Kd.V_below (Kd.V_elderB (zV HO_455002.out) gb465 (Nat.le_of_eq hg.symm)) hb)
                      have n2_ := Aside0.mk (blk_below (g := gb454) (o := .cells #[.int .i64 x455000_2, .slice Ao15 x455001_2.length co15, .slice Ao16 x455002_2.length co16] 27 (0, 0)) (zK BK454.out) hb)
                      have n3_ := Aside0.mk (below_step (zL HB.out) hb)
                      have n4_ := Aside0.mk (hbox)
                      have n5_ := Aside0.mk (zG hg (zL HB.out))
                      have n6_ := Aside0.mk (zG hg (zL HB.out))
                      have n7_ := Aside0.mk (zN (g := gb454) (o := .cells #[.int .i64 x455000_2, .slice Ao15 x455001_2.length co15, .slice Ao16 x455002_2.length co16] 27 (0, 0)) hg (zK BK454.out))
                      have n8_ := Aside0.mk (zO (g := gb454) (o := .cells #[.int .i64 x455000_2, .slice Ao15 x455001_2.length co15, .slice Ao16 x455002_2.length co16] 27 (0, 0)) hg (zK BK454.out))
                      clear HO_455001
                      clear HO_455002
                      clear BK454
                      clear HB
                      have HO_455001 := n0_
                      have HO_455002 := n1_
                      have BK454 := n2_
                      have HB := n3_
                      have BK465 := n4_
                      have GW465 := n5_
                      have GE465 := n6_
                      have NB454_465 := n7_
                      have NB465_454 := n8_
                      clear n0_ n1_ n2_ n3_ n4_ n5_ n6_ n7_ n8_
                      clear hb hbox hg
                      refine hK.out _ _ ⟨(blk_cell BK454.out 0).trans rfl, (blk_cell BK454.out 1).trans rfl, (blk_cell BK454.out 2).trans rfl, ((HB.out.cell (World.block_lt_of_cell? w _ hw455_0)).trans hw455_0)⟩ (fun hHeld => ?_)
                      clear hK K
                      refine norm_ (a' := ?_) ?_ ?_
                      rotate_left
                      · show Act.put _ (some 9) _ = _
                        simp only [Act.put, List.setIfInBounds_toArray, List.set_cons_zero, List.set_cons_succ, i64_w, i32_w]
                        rfl
                      refine one_ (i := 9) (N := some 50) #[true, true, true, true, true, true, true, true, true, true, false, false, false, false, true, false, false, false] rfl rfl (one_of HT_.out (by kernel_rfl)) (by decide) (fun K hK => ?_)
                      refine goes_ Tryd.func10 (by kernel_rfl) rfl #[.agg #[.int .i64 x455000_2, .slice Ao15 x455001_2.length co15, .slice Ao16 x455002_2.length co16], .agg #[.int .i64 (wrap64 (x8_2 + 1)), .string (⟨#[110]⟩ : ByteArray), .bool (rdOf false l0 x8_2), .int .i64 10], .int .i64 0] (by rfl) rfl rfl zA ?_
                      with_reducible refine (lease_Take.calls k2 x455000_2 _ _ x455001_2 _ _ x455002_2 (wrap64 (x8_2 + 1)) (⟨#[110]⟩ : ByteArray) (rdOf false l0 x8_2) 10 0 t456 t457 t460 t463 t464 _ ?side1 ?side2 ?side3 ?side4 A13.out).mono ?_
                      (case side1 => repeat (first | exact (Kd.V_reads' HO_455001.out).2.2 | (with_reducible refine Kd.C_alloc ?_ _) | (with_reducible refine Kd.C_drewN ?_ _) | (with_reducible refine Kd.C_drew ?_)))
                      (case side2 => exact (Kd.V_reads' HO_455001.out).2.1)
                      (case side3 => repeat (first | exact (Kd.V_reads' HO_455002.out).2.2 | (with_reducible refine Kd.C_alloc ?_ _) | (with_reducible refine Kd.C_drewN ?_ _) | (with_reducible refine Kd.C_drew ?_)))
                      (case side4 => exact (Kd.V_reads' HO_455002.out).2.1)
                      rintro e w19 ⟨v458, v461, rfl, ho0, ho1, hb⟩
                      refine ⟨_, rfl, ?_⟩
                      have n0_ := Aside0.mk (Kd.V_mono (Kd.V_told (Kd.V_told (Kd.V_old (zV HO_455001.out) hb) (Kd.R_base ho0)) (Kd.R_base ho1)) (fun _ h_ => h_.1))
                      have n1_ := Aside0.mk (Kd.V_mono (Kd.V_told (Kd.V_told (Kd.V_old (zV HO_455002.out) hb) (Kd.R_base ho0)) (Kd.R_base ho1)) (fun _ h_ => h_.1))
                      have n2_ := Aside0.mk (Kd.R_lower ho0 (below_size (zL HB.out)))
                      have n3_ := Aside0.mk (Kd.R_lower ho1 (below_size (zL HB.out)))
                      have n4_ := Aside0.mk (blk_below (g := gb454) (o := .cells #[.int .i64 x455000_2, .slice Ao15 x455001_2.length co15, .slice Ao16 x455002_2.length co16] 27 (0, 0)) (zK BK454.out) hb)
                      have n5_ := Aside0.mk (blk_below (g := gb465) (o := .cells #[.int .i64 0, .slice none 0 0, .slice none 0 0] 27 (0, 0)) (zK BK465.out) hb)
                      have n6_ := Aside0.mk (below_step (zL HB.out) hb)
                      clear HO_455001
                      clear HO_455002
                      clear BK454
                      clear BK465
                      clear HB
                      have HO_455001 := n0_
                      have HO_455002 := n1_
                      have HO459 := n2_
                      have HO462 := n3_
                      have BK454 := n4_
                      have BK465 := n5_
                      have HB := n6_
                      clear n0_ n1_ n2_ n3_ n4_ n5_ n6_
                      (try clear hb)
                      (try clear hb2)
                      (try clear hk)
                      (try clear hi)
                      (try clear ho0)
                      (try clear ho1)
                      refine hK.out _ _ ⟨(blk_cell BK454.out 0).trans rfl, (blk_cell BK454.out 1).trans rfl, (blk_cell BK454.out 2).trans rfl, ((HB.out.cell (World.block_lt_of_cell? w _ hw455_0)).trans hw455_0)⟩ (fun hHeld => ?_)
                      clear hK K
                      refine norm_ (a' := ?_) ?_ ?_
                      rotate_left
                      · show Act.put _ (some 50) _ = _
                        simp only [Act.put, List.setIfInBounds_toArray, List.set_cons_zero, List.set_cons_succ, i64_w, i32_w]
                        rfl
                      refine pure_ (i := 10) (N := some 40) (v := ?_) (a' := ?_) #[true, true, true, true, true, true, true, true, true, true, true, false, false, false, true, false, false, false] rfl rfl (any_of HT_.out (by kernel_rfl)) (fun _ _ _ h => h) (Or.inl ⟨by rfl, ?_⟩) ?_ ?_
                      rotate_left
                      · intro w'
                        go_simp
                        with_reducible rfl
                      rotate_left
                      · simp only [Act.put, List.setIfInBounds_toArray, List.set_cons_zero, List.set_cons_succ, i64_w, i32_w]
                        rfl
                      refine pure_ (i := 11) (N := some 51) (v := ?_) (a' := ?_) #[true, true, true, true, true, true, true, true, true, true, true, true, false, false, true, false, false, false] rfl rfl (any_of HT_.out (by kernel_rfl)) (fun _ _ _ h => h) (Or.inl ⟨by rfl, ?_⟩) ?_ ?_
                      rotate_left
                      · intro w'
                        go_simp
                        with_reducible rfl
                      rotate_left
                      · simp only [Act.put, List.setIfInBounds_toArray, List.set_cons_zero, List.set_cons_succ, i64_w, i32_w]
                        rfl
                      refine pure_ (i := 12) (N := some 52) (v := ?_) (a' := ?_) #[true, true, true, true, true, true, true, true, true, true, true, true, true, false, true, false, false, false] rfl rfl (any_of HT_.out (by kernel_rfl)) (fun _ _ _ h => h) (Or.inl ⟨by rfl, ?_⟩) ?_ ?_
                      rotate_left
                      · intro w'
                        go_simp
                        with_reducible rfl
                      rotate_left
                      · simp only [Act.put, List.setIfInBounds_toArray, List.set_cons_zero, List.set_cons_succ, i64_w, i32_w]
                        rfl
                      refine pure_ (i := 13) (N := some 53) (v := ?_) (a' := ?_) #[true, true, true, true, true, true, true, true, true, true, true, true, true, true, true, false, false, false] rfl rfl (any_of HT_.out (by kernel_rfl)) (fun _ _ _ h => h) (Or.inl ⟨by rfl, ?_⟩) ?_ ?_
                      rotate_left
                      · intro w'
                        go_simp
                        with_reducible rfl
                      rotate_left
                      · simp only [Act.put, List.setIfInBounds_toArray, List.set_cons_zero, List.set_cons_succ, i64_w, i32_w]
                        rfl
                      exact norm_ (by simp only [putAll, Act.put, List.setIfInBounds_toArray, List.set_cons_zero, List.set_cons_succ]) (hCont (v458, v461, gb465) _ ⟨hHeld, (zR HO459.out), (zR HO462.out), (by (with_reducible repeat (first | apply Kd.V_alloc | apply Kd.V_drewN | apply Kd.V_drew)); exact Kd.V_mono HO_455001.out (fun _ hk => ⟨hk.1.2, ⟨hk.2, ⟨hk.1.1.1, hk.1.1.2⟩⟩⟩)), (by (with_reducible repeat (first | apply Kd.V_alloc | apply Kd.V_drewN | apply Kd.V_drew)); exact Kd.V_mono HO_455002.out (fun _ hk => ⟨hk.1.2, ⟨hk.2, ⟨hk.1.1.1, hk.1.1.2⟩⟩⟩)), (zK BK454.out), (zK BK465.out), GW465.out, GE465.out, NB454_465.out, NB465_454.out, (zL HB.out)⟩)
                  rintro ⟨v458, v461, gb465⟩ w20 ⟨hS_, h0_, h1_, h2_, h3_, h4_, h5_, h6_, h7_, h8_, h9_, h10_⟩
                  have n0_ : Aside0 (Kd.R k34 34 w20 w.heap.size (fun _ => True) v458 t457) := ⟨h0_⟩
                  have n1_ : Aside0 (Kd.R k32 32 w20 w.heap.size (fun _ => True) v461 t460) := ⟨h1_⟩
                  have n2_ : Aside0 (Kd.V k34 34 w20 w.heap.size (fun k_ => some k_ ≠ (v458 : Value).ownBlock ∧ some k_ ≠ (v461 : Value).ownBlock ∧ k_ ≠ gb454 ∧ k_ ≠ gb465) (.slice Ao15 x455001_2.length co15) x455001_2) := ⟨h2_⟩
                  have n3_ : Aside0 (Kd.V k32 32 w20 w.heap.size (fun k_ => some k_ ≠ (v458 : Value).ownBlock ∧ some k_ ≠ (v461 : Value).ownBlock ∧ k_ ≠ gb454 ∧ k_ ≠ gb465) (.slice Ao16 x455002_2.length co16) x455002_2) := ⟨h3_⟩
                  have n4_ : Aside0 (w20.heap[gb454]? = some (.cells #[.int .i64 x455000_2, .slice Ao15 x455001_2.length co15, .slice Ao16 x455002_2.length co16] 27 (0, 0))) := ⟨h4_⟩
                  have n5_ : Aside0 (w20.heap[gb465]? = some (.cells #[.int .i64 0, .slice none 0 0, .slice none 0 0] 27 (0, 0))) := ⟨h5_⟩
                  have n6_ : Aside0 (w.heap.size ≤ gb465) := ⟨h6_⟩
                  have n7_ : Aside0 (w.heap.size ≤ gb465) := ⟨h7_⟩
                  have n8_ : Aside0 (gb454 ≠ gb465) := ⟨h8_⟩
                  have n9_ : Aside0 (gb465 ≠ gb454) := ⟨h9_⟩
                  have n10_ : Aside0 (Below w.heap.size w w20) := ⟨h10_⟩
                  clear HO_455001
                  clear HO_455002
                  clear BK454
                  clear HB
                  clear h0_ h1_ h2_ h3_ h4_ h5_ h6_ h7_ h8_ h9_ h10_
                  have HO459 := n0_
                  have HO462 := n1_
                  have HO_455001 := n2_
                  have HO_455002 := n3_
                  have BK454 := n4_
                  have BK465 := n5_
                  have GW465 := n6_
                  have GE465 := n7_
                  have NB454_465 := n8_
                  have NB465_454 := n9_
                  have HB := n10_
                  clear n0_ n1_ n2_ n3_ n4_ n5_ n6_ n7_ n8_ n9_ n10_
                  have hHeld : w20.cell? ⟨gb454, 0, none⟩ = some (.int .i64 x455000_2) ∧ w20.cell? ⟨gb454, 1, none⟩ = some (.slice Ao15 x455001_2.length co15) ∧ w20.cell? ⟨gb454, 2, none⟩ = some (.slice Ao16 x455002_2.length co16) ∧ w20.cell? (ad455.add (x8_2).toNat) = some (.bool (rdOf false l0 x8_2)) := hS_
                  obtain ⟨Ao22, co22, eo22⟩ := Kd.R_slice HO459.out
                  (first | subst eo22 | (injection eo22 with f1_ f2_ f3_; have f4_ := f1_.symm; have f5_ := f3_.symm; clear f1_ f2_ f3_; subst f4_; subst f5_))
                  obtain ⟨Ao24, co24, eo24⟩ := Kd.R_slice HO462.out
                  (first | subst eo24 | (injection eo24 with f1_ f2_ f3_; have f4_ := f1_.symm; have f5_ := f3_.symm; clear f1_ f2_ f3_; subst f4_; subst f5_))
                  refine norm_ (a' := ?_) ?_ ?_
                  rotate_left
                  · simp only [putAll, Act.put, List.setIfInBounds_toArray, List.set_cons_zero, List.set_cons_succ]
                    rfl
                  refine one_ (i := 15) (N := none) #[true, true, true, true, true, true, true, true, true, true, true, true, true, true, true, true, false, false] rfl rfl (one_of HT_.out (by kernel_rfl)) (by decide) (fun K hK => ?_)
                  have hs21 : w20.cell? ⟨gb465, 0, none⟩ = some (.int .i64 0) := (blk_cell BK465.out 0).trans rfl
                  have hfs21 := blk_frozen BK465.out 0
                  have hns21_0 := NB454_465.out
                  have hms21_0 := NB465_454.out
                  have hs23 : w20.cell? ⟨gb465, 1, none⟩ = some (.slice none 0 0) := (blk_cell BK465.out 1).trans rfl
                  have hfs23 := blk_frozen BK465.out 1
                  have hns23_0 := NB454_465.out
                  have hms23_0 := NB465_454.out
                  have hs25 : w20.cell? ⟨gb465, 2, none⟩ = some (.slice none 0 0) := (blk_cell BK465.out 2).trans rfl
                  have hfs25 := blk_frozen BK465.out 2
                  have hns25_0 := NB454_465.out
                  have hms25_0 := NB465_454.out
                  refine skip_ (w1 := ?_) (by rfl) rfl ?_ ?_
                  rotate_left
                  · go_simp
                    rfl
                  refine hK.out _ _ ⟨((cell_far (p := ⟨gb465, _, none⟩) NB454_465.out _).trans (((cell_far (p := ⟨gb465, _, none⟩) NB454_465.out _).trans (((cell_far (p := ⟨gb465, _, none⟩) NB454_465.out _).trans (hHeld.1)))))), ((cell_far (p := ⟨gb465, _, none⟩) NB454_465.out _).trans (((cell_far (p := ⟨gb465, _, none⟩) NB454_465.out _).trans (((cell_far (p := ⟨gb465, _, none⟩) NB454_465.out _).trans (hHeld.2.1)))))), ((cell_far (p := ⟨gb465, _, none⟩) NB454_465.out _).trans (((cell_far (p := ⟨gb465, _, none⟩) NB454_465.out _).trans (((cell_far (p := ⟨gb465, _, none⟩) NB454_465.out _).trans (hHeld.2.2.1)))))), ((cell_far (p := ⟨gb465, _, none⟩) (by first | exact Nat.ne_of_lt (Nat.lt_of_lt_of_le (by have := World.block_lt_of_cell? _ _ hw455_0; first | rwa [add_block] at this | exact this) GW465.out) | (rw [add_block]; exact Nat.ne_of_lt (Nat.lt_of_lt_of_le (by have := World.block_lt_of_cell? _ _ hw455_0; first | rwa [add_block] at this | exact this) GW465.out)) | (show (Addr.add _ _).block ≠ _; rw [add_block]; exact Nat.ne_of_lt (Nat.lt_of_lt_of_le (by have := World.block_lt_of_cell? _ _ hw455_0; first | rwa [add_block] at this | exact this) GW465.out)) | (dsimp only; exact Nat.ne_of_lt (Nat.lt_of_lt_of_le (by have := World.block_lt_of_cell? _ _ hw455_0; first | rwa [add_block] at this | exact this) GW465.out))) _).trans (((cell_far (p := ⟨gb465, _, none⟩) (by first | exact Nat.ne_of_lt (Nat.lt_of_lt_of_le (by have := World.block_lt_of_cell? _ _ hw455_0; first | rwa [add_block] at this | exact this) GW465.out) | (rw [add_block]; exact Nat.ne_of_lt (Nat.lt_of_lt_of_le (by have := World.block_lt_of_cell? _ _ hw455_0; first | rwa [add_block] at this | exact this) GW465.out)) | (show (Addr.add _ _).block ≠ _; rw [add_block]; exact Nat.ne_of_lt (Nat.lt_of_lt_of_le (by have := World.block_lt_of_cell? _ _ hw455_0; first | rwa [add_block] at this | exact this) GW465.out)) | (dsimp only; exact Nat.ne_of_lt (Nat.lt_of_lt_of_le (by have := World.block_lt_of_cell? _ _ hw455_0; first | rwa [add_block] at this | exact this) GW465.out))) _).trans (((cell_far (p := ⟨gb465, _, none⟩) (by first | exact Nat.ne_of_lt (Nat.lt_of_lt_of_le (by have := World.block_lt_of_cell? _ _ hw455_0; first | rwa [add_block] at this | exact this) GW465.out) | (rw [add_block]; exact Nat.ne_of_lt (Nat.lt_of_lt_of_le (by have := World.block_lt_of_cell? _ _ hw455_0; first | rwa [add_block] at this | exact this) GW465.out)) | (show (Addr.add _ _).block ≠ _; rw [add_block]; exact Nat.ne_of_lt (Nat.lt_of_lt_of_le (by have := World.block_lt_of_cell? _ _ hw455_0; first | rwa [add_block] at this | exact this) GW465.out)) | (dsimp only; exact Nat.ne_of_lt (Nat.lt_of_lt_of_le (by have := World.block_lt_of_cell? _ _ hw455_0; first | rwa [add_block] at this | exact this) GW465.out))) _).trans (hHeld.2.2.2))))))⟩ (fun hHeld => ?_)
                  clear hK K
                  refine pure_ (i := 16) (N := some 10) (v := ?_) (a' := ?_) #[true, true, true, true, true, true, true, true, true, true, true, true, true, true, true, true, true, false] rfl rfl (any_of HT_.out (by kernel_rfl)) (fun _ _ _ h => h) (Or.inl ⟨by rfl, ?_⟩) ?_ ?_
                  rotate_left
                  · intro w'
                    go_simp
                    with_reducible rfl
                  rotate_left
                  · simp only [Act.put, List.setIfInBounds_toArray, List.set_cons_zero, List.set_cons_succ, i64_w, i32_w]
                    rfl
                  refine pure_ (i := 17) (N := some 11) (v := ?_) (a' := ?_) #[true, true, true, true, true, true, true, true, true, true, true, true, true, true, true, true, true, true] rfl rfl (any_of HT_.out (by kernel_rfl)) (fun _ _ _ h => h) (Or.inl ⟨by rfl, ?_⟩) ?_ ?_
                  rotate_left
                  · intro w'
                    go_simp
                    with_reducible rfl
                  rotate_left
                  · simp only [Act.put, List.setIfInBounds_toArray, List.set_cons_zero, List.set_cons_succ, i64_w, i32_w]
                    rfl
                  refine done_ (done_of HT_.out (by kernel_rfl)) ?_
                  have hnb26 := NB465_454.out
                  have hnc26 := NB454_465.out
                  have hcz27_0 : w20.cell? ⟨gb465, 0, none⟩ = some (.int .i64 0) := (blk_cell BK465.out 0).trans rfl
                  have hcz27_1 : w20.cell? ⟨gb465, 1, none⟩ = some (.slice none 0 0) := (blk_cell BK465.out 1).trans rfl
                  have hcz27_2 : w20.cell? ⟨gb465, 2, none⟩ = some (.slice none 0 0) := (blk_cell BK465.out 2).trans rfl
                  have hfz27_0 := blk_frozen BK465.out 0
                  have hfz27_1 := blk_frozen BK465.out 1
                  have hfz27_2 := blk_frozen BK465.out 2
                  have hcz28_0 : w20.cell? ⟨gb454, 0, none⟩ = some (.int .i64 x455000_2) := (blk_cell BK454.out 0).trans rfl
                  have hcz28_1 : w20.cell? ⟨gb454, 1, none⟩ = some (.slice Ao15 x455001_2.length co15) := (blk_cell BK454.out 1).trans rfl
                  have hcz28_2 : w20.cell? ⟨gb454, 2, none⟩ = some (.slice Ao16 x455002_2.length co16) := (blk_cell BK454.out 2).trans rfl
                  have hfz28_0 := blk_frozen BK454.out 0
                  have hfz28_1 := blk_frozen BK454.out 1
                  have hfz28_2 := blk_frozen BK454.out 2
                  try go_wp2
                  go_roundg k2
                  case measure => have := HJ3.out; have := HK2.out; omega
                  case rel => exact ⟨(wrap64 (x8_2 + 1)), (t456), (t457), (t460), (.slice Ao22 t457.length co22), (.slice Ao24 t460.length co24), (by first | rfl | (simp; done) | (simp [*]; done)), H', ⟨by have := HJ3.out; have := HK2.out; omega⟩, ⟨Kd.R_V (by (with_reducible repeat (first | apply Kd.R_alloc | apply Kd.R_drewN | apply Kd.R_drew)); exact Kd.R_mono (Kd.R_far (p := ⟨gb454, 2, none⟩) (Kd.R_far (p := ⟨gb454, 1, none⟩) (Kd.R_far (p := ⟨gb454, 0, none⟩) (Kd.R_far (p := ⟨gb465, 2, none⟩) (Kd.R_far (p := ⟨gb465, 1, none⟩) (Kd.R_far (p := ⟨gb465, 0, none⟩) (Kd.R_types (Kd.R_types (Kd.R_types HO459.out BK454.out (by decide)) BK465.out (by decide)) BK454.out (by decide)) (fun _ hk => hk.1.2) (.int .i64 t456)) (fun _ hk => hk.1.2) (.slice Ao22 t457.length co22)) (fun _ hk => hk.1.2) (.slice Ao24 t460.length co24)) (fun _ hk => hk.2) (.int .i64 t456)) (fun _ hk => hk.2) (.slice Ao22 t457.length co22)) (fun _ hk => hk.2) (.slice Ao24 t460.length co24)) (fun _ hk => hk.1.1.2))⟩, ⟨Kd.R_V (by (with_reducible repeat (first | apply Kd.R_alloc | apply Kd.R_drewN | apply Kd.R_drew)); exact Kd.R_mono (Kd.R_far (p := ⟨gb454, 2, none⟩) (Kd.R_far (p := ⟨gb454, 1, none⟩) (Kd.R_far (p := ⟨gb454, 0, none⟩) (Kd.R_far (p := ⟨gb465, 2, none⟩) (Kd.R_far (p := ⟨gb465, 1, none⟩) (Kd.R_far (p := ⟨gb465, 0, none⟩) (Kd.R_types (Kd.R_types (Kd.R_types HO462.out BK454.out (by decide)) BK465.out (by decide)) BK454.out (by decide)) (fun _ hk => hk.1.2) (.int .i64 t456)) (fun _ hk => hk.1.2) (.slice Ao22 t457.length co22)) (fun _ hk => hk.1.2) (.slice Ao24 t460.length co24)) (fun _ hk => hk.2) (.int .i64 t456)) (fun _ hk => hk.2) (.slice Ao22 t457.length co22)) (fun _ hk => hk.2) (.slice Ao24 t460.length co24)) (fun _ hk => hk.1.1.2))⟩, ⟨by (with_reducible repeat (first | refine blk_drewN ?_ _ | refine blk_drew ?_ | refine blk_alloc ?_ _)); refine blk_put (cs := #[.int .i64 t456, .slice Ao22 t457.length co22, .slice Ao16 x455002_2.length co16]) ?_ 2 _ rfl; (with_reducible repeat (first | refine blk_drewN ?_ _ | refine blk_drew ?_ | refine blk_alloc ?_ _)); refine blk_put (cs := #[.int .i64 t456, .slice Ao15 x455001_2.length co15, .slice Ao16 x455002_2.length co16]) ?_ 1 _ rfl; (with_reducible repeat (first | refine blk_drewN ?_ _ | refine blk_drew ?_ | refine blk_alloc ?_ _)); refine blk_put (cs := #[.int .i64 x455000_2, .slice Ao15 x455001_2.length co15, .slice Ao16 x455002_2.length co16]) ?_ 0 _ rfl; (with_reducible repeat (first | refine blk_drewN ?_ _ | refine blk_drew ?_ | refine blk_alloc ?_ _)); refine blk_far ?_ NB454_465.out _; (with_reducible repeat (first | refine blk_drewN ?_ _ | refine blk_drew ?_ | refine blk_alloc ?_ _)); refine blk_far ?_ NB454_465.out _; (with_reducible repeat (first | refine blk_drewN ?_ _ | refine blk_drew ?_ | refine blk_alloc ?_ _)); refine blk_far ?_ NB454_465.out _; (with_reducible repeat (first | refine blk_drewN ?_ _ | refine blk_drew ?_ | refine blk_alloc ?_ _)); exact BK454.out⟩, ⟨zL HB.out⟩⟩
                · rw [if_neg c14] at H
                  have c14b0 : (t464 == 0) = false := beq_eq_false_iff_ne.mpr c14
                  have c14b1 : (t464 != 0) = true := bne_iff_ne.mpr c14
                  obtain rfl := Option.some.inj H
                  obtain ⟨Ao29, co29, eo29⟩ := Kd.V_slice HO_455001.out
                  subst eo29
                  obtain ⟨Ao30, co30, eo30⟩ := Kd.V_slice HO_455002.out
                  subst eo30
                  try go_wp2
                  have n0_ := Aside0.mk (Kd.V_drew HO_455001.out)
                  have n1_ := Aside0.mk (Kd.V_drew HO_455002.out)
                  have n2_ := Aside0.mk (blk_drew BK454.out)
                  have n3_ := Aside0.mk (below_drew1 HB.out)
                  clear HO_455001
                  clear HO_455002
                  clear BK454
                  clear HB
                  have HO_455001 := n0_
                  have HO_455002 := n1_
                  have BK454 := n2_
                  have HB := n3_
                  clear n0_ n1_ n2_ n3_
                  have p455 : 0 ≤ (x8_2 : Int) := of_decide_eq_true (by first | (with_reducible assumption) | assumption)
                  have q455 : x8_2 < (l0.length : Int) := of_decide_eq_true (by first | (with_reducible assumption) | assumption)
                  obtain ⟨ad455, e455, hx455_0⟩ := Kd.at_bool HR0.out x8_2 p455 q455
                  have hw455_0 := hx455_0
                  cases e455
                  replace hx455_0 := (HB.out.cell (World.block_lt_of_cell? w _ hx455_0)).trans hx455_0
                  replace p455 := eq_true p455
                  replace q455 := eq_true q455
                  refine start_ (n := 18) (S := fun w' => w'.cell? ⟨gb454, 0, none⟩ = some (.int .i64 x455000_2) ∧ w'.cell? ⟨gb454, 1, none⟩ = some (.slice Ao29 x455001_2.length co29) ∧ w'.cell? ⟨gb454, 2, none⟩ = some (.slice Ao30 x455002_2.length co30) ∧ w'.cell? (ad455.add (x8_2).toNat) = some (.bool (rdOf false l0 x8_2))) (ds := []) #[false, false, false, false, false, false, false, false, false, false, false, false, false, false, false, false, false, false] (by kernel_rfl) rfl rfl ⟨(blk_cell BK454.out 0).trans rfl, (blk_cell BK454.out 1).trans rfl, (blk_cell BK454.out 2).trans rfl, ((HB.out.cell (World.block_lt_of_cell? w _ hw455_0)).trans hw455_0)⟩ (fun hHeld => ?_); refine with_tabW cooperagelaw16_LeaseTurn.tab9 cooperagelaw16_LeaseTurn.bits9 (fun HT_ HW_ => ?_)
                  generalize wr.drew = w31 at HO_455001 HO_455002 BK454 HB hx455_0 hHeld ⊢
                  refine pure_ (i := 1) (N := some 42) (v := ?_) (a' := ?_) #[false, true, false, false, false, false, false, false, false, false, false, false, false, false, false, false, false, false] rfl rfl (any_of HT_.out (by kernel_rfl)) (fun _ _ _ h => h) (Or.inl ⟨by rfl, ?_⟩) ?_ ?_
                  rotate_left
                  · intro w'
                    go_simp
                    with_reducible rfl
                  rotate_left
                  · simp only [Act.put, List.setIfInBounds_toArray, List.set_cons_zero, List.set_cons_succ, i64_w, i32_w]
                    rfl
                  refine pure_ (i := 2) (N := some 43) (v := ?_) (a' := ?_) #[false, true, true, false, false, false, false, false, false, false, false, false, false, false, false, false, false, false] rfl rfl (any_of HT_.out (by kernel_rfl)) (fun _ _ _ h => h) (Or.inl ⟨by rfl, ?_⟩) ?_ ?_
                  rotate_left
                  · intro w'
                    go_simp
                    with_reducible rfl
                  rotate_left
                  · simp only [Act.put, List.setIfInBounds_toArray, List.set_cons_zero, List.set_cons_succ, i64_w, i32_w]
                    rfl
                  refine pure_ (i := 3) (N := some 44) (v := ?_) (a' := ?_) #[false, true, true, true, false, false, false, false, false, false, false, false, false, false, false, false, false, false] rfl rfl (any_of HT_.out (by kernel_rfl)) (fun _ _ _ h => h) (Or.inl ⟨by rfl, ?_⟩) ?_ ?_
                  rotate_left
                  · intro w'
                    go_simp
                    with_reducible rfl
                  rotate_left
                  · simp only [Act.put, List.setIfInBounds_toArray, List.set_cons_zero, List.set_cons_succ, i64_w, i32_w]
                    rfl
                  refine pure_ (i := 4) (N := some 45) (v := ?_) (a' := ?_) #[false, true, true, true, true, false, false, false, false, false, false, false, false, false, false, false, false, false] rfl rfl (any_of HT_.out (by kernel_rfl)) (fun _ _ _ h => h) (Or.inl ⟨by rfl, ?_⟩) ?_ ?_
                  rotate_left
                  · intro w'
                    go_simp
                    with_reducible rfl
                  rotate_left
                  · simp only [Act.put, List.setIfInBounds_toArray, List.set_cons_zero, List.set_cons_succ, i64_w, i32_w]
                    rfl
                  refine pure_ (i := 5) (N := some 46) (v := ?_) (a' := ?_) #[false, true, true, true, true, true, false, false, false, false, false, false, false, false, false, false, false, false] rfl rfl (any_of HT_.out (by kernel_rfl)) (fun _ _ _ h => h) (Or.inl ⟨by rfl, ?_⟩) ?_ ?_
                  rotate_left
                  · intro w'
                    go_simp
                    with_reducible rfl
                  rotate_left
                  · simp only [Act.put, List.setIfInBounds_toArray, List.set_cons_zero, List.set_cons_succ, i64_w, i32_w]
                    rfl
                  refine pure_ (i := 8) (N := some 49) (v := ?_) (a' := ?_) #[false, true, true, true, true, true, false, false, true, false, false, false, false, false, false, false, false, false] rfl rfl (any_of HT_.out (by kernel_rfl)) (fun _ _ _ h => h) (Or.inl ⟨by rfl, ?_⟩) ?_ ?_
                  rotate_left
                  · intro w'
                    go_simp
                    with_reducible rfl
                  rotate_left
                  · simp only [Act.put, List.setIfInBounds_toArray, List.set_cons_zero, List.set_cons_succ, i64_w, i32_w]
                    rfl
                  refine take_ (i := 0) (N := some 41) (v := ?_) (a' := ?_) #[true, true, true, true, true, true, false, false, true, false, false, false, false, false, false, false, false, false] rfl rfl (take_ofW HT_.out HW_.out (by kernel_rfl)) (fun _ _ _ h => h) (Or.inl ⟨by rfl, ?_⟩) hHeld ?_ ?_
                  rotate_left
                  · rintro w' ⟨s0, s1, s2, s3⟩
                    go_simp
                    with_reducible rfl
                  rotate_left
                  · simp only [Act.put, List.setIfInBounds_toArray, List.set_cons_zero, List.set_cons_succ, i64_w, i32_w]
                    rfl
                  refine take_ (i := 6) (N := some 47) (v := ?_) (a' := ?_) #[true, true, true, true, true, true, true, false, true, false, false, false, false, false, false, false, false, false] rfl rfl (take_ofW HT_.out HW_.out (by kernel_rfl)) (fun _ _ _ h => h) (Or.inl ⟨by rfl, ?_⟩) hHeld ?_ ?_
                  rotate_left
                  · rintro w' ⟨s0, s1, s2, s3⟩
                    go_simp
                    with_reducible rfl
                  rotate_left
                  · simp only [Act.put, List.setIfInBounds_toArray, List.set_cons_zero, List.set_cons_succ, i64_w, i32_w]
                    rfl
                  refine pure_ (i := 7) (N := some 48) (v := ?_) (a' := ?_) #[true, true, true, true, true, true, true, true, true, false, false, false, false, false, false, false, false, false] rfl rfl (any_of HT_.out (by kernel_rfl)) (fun _ _ _ h => h) (Or.inl ⟨by rfl, ?_⟩) ?_ ?_
                  rotate_left
                  · intro w'
                    go_simp
                    with_reducible rfl
                  rotate_left
                  · simp only [Act.put, List.setIfInBounds_toArray, List.set_cons_zero, List.set_cons_succ, i64_w, i32_w]
                    rfl
                  refine join_ (σ := Value × Value × Nat) 3 #[true, true, true, true, true, true, true, true, true, true, true, true, true, true, true, false, false, false] (fun s_ => [(50, .tuple #[.agg #[.int .i64 t456, s_.1, s_.2.1], .int .i64 t463, .int .i64 t464]), (9, .pointer (some ⟨s_.2.2, 0, none⟩)), (40, .tuple #[.agg #[.int .i64 t456, s_.1, s_.2.1], .int .i64 t463, .int .i64 t464]), (51, .agg #[.int .i64 t456, s_.1, s_.2.1]), (52, .int .i64 t463), (53, .int .i64 t464)]) (fun s_ w' => (w'.cell? ⟨gb454, 0, none⟩ = some (.int .i64 x455000_2) ∧ w'.cell? ⟨gb454, 1, none⟩ = some (.slice Ao29 x455001_2.length co29) ∧ w'.cell? ⟨gb454, 2, none⟩ = some (.slice Ao30 x455002_2.length co30) ∧ w'.cell? (ad455.add (x8_2).toNat) = some (.bool (rdOf false l0 x8_2))) ∧ (Kd.R k34 34 w' w.heap.size (fun _ => True) s_.1 t457) ∧ (Kd.R k32 32 w' w.heap.size (fun _ => True) s_.2.1 t460) ∧ (Kd.V k34 34 w' w.heap.size (fun k_ => some k_ ≠ (s_.1 : Value).ownBlock ∧ some k_ ≠ (s_.2.1 : Value).ownBlock ∧ k_ ≠ gb454 ∧ k_ ≠ s_.2.2) (.slice Ao29 x455001_2.length co29) x455001_2) ∧ (Kd.V k32 32 w' w.heap.size (fun k_ => some k_ ≠ (s_.1 : Value).ownBlock ∧ some k_ ≠ (s_.2.1 : Value).ownBlock ∧ k_ ≠ gb454 ∧ k_ ≠ s_.2.2) (.slice Ao30 x455002_2.length co30) x455002_2) ∧ (w'.heap[gb454]? = some (.cells #[.int .i64 x455000_2, .slice Ao29 x455001_2.length co29, .slice Ao30 x455002_2.length co30] 27 (0, 0))) ∧ (w'.heap[s_.2.2]? = some (.cells #[.int .i64 0, .slice none 0 0, .slice none 0 0] 27 (0, 0))) ∧ (w.heap.size ≤ s_.2.2) ∧ (w.heap.size ≤ s_.2.2) ∧ (gb454 ≠ s_.2.2) ∧ (s_.2.2 ≠ gb454) ∧ (Below w.heap.size w w')) ?_ ?_
                  rotate_left
                  · intro hCont
                    refine two_ (i := 9) (j := 14) (Ni := some 50) (Nj := some 9) #[true, true, true, true, true, true, true, true, true, true, false, false, false, false, false, false, false, false] #[true, true, true, true, true, true, true, true, true, false, false, false, false, false, true, false, false, false] rfl rfl rfl rfl (two_of HT_.out (by kernel_rfl)) (by decide) (by decide) (fun K hK => ?_) (fun K hK => ?_)
                    · skip
                      refine goes_ Tryd.func10 (by kernel_rfl) rfl #[.agg #[.int .i64 x455000_2, .slice Ao29 x455001_2.length co29, .slice Ao30 x455002_2.length co30], .agg #[.int .i64 (wrap64 (x8_2 + 1)), .string (⟨#[110]⟩ : ByteArray), .bool (rdOf false l0 x8_2), .int .i64 10], .int .i64 0] (by rfl) rfl rfl zA ?_
                      with_reducible refine (lease_Take.calls k2 x455000_2 _ _ x455001_2 _ _ x455002_2 (wrap64 (x8_2 + 1)) (⟨#[110]⟩ : ByteArray) (rdOf false l0 x8_2) 10 0 t456 t457 t460 t463 t464 _ ?side1 ?side2 ?side3 ?side4 A13.out).mono ?_
                      (case side1 => repeat (first | exact (Kd.V_reads' HO_455001.out).2.2 | (with_reducible refine Kd.C_alloc ?_ _) | (with_reducible refine Kd.C_drewN ?_ _) | (with_reducible refine Kd.C_drew ?_)))
                      (case side2 => exact (Kd.V_reads' HO_455001.out).2.1)
                      (case side3 => repeat (first | exact (Kd.V_reads' HO_455002.out).2.2 | (with_reducible refine Kd.C_alloc ?_ _) | (with_reducible refine Kd.C_drewN ?_ _) | (with_reducible refine Kd.C_drew ?_)))
                      (case side4 => exact (Kd.V_reads' HO_455002.out).2.1)
                      rintro e w32 ⟨v458, v461, rfl, ho0, ho1, hb⟩
                      refine ⟨_, rfl, ?_⟩
                      have n0_ := Aside0.mk (Kd.V_mono (Kd.V_told (Kd.V_told (Kd.V_old (zV HO_455001.out) hb) (Kd.R_base ho0)) (Kd.R_base ho1)) (fun _ h_ => h_.1))
                      have n1_ := Aside0.mk (Kd.V_mono (Kd.V_told (Kd.V_told (Kd.V_old (zV HO_455002.out) hb) (Kd.R_base ho0)) (Kd.R_base ho1)) (fun _ h_ => h_.1))
                      have n2_ := Aside0.mk (Kd.R_lower ho0 (below_size (zL HB.out)))
                      have n3_ := Aside0.mk (Kd.R_lower ho1 (below_size (zL HB.out)))
                      have n4_ := Aside0.mk (blk_below (g := gb454) (o := .cells #[.int .i64 x455000_2, .slice Ao29 x455001_2.length co29, .slice Ao30 x455002_2.length co30] 27 (0, 0)) (zK BK454.out) hb)
                      have n5_ := Aside0.mk (below_step (zL HB.out) hb)
                      clear HO_455001
                      clear HO_455002
                      clear BK454
                      clear HB
                      have HO_455001 := n0_
                      have HO_455002 := n1_
                      have HO459 := n2_
                      have HO462 := n3_
                      have BK454 := n4_
                      have HB := n5_
                      clear n0_ n1_ n2_ n3_ n4_ n5_
                      (try clear hb)
                      (try clear hb2)
                      (try clear hk)
                      (try clear hi)
                      (try clear ho0)
                      (try clear ho1)
                      refine hK.out _ _ ⟨(blk_cell BK454.out 0).trans rfl, (blk_cell BK454.out 1).trans rfl, (blk_cell BK454.out 2).trans rfl, ((HB.out.cell (World.block_lt_of_cell? w _ hw455_0)).trans hw455_0)⟩ (fun hHeld => ?_)
                      clear hK K
                      refine norm_ (a' := ?_) ?_ ?_
                      rotate_left
                      · show Act.put _ (some 50) _ = _
                        simp only [Act.put, List.setIfInBounds_toArray, List.set_cons_zero, List.set_cons_succ, i64_w, i32_w]
                        rfl
                      refine pure_ (i := 10) (N := some 40) (v := ?_) (a' := ?_) #[true, true, true, true, true, true, true, true, true, true, true, false, false, false, false, false, false, false] rfl rfl (any_of HT_.out (by kernel_rfl)) (fun _ _ _ h => h) (Or.inl ⟨by rfl, ?_⟩) ?_ ?_
                      rotate_left
                      · intro w'
                        go_simp
                        with_reducible rfl
                      rotate_left
                      · simp only [Act.put, List.setIfInBounds_toArray, List.set_cons_zero, List.set_cons_succ, i64_w, i32_w]
                        rfl
                      refine pure_ (i := 11) (N := some 51) (v := ?_) (a' := ?_) #[true, true, true, true, true, true, true, true, true, true, true, true, false, false, false, false, false, false] rfl rfl (any_of HT_.out (by kernel_rfl)) (fun _ _ _ h => h) (Or.inl ⟨by rfl, ?_⟩) ?_ ?_
                      rotate_left
                      · intro w'
                        go_simp
                        with_reducible rfl
                      rotate_left
                      · simp only [Act.put, List.setIfInBounds_toArray, List.set_cons_zero, List.set_cons_succ, i64_w, i32_w]
                        rfl
                      refine pure_ (i := 12) (N := some 52) (v := ?_) (a' := ?_) #[true, true, true, true, true, true, true, true, true, true, true, true, true, false, false, false, false, false] rfl rfl (any_of HT_.out (by kernel_rfl)) (fun _ _ _ h => h) (Or.inl ⟨by rfl, ?_⟩) ?_ ?_
                      rotate_left
                      · intro w'
                        go_simp
                        with_reducible rfl
                      rotate_left
                      · simp only [Act.put, List.setIfInBounds_toArray, List.set_cons_zero, List.set_cons_succ, i64_w, i32_w]
                        rfl
                      refine pure_ (i := 13) (N := some 53) (v := ?_) (a' := ?_) #[true, true, true, true, true, true, true, true, true, true, true, true, true, true, false, false, false, false] rfl rfl (any_of HT_.out (by kernel_rfl)) (fun _ _ _ h => h) (Or.inl ⟨by rfl, ?_⟩) ?_ ?_
                      rotate_left
                      · intro w'
                        go_simp
                        with_reducible rfl
                      rotate_left
                      · simp only [Act.put, List.setIfInBounds_toArray, List.set_cons_zero, List.set_cons_succ, i64_w, i32_w]
                        rfl
                      refine one_ (i := 14) (N := some 9) #[true, true, true, true, true, true, true, true, true, true, true, true, true, true, true, false, false, false] rfl rfl (one_of HT_.out (by kernel_rfl)) (by decide) (fun K hK => ?_)
                      refine box_step ?hg (N := 9) ?hd (cs := #[.int .i64 0, .slice none 0 0, .slice none 0 0]) (t := 27) ?hr ?_; (case hd => rfl); (case hg => rfl); (case hr => first | (go_simp; done) | (go_simp; rfl))
                      intro gb465 hg w33 hbox hb
                      have n0_ := Aside0.mk (Kd.V_below (Kd.V_elderB (zV HO_455001.out) gb465 (Nat.le_of_eq hg.symm)) hb)
                      have n1_ := Aside0.mk (Kd.V_below (Kd.V_elderB (zV HO_455002.out) gb465 (Nat.le_of_eq hg.symm)) hb)
                      have n2_ := Aside0.mk (Kd.R_below (zR HO459.out) hb)
                      have n3_ := Aside0.mk (Kd.R_below (zR HO462.out) hb)
                      have n4_ := Aside0.mk (blk_below (g := gb454) (o := .cells #[.int .i64 x455000_2, .slice Ao29 x455001_2.length co29, .slice Ao30 x455002_2.length co30] 27 (0, 0)) (zK BK454.out) hb)
                      have n5_ := Aside0.mk (below_step (zL HB.out) hb)
                      have n6_ := Aside0.mk (hbox)
                      have n7_ := Aside0.mk (zG hg (zL HB.out))
                      have n8_ := Aside0.mk (zG hg (zL HB.out))
                      have n9_ := Aside0.mk (zN (g := gb454) (o := .cells #[.int .i64 x455000_2, .slice Ao29 x455001_2.length co29, .slice Ao30 x455002_2.length co30] 27 (0, 0)) hg (zK BK454.out))
                      have n10_ := Aside0.mk (zO (g := gb454) (o := .cells #[.int .i64 x455000_2, .slice Ao29 x455001_2.length co29, .slice Ao30 x455002_2.length co30] 27 (0, 0)) hg (zK BK454.out))
                      clear HO_455001
                      clear HO_455002
                      clear HO459
                      clear HO462
                      clear BK454
                      clear HB
                      have HO_455001 := n0_
                      have HO_455002 := n1_
                      have HO459 := n2_
                      have HO462 := n3_
                      have BK454 := n4_
                      have HB := n5_
                      have BK465 := n6_
                      have GW465 := n7_
                      have GE465 := n8_
                      have NB454_465 := n9_
                      have NB465_454 := n10_
                      clear n0_ n1_ n2_ n3_ n4_ n5_ n6_ n7_ n8_ n9_ n10_
                      clear hb hbox hg
                      refine hK.out _ _ ⟨(blk_cell BK454.out 0).trans rfl, (blk_cell BK454.out 1).trans rfl, (blk_cell BK454.out 2).trans rfl, ((HB.out.cell (World.block_lt_of_cell? w _ hw455_0)).trans hw455_0)⟩ (fun hHeld => ?_)
                      clear hK K
                      refine norm_ (a' := ?_) ?_ ?_
                      rotate_left
                      · show Act.put _ (some 9) _ = _
                        simp only [Act.put, List.setIfInBounds_toArray, List.set_cons_zero, List.set_cons_succ, i64_w, i32_w]
                        rfl
                      exact norm_ (by simp only [putAll, Act.put, List.setIfInBounds_toArray, List.set_cons_zero, List.set_cons_succ]) (hCont (v458, v461, gb465) _ ⟨hHeld, (zR HO459.out), (zR HO462.out), (by (with_reducible repeat (first | apply Kd.V_alloc | apply Kd.V_drewN | apply Kd.V_drew)); exact Kd.V_mono HO_455001.out (fun _ hk => ⟨hk.1.1.2, ⟨hk.1.2, ⟨hk.1.1.1, hk.2⟩⟩⟩)), (by (with_reducible repeat (first | apply Kd.V_alloc | apply Kd.V_drewN | apply Kd.V_drew)); exact Kd.V_mono HO_455002.out (fun _ hk => ⟨hk.1.1.2, ⟨hk.1.2, ⟨hk.1.1.1, hk.2⟩⟩⟩)), (zK BK454.out), (zK BK465.out), GW465.out, GE465.out, NB454_465.out, NB465_454.out, (zL HB.out)⟩)
                    · skip
                      refine box_step ?hg (N := 9) ?hd (cs := #[.int .i64 0, .slice none 0 0, .slice none 0 0]) (t := 27) ?hr ?_; (case hd => rfl); (case hg => rfl); (case hr => first | (go_simp; done) | (go_simp; rfl))
                      intro gb465 hg w32 hbox hb
                      have n0_ := Aside0.mk (Kd.V_below (Kd.V_elderB (zV HO_455001.out) gb465 (Nat.le_of_eq hg.symm)) hb)
                      have n1_ := Aside0.mk (Kd.V_below (Kd.V_elderB (zV HO_455002.out) gb465 (Nat.le_of_eq hg.symm)) hb)
                      have n2_ := Aside0.mk (blk_below (g := gb454) (o := .cells #[.int .i64 x455000_2, .slice Ao29 x455001_2.length co29, .slice Ao30 x455002_2.length co30] 27 (0, 0)) (zK BK454.out) hb)
                      have n3_ := Aside0.mk (below_step (zL HB.out) hb)
                      have n4_ := Aside0.mk (hbox)
                      have n5_ := Aside0.mk (zG hg (zL HB.out))
                      have n6_ := Aside0.mk (zG hg (zL HB.out))
                      have n7_ := Aside0.mk (zN (g := gb454) (o := .cells #[.int .i64 x455000_2, .slice Ao29 x455001_2.length co29, .slice Ao30 x455002_2.length co30] 27 (0, 0)) hg (zK BK454.out))
                      have n8_ := Aside0.mk (zO (g := gb454) (o := .cells #[.int .i64 x455000_2, .slice Ao29 x455001_2.length co29, .slice Ao30 x455002_2.length co30] 27 (0, 0)) hg (zK BK454.out))
                      clear HO_455001
                      clear HO_455002
                      clear BK454
                      clear HB
                      have HO_455001 := n0_
                      have HO_455002 := n1_
                      have BK454 := n2_
                      have HB := n3_
                      have BK465 := n4_
                      have GW465 := n5_
                      have GE465 := n6_
                      have NB454_465 := n7_
                      have NB465_454 := n8_
                      clear n0_ n1_ n2_ n3_ n4_ n5_ n6_ n7_ n8_
                      clear hb hbox hg
                      refine hK.out _ _ ⟨(blk_cell BK454.out 0).trans rfl, (blk_cell BK454.out 1).trans rfl, (blk_cell BK454.out 2).trans rfl, ((HB.out.cell (World.block_lt_of_cell? w _ hw455_0)).trans hw455_0)⟩ (fun hHeld => ?_)
                      clear hK K
                      refine norm_ (a' := ?_) ?_ ?_
                      rotate_left
                      · show Act.put _ (some 9) _ = _
                        simp only [Act.put, List.setIfInBounds_toArray, List.set_cons_zero, List.set_cons_succ, i64_w, i32_w]
                        rfl
                      refine one_ (i := 9) (N := some 50) #[true, true, true, true, true, true, true, true, true, true, false, false, false, false, true, false, false, false] rfl rfl (one_of HT_.out (by kernel_rfl)) (by decide) (fun K hK => ?_)
                      refine goes_ Tryd.func10 (by kernel_rfl) rfl #[.agg #[.int .i64 x455000_2, .slice Ao29 x455001_2.length co29, .slice Ao30 x455002_2.length co30], .agg #[.int .i64 (wrap64 (x8_2 + 1)), .string (⟨#[110]⟩ : ByteArray), .bool (rdOf false l0 x8_2), .int .i64 10], .int .i64 0] (by rfl) rfl rfl zA ?_
                      with_reducible refine (lease_Take.calls k2 x455000_2 _ _ x455001_2 _ _ x455002_2 (wrap64 (x8_2 + 1)) (⟨#[110]⟩ : ByteArray) (rdOf false l0 x8_2) 10 0 t456 t457 t460 t463 t464 _ ?side1 ?side2 ?side3 ?side4 A13.out).mono ?_
                      (case side1 => repeat (first | exact (Kd.V_reads' HO_455001.out).2.2 | (with_reducible refine Kd.C_alloc ?_ _) | (with_reducible refine Kd.C_drewN ?_ _) | (with_reducible refine Kd.C_drew ?_)))
                      (case side2 => exact (Kd.V_reads' HO_455001.out).2.1)
                      (case side3 => repeat (first | exact (Kd.V_reads' HO_455002.out).2.2 | (with_reducible refine Kd.C_alloc ?_ _) | (with_reducible refine Kd.C_drewN ?_ _) | (with_reducible refine Kd.C_drew ?_)))
                      (case side4 => exact (Kd.V_reads' HO_455002.out).2.1)
                      rintro e w33 ⟨v458, v461, rfl, ho0, ho1, hb⟩
                      refine ⟨_, rfl, ?_⟩
                      have n0_ := Aside0.mk (Kd.V_mono (Kd.V_told (Kd.V_told (Kd.V_old (zV HO_455001.out) hb) (Kd.R_base ho0)) (Kd.R_base ho1)) (fun _ h_ => h_.1))
                      have n1_ := Aside0.mk (Kd.V_mono (Kd.V_told (Kd.V_told (Kd.V_old (zV HO_455002.out) hb) (Kd.R_base ho0)) (Kd.R_base ho1)) (fun _ h_ => h_.1))
                      have n2_ := Aside0.mk (Kd.R_lower ho0 (below_size (zL HB.out)))
                      have n3_ := Aside0.mk (Kd.R_lower ho1 (below_size (zL HB.out)))
                      have n4_ := Aside0.mk (blk_below (g := gb454) (o := .cells #[.int .i64 x455000_2, .slice Ao29 x455001_2.length co29, .slice Ao30 x455002_2.length co30] 27 (0, 0)) (zK BK454.out) hb)
                      have n5_ := Aside0.mk (blk_below (g := gb465) (o := .cells #[.int .i64 0, .slice none 0 0, .slice none 0 0] 27 (0, 0)) (zK BK465.out) hb)
                      have n6_ := Aside0.mk (below_step (zL HB.out) hb)
                      clear HO_455001
                      clear HO_455002
                      clear BK454
                      clear BK465
                      clear HB
                      have HO_455001 := n0_
                      have HO_455002 := n1_
                      have HO459 := n2_
                      have HO462 := n3_
                      have BK454 := n4_
                      have BK465 := n5_
                      have HB := n6_
                      clear n0_ n1_ n2_ n3_ n4_ n5_ n6_
                      (try clear hb)
                      (try clear hb2)
                      (try clear hk)
                      (try clear hi)
                      (try clear ho0)
                      (try clear ho1)
                      refine hK.out _ _ ⟨(blk_cell BK454.out 0).trans rfl, (blk_cell BK454.out 1).trans rfl, (blk_cell BK454.out 2).trans rfl, ((HB.out.cell (World.block_lt_of_cell? w _ hw455_0)).trans hw455_0)⟩ (fun hHeld => ?_)
                      clear hK K
                      refine norm_ (a' := ?_) ?_ ?_
                      rotate_left
                      · show Act.put _ (some 50) _ = _
                        simp only [Act.put, List.setIfInBounds_toArray, List.set_cons_zero, List.set_cons_succ, i64_w, i32_w]
                        rfl
                      refine pure_ (i := 10) (N := some 40) (v := ?_) (a' := ?_) #[true, true, true, true, true, true, true, true, true, true, true, false, false, false, true, false, false, false] rfl rfl (any_of HT_.out (by kernel_rfl)) (fun _ _ _ h => h) (Or.inl ⟨by rfl, ?_⟩) ?_ ?_
                      rotate_left
                      · intro w'
                        go_simp
                        with_reducible rfl
                      rotate_left
                      · simp only [Act.put, List.setIfInBounds_toArray, List.set_cons_zero, List.set_cons_succ, i64_w, i32_w]
                        rfl
                      refine pure_ (i := 11) (N := some 51) (v := ?_) (a' := ?_) #[true, true, true, true, true, true, true, true, true, true, true, true, false, false, true, false, false, false] rfl rfl (any_of HT_.out (by kernel_rfl)) (fun _ _ _ h => h) (Or.inl ⟨by rfl, ?_⟩) ?_ ?_
                      rotate_left
                      · intro w'
                        go_simp
                        with_reducible rfl
                      rotate_left
                      · simp only [Act.put, List.setIfInBounds_toArray, List.set_cons_zero, List.set_cons_succ, i64_w, i32_w]
                        rfl
                      refine pure_ (i := 12) (N := some 52) (v := ?_) (a' := ?_) #[true, true, true, true, true, true, true, true, true, true, true, true, true, false, true, false, false, false] rfl rfl (any_of HT_.out (by kernel_rfl)) (fun _ _ _ h => h) (Or.inl ⟨by rfl, ?_⟩) ?_ ?_
                      rotate_left
                      · intro w'
                        go_simp
                        with_reducible rfl
                      rotate_left
                      · simp only [Act.put, List.setIfInBounds_toArray, List.set_cons_zero, List.set_cons_succ, i64_w, i32_w]
                        rfl
                      refine pure_ (i := 13) (N := some 53) (v := ?_) (a' := ?_) #[true, true, true, true, true, true, true, true, true, true, true, true, true, true, true, false, false, false] rfl rfl (any_of HT_.out (by kernel_rfl)) (fun _ _ _ h => h) (Or.inl ⟨by rfl, ?_⟩) ?_ ?_
                      rotate_left
                      · intro w'
                        go_simp
                        with_reducible rfl
                      rotate_left
                      · simp only [Act.put, List.setIfInBounds_toArray, List.set_cons_zero, List.set_cons_succ, i64_w, i32_w]
                        rfl
                      exact norm_ (by simp only [putAll, Act.put, List.setIfInBounds_toArray, List.set_cons_zero, List.set_cons_succ]) (hCont (v458, v461, gb465) _ ⟨hHeld, (zR HO459.out), (zR HO462.out), (by (with_reducible repeat (first | apply Kd.V_alloc | apply Kd.V_drewN | apply Kd.V_drew)); exact Kd.V_mono HO_455001.out (fun _ hk => ⟨hk.1.2, ⟨hk.2, ⟨hk.1.1.1, hk.1.1.2⟩⟩⟩)), (by (with_reducible repeat (first | apply Kd.V_alloc | apply Kd.V_drewN | apply Kd.V_drew)); exact Kd.V_mono HO_455002.out (fun _ hk => ⟨hk.1.2, ⟨hk.2, ⟨hk.1.1.1, hk.1.1.2⟩⟩⟩)), (zK BK454.out), (zK BK465.out), GW465.out, GE465.out, NB454_465.out, NB465_454.out, (zL HB.out)⟩)
                  rintro ⟨v458, v461, gb465⟩ w34 ⟨hS_, h0_, h1_, h2_, h3_, h4_, h5_, h6_, h7_, h8_, h9_, h10_⟩
                  have n0_ : Aside0 (Kd.R k34 34 w34 w.heap.size (fun _ => True) v458 t457) := ⟨h0_⟩
                  have n1_ : Aside0 (Kd.R k32 32 w34 w.heap.size (fun _ => True) v461 t460) := ⟨h1_⟩
                  have n2_ : Aside0 (Kd.V k34 34 w34 w.heap.size (fun k_ => some k_ ≠ (v458 : Value).ownBlock ∧ some k_ ≠ (v461 : Value).ownBlock ∧ k_ ≠ gb454 ∧ k_ ≠ gb465) (.slice Ao29 x455001_2.length co29) x455001_2) := ⟨h2_⟩
                  have n3_ : Aside0 (Kd.V k32 32 w34 w.heap.size (fun k_ => some k_ ≠ (v458 : Value).ownBlock ∧ some k_ ≠ (v461 : Value).ownBlock ∧ k_ ≠ gb454 ∧ k_ ≠ gb465) (.slice Ao30 x455002_2.length co30) x455002_2) := ⟨h3_⟩
                  have n4_ : Aside0 (w34.heap[gb454]? = some (.cells #[.int .i64 x455000_2, .slice Ao29 x455001_2.length co29, .slice Ao30 x455002_2.length co30] 27 (0, 0))) := ⟨h4_⟩
                  have n5_ : Aside0 (w34.heap[gb465]? = some (.cells #[.int .i64 0, .slice none 0 0, .slice none 0 0] 27 (0, 0))) := ⟨h5_⟩
                  have n6_ : Aside0 (w.heap.size ≤ gb465) := ⟨h6_⟩
                  have n7_ : Aside0 (w.heap.size ≤ gb465) := ⟨h7_⟩
                  have n8_ : Aside0 (gb454 ≠ gb465) := ⟨h8_⟩
                  have n9_ : Aside0 (gb465 ≠ gb454) := ⟨h9_⟩
                  have n10_ : Aside0 (Below w.heap.size w w34) := ⟨h10_⟩
                  clear HO_455001
                  clear HO_455002
                  clear BK454
                  clear HB
                  clear h0_ h1_ h2_ h3_ h4_ h5_ h6_ h7_ h8_ h9_ h10_
                  have HO459 := n0_
                  have HO462 := n1_
                  have HO_455001 := n2_
                  have HO_455002 := n3_
                  have BK454 := n4_
                  have BK465 := n5_
                  have GW465 := n6_
                  have GE465 := n7_
                  have NB454_465 := n8_
                  have NB465_454 := n9_
                  have HB := n10_
                  clear n0_ n1_ n2_ n3_ n4_ n5_ n6_ n7_ n8_ n9_ n10_
                  have hHeld : w34.cell? ⟨gb454, 0, none⟩ = some (.int .i64 x455000_2) ∧ w34.cell? ⟨gb454, 1, none⟩ = some (.slice Ao29 x455001_2.length co29) ∧ w34.cell? ⟨gb454, 2, none⟩ = some (.slice Ao30 x455002_2.length co30) ∧ w34.cell? (ad455.add (x8_2).toNat) = some (.bool (rdOf false l0 x8_2)) := hS_
                  obtain ⟨Ao36, co36, eo36⟩ := Kd.R_slice HO459.out
                  (first | subst eo36 | (injection eo36 with f1_ f2_ f3_; have f4_ := f1_.symm; have f5_ := f3_.symm; clear f1_ f2_ f3_; subst f4_; subst f5_))
                  obtain ⟨Ao38, co38, eo38⟩ := Kd.R_slice HO462.out
                  (first | subst eo38 | (injection eo38 with f1_ f2_ f3_; have f4_ := f1_.symm; have f5_ := f3_.symm; clear f1_ f2_ f3_; subst f4_; subst f5_))
                  refine norm_ (a' := ?_) ?_ ?_
                  rotate_left
                  · simp only [putAll, Act.put, List.setIfInBounds_toArray, List.set_cons_zero, List.set_cons_succ]
                    rfl
                  refine one_ (i := 15) (N := none) #[true, true, true, true, true, true, true, true, true, true, true, true, true, true, true, true, false, false] rfl rfl (one_of HT_.out (by kernel_rfl)) (by decide) (fun K hK => ?_)
                  have hs35 : w34.cell? ⟨gb465, 0, none⟩ = some (.int .i64 0) := (blk_cell BK465.out 0).trans rfl
                  have hfs35 := blk_frozen BK465.out 0
                  have hns35_0 := NB454_465.out
                  have hms35_0 := NB465_454.out
                  have hs37 : w34.cell? ⟨gb465, 1, none⟩ = some (.slice none 0 0) := (blk_cell BK465.out 1).trans rfl
                  have hfs37 := blk_frozen BK465.out 1
                  have hns37_0 := NB454_465.out
                  have hms37_0 := NB465_454.out
                  have hs39 : w34.cell? ⟨gb465, 2, none⟩ = some (.slice none 0 0) := (blk_cell BK465.out 2).trans rfl
                  have hfs39 := blk_frozen BK465.out 2
                  have hns39_0 := NB454_465.out
                  have hms39_0 := NB465_454.out
                  refine skip_ (w1 := ?_) (by rfl) rfl ?_ ?_
                  rotate_left
                  · go_simp
                    rfl
                  refine hK.out _ _ ⟨((cell_far (p := ⟨gb465, _, none⟩) NB454_465.out _).trans (((cell_far (p := ⟨gb465, _, none⟩) NB454_465.out _).trans (((cell_far (p := ⟨gb465, _, none⟩) NB454_465.out _).trans (hHeld.1)))))), ((cell_far (p := ⟨gb465, _, none⟩) NB454_465.out _).trans (((cell_far (p := ⟨gb465, _, none⟩) NB454_465.out _).trans (((cell_far (p := ⟨gb465, _, none⟩) NB454_465.out _).trans (hHeld.2.1)))))), ((cell_far (p := ⟨gb465, _, none⟩) NB454_465.out _).trans (((cell_far (p := ⟨gb465, _, none⟩) NB454_465.out _).trans (((cell_far (p := ⟨gb465, _, none⟩) NB454_465.out _).trans (hHeld.2.2.1)))))), ((cell_far (p := ⟨gb465, _, none⟩) (by first | exact Nat.ne_of_lt (Nat.lt_of_lt_of_le (by have := World.block_lt_of_cell? _ _ hw455_0; first | rwa [add_block] at this | exact this) GW465.out) | (rw [add_block]; exact Nat.ne_of_lt (Nat.lt_of_lt_of_le (by have := World.block_lt_of_cell? _ _ hw455_0; first | rwa [add_block] at this | exact this) GW465.out)) | (show (Addr.add _ _).block ≠ _; rw [add_block]; exact Nat.ne_of_lt (Nat.lt_of_lt_of_le (by have := World.block_lt_of_cell? _ _ hw455_0; first | rwa [add_block] at this | exact this) GW465.out)) | (dsimp only; exact Nat.ne_of_lt (Nat.lt_of_lt_of_le (by have := World.block_lt_of_cell? _ _ hw455_0; first | rwa [add_block] at this | exact this) GW465.out))) _).trans (((cell_far (p := ⟨gb465, _, none⟩) (by first | exact Nat.ne_of_lt (Nat.lt_of_lt_of_le (by have := World.block_lt_of_cell? _ _ hw455_0; first | rwa [add_block] at this | exact this) GW465.out) | (rw [add_block]; exact Nat.ne_of_lt (Nat.lt_of_lt_of_le (by have := World.block_lt_of_cell? _ _ hw455_0; first | rwa [add_block] at this | exact this) GW465.out)) | (show (Addr.add _ _).block ≠ _; rw [add_block]; exact Nat.ne_of_lt (Nat.lt_of_lt_of_le (by have := World.block_lt_of_cell? _ _ hw455_0; first | rwa [add_block] at this | exact this) GW465.out)) | (dsimp only; exact Nat.ne_of_lt (Nat.lt_of_lt_of_le (by have := World.block_lt_of_cell? _ _ hw455_0; first | rwa [add_block] at this | exact this) GW465.out))) _).trans (((cell_far (p := ⟨gb465, _, none⟩) (by first | exact Nat.ne_of_lt (Nat.lt_of_lt_of_le (by have := World.block_lt_of_cell? _ _ hw455_0; first | rwa [add_block] at this | exact this) GW465.out) | (rw [add_block]; exact Nat.ne_of_lt (Nat.lt_of_lt_of_le (by have := World.block_lt_of_cell? _ _ hw455_0; first | rwa [add_block] at this | exact this) GW465.out)) | (show (Addr.add _ _).block ≠ _; rw [add_block]; exact Nat.ne_of_lt (Nat.lt_of_lt_of_le (by have := World.block_lt_of_cell? _ _ hw455_0; first | rwa [add_block] at this | exact this) GW465.out)) | (dsimp only; exact Nat.ne_of_lt (Nat.lt_of_lt_of_le (by have := World.block_lt_of_cell? _ _ hw455_0; first | rwa [add_block] at this | exact this) GW465.out))) _).trans (hHeld.2.2.2))))))⟩ (fun hHeld => ?_)
                  clear hK K
                  refine pure_ (i := 16) (N := some 10) (v := ?_) (a' := ?_) #[true, true, true, true, true, true, true, true, true, true, true, true, true, true, true, true, true, false] rfl rfl (any_of HT_.out (by kernel_rfl)) (fun _ _ _ h => h) (Or.inl ⟨by rfl, ?_⟩) ?_ ?_
                  rotate_left
                  · intro w'
                    go_simp
                    with_reducible rfl
                  rotate_left
                  · simp only [Act.put, List.setIfInBounds_toArray, List.set_cons_zero, List.set_cons_succ, i64_w, i32_w]
                    rfl
                  refine pure_ (i := 17) (N := some 11) (v := ?_) (a' := ?_) #[true, true, true, true, true, true, true, true, true, true, true, true, true, true, true, true, true, true] rfl rfl (any_of HT_.out (by kernel_rfl)) (fun _ _ _ h => h) (Or.inl ⟨by rfl, ?_⟩) ?_ ?_
                  rotate_left
                  · intro w'
                    go_simp
                    with_reducible rfl
                  rotate_left
                  · simp only [Act.put, List.setIfInBounds_toArray, List.set_cons_zero, List.set_cons_succ, i64_w, i32_w]
                    rfl
                  refine done_ (done_of HT_.out (by kernel_rfl)) ?_
                  try go_wp2
                  go_ret
                  exact ⟨by first | rfl | (simp [errW_none, errW_some] <;> rfl) | (simp [*, errW_none, errW_some] <;> rfl), zL HB.out⟩
              · rw [if_neg c12] at H
                exact absurd H (by simp)
            · rw [if_neg c11] at H
              have c11b0 : decide (x8_2 < (l0.length : Int)) = false := decide_eq_false c11
              clear c11
              have H' := Aside0.mk H
              clear H
              go_wp2
              go_loopg [7, 12, 13] k2 (fun kq v7 v12 v13 w' => ∃ (x7_3 : Int) (x12_3 : Int) (x13_3 : Int) (x455000_3 : Int) (x455001_3 : List (S34)) (x455002_3 : List (S32)) (u455001 : Value) (u455002 : Value), v7 = .int .i64 x7_3 ∧ v12 = .int .i64 x12_3 ∧ v13 = .int .i64 x13_3 ∧ Aside0 (cooperagelaw16_LeaseTurn.l1 kq l0 l1 x7_3 x12_3 x13_3 x455000_3 x455001_3 x455002_3 = some r) ∧ Aside0 (kq ≤ k2) ∧ Aside0 (Kd.V k34 34 w' w.heap.size (fun k_ => k_ ≠ gb454) u455001 x455001_3) ∧ Aside0 (Kd.V k32 32 w' w.heap.size (fun k_ => k_ ≠ gb454) u455002 x455002_3) ∧ Aside0 (w'.heap[gb454]? = some (.cells #[.int .i64 x455000_3, u455001, u455002] 27 (0, 0))) ∧ Aside0 (Below w.heap.size w w'))
              case atStart => exact ⟨(0), (1), (0), (x455000_2), (x455001_2), (x455002_2), (u455001), (u455002), (by first | rfl | (simp; done) | (simp [*]; done)), (by first | rfl | (simp; done) | (simp [*]; done)), (by first | rfl | (simp; done) | (simp [*]; done)), H', ⟨Nat.le_refl _⟩, ⟨by (with_reducible repeat (first | apply Kd.V_alloc | apply Kd.V_drewN | apply Kd.V_drew)); exact HO_455001.out⟩, ⟨by (with_reducible repeat (first | apply Kd.V_alloc | apply Kd.V_drewN | apply Kd.V_drew)); exact HO_455002.out⟩, ⟨zK BK454.out⟩, ⟨zL HB.out⟩⟩
              case round =>
                clear H'
                try clear c1
                try clear c2
                try clear p2
                try clear p4
                try clear q4
                try clear hx4
                try clear p6
                try clear c10
                try clear c11
                try clear c11b0
                try clear c12
                try clear c14
                try clear c14b0
                try clear c14b1
                try clear c26
                try clear hcz27_0
                try clear hcz27_1
                try clear hcz27_2
                try clear hcz28_0
                try clear hcz28_1
                try clear hcz28_2
                try clear hfz27_0
                try clear hfz27_1
                try clear hfz27_2
                try clear hfz28_0
                try clear hfz28_1
                try clear hfz28_2
                try clear hx455_0
                try clear p455
                try clear q455
                obtain ⟨x7_3, x12_3, x13_3, x455000_3, x455001_3, x455002_3, u455001, u455002, rfl, rfl, rfl, HA, HK3, HO_455001, HO_455002, BK454, HB⟩ := hrel
                cases gk with
                | zero => exact absurd HA.out (by simp [cooperagelaw16_LeaseTurn.l1])
                | succ k3 =>
                  have H := HA.out
                  clear HA
                  simp only [cooperagelaw16_LeaseTurn.l1] at H
                  have HC40 := Aside0.mk H
                  clear H
                  go_upto_region 15 with (fail)
                  go_cut [64] (fun v64 wc => ∃ (kq : Nat) (x64_39 : Bool), v64 = .bool x64_39 ∧ Aside0 (cooperagelaw16_LeaseTurn.j3 kq l0 l1 x7_3 x12_3 x13_3 x64_39 x455000_3 x455001_3 x455002_3 = some r) ∧ Aside0 (kq ≤ k3) ∧ Aside0 (Kd.V k34 34 wc w.heap.size (fun k_ => k_ ≠ gb454) u455001 x455001_3) ∧ Aside0 (Kd.V k32 32 wc w.heap.size (fun k_ => k_ ≠ gb454) u455002 x455002_3) ∧ Aside0 (wc.heap[gb454]? = some (.cells #[.int .i64 x455000_3, u455001, u455002] 27 (0, 0))) ∧ Aside0 (Below w.heap.size w wc))
                  case first =>
                    have H := HC40.out
                    clear HC40
                    by_cases c41 : x13_3 < 100
                    · rw [if_pos c41] at H
                      have c41b0 : decide (x13_3 < 100) = true := decide_eq_true c41
                      clear c41
                      (first | rw [c41b0] | (simp only [i64_w, i32_w]; rw [c41b0]) | skip)
                      have H' := Aside0.mk H
                      clear H
                      have hcz42_0 : wr.cell? ⟨gb454, 0, none⟩ = some (.int .i64 x455000_3) := (blk_cell BK454.out 0).trans rfl
                      have hcz42_1 : wr.cell? ⟨gb454, 1, none⟩ = some (u455001) := (blk_cell BK454.out 1).trans rfl
                      have hcz42_2 : wr.cell? ⟨gb454, 2, none⟩ = some (u455002) := (blk_cell BK454.out 2).trans rfl
                      have hfz42_0 := blk_frozen BK454.out 0
                      have hfz42_1 := blk_frozen BK454.out 1
                      have hfz42_2 := blk_frozen BK454.out 2
                      obtain ⟨Ao43, co43, eo43⟩ := Kd.V_slice HO_455001.out
                      subst eo43
                      go_wp2
                      go_meet
                      case rel => exact ⟨_, (decide ((x455001_3.length : Int) > 0)), (by first | rfl | (simp; done) | (simp [*]; done)), H', ⟨by have := HJ3.out; have := HK2.out; have := HK3.out; first | omega | exact Nat.le_refl _⟩, ⟨by (with_reducible repeat (first | apply Kd.V_alloc | apply Kd.V_drewN | apply Kd.V_drew)); exact HO_455001.out⟩, ⟨by (with_reducible repeat (first | apply Kd.V_alloc | apply Kd.V_drewN | apply Kd.V_drew)); exact HO_455002.out⟩, ⟨zK BK454.out⟩, ⟨zL HB.out⟩⟩
                    · rw [if_neg c41] at H
                      have c41b0 : decide (x13_3 < 100) = false := decide_eq_false c41
                      clear c41
                      (first | rw [c41b0] | (simp only [i64_w, i32_w]; rw [c41b0]) | skip)
                      have H' := Aside0.mk H
                      clear H
                      go_wp2
                      go_meet
                      case rel => exact ⟨_, (false), (by first | rfl | (simp; done) | (simp [*]; done)), H', ⟨by have := HJ3.out; have := HK2.out; have := HK3.out; first | omega | exact Nat.le_refl _⟩, ⟨by (with_reducible repeat (first | apply Kd.V_alloc | apply Kd.V_drewN | apply Kd.V_drew)); exact HO_455001.out⟩, ⟨by (with_reducible repeat (first | apply Kd.V_alloc | apply Kd.V_drewN | apply Kd.V_drew)); exact HO_455002.out⟩, ⟨zK BK454.out⟩, ⟨zL HB.out⟩⟩
                  case rest =>
                    clear HC40
                    try clear c1
                    try clear c2
                    try clear p2
                    try clear c4
                    try clear p4
                    try clear q4
                    try clear hx4
                    try clear p6
                    try clear c10
                    try clear c11
                    try clear c11b0
                    try clear c12
                    try clear c14
                    try clear c14b0
                    try clear c14b1
                    try clear c26
                    try clear c41
                    try clear c41b0
                    try clear hcz27_0
                    try clear hcz27_1
                    try clear hcz27_2
                    try clear hcz28_0
                    try clear hcz28_1
                    try clear hcz28_2
                    try clear hcz42_0
                    try clear hcz42_1
                    try clear hcz42_2
                    try clear hfz27_0
                    try clear hfz27_1
                    try clear hfz27_2
                    try clear hfz28_0
                    try clear hfz28_1
                    try clear hfz28_2
                    try clear hfz42_0
                    try clear hfz42_1
                    try clear hfz42_2
                    try clear hx455_0
                    try clear p2
                    try clear p4
                    try clear p455
                    try clear p6
                    try clear q4
                    try clear q455
                    obtain ⟨kq, x64_39, rfl, HA, HJ39, HO_455001, HO_455002, BK454, HB⟩ := hcut
                    cases kq with
                    | zero => exact absurd HA.out (by simp [cooperagelaw16_LeaseTurn.j3])
                    | succ kj39 =>
                      have H := HA.out
                      clear HA
                      simp only [cooperagelaw16_LeaseTurn.j3] at H
                      by_cases c44 : x64_39 = true
                      · subst c44
                        have H1 : (cooperagelaw16_LeaseTurn.l2 kj39 l0 l1 x7_3 x12_3 x13_3 0 x455000_3 x455001_3 x455002_3) = some r := by rw [if_pos rfl] at H; exact H
                        clear H
                        have H := H1
                        clear H1
                        have H' := Aside0.mk H
                        clear H
                        go_wp2
                        go_loopg [12, 14] kj39 (fun kq v12 v14 w' => ∃ (x12_5 : Int) (x14_5 : Int), v12 = .int .i64 x12_5 ∧ v14 = .int .i64 x14_5 ∧ Aside0 (cooperagelaw16_LeaseTurn.l2 kq l0 l1 x7_3 x12_5 x13_3 x14_5 x455000_3 x455001_3 x455002_3 = some r) ∧ Aside0 (kq ≤ kj39) ∧ Aside0 (Kd.V k34 34 w' w.heap.size (fun k_ => k_ ≠ gb454) u455001 x455001_3) ∧ Aside0 (Kd.V k32 32 w' w.heap.size (fun k_ => k_ ≠ gb454) u455002 x455002_3) ∧ Aside0 (w'.heap[gb454]? = some (.cells #[.int .i64 x455000_3, u455001, u455002] 27 (0, 0))) ∧ Aside0 (Below w.heap.size w w'))
                        case atStart => exact ⟨(x12_3), (0), (by first | rfl | (simp; done) | (simp [*]; done)), (by first | rfl | (simp; done) | (simp [*]; done)), H', ⟨Nat.le_refl _⟩, ⟨by (with_reducible repeat (first | apply Kd.V_alloc | apply Kd.V_drewN | apply Kd.V_drew)); exact HO_455001.out⟩, ⟨by (with_reducible repeat (first | apply Kd.V_alloc | apply Kd.V_drewN | apply Kd.V_drew)); exact HO_455002.out⟩, ⟨zK BK454.out⟩, ⟨zL HB.out⟩⟩
                        case round =>
                          clear H'
                          try clear c1
                          try clear c2
                          try clear p2
                          try clear c4
                          try clear p4
                          try clear q4
                          try clear hx4
                          try clear p6
                          try clear c10
                          try clear c11
                          try clear c11b0
                          try clear c12
                          try clear c14
                          try clear c14b0
                          try clear c14b1
                          try clear c26
                          try clear c41
                          try clear c41b0
                          try clear c44
                          try clear hcz27_0
                          try clear hcz27_1
                          try clear hcz27_2
                          try clear hcz28_0
                          try clear hcz28_1
                          try clear hcz28_2
                          try clear hcz42_0
                          try clear hcz42_1
                          try clear hcz42_2
                          try clear hfz27_0
                          try clear hfz27_1
                          try clear hfz27_2
                          try clear hfz28_0
                          try clear hfz28_1
                          try clear hfz28_2
                          try clear hfz42_0
                          try clear hfz42_1
                          try clear hfz42_2
                          try clear hx455_0
                          try clear p2
                          try clear p4
                          try clear p455
                          try clear p6
                          try clear q4
                          try clear q455
                          obtain ⟨x12_5, x14_5, rfl, rfl, HA, HK5, HO_455001, HO_455002, BK454, HB⟩ := hrel
                          cases gk with
                          | zero => exact absurd HA.out (by simp [cooperagelaw16_LeaseTurn.l2])
                          | succ k5 =>
                            have H := HA.out
                            clear HA
                            simp only [cooperagelaw16_LeaseTurn.l2] at H
                            by_cases c45 : x14_5 < (x455001_3.length : Int)
                            · rw [if_pos c45] at H
                              have c45b0 : decide (x14_5 < (x455001_3.length : Int)) = true := decide_eq_true c45
                              clear c45
                              by_cases c46 : 0 ≤ x14_5
                              · rw [if_pos c46] at H
                                have c46b0 : decide (0 ≤ x14_5) = true := decide_eq_true c46
                                clear c46
                                by_cases c47 : ((rd_T34 x455001_3 x14_5).f0) > x12_5
                                · rw [if_pos c47] at H
                                  have c47b0 : decide (x12_5 < ((rd_T34 x455001_3 x14_5).f0)) = true := decide_eq_true c47
                                  clear c47
                                  obtain rfl := Option.some.inj H
                                  have hcz48_0 : wr.cell? ⟨gb454, 0, none⟩ = some (.int .i64 x455000_3) := (blk_cell BK454.out 0).trans rfl
                                  have hcz48_1 : wr.cell? ⟨gb454, 1, none⟩ = some (u455001) := (blk_cell BK454.out 1).trans rfl
                                  have hcz48_2 : wr.cell? ⟨gb454, 2, none⟩ = some (u455002) := (blk_cell BK454.out 2).trans rfl
                                  have hfz48_0 := blk_frozen BK454.out 0
                                  have hfz48_1 := blk_frozen BK454.out 1
                                  have hfz48_2 := blk_frozen BK454.out 2
                                  obtain ⟨Ao49, co49, eo49⟩ := Kd.V_slice HO_455001.out
                                  subst eo49
                                  have p466 : 0 ≤ (x14_5 : Int) := of_decide_eq_true (by first | (with_reducible assumption) | assumption)
                                  have q466 : x14_5 < (x455001_3.length : Int) := of_decide_eq_true (by first | (with_reducible assumption) | assumption)
                                  obtain ⟨ad466, e466, hx466_0, hx466_1, hx466_2, hx466_3, hx466_4⟩ := at_T34 (Kd.V_reads' HO_455001.out).2.2 x14_5 p466 q466
                                  cases e466
                                  replace p466 := eq_true p466
                                  replace q466 := eq_true q466
                                  go_wp2_with (first | ((with_reducible refine gate_dst (N := 15) rfl ?_); (try (refine gate_guard (by rfl) ?_; dsimp only)); refine box_event ?hg (N := 15) ?hd (cs := #[.int .i64 0, .string (⟨#[]⟩ : ByteArray), .bool false, .int .i64 0, .int .i64 0]) (t := 34) ?hr ?_; (case hd => rfl); (case hg => rfl); (case hr => first | (go_simp; done) | (go_simp; rfl)); intro gb467 hg w50 hbox hb; have n0_ := Aside0.mk (Kd.V_below (Kd.V_elderB (zV HO_455001.out) gb467 (Nat.le_of_eq hg.symm)) hb); have n1_ := Aside0.mk (Kd.V_below (Kd.V_elderB (zV HO_455002.out) gb467 (Nat.le_of_eq hg.symm)) hb); have n2_ := Aside0.mk (blk_below (g := gb454) (o := .cells #[.int .i64 x455000_3, .slice (some ad466) x455001_3.length co49, u455002] 27 (0, 0)) (zK BK454.out) hb); have n3_ := Aside0.mk (below_step (zL HB.out) hb); have n4_ := Aside0.mk (hbox); have n5_ := Aside0.mk (zG hg (zL HB.out)); have n6_ := Aside0.mk (zG hg (zL HB.out)); have n7_ := Aside0.mk (zN (g := gb454) (o := .cells #[.int .i64 x455000_3, .slice (some ad466) x455001_3.length co49, u455002] 27 (0, 0)) hg (zK BK454.out)); have n8_ := Aside0.mk (zO (g := gb454) (o := .cells #[.int .i64 x455000_3, .slice (some ad466) x455001_3.length co49, u455002] 27 (0, 0)) hg (zK BK454.out)); clear HO_455001; clear HO_455002; clear BK454; clear HB; have HO_455001 := n0_; have HO_455002 := n1_; have BK454 := n2_; have HB := n3_; have BK467 := n4_; have GW467 := n5_; have GE467 := n6_; have NB454_467 := n7_; have NB467_454 := n8_; clear n0_ n1_ n2_ n3_ n4_ n5_ n6_ n7_ n8_; clear hb hbox hg; have hnb51 := NB467_454.out; have hnc51 := NB454_467.out; have hcz52_0 : w50.cell? ⟨gb467, 0, none⟩ = some (.int .i64 0) := (blk_cell BK467.out 0).trans rfl; have hcz52_1 : w50.cell? ⟨gb467, 1, none⟩ = some (.string (⟨#[]⟩ : ByteArray)) := (blk_cell BK467.out 1).trans rfl; have hcz52_2 : w50.cell? ⟨gb467, 2, none⟩ = some (.bool false) := (blk_cell BK467.out 2).trans rfl; have hcz52_3 : w50.cell? ⟨gb467, 3, none⟩ = some (.int .i64 0) := (blk_cell BK467.out 3).trans rfl; have hcz52_4 : w50.cell? ⟨gb467, 4, none⟩ = some (.int .i64 0) := (blk_cell BK467.out 4).trans rfl; have hfz52_0 := blk_frozen BK467.out 0; have hfz52_1 := blk_frozen BK467.out 1; have hfz52_2 := blk_frozen BK467.out 2; have hfz52_3 := blk_frozen BK467.out 3; have hfz52_4 := blk_frozen BK467.out 4))
                                  go_ret
                                  exact ⟨by first | rfl | (simp [errW_none, errW_some] <;> rfl) | (simp [*, errW_none, errW_some] <;> rfl), zL HB.out⟩
                                · rw [if_neg c47] at H
                                  have c47b0 : decide (x12_5 < ((rd_T34 x455001_3 x14_5).f0)) = false := decide_eq_false c47
                                  clear c47
                                  by_cases c53 : ((rd_T34 x455001_3 x14_5).f0) = x12_5
                                  · rw [if_pos c53] at H
                                    have c53b0 : (((rd_T34 x455001_3 x14_5).f0) == x12_5) = true := beq_iff_eq.mpr c53
                                    have c53b1 : (((rd_T34 x455001_3 x14_5).f0) != x12_5) = false := bne_eq_false_iff_eq.mpr c53
                                    clear c53
                                    have H' := Aside0.mk H
                                    clear H
                                    have hcz54_0 : wr.cell? ⟨gb454, 0, none⟩ = some (.int .i64 x455000_3) := (blk_cell BK454.out 0).trans rfl
                                    have hcz54_1 : wr.cell? ⟨gb454, 1, none⟩ = some (u455001) := (blk_cell BK454.out 1).trans rfl
                                    have hcz54_2 : wr.cell? ⟨gb454, 2, none⟩ = some (u455002) := (blk_cell BK454.out 2).trans rfl
                                    have hfz54_0 := blk_frozen BK454.out 0
                                    have hfz54_1 := blk_frozen BK454.out 1
                                    have hfz54_2 := blk_frozen BK454.out 2
                                    obtain ⟨Ao55, co55, eo55⟩ := Kd.V_slice HO_455001.out
                                    subst eo55
                                    have p466 : 0 ≤ (x14_5 : Int) := of_decide_eq_true (by first | (with_reducible assumption) | assumption)
                                    have q466 : x14_5 < (x455001_3.length : Int) := of_decide_eq_true (by first | (with_reducible assumption) | assumption)
                                    obtain ⟨ad466, e466, hx466_0, hx466_1, hx466_2, hx466_3, hx466_4⟩ := at_T34 (Kd.V_reads' HO_455001.out).2.2 x14_5 p466 q466
                                    cases e466
                                    replace p466 := eq_true p466
                                    replace q466 := eq_true q466
                                    go_wp2_with (first | ((with_reducible refine gate_dst (N := 15) rfl ?_); (try (refine gate_guard (by rfl) ?_; dsimp only)); refine box_event ?hg (N := 15) ?hd (cs := #[.int .i64 0, .string (⟨#[]⟩ : ByteArray), .bool false, .int .i64 0, .int .i64 0]) (t := 34) ?hr ?_; (case hd => rfl); (case hg => rfl); (case hr => first | (go_simp; done) | (go_simp; rfl)); intro gb467 hg w56 hbox hb; have n0_ := Aside0.mk (Kd.V_below (Kd.V_elderB (zV HO_455001.out) gb467 (Nat.le_of_eq hg.symm)) hb); have n1_ := Aside0.mk (Kd.V_below (Kd.V_elderB (zV HO_455002.out) gb467 (Nat.le_of_eq hg.symm)) hb); have n2_ := Aside0.mk (blk_below (g := gb454) (o := .cells #[.int .i64 x455000_3, .slice (some ad466) x455001_3.length co55, u455002] 27 (0, 0)) (zK BK454.out) hb); have n3_ := Aside0.mk (below_step (zL HB.out) hb); have n4_ := Aside0.mk (hbox); have n5_ := Aside0.mk (zG hg (zL HB.out)); have n6_ := Aside0.mk (zG hg (zL HB.out)); have n7_ := Aside0.mk (zN (g := gb454) (o := .cells #[.int .i64 x455000_3, .slice (some ad466) x455001_3.length co55, u455002] 27 (0, 0)) hg (zK BK454.out)); have n8_ := Aside0.mk (zO (g := gb454) (o := .cells #[.int .i64 x455000_3, .slice (some ad466) x455001_3.length co55, u455002] 27 (0, 0)) hg (zK BK454.out)); clear HO_455001; clear HO_455002; clear BK454; clear HB; have HO_455001 := n0_; have HO_455002 := n1_; have BK454 := n2_; have HB := n3_; have BK467 := n4_; have GW467 := n5_; have GE467 := n6_; have NB454_467 := n7_; have NB467_454 := n8_; clear n0_ n1_ n2_ n3_ n4_ n5_ n6_ n7_ n8_; clear hb hbox hg; have hnb57 := NB467_454.out; have hnc57 := NB454_467.out; have hcz58_0 : w56.cell? ⟨gb467, 0, none⟩ = some (.int .i64 0) := (blk_cell BK467.out 0).trans rfl; have hcz58_1 : w56.cell? ⟨gb467, 1, none⟩ = some (.string (⟨#[]⟩ : ByteArray)) := (blk_cell BK467.out 1).trans rfl; have hcz58_2 : w56.cell? ⟨gb467, 2, none⟩ = some (.bool false) := (blk_cell BK467.out 2).trans rfl; have hcz58_3 : w56.cell? ⟨gb467, 3, none⟩ = some (.int .i64 0) := (blk_cell BK467.out 3).trans rfl; have hcz58_4 : w56.cell? ⟨gb467, 4, none⟩ = some (.int .i64 0) := (blk_cell BK467.out 4).trans rfl; have hfz58_0 := blk_frozen BK467.out 0; have hfz58_1 := blk_frozen BK467.out 1; have hfz58_2 := blk_frozen BK467.out 2; have hfz58_3 := blk_frozen BK467.out 3; have hfz58_4 := blk_frozen BK467.out 4))
                                    go_roundg k5
                                    case measure => have := HJ3.out; have := HK2.out; have := HK3.out; have := HJ39.out; have := HK5.out; omega
                                    case rel => exact ⟨(wrap64 (x12_5 + 1)), (wrap64 (x14_5 + 1)), (by first | rfl | (simp; done) | (simp [*]; done)), (by first | rfl | (simp; done) | (simp [*]; done)), H', ⟨by have := HJ3.out; have := HK2.out; have := HK3.out; have := HJ39.out; have := HK5.out; omega⟩, ⟨by (with_reducible repeat (first | apply Kd.V_alloc | apply Kd.V_drewN | apply Kd.V_drew)); exact Kd.V_mono (Kd.V_far (p := ⟨gb467, 4, none⟩) (Kd.V_far (p := ⟨gb467, 3, none⟩) (Kd.V_far (p := ⟨gb467, 2, none⟩) (Kd.V_far (p := ⟨gb467, 1, none⟩) (Kd.V_far (p := ⟨gb467, 0, none⟩) (Kd.V_mono HO_455001.out (fun k_ hk => (⟨hk, hk.2⟩ : _ ∧ k_ ≠ gb467))) (fun _ hk => hk.2) (.int .i64 ((rd_T34 x455001_3 x14_5).f0))) (fun _ hk => hk.2) (.string ((rd_T34 x455001_3 x14_5).f1))) (fun _ hk => hk.2) (.bool ((rd_T34 x455001_3 x14_5).f2))) (fun _ hk => hk.2) (.int .i64 ((rd_T34 x455001_3 x14_5).f3))) (fun _ hk => hk.2) (.int .i64 ((rd_T34 x455001_3 x14_5).f4))) (fun _ hk => hk.1.1)⟩, ⟨by (with_reducible repeat (first | apply Kd.V_alloc | apply Kd.V_drewN | apply Kd.V_drew)); exact Kd.V_mono (Kd.V_far (p := ⟨gb467, 4, none⟩) (Kd.V_far (p := ⟨gb467, 3, none⟩) (Kd.V_far (p := ⟨gb467, 2, none⟩) (Kd.V_far (p := ⟨gb467, 1, none⟩) (Kd.V_far (p := ⟨gb467, 0, none⟩) (Kd.V_mono HO_455002.out (fun k_ hk => (⟨hk, hk.2⟩ : _ ∧ k_ ≠ gb467))) (fun _ hk => hk.2) (.int .i64 ((rd_T34 x455001_3 x14_5).f0))) (fun _ hk => hk.2) (.string ((rd_T34 x455001_3 x14_5).f1))) (fun _ hk => hk.2) (.bool ((rd_T34 x455001_3 x14_5).f2))) (fun _ hk => hk.2) (.int .i64 ((rd_T34 x455001_3 x14_5).f3))) (fun _ hk => hk.2) (.int .i64 ((rd_T34 x455001_3 x14_5).f4))) (fun _ hk => hk.1.1)⟩, ⟨zK BK454.out⟩, ⟨zL HB.out⟩⟩
                                  · rw [if_neg c53] at H
                                    have c53b0 : (((rd_T34 x455001_3 x14_5).f0) == x12_5) = false := beq_eq_false_iff_ne.mpr c53
                                    have c53b1 : (((rd_T34 x455001_3 x14_5).f0) != x12_5) = true := bne_iff_ne.mpr c53
                                    have H' := Aside0.mk H
                                    clear H
                                    have hcz59_0 : wr.cell? ⟨gb454, 0, none⟩ = some (.int .i64 x455000_3) := (blk_cell BK454.out 0).trans rfl
                                    have hcz59_1 : wr.cell? ⟨gb454, 1, none⟩ = some (u455001) := (blk_cell BK454.out 1).trans rfl
                                    have hcz59_2 : wr.cell? ⟨gb454, 2, none⟩ = some (u455002) := (blk_cell BK454.out 2).trans rfl
                                    have hfz59_0 := blk_frozen BK454.out 0
                                    have hfz59_1 := blk_frozen BK454.out 1
                                    have hfz59_2 := blk_frozen BK454.out 2
                                    obtain ⟨Ao60, co60, eo60⟩ := Kd.V_slice HO_455001.out
                                    subst eo60
                                    have p466 : 0 ≤ (x14_5 : Int) := of_decide_eq_true (by first | (with_reducible assumption) | assumption)
                                    have q466 : x14_5 < (x455001_3.length : Int) := of_decide_eq_true (by first | (with_reducible assumption) | assumption)
                                    obtain ⟨ad466, e466, hx466_0, hx466_1, hx466_2, hx466_3, hx466_4⟩ := at_T34 (Kd.V_reads' HO_455001.out).2.2 x14_5 p466 q466
                                    cases e466
                                    replace p466 := eq_true p466
                                    replace q466 := eq_true q466
                                    go_wp2_with (first | ((with_reducible refine gate_dst (N := 15) rfl ?_); (try (refine gate_guard (by rfl) ?_; dsimp only)); refine box_event ?hg (N := 15) ?hd (cs := #[.int .i64 0, .string (⟨#[]⟩ : ByteArray), .bool false, .int .i64 0, .int .i64 0]) (t := 34) ?hr ?_; (case hd => rfl); (case hg => rfl); (case hr => first | (go_simp; done) | (go_simp; rfl)); intro gb467 hg w61 hbox hb; have n0_ := Aside0.mk (Kd.V_below (Kd.V_elderB (zV HO_455001.out) gb467 (Nat.le_of_eq hg.symm)) hb); have n1_ := Aside0.mk (Kd.V_below (Kd.V_elderB (zV HO_455002.out) gb467 (Nat.le_of_eq hg.symm)) hb); have n2_ := Aside0.mk (blk_below (g := gb454) (o := .cells #[.int .i64 x455000_3, .slice (some ad466) x455001_3.length co60, u455002] 27 (0, 0)) (zK BK454.out) hb); have n3_ := Aside0.mk (below_step (zL HB.out) hb); have n4_ := Aside0.mk (hbox); have n5_ := Aside0.mk (zG hg (zL HB.out)); have n6_ := Aside0.mk (zG hg (zL HB.out)); have n7_ := Aside0.mk (zN (g := gb454) (o := .cells #[.int .i64 x455000_3, .slice (some ad466) x455001_3.length co60, u455002] 27 (0, 0)) hg (zK BK454.out)); have n8_ := Aside0.mk (zO (g := gb454) (o := .cells #[.int .i64 x455000_3, .slice (some ad466) x455001_3.length co60, u455002] 27 (0, 0)) hg (zK BK454.out)); clear HO_455001; clear HO_455002; clear BK454; clear HB; have HO_455001 := n0_; have HO_455002 := n1_; have BK454 := n2_; have HB := n3_; have BK467 := n4_; have GW467 := n5_; have GE467 := n6_; have NB454_467 := n7_; have NB467_454 := n8_; clear n0_ n1_ n2_ n3_ n4_ n5_ n6_ n7_ n8_; clear hb hbox hg; have hnb62 := NB467_454.out; have hnc62 := NB454_467.out; have hcz63_0 : w61.cell? ⟨gb467, 0, none⟩ = some (.int .i64 0) := (blk_cell BK467.out 0).trans rfl; have hcz63_1 : w61.cell? ⟨gb467, 1, none⟩ = some (.string (⟨#[]⟩ : ByteArray)) := (blk_cell BK467.out 1).trans rfl; have hcz63_2 : w61.cell? ⟨gb467, 2, none⟩ = some (.bool false) := (blk_cell BK467.out 2).trans rfl; have hcz63_3 : w61.cell? ⟨gb467, 3, none⟩ = some (.int .i64 0) := (blk_cell BK467.out 3).trans rfl; have hcz63_4 : w61.cell? ⟨gb467, 4, none⟩ = some (.int .i64 0) := (blk_cell BK467.out 4).trans rfl; have hfz63_0 := blk_frozen BK467.out 0; have hfz63_1 := blk_frozen BK467.out 1; have hfz63_2 := blk_frozen BK467.out 2; have hfz63_3 := blk_frozen BK467.out 3; have hfz63_4 := blk_frozen BK467.out 4))
                                    go_roundg k5
                                    case measure => have := HJ3.out; have := HK2.out; have := HK3.out; have := HJ39.out; have := HK5.out; omega
                                    case rel => exact ⟨(x12_5), (wrap64 (x14_5 + 1)), (by first | rfl | (simp; done) | (simp [*]; done)), (by first | rfl | (simp; done) | (simp [*]; done)), H', ⟨by have := HJ3.out; have := HK2.out; have := HK3.out; have := HJ39.out; have := HK5.out; omega⟩, ⟨by (with_reducible repeat (first | apply Kd.V_alloc | apply Kd.V_drewN | apply Kd.V_drew)); exact Kd.V_mono (Kd.V_far (p := ⟨gb467, 4, none⟩) (Kd.V_far (p := ⟨gb467, 3, none⟩) (Kd.V_far (p := ⟨gb467, 2, none⟩) (Kd.V_far (p := ⟨gb467, 1, none⟩) (Kd.V_far (p := ⟨gb467, 0, none⟩) (Kd.V_mono HO_455001.out (fun k_ hk => (⟨hk, hk.2⟩ : _ ∧ k_ ≠ gb467))) (fun _ hk => hk.2) (.int .i64 ((rd_T34 x455001_3 x14_5).f0))) (fun _ hk => hk.2) (.string ((rd_T34 x455001_3 x14_5).f1))) (fun _ hk => hk.2) (.bool ((rd_T34 x455001_3 x14_5).f2))) (fun _ hk => hk.2) (.int .i64 ((rd_T34 x455001_3 x14_5).f3))) (fun _ hk => hk.2) (.int .i64 ((rd_T34 x455001_3 x14_5).f4))) (fun _ hk => hk.1.1)⟩, ⟨by (with_reducible repeat (first | apply Kd.V_alloc | apply Kd.V_drewN | apply Kd.V_drew)); exact Kd.V_mono (Kd.V_far (p := ⟨gb467, 4, none⟩) (Kd.V_far (p := ⟨gb467, 3, none⟩) (Kd.V_far (p := ⟨gb467, 2, none⟩) (Kd.V_far (p := ⟨gb467, 1, none⟩) (Kd.V_far (p := ⟨gb467, 0, none⟩) (Kd.V_mono HO_455002.out (fun k_ hk => (⟨hk, hk.2⟩ : _ ∧ k_ ≠ gb467))) (fun _ hk => hk.2) (.int .i64 ((rd_T34 x455001_3 x14_5).f0))) (fun _ hk => hk.2) (.string ((rd_T34 x455001_3 x14_5).f1))) (fun _ hk => hk.2) (.bool ((rd_T34 x455001_3 x14_5).f2))) (fun _ hk => hk.2) (.int .i64 ((rd_T34 x455001_3 x14_5).f3))) (fun _ hk => hk.2) (.int .i64 ((rd_T34 x455001_3 x14_5).f4))) (fun _ hk => hk.1.1)⟩, ⟨zK BK454.out⟩, ⟨zL HB.out⟩⟩
                              · rw [if_neg c46] at H
                                exact absurd H (by simp)
                            · rw [if_neg c45] at H
                              have c45b0 : decide (x14_5 < (x455001_3.length : Int)) = false := decide_eq_false c45
                              clear c45
                              have HC64 := Aside0.mk H
                              clear H
                              have hcz65_0 : wr.cell? ⟨gb454, 0, none⟩ = some (.int .i64 x455000_3) := (blk_cell BK454.out 0).trans rfl
                              have hcz65_1 : wr.cell? ⟨gb454, 1, none⟩ = some (u455001) := (blk_cell BK454.out 1).trans rfl
                              have hcz65_2 : wr.cell? ⟨gb454, 2, none⟩ = some (u455002) := (blk_cell BK454.out 2).trans rfl
                              have hfz65_0 := blk_frozen BK454.out 0
                              have hfz65_1 := blk_frozen BK454.out 1
                              have hfz65_2 := blk_frozen BK454.out 2
                              obtain ⟨Ao66, co66, eo66⟩ := Kd.V_slice HO_455001.out
                              subst eo66
                              go_upto_region 25 with (fail)
                              go_cut [98] (fun v98 wc => ∃ (kq : Nat) (x98_63 : Bool), v98 = .bool x98_63 ∧ Aside0 (cooperagelaw16_LeaseTurn.j5 kq l0 l1 x7_3 x12_5 x13_3 x98_63 x455000_3 x455001_3 x455002_3 = some r) ∧ Aside0 (kq ≤ k5) ∧ Aside0 (Kd.V k34 34 wc w.heap.size (fun k_ => k_ ≠ gb454) (.slice Ao66 x455001_3.length co66) x455001_3) ∧ Aside0 (Kd.V k32 32 wc w.heap.size (fun k_ => k_ ≠ gb454) u455002 x455002_3) ∧ Aside0 (wc.heap[gb454]? = some (.cells #[.int .i64 x455000_3, (.slice Ao66 x455001_3.length co66), u455002] 27 (0, 0))) ∧ Aside0 (Below w.heap.size w wc))
                              case first =>
                                have H := HC64.out
                                clear HC64
                                by_cases c67 : x13_3 < (l1.length : Int)
                                · rw [if_pos c67] at H
                                  have c67b0 : decide (x13_3 < (l1.length : Int)) = true := decide_eq_true c67
                                  clear c67
                                  (first | rw [c67b0] | (simp only [i64_w, i32_w]; rw [c67b0]) | skip)
                                  by_cases c68 : 0 ≤ x13_3
                                  · rw [if_pos c68] at H
                                    have c68b0 : decide (0 ≤ x13_3) = true := decide_eq_true c68
                                    clear c68
                                    have H' := Aside0.mk H
                                    clear H
                                    have p468 : 0 ≤ (x13_3 : Int) := of_decide_eq_true (by first | (with_reducible assumption) | assumption)
                                    have q468 : x13_3 < (l1.length : Int) := of_decide_eq_true (by first | (with_reducible assumption) | assumption)
                                    obtain ⟨ad468, e468, hx468_0⟩ := Kd.at_bool HR1.out x13_3 p468 q468
                                    cases e468
                                    replace hx468_0 := (HB.out.cell (World.block_lt_of_cell? w _ hx468_0)).trans hx468_0
                                    replace p468 := eq_true p468
                                    replace q468 := eq_true q468
                                    go_wp2
                                    go_meet
                                    case rel => exact ⟨_, (rdOf false l1 x13_3), (by first | rfl | (simp; done) | (simp [*]; done)), H', ⟨by have := HJ3.out; have := HK2.out; have := HK3.out; have := HJ39.out; have := HK5.out; first | omega | exact Nat.le_refl _⟩, ⟨by (with_reducible repeat (first | apply Kd.V_alloc | apply Kd.V_drewN | apply Kd.V_drew)); exact HO_455001.out⟩, ⟨by (with_reducible repeat (first | apply Kd.V_alloc | apply Kd.V_drewN | apply Kd.V_drew)); exact HO_455002.out⟩, ⟨zK BK454.out⟩, ⟨zL HB.out⟩⟩
                                  · rw [if_neg c68] at H
                                    exact absurd H (by simp)
                                · rw [if_neg c67] at H
                                  have c67b0 : decide (x13_3 < (l1.length : Int)) = false := decide_eq_false c67
                                  clear c67
                                  (first | rw [c67b0] | (simp only [i64_w, i32_w]; rw [c67b0]) | skip)
                                  have H' := Aside0.mk H
                                  clear H
                                  go_wp2
                                  go_meet
                                  case rel => exact ⟨_, (false), (by first | rfl | (simp; done) | (simp [*]; done)), H', ⟨by have := HJ3.out; have := HK2.out; have := HK3.out; have := HJ39.out; have := HK5.out; first | omega | exact Nat.le_refl _⟩, ⟨by (with_reducible repeat (first | apply Kd.V_alloc | apply Kd.V_drewN | apply Kd.V_drew)); exact HO_455001.out⟩, ⟨by (with_reducible repeat (first | apply Kd.V_alloc | apply Kd.V_drewN | apply Kd.V_drew)); exact HO_455002.out⟩, ⟨zK BK454.out⟩, ⟨zL HB.out⟩⟩
                              case rest =>
                                clear HC64
                                try clear c1
                                try clear c2
                                try clear p2
                                try clear c4
                                try clear p4
                                try clear q4
                                try clear hx4
                                try clear c5
                                try clear c6
                                try clear p6
                                try clear c10
                                try clear c11
                                try clear c11b0
                                try clear c12
                                try clear c14
                                try clear c14b0
                                try clear c14b1
                                try clear c26
                                try clear c41
                                try clear c41b0
                                try clear c44
                                try clear c45
                                try clear c45b0
                                try clear p45
                                try clear q45
                                try clear hx45
                                try clear c46
                                try clear c46b0
                                try clear p46
                                try clear q46
                                try clear hx46
                                try clear c47
                                try clear c47b0
                                try clear c51
                                try clear c53
                                try clear c53b0
                                try clear c53b1
                                try clear c57
                                try clear c62
                                try clear p64
                                try clear c67
                                try clear c67b0
                                try clear c68
                                try clear c68b0
                                try clear hcz27_0
                                try clear hcz27_1
                                try clear hcz27_2
                                try clear hcz28_0
                                try clear hcz28_1
                                try clear hcz28_2
                                try clear hcz42_0
                                try clear hcz42_1
                                try clear hcz42_2
                                try clear hcz48_0
                                try clear hcz48_1
                                try clear hcz48_2
                                try clear hcz52_0
                                try clear hcz52_1
                                try clear hcz52_2
                                try clear hcz52_3
                                try clear hcz52_4
                                try clear hcz54_0
                                try clear hcz54_1
                                try clear hcz54_2
                                try clear hcz58_0
                                try clear hcz58_1
                                try clear hcz58_2
                                try clear hcz58_3
                                try clear hcz58_4
                                try clear hcz59_0
                                try clear hcz59_1
                                try clear hcz59_2
                                try clear hcz63_0
                                try clear hcz63_1
                                try clear hcz63_2
                                try clear hcz63_3
                                try clear hcz63_4
                                try clear hcz65_0
                                try clear hcz65_1
                                try clear hcz65_2
                                try clear hfz27_0
                                try clear hfz27_1
                                try clear hfz27_2
                                try clear hfz28_0
                                try clear hfz28_1
                                try clear hfz28_2
                                try clear hfz42_0
                                try clear hfz42_1
                                try clear hfz42_2
                                try clear hfz48_0
                                try clear hfz48_1
                                try clear hfz48_2
                                try clear hfz52_0
                                try clear hfz52_1
                                try clear hfz52_2
                                try clear hfz52_3
                                try clear hfz52_4
                                try clear hfz54_0
                                try clear hfz54_1
                                try clear hfz54_2
                                try clear hfz58_0
                                try clear hfz58_1
                                try clear hfz58_2
                                try clear hfz58_3
                                try clear hfz58_4
                                try clear hfz59_0
                                try clear hfz59_1
                                try clear hfz59_2
                                try clear hfz63_0
                                try clear hfz63_1
                                try clear hfz63_2
                                try clear hfz63_3
                                try clear hfz63_4
                                try clear hfz65_0
                                try clear hfz65_1
                                try clear hfz65_2
                                try clear hx455_0
                                try clear hx466_0
                                try clear hx466_1
                                try clear hx466_2
                                try clear hx466_3
                                try clear hx466_4
                                try clear hx468_0
                                try clear p2
                                try clear p4
                                try clear p455
                                try clear p466
                                try clear p468
                                try clear p6
                                try clear q4
                                try clear q455
                                try clear q466
                                try clear q468
                                obtain ⟨kq, x98_63, rfl, HA, HJ63, HO_455001, HO_455002, BK454, HB⟩ := hcut
                                cases kq with
                                | zero => exact absurd HA.out (by simp [cooperagelaw16_LeaseTurn.j5])
                                | succ kj63 =>
                                  have H := HA.out
                                  clear HA
                                  simp only [cooperagelaw16_LeaseTurn.j5] at H
                                  by_cases c69 : x98_63 = true
                                  · subst c69
                                    have H1 : ((lease_Tick.f kj63 x455000_3 x455001_3 x455002_3 (wrap64 (x7_3 + 10))).bind fun bt469 => (cooperagelaw16_LeaseTurn.l1 kj63 l0 l1 (wrap64 (x7_3 + 10)) x12_5 (wrap64 (x13_3 + 1)) bt469.1 bt469.2.1 bt469.2.2)) = some r := by rw [if_pos rfl] at H; exact H
                                    clear H
                                    have H := H1
                                    clear H1
                                    replace H := Option.bind_eq_some_iff.mp H
                                    obtain ⟨⟨t469, t470, t473⟩, A700, H⟩ := H
                                    replace H : (cooperagelaw16_LeaseTurn.l1 kj63 l0 l1 (wrap64 (x7_3 + 10)) x12_5 (wrap64 (x13_3 + 1)) t469 t470 t473) = some r := H
                                    have A70 := Aside0.mk A700
                                    clear A700
                                    have H' := Aside0.mk H
                                    clear H
                                    have hcz71_0 : wc.cell? ⟨gb454, 0, none⟩ = some (.int .i64 x455000_3) := (blk_cell BK454.out 0).trans rfl
                                    have hcz71_1 : wc.cell? ⟨gb454, 1, none⟩ = some (.slice Ao66 x455001_3.length co66) := (blk_cell BK454.out 1).trans rfl
                                    have hcz71_2 : wc.cell? ⟨gb454, 2, none⟩ = some (u455002) := (blk_cell BK454.out 2).trans rfl
                                    have hfz71_0 := blk_frozen BK454.out 0
                                    have hfz71_1 := blk_frozen BK454.out 1
                                    have hfz71_2 := blk_frozen BK454.out 2
                                    obtain ⟨Ao72, co72, eo72⟩ := Kd.V_slice HO_455002.out
                                    subst eo72
                                    go_wp2_with (first | ((with_reducible refine gate_callee (f := 11) rfl ?_); refine goesL_ (some 103) rfl rfl Tryd.func11 (by kernel_rfl) rfl #[.agg #[.int .i64 x455000_3, .slice Ao66 x455001_3.length co66, .slice Ao72 x455002_3.length co72], .int .i64 (wrap64 (x7_3 + 10))] rfl zA ?_; (with_reducible refine (lease_Tick.calls kj63 x455000_3 (fun k_ => k_ ≠ gb454) _ _ x455001_3 (fun k_ => k_ ≠ gb454) _ _ x455002_3 (wrap64 (x7_3 + 10)) t469 t470 t473 _ ?side1 ?side2 A70.out).mono ?_); (case side1 => exact HO_455001.out); (case side2 => exact HO_455002.out); rintro e w73 ⟨v471, v474, rfl, ho0, ho1, hb⟩; refine ⟨_, rfl, ?_⟩; have n0_ := Aside0.mk (Kd.V_below (zV HO_455001.out) hb); have n1_ := Aside0.mk (Kd.V_below (zV HO_455002.out) hb); have n2_ := Aside0.mk (Kd.V_lower (Kd.V_mono (ok' := fun k_ => k_ ≠ gb454) ho0 (fun k_ hk_ => Or.elim hk_ (fun hs_ => Or.elim hs_ (fun hs_ => hs_) (fun hs_ => hs_)) (fun hn_ => (Kd.freshB (g := gb454) (o := .cells #[.int .i64 x455000_3, .slice Ao66 x455001_3.length co66, .slice Ao72 x455002_3.length co72] 27 (0, 0)) (zK BK454.out) k_ hn_)))) (below_size (zL HB.out))); have n3_ := Aside0.mk (Kd.V_lower (Kd.V_mono (ok' := fun k_ => k_ ≠ gb454) ho1 (fun k_ hk_ => Or.elim hk_ (fun hs_ => Or.elim hs_ (fun hs_ => hs_) (fun hs_ => hs_)) (fun hn_ => (Kd.freshB (g := gb454) (o := .cells #[.int .i64 x455000_3, .slice Ao66 x455001_3.length co66, .slice Ao72 x455002_3.length co72] 27 (0, 0)) (zK BK454.out) k_ hn_)))) (below_size (zL HB.out))); have n4_ := Aside0.mk (blk_below (g := gb454) (o := .cells #[.int .i64 x455000_3, .slice Ao66 x455001_3.length co66, .slice Ao72 x455002_3.length co72] 27 (0, 0)) (zK BK454.out) hb); have n5_ := Aside0.mk (below_step (zL HB.out) hb); clear HO_455001; clear HO_455002; clear BK454; clear HB; have HO_455001 := n0_; have HO_455002 := n1_; have HO472 := n2_; have HO475 := n3_; have BK454 := n4_; have HB := n5_; clear n0_ n1_ n2_ n3_ n4_ n5_; (try clear hb); (try clear hb2); (try clear hk); (try clear hi); (try clear ho0); (try clear ho1); have hcz74_0 : w73.cell? ⟨gb454, 0, none⟩ = some (.int .i64 x455000_3) := (blk_cell BK454.out 0).trans rfl; have hcz74_1 : w73.cell? ⟨gb454, 1, none⟩ = some (.slice Ao66 x455001_3.length co66) := (blk_cell BK454.out 1).trans rfl; have hcz74_2 : w73.cell? ⟨gb454, 2, none⟩ = some (.slice Ao72 x455002_3.length co72) := (blk_cell BK454.out 2).trans rfl; have hfz74_0 := blk_frozen BK454.out 0; have hfz74_1 := blk_frozen BK454.out 1; have hfz74_2 := blk_frozen BK454.out 2; obtain ⟨Ao75, co75, eo75⟩ := Kd.V_slice HO472.out; subst eo75; obtain ⟨Ao76, co76, eo76⟩ := Kd.V_slice HO475.out; subst eo76))
                                    go_roundg kj63
                                    case measure => have := HJ3.out; have := HK2.out; have := HK3.out; have := HJ39.out; have := HK5.out; have := HJ63.out; omega
                                    case rel => exact ⟨(wrap64 (x7_3 + 10)), (x12_5), (wrap64 (x13_3 + 1)), (t469), (t470), (t473), (.slice Ao75 t470.length co75), (.slice Ao76 t473.length co76), (by first | rfl | (simp; done) | (simp [*]; done)), (by first | rfl | (simp; done) | (simp [*]; done)), (by first | rfl | (simp; done) | (simp [*]; done)), H', ⟨by have := HJ3.out; have := HK2.out; have := HK3.out; have := HJ39.out; have := HK5.out; have := HJ63.out; omega⟩, ⟨by (with_reducible repeat (first | apply Kd.V_alloc | apply Kd.V_drewN | apply Kd.V_drew)); exact Kd.V_mono (Kd.V_far (p := ⟨gb454, 2, none⟩) (Kd.V_far (p := ⟨gb454, 1, none⟩) (Kd.V_far (p := ⟨gb454, 0, none⟩) (Kd.V_mono HO472.out (fun k_ hk => (⟨hk, hk⟩ : _ ∧ k_ ≠ gb454))) (fun _ hk => hk.2) (.int .i64 t469)) (fun _ hk => hk.2) (.slice Ao75 t470.length co75)) (fun _ hk => hk.2) (.slice Ao76 t473.length co76)) (fun _ hk => hk.1)⟩, ⟨by (with_reducible repeat (first | apply Kd.V_alloc | apply Kd.V_drewN | apply Kd.V_drew)); exact Kd.V_mono (Kd.V_far (p := ⟨gb454, 2, none⟩) (Kd.V_far (p := ⟨gb454, 1, none⟩) (Kd.V_far (p := ⟨gb454, 0, none⟩) (Kd.V_mono HO475.out (fun k_ hk => (⟨hk, hk⟩ : _ ∧ k_ ≠ gb454))) (fun _ hk => hk.2) (.int .i64 t469)) (fun _ hk => hk.2) (.slice Ao75 t470.length co75)) (fun _ hk => hk.2) (.slice Ao76 t473.length co76)) (fun _ hk => hk.1)⟩, ⟨by (with_reducible repeat (first | refine blk_drewN ?_ _ | refine blk_drew ?_ | refine blk_alloc ?_ _)); refine blk_put (cs := #[.int .i64 t469, .slice Ao75 t470.length co75, .slice Ao72 x455002_3.length co72]) ?_ 2 _ rfl; (with_reducible repeat (first | refine blk_drewN ?_ _ | refine blk_drew ?_ | refine blk_alloc ?_ _)); refine blk_put (cs := #[.int .i64 t469, .slice Ao66 x455001_3.length co66, .slice Ao72 x455002_3.length co72]) ?_ 1 _ rfl; (with_reducible repeat (first | refine blk_drewN ?_ _ | refine blk_drew ?_ | refine blk_alloc ?_ _)); refine blk_put (cs := #[.int .i64 x455000_3, .slice Ao66 x455001_3.length co66, .slice Ao72 x455002_3.length co72]) ?_ 0 _ rfl; (with_reducible repeat (first | refine blk_drewN ?_ _ | refine blk_drew ?_ | refine blk_alloc ?_ _)); exact BK454.out⟩, ⟨zL HB.out⟩⟩
                                  · replace c69 := Bool.eq_false_iff.mpr c69
                                    subst c69
                                    have H1 : (if 0 < (x455001_3.length : Int) then ((lease_Give.f kj63 x455000_3 x455001_3 x455002_3 ((rd_T34 x455001_3 0).f0) ((rd_T34 x455001_3 0).f1) ((rd_T34 x455001_3 0).f3) x7_3).bind fun bt478 => (if bt478.2.2.2 = 0 then (cooperagelaw16_LeaseTurn.l1 kj63 l0 l1 x7_3 x12_5 (wrap64 (x13_3 + 1)) bt478.1 bt478.2.1 bt478.2.2.1) else (some false))) else (none)) = some r := by rw [if_neg (show ¬ (false = true) by decide)] at H; exact H
                                    clear H
                                    have H := H1
                                    clear H1
                                    by_cases c77 : 0 < (x455001_3.length : Int)
                                    · rw [if_pos c77] at H
                                      have c77b0 : decide (0 < (x455001_3.length : Int)) = true := decide_eq_true c77
                                      have c77b1 : decide (0 < x455001_3.length) = true := decide_eq_true (by omega)
                                      clear c77
                                      replace H := Option.bind_eq_some_iff.mp H
                                      obtain ⟨⟨t478, t479, t482, t485⟩, A780, H⟩ := H
                                      replace H : (if t485 = 0 then (cooperagelaw16_LeaseTurn.l1 kj63 l0 l1 x7_3 x12_5 (wrap64 (x13_3 + 1)) t478 t479 t482) else (some false)) = some r := H
                                      have A78 := Aside0.mk A780
                                      clear A780
                                      by_cases c79 : t485 = 0
                                      · rw [if_pos c79] at H
                                        have c79b0 : (t485 == 0) = true := beq_iff_eq.mpr c79
                                        have c79b1 : (t485 != 0) = false := bne_eq_false_iff_eq.mpr c79
                                        clear c79
                                        have H' := Aside0.mk H
                                        clear H
                                        have hcz80_0 : wc.cell? ⟨gb454, 0, none⟩ = some (.int .i64 x455000_3) := (blk_cell BK454.out 0).trans rfl
                                        have hcz80_1 : wc.cell? ⟨gb454, 1, none⟩ = some (.slice Ao66 x455001_3.length co66) := (blk_cell BK454.out 1).trans rfl
                                        have hcz80_2 : wc.cell? ⟨gb454, 2, none⟩ = some (u455002) := (blk_cell BK454.out 2).trans rfl
                                        have hfz80_0 := blk_frozen BK454.out 0
                                        have hfz80_1 := blk_frozen BK454.out 1
                                        have hfz80_2 := blk_frozen BK454.out 2
                                        have p476 : 0 ≤ (0 : Int) := (by omega)
                                        have q476 : 0 < (x455001_3.length : Int) := of_decide_eq_true (by first | (with_reducible assumption) | assumption)
                                        obtain ⟨ad476, e476, hx476_0, hx476_1, hx476_2, hx476_3, hx476_4⟩ := at_T34 (Kd.V_reads' HO_455001.out).2.2 0 p476 q476
                                        cases e476
                                        have qi476 : (0 < x455001_3.length) = True := eq_true (by omega)
                                        (try rw [show ((0 : Int)).toNat = 0 from rfl] at hx476_0)
                                        (try rw [show 0 * 5 = 0 from rfl] at hx476_0)
                                        (try rw [Addr.add_zero'] at hx476_0)
                                        (try rw [show ((0 : Int)).toNat = 0 from rfl] at hx476_1)
                                        (try rw [show 0 * 5 = 0 from rfl] at hx476_1)
                                        (try rw [Addr.add_zero'] at hx476_1)
                                        (try rw [show ((0 : Int)).toNat = 0 from rfl] at hx476_2)
                                        (try rw [show 0 * 5 = 0 from rfl] at hx476_2)
                                        (try rw [Addr.add_zero'] at hx476_2)
                                        (try rw [show ((0 : Int)).toNat = 0 from rfl] at hx476_3)
                                        (try rw [show 0 * 5 = 0 from rfl] at hx476_3)
                                        (try rw [Addr.add_zero'] at hx476_3)
                                        (try rw [show ((0 : Int)).toNat = 0 from rfl] at hx476_4)
                                        (try rw [show 0 * 5 = 0 from rfl] at hx476_4)
                                        (try rw [Addr.add_zero'] at hx476_4)
                                        replace p476 := eq_true p476
                                        replace q476 := eq_true q476
                                        go_wp2_with (first | ((with_reducible refine gate_dst (N := 16) rfl ?_); (try (refine gate_guard (by rfl) ?_; dsimp only)); refine box_event ?hg (N := 16) ?hd (cs := #[.int .i64 0, .string (⟨#[]⟩ : ByteArray), .bool false, .int .i64 0, .int .i64 0]) (t := 34) ?hr ?_; (case hd => rfl); (case hg => rfl); (case hr => first | (go_simp; done) | (go_simp; rfl)); intro gb477 hg w81 hbox hb; have n0_ := Aside0.mk (Kd.V_below (Kd.V_elderB (zV HO_455001.out) gb477 (Nat.le_of_eq hg.symm)) hb); have n1_ := Aside0.mk (Kd.V_below (Kd.V_elderB (zV HO_455002.out) gb477 (Nat.le_of_eq hg.symm)) hb); have n2_ := Aside0.mk (blk_below (g := gb454) (o := .cells #[.int .i64 x455000_3, .slice (some ad476) x455001_3.length co66, u455002] 27 (0, 0)) (zK BK454.out) hb); have n3_ := Aside0.mk (below_step (zL HB.out) hb); have n4_ := Aside0.mk (hbox); have n5_ := Aside0.mk (zG hg (zL HB.out)); have n6_ := Aside0.mk (zG hg (zL HB.out)); have n7_ := Aside0.mk (zN (g := gb454) (o := .cells #[.int .i64 x455000_3, .slice (some ad476) x455001_3.length co66, u455002] 27 (0, 0)) hg (zK BK454.out)); have n8_ := Aside0.mk (zO (g := gb454) (o := .cells #[.int .i64 x455000_3, .slice (some ad476) x455001_3.length co66, u455002] 27 (0, 0)) hg (zK BK454.out)); clear HO_455001; clear HO_455002; clear BK454; clear HB; have HO_455001 := n0_; have HO_455002 := n1_; have BK454 := n2_; have HB := n3_; have BK477 := n4_; have GW477 := n5_; have GE477 := n6_; have NB454_477 := n7_; have NB477_454 := n8_; clear n0_ n1_ n2_ n3_ n4_ n5_ n6_ n7_ n8_; clear hb hbox hg; have hnb82 := NB477_454.out; have hnc82 := NB454_477.out; have hcz83_0 : w81.cell? ⟨gb477, 0, none⟩ = some (.int .i64 0) := (blk_cell BK477.out 0).trans rfl; have hcz83_1 : w81.cell? ⟨gb477, 1, none⟩ = some (.string (⟨#[]⟩ : ByteArray)) := (blk_cell BK477.out 1).trans rfl; have hcz83_2 : w81.cell? ⟨gb477, 2, none⟩ = some (.bool false) := (blk_cell BK477.out 2).trans rfl; have hcz83_3 : w81.cell? ⟨gb477, 3, none⟩ = some (.int .i64 0) := (blk_cell BK477.out 3).trans rfl; have hcz83_4 : w81.cell? ⟨gb477, 4, none⟩ = some (.int .i64 0) := (blk_cell BK477.out 4).trans rfl; have hfz83_0 := blk_frozen BK477.out 0; have hfz83_1 := blk_frozen BK477.out 1; have hfz83_2 := blk_frozen BK477.out 2; have hfz83_3 := blk_frozen BK477.out 3; have hfz83_4 := blk_frozen BK477.out 4; have hcz84_0 : w81.cell? ⟨gb454, 0, none⟩ = some (.int .i64 x455000_3) := (blk_cell BK454.out 0).trans rfl; have hcz84_1 : w81.cell? ⟨gb454, 1, none⟩ = some (.slice (some ad476) x455001_3.length co66) := (blk_cell BK454.out 1).trans rfl; have hcz84_2 : w81.cell? ⟨gb454, 2, none⟩ = some (u455002) := (blk_cell BK454.out 2).trans rfl; have hfz84_0 := blk_frozen BK454.out 0; have hfz84_1 := blk_frozen BK454.out 1; have hfz84_2 := blk_frozen BK454.out 2; obtain ⟨Ao85, co85, eo85⟩ := Kd.V_slice HO_455002.out; subst eo85) | ((with_reducible refine gate_callee (f := 12) rfl ?_); refine goesL_ (some 117) rfl rfl Tryd.func12 (by kernel_rfl) rfl #[.agg #[.int .i64 x455000_3, .slice (some ad476) x455001_3.length co66, .slice Ao85 x455002_3.length co85], .int .i64 ((rd_T34 x455001_3 0).f0), .string ((rd_T34 x455001_3 0).f1), .int .i64 ((rd_T34 x455001_3 0).f3), .int .i64 x7_3] rfl zA ?_; (with_reducible refine (lease_Give.calls kj63 x455000_3 _ _ x455001_3 _ _ x455002_3 ((rd_T34 x455001_3 0).f0) ((rd_T34 x455001_3 0).f1) ((rd_T34 x455001_3 0).f3) x7_3 t478 t479 t482 t485 _ ?side1 ?side2 ?side3 ?side4 A78.out).mono ?_); (case side1 => refine (Kd.V_reads' (e := 34) (base := w.heap.size) (ok := fun k_ => (k_ ≠ gb454 ∧ k_ ≠ gb477)) (n := x455001_3.length) (c := co66) ?_).2.2; exact (zMV HO_455001.out (g := gb477) (fun _ hk => hk.2))); (case side2 => exact (Kd.V_reads' HO_455001.out).2.1); (case side3 => refine (Kd.V_reads' (e := 32) (base := w.heap.size) (ok := fun k_ => (k_ ≠ gb454 ∧ k_ ≠ gb477)) (n := x455002_3.length) (c := co85) ?_).2.2; exact (zMV HO_455002.out (g := gb477) (fun _ hk => hk.2))); (case side4 => exact (Kd.V_reads' HO_455002.out).2.1); rintro e w86 ⟨v480, v483, rfl, ho0, ho1, hb⟩; refine ⟨_, rfl, ?_⟩; have n0_ := Aside0.mk (Kd.V_mono (Kd.V_told (Kd.V_told (Kd.V_old (zMV HO_455001.out (g := gb477) (fun _ hk => hk.2)) hb) (Kd.R_base ho0)) (Kd.R_base ho1)) (fun _ h_ => h_.1)); have n1_ := Aside0.mk (Kd.V_mono (Kd.V_told (Kd.V_told (Kd.V_old (zMV HO_455002.out (g := gb477) (fun _ hk => hk.2)) hb) (Kd.R_base ho0)) (Kd.R_base ho1)) (fun _ h_ => h_.1)); have n2_ := Aside0.mk (Kd.R_lower (Kd.R_newB ho0 (g := gb477) (o := .cells #[.int .i64 ((rd_T34 x455001_3 0).f0), .string ((rd_T34 x455001_3 0).f1), .bool ((rd_T34 x455001_3 0).f2), .int .i64 ((rd_T34 x455001_3 0).f3), .int .i64 ((rd_T34 x455001_3 0).f4)] 34 (0, 0)) (by (with_reducible repeat (first | refine blk_drewN ?_ _ | refine blk_drew ?_ | refine blk_alloc ?_ _)); refine blk_put (cs := #[.int .i64 ((rd_T34 x455001_3 0).f0), .string ((rd_T34 x455001_3 0).f1), .bool ((rd_T34 x455001_3 0).f2), .int .i64 ((rd_T34 x455001_3 0).f3), .int .i64 0]) ?_ 4 _ rfl; (with_reducible repeat (first | refine blk_drewN ?_ _ | refine blk_drew ?_ | refine blk_alloc ?_ _)); refine blk_put (cs := #[.int .i64 ((rd_T34 x455001_3 0).f0), .string ((rd_T34 x455001_3 0).f1), .bool ((rd_T34 x455001_3 0).f2), .int .i64 0, .int .i64 0]) ?_ 3 _ rfl; (with_reducible repeat (first | refine blk_drewN ?_ _ | refine blk_drew ?_ | refine blk_alloc ?_ _)); refine blk_put (cs := #[.int .i64 ((rd_T34 x455001_3 0).f0), .string ((rd_T34 x455001_3 0).f1), .bool false, .int .i64 0, .int .i64 0]) ?_ 2 _ rfl; (with_reducible repeat (first | refine blk_drewN ?_ _ | refine blk_drew ?_ | refine blk_alloc ?_ _)); refine blk_put (cs := #[.int .i64 ((rd_T34 x455001_3 0).f0), .string (⟨#[]⟩ : ByteArray), .bool false, .int .i64 0, .int .i64 0]) ?_ 1 _ rfl; (with_reducible repeat (first | refine blk_drewN ?_ _ | refine blk_drew ?_ | refine blk_alloc ?_ _)); refine blk_put (cs := #[.int .i64 0, .string (⟨#[]⟩ : ByteArray), .bool false, .int .i64 0, .int .i64 0]) ?_ 0 _ rfl; (with_reducible repeat (first | refine blk_drewN ?_ _ | refine blk_drew ?_ | refine blk_alloc ?_ _)); exact BK477.out)) (below_size (zL HB.out))); have n3_ := Aside0.mk (Kd.R_lower ho1 (below_size (zL HB.out))); have n4_ := Aside0.mk (blk_below (g := gb454) (o := .cells #[.int .i64 x455000_3, .slice (some ad476) x455001_3.length co66, .slice Ao85 x455002_3.length co85] 27 (0, 0)) (zK BK454.out) hb); have n5_ := Aside0.mk (blk_below (g := gb477) (o := .cells #[.int .i64 ((rd_T34 x455001_3 0).f0), .string ((rd_T34 x455001_3 0).f1), .bool ((rd_T34 x455001_3 0).f2), .int .i64 ((rd_T34 x455001_3 0).f3), .int .i64 ((rd_T34 x455001_3 0).f4)] 34 (0, 0)) (by (with_reducible repeat (first | refine blk_drewN ?_ _ | refine blk_drew ?_ | refine blk_alloc ?_ _)); refine blk_put (cs := #[.int .i64 ((rd_T34 x455001_3 0).f0), .string ((rd_T34 x455001_3 0).f1), .bool ((rd_T34 x455001_3 0).f2), .int .i64 ((rd_T34 x455001_3 0).f3), .int .i64 0]) ?_ 4 _ rfl; (with_reducible repeat (first | refine blk_drewN ?_ _ | refine blk_drew ?_ | refine blk_alloc ?_ _)); refine blk_put (cs := #[.int .i64 ((rd_T34 x455001_3 0).f0), .string ((rd_T34 x455001_3 0).f1), .bool ((rd_T34 x455001_3 0).f2), .int .i64 0, .int .i64 0]) ?_ 3 _ rfl; (with_reducible repeat (first | refine blk_drewN ?_ _ | refine blk_drew ?_ | refine blk_alloc ?_ _)); refine blk_put (cs := #[.int .i64 ((rd_T34 x455001_3 0).f0), .string ((rd_T34 x455001_3 0).f1), .bool false, .int .i64 0, .int .i64 0]) ?_ 2 _ rfl; (with_reducible repeat (first | refine blk_drewN ?_ _ | refine blk_drew ?_ | refine blk_alloc ?_ _)); refine blk_put (cs := #[.int .i64 ((rd_T34 x455001_3 0).f0), .string (⟨#[]⟩ : ByteArray), .bool false, .int .i64 0, .int .i64 0]) ?_ 1 _ rfl; (with_reducible repeat (first | refine blk_drewN ?_ _ | refine blk_drew ?_ | refine blk_alloc ?_ _)); refine blk_put (cs := #[.int .i64 0, .string (⟨#[]⟩ : ByteArray), .bool false, .int .i64 0, .int .i64 0]) ?_ 0 _ rfl; (with_reducible repeat (first | refine blk_drewN ?_ _ | refine blk_drew ?_ | refine blk_alloc ?_ _)); exact BK477.out) hb); have n6_ := Aside0.mk (below_step (zL HB.out) hb); clear HO_455001; clear HO_455002; clear BK454; clear BK477; clear HB; have HO_455001 := n0_; have HO_455002 := n1_; have HO481 := n2_; have HO484 := n3_; have BK454 := n4_; have BK477 := n5_; have HB := n6_; clear n0_ n1_ n2_ n3_ n4_ n5_ n6_; (try clear hb); (try clear hb2); (try clear hk); (try clear hi); (try clear ho0); (try clear ho1)) | ((with_reducible refine gate_dst (N := 17) rfl ?_); (try (refine gate_guard (by rfl) ?_; dsimp only)); refine box_event ?hg (N := 17) ?hd (cs := #[.int .i64 0, .slice none 0 0, .slice none 0 0]) (t := 27) ?hr ?_; (case hd => rfl); (case hg => rfl); (case hr => first | (go_simp; done) | (go_simp; rfl)); intro gb486 hg w87 hbox hb; have n0_ := Aside0.mk (Kd.V_below (Kd.V_elderB (zV HO_455001.out) gb486 (Nat.le_of_eq hg.symm)) hb); have n1_ := Aside0.mk (Kd.V_below (Kd.V_elderB (zV HO_455002.out) gb486 (Nat.le_of_eq hg.symm)) hb); have n2_ := Aside0.mk (Kd.R_below (zR HO481.out) hb); have n3_ := Aside0.mk (Kd.R_below (zR HO484.out) hb); have n4_ := Aside0.mk (blk_below (g := gb454) (o := .cells #[.int .i64 x455000_3, .slice (some ad476) x455001_3.length co66, .slice Ao85 x455002_3.length co85] 27 (0, 0)) (zK BK454.out) hb); have n5_ := Aside0.mk (blk_below (g := gb477) (o := .cells #[.int .i64 ((rd_T34 x455001_3 0).f0), .string ((rd_T34 x455001_3 0).f1), .bool ((rd_T34 x455001_3 0).f2), .int .i64 ((rd_T34 x455001_3 0).f3), .int .i64 ((rd_T34 x455001_3 0).f4)] 34 (0, 0)) (zK BK477.out) hb); have n6_ := Aside0.mk (below_step (zL HB.out) hb); have n7_ := Aside0.mk (hbox); have n8_ := Aside0.mk (zG hg (zL HB.out)); have n9_ := Aside0.mk (zG hg (zL HB.out)); have n10_ := Aside0.mk (zN (g := gb454) (o := .cells #[.int .i64 x455000_3, .slice (some ad476) x455001_3.length co66, .slice Ao85 x455002_3.length co85] 27 (0, 0)) hg (zK BK454.out)); have n11_ := Aside0.mk (zO (g := gb454) (o := .cells #[.int .i64 x455000_3, .slice (some ad476) x455001_3.length co66, .slice Ao85 x455002_3.length co85] 27 (0, 0)) hg (zK BK454.out)); have n12_ := Aside0.mk (zN (g := gb477) (o := .cells #[.int .i64 ((rd_T34 x455001_3 0).f0), .string ((rd_T34 x455001_3 0).f1), .bool ((rd_T34 x455001_3 0).f2), .int .i64 ((rd_T34 x455001_3 0).f3), .int .i64 ((rd_T34 x455001_3 0).f4)] 34 (0, 0)) hg (zK BK477.out)); have n13_ := Aside0.mk (zO (g := gb477) (o := .cells #[.int .i64 ((rd_T34 x455001_3 0).f0), .string ((rd_T34 x455001_3 0).f1), .bool ((rd_T34 x455001_3 0).f2), .int .i64 ((rd_T34 x455001_3 0).f3), .int .i64 ((rd_T34 x455001_3 0).f4)] 34 (0, 0)) hg (zK BK477.out)); clear HO_455001; clear HO_455002; clear HO481; clear HO484; clear BK454; clear BK477; clear HB; have HO_455001 := n0_; have HO_455002 := n1_; have HO481 := n2_; have HO484 := n3_; have BK454 := n4_; have BK477 := n5_; have HB := n6_; have BK486 := n7_; have GW486 := n8_; have GE486 := n9_; have NB454_486 := n10_; have NB486_454 := n11_; have NB477_486 := n12_; have NB486_477 := n13_; clear n0_ n1_ n2_ n3_ n4_ n5_ n6_ n7_ n8_ n9_ n10_ n11_ n12_ n13_; clear hb hbox hg; have hnb88 := NB486_454.out; have hnc88 := NB454_486.out; have hnb89 := NB486_477.out; have hnc89 := NB477_486.out; have hcz90_0 : w87.cell? ⟨gb486, 0, none⟩ = some (.int .i64 0) := (blk_cell BK486.out 0).trans rfl; have hcz90_1 : w87.cell? ⟨gb486, 1, none⟩ = some (.slice none 0 0) := (blk_cell BK486.out 1).trans rfl; have hcz90_2 : w87.cell? ⟨gb486, 2, none⟩ = some (.slice none 0 0) := (blk_cell BK486.out 2).trans rfl; have hfz90_0 := blk_frozen BK486.out 0; have hfz90_1 := blk_frozen BK486.out 1; have hfz90_2 := blk_frozen BK486.out 2; obtain ⟨Ao91, co91, eo91⟩ := Kd.R_slice HO481.out; subst eo91; obtain ⟨Ao92, co92, eo92⟩ := Kd.R_slice HO484.out; subst eo92; have hcz93_0 : w87.cell? ⟨gb454, 0, none⟩ = some (.int .i64 x455000_3) := (blk_cell BK454.out 0).trans rfl; have hcz93_1 : w87.cell? ⟨gb454, 1, none⟩ = some (.slice (some ad476) x455001_3.length co66) := (blk_cell BK454.out 1).trans rfl; have hcz93_2 : w87.cell? ⟨gb454, 2, none⟩ = some (.slice Ao85 x455002_3.length co85) := (blk_cell BK454.out 2).trans rfl; have hfz93_0 := blk_frozen BK454.out 0; have hfz93_1 := blk_frozen BK454.out 1; have hfz93_2 := blk_frozen BK454.out 2))
                                        go_roundg kj63
                                        case measure => have := HJ3.out; have := HK2.out; have := HK3.out; have := HJ39.out; have := HK5.out; have := HJ63.out; omega
                                        case rel => exact ⟨(x7_3), (x12_5), (wrap64 (x13_3 + 1)), (t478), (t479), (t482), (.slice Ao91 t479.length co91), (.slice Ao92 t482.length co92), (by first | rfl | (simp; done) | (simp [*]; done)), (by first | rfl | (simp; done) | (simp [*]; done)), (by first | rfl | (simp; done) | (simp [*]; done)), H', ⟨by have := HJ3.out; have := HK2.out; have := HK3.out; have := HJ39.out; have := HK5.out; have := HJ63.out; omega⟩, ⟨Kd.R_V (by (with_reducible repeat (first | apply Kd.R_alloc | apply Kd.R_drewN | apply Kd.R_drew)); exact Kd.R_mono (Kd.R_far (p := ⟨gb454, 2, none⟩) (Kd.R_far (p := ⟨gb454, 1, none⟩) (Kd.R_far (p := ⟨gb454, 0, none⟩) (Kd.R_far (p := ⟨gb486, 2, none⟩) (Kd.R_far (p := ⟨gb486, 1, none⟩) (Kd.R_far (p := ⟨gb486, 0, none⟩) (Kd.R_types (Kd.R_types (Kd.R_types HO481.out BK454.out (by decide)) BK486.out (by decide)) BK454.out (by decide)) (fun _ hk => hk.1.2) (.int .i64 t478)) (fun _ hk => hk.1.2) (.slice Ao91 t479.length co91)) (fun _ hk => hk.1.2) (.slice Ao92 t482.length co92)) (fun _ hk => hk.2) (.int .i64 t478)) (fun _ hk => hk.2) (.slice Ao91 t479.length co91)) (fun _ hk => hk.2) (.slice Ao92 t482.length co92)) (fun _ hk => hk.1.1.2))⟩, ⟨Kd.R_V (by (with_reducible repeat (first | apply Kd.R_alloc | apply Kd.R_drewN | apply Kd.R_drew)); exact Kd.R_mono (Kd.R_far (p := ⟨gb454, 2, none⟩) (Kd.R_far (p := ⟨gb454, 1, none⟩) (Kd.R_far (p := ⟨gb454, 0, none⟩) (Kd.R_far (p := ⟨gb486, 2, none⟩) (Kd.R_far (p := ⟨gb486, 1, none⟩) (Kd.R_far (p := ⟨gb486, 0, none⟩) (Kd.R_types (Kd.R_types (Kd.R_types HO484.out BK454.out (by decide)) BK486.out (by decide)) BK454.out (by decide)) (fun _ hk => hk.1.2) (.int .i64 t478)) (fun _ hk => hk.1.2) (.slice Ao91 t479.length co91)) (fun _ hk => hk.1.2) (.slice Ao92 t482.length co92)) (fun _ hk => hk.2) (.int .i64 t478)) (fun _ hk => hk.2) (.slice Ao91 t479.length co91)) (fun _ hk => hk.2) (.slice Ao92 t482.length co92)) (fun _ hk => hk.1.1.2))⟩, ⟨by (with_reducible repeat (first | refine blk_drewN ?_ _ | refine blk_drew ?_ | refine blk_alloc ?_ _)); refine blk_put (cs := #[.int .i64 t478, .slice Ao91 t479.length co91, .slice Ao85 x455002_3.length co85]) ?_ 2 _ rfl; (with_reducible repeat (first | refine blk_drewN ?_ _ | refine blk_drew ?_ | refine blk_alloc ?_ _)); refine blk_put (cs := #[.int .i64 t478, .slice (some ad476) x455001_3.length co66, .slice Ao85 x455002_3.length co85]) ?_ 1 _ rfl; (with_reducible repeat (first | refine blk_drewN ?_ _ | refine blk_drew ?_ | refine blk_alloc ?_ _)); refine blk_put (cs := #[.int .i64 x455000_3, .slice (some ad476) x455001_3.length co66, .slice Ao85 x455002_3.length co85]) ?_ 0 _ rfl; (with_reducible repeat (first | refine blk_drewN ?_ _ | refine blk_drew ?_ | refine blk_alloc ?_ _)); refine blk_far ?_ NB454_486.out _; (with_reducible repeat (first | refine blk_drewN ?_ _ | refine blk_drew ?_ | refine blk_alloc ?_ _)); refine blk_far ?_ NB454_486.out _; (with_reducible repeat (first | refine blk_drewN ?_ _ | refine blk_drew ?_ | refine blk_alloc ?_ _)); refine blk_far ?_ NB454_486.out _; (with_reducible repeat (first | refine blk_drewN ?_ _ | refine blk_drew ?_ | refine blk_alloc ?_ _)); exact BK454.out⟩, ⟨zL HB.out⟩⟩
                                      · rw [if_neg c79] at H
                                        have c79b0 : (t485 == 0) = false := beq_eq_false_iff_ne.mpr c79
                                        have c79b1 : (t485 != 0) = true := bne_iff_ne.mpr c79
                                        obtain rfl := Option.some.inj H
                                        have hcz94_0 : wc.cell? ⟨gb454, 0, none⟩ = some (.int .i64 x455000_3) := (blk_cell BK454.out 0).trans rfl
                                        have hcz94_1 : wc.cell? ⟨gb454, 1, none⟩ = some (.slice Ao66 x455001_3.length co66) := (blk_cell BK454.out 1).trans rfl
                                        have hcz94_2 : wc.cell? ⟨gb454, 2, none⟩ = some (u455002) := (blk_cell BK454.out 2).trans rfl
                                        have hfz94_0 := blk_frozen BK454.out 0
                                        have hfz94_1 := blk_frozen BK454.out 1
                                        have hfz94_2 := blk_frozen BK454.out 2
                                        have p476 : 0 ≤ (0 : Int) := (by omega)
                                        have q476 : 0 < (x455001_3.length : Int) := of_decide_eq_true (by first | (with_reducible assumption) | assumption)
                                        obtain ⟨ad476, e476, hx476_0, hx476_1, hx476_2, hx476_3, hx476_4⟩ := at_T34 (Kd.V_reads' HO_455001.out).2.2 0 p476 q476
                                        cases e476
                                        have qi476 : (0 < x455001_3.length) = True := eq_true (by omega)
                                        (try rw [show ((0 : Int)).toNat = 0 from rfl] at hx476_0)
                                        (try rw [show 0 * 5 = 0 from rfl] at hx476_0)
                                        (try rw [Addr.add_zero'] at hx476_0)
                                        (try rw [show ((0 : Int)).toNat = 0 from rfl] at hx476_1)
                                        (try rw [show 0 * 5 = 0 from rfl] at hx476_1)
                                        (try rw [Addr.add_zero'] at hx476_1)
                                        (try rw [show ((0 : Int)).toNat = 0 from rfl] at hx476_2)
                                        (try rw [show 0 * 5 = 0 from rfl] at hx476_2)
                                        (try rw [Addr.add_zero'] at hx476_2)
                                        (try rw [show ((0 : Int)).toNat = 0 from rfl] at hx476_3)
                                        (try rw [show 0 * 5 = 0 from rfl] at hx476_3)
                                        (try rw [Addr.add_zero'] at hx476_3)
                                        (try rw [show ((0 : Int)).toNat = 0 from rfl] at hx476_4)
                                        (try rw [show 0 * 5 = 0 from rfl] at hx476_4)
                                        (try rw [Addr.add_zero'] at hx476_4)
                                        replace p476 := eq_true p476
                                        replace q476 := eq_true q476
                                        go_wp2_with (first | ((with_reducible refine gate_dst (N := 16) rfl ?_); (try (refine gate_guard (by rfl) ?_; dsimp only)); refine box_event ?hg (N := 16) ?hd (cs := #[.int .i64 0, .string (⟨#[]⟩ : ByteArray), .bool false, .int .i64 0, .int .i64 0]) (t := 34) ?hr ?_; (case hd => rfl); (case hg => rfl); (case hr => first | (go_simp; done) | (go_simp; rfl)); intro gb477 hg w95 hbox hb; have n0_ := Aside0.mk (Kd.V_below (Kd.V_elderB (zV HO_455001.out) gb477 (Nat.le_of_eq hg.symm)) hb); have n1_ := Aside0.mk (Kd.V_below (Kd.V_elderB (zV HO_455002.out) gb477 (Nat.le_of_eq hg.symm)) hb); have n2_ := Aside0.mk (blk_below (g := gb454) (o := .cells #[.int .i64 x455000_3, .slice (some ad476) x455001_3.length co66, u455002] 27 (0, 0)) (zK BK454.out) hb); have n3_ := Aside0.mk (below_step (zL HB.out) hb); have n4_ := Aside0.mk (hbox); have n5_ := Aside0.mk (zG hg (zL HB.out)); have n6_ := Aside0.mk (zG hg (zL HB.out)); have n7_ := Aside0.mk (zN (g := gb454) (o := .cells #[.int .i64 x455000_3, .slice (some ad476) x455001_3.length co66, u455002] 27 (0, 0)) hg (zK BK454.out)); have n8_ := Aside0.mk (zO (g := gb454) (o := .cells #[.int .i64 x455000_3, .slice (some ad476) x455001_3.length co66, u455002] 27 (0, 0)) hg (zK BK454.out)); clear HO_455001; clear HO_455002; clear BK454; clear HB; have HO_455001 := n0_; have HO_455002 := n1_; have BK454 := n2_; have HB := n3_; have BK477 := n4_; have GW477 := n5_; have GE477 := n6_; have NB454_477 := n7_; have NB477_454 := n8_; clear n0_ n1_ n2_ n3_ n4_ n5_ n6_ n7_ n8_; clear hb hbox hg; have hnb96 := NB477_454.out; have hnc96 := NB454_477.out; have hcz97_0 : w95.cell? ⟨gb477, 0, none⟩ = some (.int .i64 0) := (blk_cell BK477.out 0).trans rfl; have hcz97_1 : w95.cell? ⟨gb477, 1, none⟩ = some (.string (⟨#[]⟩ : ByteArray)) := (blk_cell BK477.out 1).trans rfl; have hcz97_2 : w95.cell? ⟨gb477, 2, none⟩ = some (.bool false) := (blk_cell BK477.out 2).trans rfl; have hcz97_3 : w95.cell? ⟨gb477, 3, none⟩ = some (.int .i64 0) := (blk_cell BK477.out 3).trans rfl; have hcz97_4 : w95.cell? ⟨gb477, 4, none⟩ = some (.int .i64 0) := (blk_cell BK477.out 4).trans rfl; have hfz97_0 := blk_frozen BK477.out 0; have hfz97_1 := blk_frozen BK477.out 1; have hfz97_2 := blk_frozen BK477.out 2; have hfz97_3 := blk_frozen BK477.out 3; have hfz97_4 := blk_frozen BK477.out 4; have hcz98_0 : w95.cell? ⟨gb454, 0, none⟩ = some (.int .i64 x455000_3) := (blk_cell BK454.out 0).trans rfl; have hcz98_1 : w95.cell? ⟨gb454, 1, none⟩ = some (.slice (some ad476) x455001_3.length co66) := (blk_cell BK454.out 1).trans rfl; have hcz98_2 : w95.cell? ⟨gb454, 2, none⟩ = some (u455002) := (blk_cell BK454.out 2).trans rfl; have hfz98_0 := blk_frozen BK454.out 0; have hfz98_1 := blk_frozen BK454.out 1; have hfz98_2 := blk_frozen BK454.out 2; obtain ⟨Ao99, co99, eo99⟩ := Kd.V_slice HO_455002.out; subst eo99) | ((with_reducible refine gate_callee (f := 12) rfl ?_); refine goesL_ (some 117) rfl rfl Tryd.func12 (by kernel_rfl) rfl #[.agg #[.int .i64 x455000_3, .slice (some ad476) x455001_3.length co66, .slice Ao99 x455002_3.length co99], .int .i64 ((rd_T34 x455001_3 0).f0), .string ((rd_T34 x455001_3 0).f1), .int .i64 ((rd_T34 x455001_3 0).f3), .int .i64 x7_3] rfl zA ?_; (with_reducible refine (lease_Give.calls kj63 x455000_3 _ _ x455001_3 _ _ x455002_3 ((rd_T34 x455001_3 0).f0) ((rd_T34 x455001_3 0).f1) ((rd_T34 x455001_3 0).f3) x7_3 t478 t479 t482 t485 _ ?side1 ?side2 ?side3 ?side4 A78.out).mono ?_); (case side1 => refine (Kd.V_reads' (e := 34) (base := w.heap.size) (ok := fun k_ => (k_ ≠ gb454 ∧ k_ ≠ gb477)) (n := x455001_3.length) (c := co66) ?_).2.2; exact (zMV HO_455001.out (g := gb477) (fun _ hk => hk.2))); (case side2 => exact (Kd.V_reads' HO_455001.out).2.1); (case side3 => refine (Kd.V_reads' (e := 32) (base := w.heap.size) (ok := fun k_ => (k_ ≠ gb454 ∧ k_ ≠ gb477)) (n := x455002_3.length) (c := co99) ?_).2.2; exact (zMV HO_455002.out (g := gb477) (fun _ hk => hk.2))); (case side4 => exact (Kd.V_reads' HO_455002.out).2.1); rintro e w100 ⟨v480, v483, rfl, ho0, ho1, hb⟩; refine ⟨_, rfl, ?_⟩; have n0_ := Aside0.mk (Kd.V_mono (Kd.V_told (Kd.V_told (Kd.V_old (zMV HO_455001.out (g := gb477) (fun _ hk => hk.2)) hb) (Kd.R_base ho0)) (Kd.R_base ho1)) (fun _ h_ => h_.1)); have n1_ := Aside0.mk (Kd.V_mono (Kd.V_told (Kd.V_told (Kd.V_old (zMV HO_455002.out (g := gb477) (fun _ hk => hk.2)) hb) (Kd.R_base ho0)) (Kd.R_base ho1)) (fun _ h_ => h_.1)); have n2_ := Aside0.mk (Kd.R_lower (Kd.R_newB ho0 (g := gb477) (o := .cells #[.int .i64 ((rd_T34 x455001_3 0).f0), .string ((rd_T34 x455001_3 0).f1), .bool ((rd_T34 x455001_3 0).f2), .int .i64 ((rd_T34 x455001_3 0).f3), .int .i64 ((rd_T34 x455001_3 0).f4)] 34 (0, 0)) (by (with_reducible repeat (first | refine blk_drewN ?_ _ | refine blk_drew ?_ | refine blk_alloc ?_ _)); refine blk_put (cs := #[.int .i64 ((rd_T34 x455001_3 0).f0), .string ((rd_T34 x455001_3 0).f1), .bool ((rd_T34 x455001_3 0).f2), .int .i64 ((rd_T34 x455001_3 0).f3), .int .i64 0]) ?_ 4 _ rfl; (with_reducible repeat (first | refine blk_drewN ?_ _ | refine blk_drew ?_ | refine blk_alloc ?_ _)); refine blk_put (cs := #[.int .i64 ((rd_T34 x455001_3 0).f0), .string ((rd_T34 x455001_3 0).f1), .bool ((rd_T34 x455001_3 0).f2), .int .i64 0, .int .i64 0]) ?_ 3 _ rfl; (with_reducible repeat (first | refine blk_drewN ?_ _ | refine blk_drew ?_ | refine blk_alloc ?_ _)); refine blk_put (cs := #[.int .i64 ((rd_T34 x455001_3 0).f0), .string ((rd_T34 x455001_3 0).f1), .bool false, .int .i64 0, .int .i64 0]) ?_ 2 _ rfl; (with_reducible repeat (first | refine blk_drewN ?_ _ | refine blk_drew ?_ | refine blk_alloc ?_ _)); refine blk_put (cs := #[.int .i64 ((rd_T34 x455001_3 0).f0), .string (⟨#[]⟩ : ByteArray), .bool false, .int .i64 0, .int .i64 0]) ?_ 1 _ rfl; (with_reducible repeat (first | refine blk_drewN ?_ _ | refine blk_drew ?_ | refine blk_alloc ?_ _)); refine blk_put (cs := #[.int .i64 0, .string (⟨#[]⟩ : ByteArray), .bool false, .int .i64 0, .int .i64 0]) ?_ 0 _ rfl; (with_reducible repeat (first | refine blk_drewN ?_ _ | refine blk_drew ?_ | refine blk_alloc ?_ _)); exact BK477.out)) (below_size (zL HB.out))); have n3_ := Aside0.mk (Kd.R_lower ho1 (below_size (zL HB.out))); have n4_ := Aside0.mk (blk_below (g := gb454) (o := .cells #[.int .i64 x455000_3, .slice (some ad476) x455001_3.length co66, .slice Ao99 x455002_3.length co99] 27 (0, 0)) (zK BK454.out) hb); have n5_ := Aside0.mk (blk_below (g := gb477) (o := .cells #[.int .i64 ((rd_T34 x455001_3 0).f0), .string ((rd_T34 x455001_3 0).f1), .bool ((rd_T34 x455001_3 0).f2), .int .i64 ((rd_T34 x455001_3 0).f3), .int .i64 ((rd_T34 x455001_3 0).f4)] 34 (0, 0)) (by (with_reducible repeat (first | refine blk_drewN ?_ _ | refine blk_drew ?_ | refine blk_alloc ?_ _)); refine blk_put (cs := #[.int .i64 ((rd_T34 x455001_3 0).f0), .string ((rd_T34 x455001_3 0).f1), .bool ((rd_T34 x455001_3 0).f2), .int .i64 ((rd_T34 x455001_3 0).f3), .int .i64 0]) ?_ 4 _ rfl; (with_reducible repeat (first | refine blk_drewN ?_ _ | refine blk_drew ?_ | refine blk_alloc ?_ _)); refine blk_put (cs := #[.int .i64 ((rd_T34 x455001_3 0).f0), .string ((rd_T34 x455001_3 0).f1), .bool ((rd_T34 x455001_3 0).f2), .int .i64 0, .int .i64 0]) ?_ 3 _ rfl; (with_reducible repeat (first | refine blk_drewN ?_ _ | refine blk_drew ?_ | refine blk_alloc ?_ _)); refine blk_put (cs := #[.int .i64 ((rd_T34 x455001_3 0).f0), .string ((rd_T34 x455001_3 0).f1), .bool false, .int .i64 0, .int .i64 0]) ?_ 2 _ rfl; (with_reducible repeat (first | refine blk_drewN ?_ _ | refine blk_drew ?_ | refine blk_alloc ?_ _)); refine blk_put (cs := #[.int .i64 ((rd_T34 x455001_3 0).f0), .string (⟨#[]⟩ : ByteArray), .bool false, .int .i64 0, .int .i64 0]) ?_ 1 _ rfl; (with_reducible repeat (first | refine blk_drewN ?_ _ | refine blk_drew ?_ | refine blk_alloc ?_ _)); refine blk_put (cs := #[.int .i64 0, .string (⟨#[]⟩ : ByteArray), .bool false, .int .i64 0, .int .i64 0]) ?_ 0 _ rfl; (with_reducible repeat (first | refine blk_drewN ?_ _ | refine blk_drew ?_ | refine blk_alloc ?_ _)); exact BK477.out) hb); have n6_ := Aside0.mk (below_step (zL HB.out) hb); clear HO_455001; clear HO_455002; clear BK454; clear BK477; clear HB; have HO_455001 := n0_; have HO_455002 := n1_; have HO481 := n2_; have HO484 := n3_; have BK454 := n4_; have BK477 := n5_; have HB := n6_; clear n0_ n1_ n2_ n3_ n4_ n5_ n6_; (try clear hb); (try clear hb2); (try clear hk); (try clear hi); (try clear ho0); (try clear ho1)) | ((with_reducible refine gate_dst (N := 17) rfl ?_); (try (refine gate_guard (by rfl) ?_; dsimp only)); refine box_event ?hg (N := 17) ?hd (cs := #[.int .i64 0, .slice none 0 0, .slice none 0 0]) (t := 27) ?hr ?_; (case hd => rfl); (case hg => rfl); (case hr => first | (go_simp; done) | (go_simp; rfl)); intro gb486 hg w101 hbox hb; have n0_ := Aside0.mk (Kd.V_below (Kd.V_elderB (zV HO_455001.out) gb486 (Nat.le_of_eq hg.symm)) hb); have n1_ := Aside0.mk (Kd.V_below (Kd.V_elderB (zV HO_455002.out) gb486 (Nat.le_of_eq hg.symm)) hb); have n2_ := Aside0.mk (Kd.R_below (zR HO481.out) hb); have n3_ := Aside0.mk (Kd.R_below (zR HO484.out) hb); have n4_ := Aside0.mk (blk_below (g := gb454) (o := .cells #[.int .i64 x455000_3, .slice (some ad476) x455001_3.length co66, .slice Ao99 x455002_3.length co99] 27 (0, 0)) (zK BK454.out) hb); have n5_ := Aside0.mk (blk_below (g := gb477) (o := .cells #[.int .i64 ((rd_T34 x455001_3 0).f0), .string ((rd_T34 x455001_3 0).f1), .bool ((rd_T34 x455001_3 0).f2), .int .i64 ((rd_T34 x455001_3 0).f3), .int .i64 ((rd_T34 x455001_3 0).f4)] 34 (0, 0)) (zK BK477.out) hb); have n6_ := Aside0.mk (below_step (zL HB.out) hb); have n7_ := Aside0.mk (hbox); have n8_ := Aside0.mk (zG hg (zL HB.out)); have n9_ := Aside0.mk (zG hg (zL HB.out)); have n10_ := Aside0.mk (zN (g := gb454) (o := .cells #[.int .i64 x455000_3, .slice (some ad476) x455001_3.length co66, .slice Ao99 x455002_3.length co99] 27 (0, 0)) hg (zK BK454.out)); have n11_ := Aside0.mk (zO (g := gb454) (o := .cells #[.int .i64 x455000_3, .slice (some ad476) x455001_3.length co66, .slice Ao99 x455002_3.length co99] 27 (0, 0)) hg (zK BK454.out)); have n12_ := Aside0.mk (zN (g := gb477) (o := .cells #[.int .i64 ((rd_T34 x455001_3 0).f0), .string ((rd_T34 x455001_3 0).f1), .bool ((rd_T34 x455001_3 0).f2), .int .i64 ((rd_T34 x455001_3 0).f3), .int .i64 ((rd_T34 x455001_3 0).f4)] 34 (0, 0)) hg (zK BK477.out)); have n13_ := Aside0.mk (zO (g := gb477) (o := .cells #[.int .i64 ((rd_T34 x455001_3 0).f0), .string ((rd_T34 x455001_3 0).f1), .bool ((rd_T34 x455001_3 0).f2), .int .i64 ((rd_T34 x455001_3 0).f3), .int .i64 ((rd_T34 x455001_3 0).f4)] 34 (0, 0)) hg (zK BK477.out)); clear HO_455001; clear HO_455002; clear HO481; clear HO484; clear BK454; clear BK477; clear HB; have HO_455001 := n0_; have HO_455002 := n1_; have HO481 := n2_; have HO484 := n3_; have BK454 := n4_; have BK477 := n5_; have HB := n6_; have BK486 := n7_; have GW486 := n8_; have GE486 := n9_; have NB454_486 := n10_; have NB486_454 := n11_; have NB477_486 := n12_; have NB486_477 := n13_; clear n0_ n1_ n2_ n3_ n4_ n5_ n6_ n7_ n8_ n9_ n10_ n11_ n12_ n13_; clear hb hbox hg; have hnb102 := NB486_454.out; have hnc102 := NB454_486.out; have hnb103 := NB486_477.out; have hnc103 := NB477_486.out; have hcz104_0 : w101.cell? ⟨gb486, 0, none⟩ = some (.int .i64 0) := (blk_cell BK486.out 0).trans rfl; have hcz104_1 : w101.cell? ⟨gb486, 1, none⟩ = some (.slice none 0 0) := (blk_cell BK486.out 1).trans rfl; have hcz104_2 : w101.cell? ⟨gb486, 2, none⟩ = some (.slice none 0 0) := (blk_cell BK486.out 2).trans rfl; have hfz104_0 := blk_frozen BK486.out 0; have hfz104_1 := blk_frozen BK486.out 1; have hfz104_2 := blk_frozen BK486.out 2; obtain ⟨Ao105, co105, eo105⟩ := Kd.R_slice HO481.out; subst eo105; obtain ⟨Ao106, co106, eo106⟩ := Kd.R_slice HO484.out; subst eo106))
                                        go_ret
                                        exact ⟨by first | rfl | (simp [errW_none, errW_some] <;> rfl) | (simp [*, errW_none, errW_some] <;> rfl), zL HB.out⟩
                                    · rw [if_neg c77] at H
                                      exact absurd H (by simp)
                      · replace c44 := Bool.eq_false_iff.mpr c44
                        subst c44
                        have H1 : (if (x455002_3.length : Int) = 0 then (if (x455001_3.length : Int) = 0 then (if x12_3 = (wrap64 ((l0.length : Int) + 1)) then (some (x455000_3 == (l0.length : Int))) else (some false)) else (some false)) else (some false)) = some r := by rw [if_neg (show ¬ (false = true) by decide)] at H; exact H
                        clear H
                        have H := H1
                        clear H1
                        by_cases c107 : (x455002_3.length : Int) = 0
                        · rw [if_pos c107] at H
                          have c107b0 : ((x455002_3.length : Int) == 0) = true := beq_iff_eq.mpr c107
                          have c107b1 : ((x455002_3.length : Int) != 0) = false := bne_eq_false_iff_eq.mpr c107
                          clear c107
                          by_cases c108 : (x455001_3.length : Int) = 0
                          · rw [if_pos c108] at H
                            have c108b0 : ((x455001_3.length : Int) == 0) = true := beq_iff_eq.mpr c108
                            have c108b1 : ((x455001_3.length : Int) != 0) = false := bne_eq_false_iff_eq.mpr c108
                            clear c108
                            by_cases c109 : x12_3 = (wrap64 ((l0.length : Int) + 1))
                            · rw [if_pos c109] at H
                              have c109b0 : (x12_3 == (wrap64 ((l0.length : Int) + 1))) = true := beq_iff_eq.mpr c109
                              have c109b1 : (x12_3 != (wrap64 ((l0.length : Int) + 1))) = false := bne_eq_false_iff_eq.mpr c109
                              clear c109
                              obtain rfl := Option.some.inj H
                              have hcz110_0 : wc.cell? ⟨gb454, 0, none⟩ = some (.int .i64 x455000_3) := (blk_cell BK454.out 0).trans rfl
                              have hcz110_1 : wc.cell? ⟨gb454, 1, none⟩ = some (u455001) := (blk_cell BK454.out 1).trans rfl
                              have hcz110_2 : wc.cell? ⟨gb454, 2, none⟩ = some (u455002) := (blk_cell BK454.out 2).trans rfl
                              have hfz110_0 := blk_frozen BK454.out 0
                              have hfz110_1 := blk_frozen BK454.out 1
                              have hfz110_2 := blk_frozen BK454.out 2
                              obtain ⟨Ao111, co111, eo111⟩ := Kd.V_slice HO_455002.out
                              subst eo111
                              obtain ⟨Ao112, co112, eo112⟩ := Kd.V_slice HO_455001.out
                              subst eo112
                              go_wp2
                              go_ret
                              exact ⟨by first | rfl | (simp [errW_none, errW_some] <;> rfl) | (simp [*, errW_none, errW_some] <;> rfl), zL HB.out⟩
                            · rw [if_neg c109] at H
                              have c109b0 : (x12_3 == (wrap64 ((l0.length : Int) + 1))) = false := beq_eq_false_iff_ne.mpr c109
                              have c109b1 : (x12_3 != (wrap64 ((l0.length : Int) + 1))) = true := bne_iff_ne.mpr c109
                              obtain rfl := Option.some.inj H
                              have hcz113_0 : wc.cell? ⟨gb454, 0, none⟩ = some (.int .i64 x455000_3) := (blk_cell BK454.out 0).trans rfl
                              have hcz113_1 : wc.cell? ⟨gb454, 1, none⟩ = some (u455001) := (blk_cell BK454.out 1).trans rfl
                              have hcz113_2 : wc.cell? ⟨gb454, 2, none⟩ = some (u455002) := (blk_cell BK454.out 2).trans rfl
                              have hfz113_0 := blk_frozen BK454.out 0
                              have hfz113_1 := blk_frozen BK454.out 1
                              have hfz113_2 := blk_frozen BK454.out 2
                              obtain ⟨Ao114, co114, eo114⟩ := Kd.V_slice HO_455002.out
                              subst eo114
                              obtain ⟨Ao115, co115, eo115⟩ := Kd.V_slice HO_455001.out
                              subst eo115
                              go_wp2
                              go_ret
                              exact ⟨by first | rfl | (simp [errW_none, errW_some] <;> rfl) | (simp [*, errW_none, errW_some] <;> rfl), zL HB.out⟩
                          · rw [if_neg c108] at H
                            have c108b0 : ((x455001_3.length : Int) == 0) = false := beq_eq_false_iff_ne.mpr c108
                            have c108b1 : ((x455001_3.length : Int) != 0) = true := bne_iff_ne.mpr c108
                            have c108b2 : ¬ (x455001_3 = []) := fun h_ => c108 (by rw [h_]; rfl)
                            obtain rfl := Option.some.inj H
                            have hcz116_0 : wc.cell? ⟨gb454, 0, none⟩ = some (.int .i64 x455000_3) := (blk_cell BK454.out 0).trans rfl
                            have hcz116_1 : wc.cell? ⟨gb454, 1, none⟩ = some (u455001) := (blk_cell BK454.out 1).trans rfl
                            have hcz116_2 : wc.cell? ⟨gb454, 2, none⟩ = some (u455002) := (blk_cell BK454.out 2).trans rfl
                            have hfz116_0 := blk_frozen BK454.out 0
                            have hfz116_1 := blk_frozen BK454.out 1
                            have hfz116_2 := blk_frozen BK454.out 2
                            obtain ⟨Ao117, co117, eo117⟩ := Kd.V_slice HO_455002.out
                            subst eo117
                            obtain ⟨Ao118, co118, eo118⟩ := Kd.V_slice HO_455001.out
                            subst eo118
                            go_wp2
                            go_ret
                            exact ⟨by first | rfl | (simp [errW_none, errW_some] <;> rfl) | (simp [*, errW_none, errW_some] <;> rfl), zL HB.out⟩
                        · rw [if_neg c107] at H
                          have c107b0 : ((x455002_3.length : Int) == 0) = false := beq_eq_false_iff_ne.mpr c107
                          have c107b1 : ((x455002_3.length : Int) != 0) = true := bne_iff_ne.mpr c107
                          have c107b2 : ¬ (x455002_3 = []) := fun h_ => c107 (by rw [h_]; rfl)
                          obtain rfl := Option.some.inj H
                          have hcz119_0 : wc.cell? ⟨gb454, 0, none⟩ = some (.int .i64 x455000_3) := (blk_cell BK454.out 0).trans rfl
                          have hcz119_1 : wc.cell? ⟨gb454, 1, none⟩ = some (u455001) := (blk_cell BK454.out 1).trans rfl
                          have hcz119_2 : wc.cell? ⟨gb454, 2, none⟩ = some (u455002) := (blk_cell BK454.out 2).trans rfl
                          have hfz119_0 := blk_frozen BK454.out 0
                          have hfz119_1 := blk_frozen BK454.out 1
                          have hfz119_2 := blk_frozen BK454.out 2
                          obtain ⟨Ao120, co120, eo120⟩ := Kd.V_slice HO_455002.out
                          subst eo120
                          go_wp2
                          go_ret
                          exact ⟨by first | rfl | (simp [errW_none, errW_some] <;> rfl) | (simp [*, errW_none, errW_some] <;> rfl), zL HB.out⟩

/-- THE ONE PURE STATEMENT of cooperagelaw16_LeaseTurn. -/
def cooperagelaw16_LeaseTurn.Pure : Prop := ∀ (l0 : List Bool) (l1 : List Bool), l0.length ≤ 9223372036854775807 → l0.length * 1 ≤ 140737488351232 → (∀ x ∈ l0, True) → l1.length ≤ 9223372036854775807 → l1.length * 1 ≤ 140737488351232 → (∀ x ∈ l1, True) → ∃ k, cooperagelaw16_LeaseTurn.f k l0 l1 = some true
theorem cooperagelaw16_LeaseTurn.walk (P : cooperagelaw16_LeaseTurn.Pure) (A0 : Option Addr) (c0 : Nat) (l0 : List Bool) (A1 : Option Addr) (c1 : Nat) (l1 : List Bool) (w : World) (r0 : Kd.C Kd.bool w A0 l0.length l0) (q0 : l0.length ≤ c0) (m0 : l0.length ≤ 9223372036854775807) (y0 : l0.length * 1 ≤ 140737488351232) (e0 : ∀ x ∈ l0, True) (r1 : Kd.C Kd.bool w A1 l1.length l1) (q1 : l1.length ≤ c1) (m1 : l1.length ≤ 9223372036854775807) (y1 : l1.length * 1 ≤ 140737488351232) (e1 : ∀ x ∈ l1, True) :
    Calls Tryd.prog 3 #[.slice A0 l0.length c0, .slice A1 l1.length c1] w fun e w' => e = .returned (.bool true) ∧ Below w.heap.size w w' := by
  obtain ⟨k, h⟩ := P l0 l1 m0 y0 e0 m1 y1 e1
  refine (cooperagelaw16_LeaseTurn.calls k _ _ l0 _ _ l1 true w r0 q0 r1 q1 h).mono ?_
  rintro e w' ⟨rfl, hd⟩
  exact ⟨rfl, hd⟩

end Go.Proofs.YtgcghjkaomgloaaDoor.PLease
