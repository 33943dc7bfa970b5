-- Written by a program of this session (wip/tools/ext.py, over the kit's printer); not trusted: Lean checks it.
import Derived.Test.YtgcghjkaomgloaaDoorPLeasex0
import Derived.Test.YtgcghjkaomgloaaDoorPLeasex1
import Derived.Test.YtgcghjkaomgloaaDoorPLeasex5
import Derived.Test.YtgcghjkaomgloaaDoorPLeasex6
import Derived.Test.YtgcghjkaomgloaaDoorPLeasex9
namespace Go.Proofs.YtgcghjkaomgloaaDoor.PLease
open Go.RowKit Go.Proofs.YtgcghjkaomgloaaDoorW.PrintWords Go.Proofs.YtgcghjkaomgloaaDoorW.PrintLast Go.Proofs.YtgcghjkaomgloaaDoorW.PrintMore
attribute [local go_sem] max2_int min2_int max_two min_two max_three min_three max_four min_four   -- for this text's walks alone
set_option linter.unusedVariables false
set_option linter.unusedSimpArgs false

/-! ### cooperagelaw16_LeaseReaders: function 4 -/
mutual
def cooperagelaw16_LeaseReaders.j0 : Nat → List Int → Bool → Int → Int → Bool → Option (Bool)
  | 0, _, _, _, _, _ => none
  | k + 1, x2, x7, x8, x9, x36 => if x36 = true then (some x7) else (cooperagelaw16_LeaseReaders.l0 k x2 x8 x9 1 0 ([] : List (S34)) ([] : List (S32)))
def cooperagelaw16_LeaseReaders.l0 : Nat → List Int → Int → Int → Int → Int → List (S34) → List (S32) → Option (Bool)
  | 0, _, _, _, _, _, _, _ => none
  | k + 1, x2, x8, x9, x11, x516000, x516001, x516002 => if x11 ≤ (wrap64 ((wrap64 (x8 + 1)) + x9)) then ((lease_Take.f k x516000 x516001 x516002 x11 (⟨#[120]⟩ : ByteArray) (x11 == (wrap64 (x8 + 1))) 99 0).bind fun bt516 => (if bt516.2.2.2.2 = 0 then (cooperagelaw16_LeaseReaders.j2 k x2 x8 x9 x11 ((decide (bt516.2.2.2.1 > 0)) != (decide (x11 ≤ x8))) bt516.1 bt516.2.1 bt516.2.2.1) else (cooperagelaw16_LeaseReaders.j2 k x2 x8 x9 x11 true bt516.1 bt516.2.1 bt516.2.2.1))) else (cooperagelaw16_LeaseReaders.l1 k x2 x8 x9 0 x516000 x516001 x516002)
def cooperagelaw16_LeaseReaders.j2 : Nat → List Int → Int → Int → Int → Bool → Int → List (S34) → List (S32) → Option (Bool)
  | 0, _, _, _, _, _, _, _, _ => none
  | k + 1, x2, x8, x9, x11, x68, x526000, x526001, x526002 => if x68 = true then (some false) else (cooperagelaw16_LeaseReaders.l0 k x2 x8 x9 (wrap64 (x11 + 1)) x526000 x526001 x526002)
def cooperagelaw16_LeaseReaders.l1 : Nat → List Int → Int → Int → Int → Int → List (S34) → List (S32) → Option (Bool)
  | 0, _, _, _, _, _, _, _ => none
  | k + 1, x2, x8, x9, x15, x516000, x516001, x516002 => if x15 < x8 then (if x15 < (x2.length : Int) then (if 0 ≤ x15 then (cooperagelaw16_LeaseReaders.j4 k x2 x8 x9 x15 (rd x2 x15) x516000 x516001 x516002) else (none)) else (cooperagelaw16_LeaseReaders.j4 k x2 x8 x9 x15 0 x516000 x516001 x516002)) else ((lease_Held.f k x516000 x516001 x516002 (wrap64 (x8 + 1)) (⟨#[120]⟩ : ByteArray)).bind fun bt546 => (if bt546.2.2.2.2.2 = true then (if bt546.2.2.1 = true then (if (x516001.length : Int) = 1 then (cooperagelaw16_LeaseReaders.j6 k x8 x9 ((x516002.length : Int) != x9) x516000 x516001 x516002) else (cooperagelaw16_LeaseReaders.j6 k x8 x9 true x516000 x516001 x516002)) else (cooperagelaw16_LeaseReaders.j6 k x8 x9 true x516000 x516001 x516002)) else (cooperagelaw16_LeaseReaders.j6 k x8 x9 true x516000 x516001 x516002)))
def cooperagelaw16_LeaseReaders.j4 : Nat → List Int → Int → Int → Int → Int → Int → List (S34) → List (S32) → Option (Bool)
  | 0, _, _, _, _, _, _, _, _ => none
  | k + 1, x2, x8, x9, x15, x16, x516000, x516001, x516002 => (cooperagelaw16_pick.f x16 (x516001.length : Int)).bind fun t527 => (if 0 ≤ t527 then (if t527 < (x516001.length : Int) then ((lease_Held.f k x516000 x516001 x516002 (wrap64 (x8 + 1)) (⟨#[120]⟩ : ByteArray)).bind fun bt530 => ((lease_Give.f k x516000 x516001 x516002 ((rd_T34 x516001 t527).f0) (⟨#[120]⟩ : ByteArray) ((rd_T34 x516001 t527).f3) 1).bind fun bt537 => (if bt530.2.2.2.2.2 = true then (cooperagelaw16_LeaseReaders.j5 k x2 x8 x9 x15 true bt537.1 bt537.2.1 bt537.2.2.1) else (cooperagelaw16_LeaseReaders.j5 k x2 x8 x9 x15 (bt537.2.2.2 != 0) bt537.1 bt537.2.1 bt537.2.2.1)))) else (none)) else (none))
def cooperagelaw16_LeaseReaders.j5 : Nat → List Int → Int → Int → Int → Bool → Int → List (S34) → List (S32) → Option (Bool)
  | 0, _, _, _, _, _, _, _, _ => none
  | k + 1, x2, x8, x9, x15, x112, x546000, x546001, x546002 => if x112 = true then (some false) else (cooperagelaw16_LeaseReaders.l1 k x2 x8 x9 (wrap64 (x15 + 1)) x546000 x546001 x546002)
def cooperagelaw16_LeaseReaders.j6 : Nat → Int → Int → Bool → Int → List (S34) → List (S32) → Option (Bool)
  | 0, _, _, _, _, _, _ => none
  | k + 1, x8, x9, x140, x516000, x516001, x516002 => if x140 = true then (some false) else ((lease_Leave.f k x516000 x516001 x516002 (wrap64 (x8 + 1)) 2).bind fun bt553 => (if (bt553.2.1.length : Int) = x9 then (some ((bt553.2.2.length : Int) == 0)) else (some false)))
end
def cooperagelaw16_LeaseReaders.f (k : Nat) (a0 : Int) (a1 : Int) (l2 : List Int) : Option (Bool) := (cooperagelaw16_shown.f k).bind fun t512 => ((cooperagelaw16_pick.f a0 20).bind fun t513 => ((cooperagelaw16_pick.f a1 20).bind fun t514 => (if t512 = true then (cooperagelaw16_LeaseReaders.j0 k l2 t512 (wrap64 (1 + t513)) t514 (decide ((l2.length : Int) > 30))) else (cooperagelaw16_LeaseReaders.j0 k l2 t512 (wrap64 (1 + t513)) t514 true))))
theorem cooperagelaw16_LeaseReaders.mono_l : ∀ k, (∀ y0 y1 y2 y3 y4, LeO (cooperagelaw16_LeaseReaders.j0 k y0 y1 y2 y3 y4) (cooperagelaw16_LeaseReaders.j0 (k + 1) y0 y1 y2 y3 y4)) ∧ (∀ y0 y1 y2 y3 y4 y5 y6, LeO (cooperagelaw16_LeaseReaders.l0 k y0 y1 y2 y3 y4 y5 y6) (cooperagelaw16_LeaseReaders.l0 (k + 1) y0 y1 y2 y3 y4 y5 y6)) ∧ (∀ y0 y1 y2 y3 y4 y5 y6 y7, LeO (cooperagelaw16_LeaseReaders.j2 k y0 y1 y2 y3 y4 y5 y6 y7) (cooperagelaw16_LeaseReaders.j2 (k + 1) y0 y1 y2 y3 y4 y5 y6 y7)) ∧ (∀ y0 y1 y2 y3 y4 y5 y6, LeO (cooperagelaw16_LeaseReaders.l1 k y0 y1 y2 y3 y4 y5 y6) (cooperagelaw16_LeaseReaders.l1 (k + 1) y0 y1 y2 y3 y4 y5 y6)) ∧ (∀ y0 y1 y2 y3 y4 y5 y6 y7, LeO (cooperagelaw16_LeaseReaders.j4 k y0 y1 y2 y3 y4 y5 y6 y7) (cooperagelaw16_LeaseReaders.j4 (k + 1) y0 y1 y2 y3 y4 y5 y6 y7)) ∧ (∀ y0 y1 y2 y3 y4 y5 y6 y7, LeO (cooperagelaw16_LeaseReaders.j5 k y0 y1 y2 y3 y4 y5 y6 y7) (cooperagelaw16_LeaseReaders.j5 (k + 1) y0 y1 y2 y3 y4 y5 y6 y7)) ∧ (∀ y0 y1 y2 y3 y4 y5, LeO (cooperagelaw16_LeaseReaders.j6 k y0 y1 y2 y3 y4 y5) (cooperagelaw16_LeaseReaders.j6 (k + 1) y0 y1 y2 y3 y4 y5))
  | 0 => ⟨fun _ _ _ _ _ r h => by simp [cooperagelaw16_LeaseReaders.j0] at h, fun _ _ _ _ _ _ _ r h => by simp [cooperagelaw16_LeaseReaders.l0] at h, fun _ _ _ _ _ _ _ _ r h => by simp [cooperagelaw16_LeaseReaders.j2] at h, fun _ _ _ _ _ _ _ r h => by simp [cooperagelaw16_LeaseReaders.l1] at h, fun _ _ _ _ _ _ _ _ r h => by simp [cooperagelaw16_LeaseReaders.j4] at h, fun _ _ _ _ _ _ _ _ r h => by simp [cooperagelaw16_LeaseReaders.j5] at h, fun _ _ _ _ _ _ r h => by simp [cooperagelaw16_LeaseReaders.j6] at h⟩
  | k + 1 => by
    obtain ⟨ih0, ih1, ih2, ih3, ih4, ih5, ih6⟩ := cooperagelaw16_LeaseReaders.mono_l k
    refine ⟨?_, ?_, ?_, ?_, ?_, ?_, ?_⟩
    · intro y0 y1 y2 y3 y4
      unfold cooperagelaw16_LeaseReaders.j0
      repeat' first
      | (with_reducible exact ih0 _ _ _ _ _)
      | (with_reducible exact ih1 _ _ _ _ _ _ _)
      | (with_reducible exact ih2 _ _ _ _ _ _ _ _)
      | (with_reducible exact ih3 _ _ _ _ _ _ _)
      | (with_reducible exact ih4 _ _ _ _ _ _ _ _)
      | (with_reducible exact ih5 _ _ _ _ _ _ _ _)
      | (with_reducible exact ih6 _ _ _ _ _ _)
      | (with_reducible exact cooperagelaw16_shown.mono _)
      | (with_reducible exact lease_Give.mono _ _ _ _ _ _ _ _)
      | (with_reducible exact lease_Held.mono _ _ _ _ _ _)
      | (with_reducible exact lease_Leave.mono _ _ _ _ _ _)
      | (with_reducible exact lease_Take.mono _ _ _ _ _ _ _ _ _)
      | (with_reducible exact LeO.refl _)
      | (with_reducible exact LeO.none _)
      | (with_reducible refine LeO.ite ?_ ?_)
      | (with_reducible refine LeO.bind ?_ (fun _ => ?_))
      | exact ih0 _ _ _ _ _
      | exact ih1 _ _ _ _ _ _ _
      | exact ih2 _ _ _ _ _ _ _ _
      | exact ih3 _ _ _ _ _ _ _
      | exact ih4 _ _ _ _ _ _ _ _
      | exact ih5 _ _ _ _ _ _ _ _
      | exact ih6 _ _ _ _ _ _
      | exact cooperagelaw16_shown.mono _
      | exact lease_Give.mono _ _ _ _ _ _ _ _
      | exact lease_Held.mono _ _ _ _ _ _
      | exact lease_Leave.mono _ _ _ _ _ _
      | exact lease_Take.mono _ _ _ _ _ _ _ _ _
      | exact LeO.none _
      | refine LeO.ite ?_ ?_
      | refine LeO.bind ?_ (fun _ => ?_)
    · intro y0 y1 y2 y3 y4 y5 y6
      unfold cooperagelaw16_LeaseReaders.l0
      repeat' first
      | (with_reducible exact ih0 _ _ _ _ _)
      | (with_reducible exact ih1 _ _ _ _ _ _ _)
      | (with_reducible exact ih2 _ _ _ _ _ _ _ _)
      | (with_reducible exact ih3 _ _ _ _ _ _ _)
      | (with_reducible exact ih4 _ _ _ _ _ _ _ _)
      | (with_reducible exact ih5 _ _ _ _ _ _ _ _)
      | (with_reducible exact ih6 _ _ _ _ _ _)
      | (with_reducible exact cooperagelaw16_shown.mono _)
      | (with_reducible exact lease_Give.mono _ _ _ _ _ _ _ _)
      | (with_reducible exact lease_Held.mono _ _ _ _ _ _)
      | (with_reducible exact lease_Leave.mono _ _ _ _ _ _)
      | (with_reducible exact lease_Take.mono _ _ _ _ _ _ _ _ _)
      | (with_reducible exact LeO.refl _)
      | (with_reducible exact LeO.none _)
      | (with_reducible refine LeO.ite ?_ ?_)
      | (with_reducible refine LeO.bind ?_ (fun _ => ?_))
      | exact ih0 _ _ _ _ _
      | exact ih1 _ _ _ _ _ _ _
      | exact ih2 _ _ _ _ _ _ _ _
      | exact ih3 _ _ _ _ _ _ _
      | exact ih4 _ _ _ _ _ _ _ _
      | exact ih5 _ _ _ _ _ _ _ _
      | exact ih6 _ _ _ _ _ _
      | exact cooperagelaw16_shown.mono _
      | exact lease_Give.mono _ _ _ _ _ _ _ _
      | exact lease_Held.mono _ _ _ _ _ _
      | exact lease_Leave.mono _ _ _ _ _ _
      | exact lease_Take.mono _ _ _ _ _ _ _ _ _
      | exact LeO.none _
      | refine LeO.ite ?_ ?_
      | refine LeO.bind ?_ (fun _ => ?_)
    · intro y0 y1 y2 y3 y4 y5 y6 y7
      unfold cooperagelaw16_LeaseReaders.j2
      repeat' first
      | (with_reducible exact ih0 _ _ _ _ _)
      | (with_reducible exact ih1 _ _ _ _ _ _ _)
      | (with_reducible exact ih2 _ _ _ _ _ _ _ _)
      | (with_reducible exact ih3 _ _ _ _ _ _ _)
      | (with_reducible exact ih4 _ _ _ _ _ _ _ _)
      | (with_reducible exact ih5 _ _ _ _ _ _ _ _)
      | (with_reducible exact ih6 _ _ _ _ _ _)
      | (with_reducible exact cooperagelaw16_shown.mono _)
      | (with_reducible exact lease_Give.mono _ _ _ _ _ _ _ _)
      | (with_reducible exact lease_Held.mono _ _ _ _ _ _)
      | (with_reducible exact lease_Leave.mono _ _ _ _ _ _)
      | (with_reducible exact lease_Take.mono _ _ _ _ _ _ _ _ _)
      | (with_reducible exact LeO.refl _)
      | (with_reducible exact LeO.none _)
      | (with_reducible refine LeO.ite ?_ ?_)
      | (with_reducible refine LeO.bind ?_ (fun _ => ?_))
      | exact ih0 _ _ _ _ _
      | exact ih1 _ _ _ _ _ _ _
      | exact ih2 _ _ _ _ _ _ _ _
      | exact ih3 _ _ _ _ _ _ _
      | exact ih4 _ _ _ _ _ _ _ _
      | exact ih5 _ _ _ _ _ _ _ _
      | exact ih6 _ _ _ _ _ _
      | exact cooperagelaw16_shown.mono _
      | exact lease_Give.mono _ _ _ _ _ _ _ _
      | exact lease_Held.mono _ _ _ _ _ _
      | exact lease_Leave.mono _ _ _ _ _ _
      | exact lease_Take.mono _ _ _ _ _ _ _ _ _
      | exact LeO.none _
      | refine LeO.ite ?_ ?_
      | refine LeO.bind ?_ (fun _ => ?_)
    · intro y0 y1 y2 y3 y4 y5 y6
      unfold cooperagelaw16_LeaseReaders.l1
      repeat' first
      | (with_reducible exact ih0 _ _ _ _ _)
      | (with_reducible exact ih1 _ _ _ _ _ _ _)
      | (with_reducible exact ih2 _ _ _ _ _ _ _ _)
      | (with_reducible exact ih3 _ _ _ _ _ _ _)
      | (with_reducible exact ih4 _ _ _ _ _ _ _ _)
      | (with_reducible exact ih5 _ _ _ _ _ _ _ _)
      | (with_reducible exact ih6 _ _ _ _ _ _)
      | (with_reducible exact cooperagelaw16_shown.mono _)
      | (with_reducible exact lease_Give.mono _ _ _ _ _ _ _ _)
      | (with_reducible exact lease_Held.mono _ _ _ _ _ _)
      | (with_reducible exact lease_Leave.mono _ _ _ _ _ _)
      | (with_reducible exact lease_Take.mono _ _ _ _ _ _ _ _ _)
      | (with_reducible exact LeO.refl _)
      | (with_reducible exact LeO.none _)
      | (with_reducible refine LeO.ite ?_ ?_)
      | (with_reducible refine LeO.bind ?_ (fun _ => ?_))
      | exact ih0 _ _ _ _ _
      | exact ih1 _ _ _ _ _ _ _
      | exact ih2 _ _ _ _ _ _ _ _
      | exact ih3 _ _ _ _ _ _ _
      | exact ih4 _ _ _ _ _ _ _ _
      | exact ih5 _ _ _ _ _ _ _ _
      | exact ih6 _ _ _ _ _ _
      | exact cooperagelaw16_shown.mono _
      | exact lease_Give.mono _ _ _ _ _ _ _ _
      | exact lease_Held.mono _ _ _ _ _ _
      | exact lease_Leave.mono _ _ _ _ _ _
      | exact lease_Take.mono _ _ _ _ _ _ _ _ _
      | exact LeO.none _
      | refine LeO.ite ?_ ?_
      | refine LeO.bind ?_ (fun _ => ?_)
    · intro y0 y1 y2 y3 y4 y5 y6 y7
      unfold cooperagelaw16_LeaseReaders.j4
      repeat' first
      | (with_reducible exact ih0 _ _ _ _ _)
      | (with_reducible exact ih1 _ _ _ _ _ _ _)
      | (with_reducible exact ih2 _ _ _ _ _ _ _ _)
      | (with_reducible exact ih3 _ _ _ _ _ _ _)
      | (with_reducible exact ih4 _ _ _ _ _ _ _ _)
      | (with_reducible exact ih5 _ _ _ _ _ _ _ _)
      | (with_reducible exact ih6 _ _ _ _ _ _)
      | (with_reducible exact cooperagelaw16_shown.mono _)
      | (with_reducible exact lease_Give.mono _ _ _ _ _ _ _ _)
      | (with_reducible exact lease_Held.mono _ _ _ _ _ _)
      | (with_reducible exact lease_Leave.mono _ _ _ _ _ _)
      | (with_reducible exact lease_Take.mono _ _ _ _ _ _ _ _ _)
      | (with_reducible exact LeO.refl _)
      | (with_reducible exact LeO.none _)
      | (with_reducible refine LeO.ite ?_ ?_)
      | (with_reducible refine LeO.bind ?_ (fun _ => ?_))
      | exact ih0 _ _ _ _ _
      | exact ih1 _ _ _ _ _ _ _
      | exact ih2 _ _ _ _ _ _ _ _
      | exact ih3 _ _ _ _ _ _ _
      | exact ih4 _ _ _ _ _ _ _ _
      | exact ih5 _ _ _ _ _ _ _ _
      | exact ih6 _ _ _ _ _ _
      | exact cooperagelaw16_shown.mono _
      | exact lease_Give.mono _ _ _ _ _ _ _ _
      | exact lease_Held.mono _ _ _ _ _ _
      | exact lease_Leave.mono _ _ _ _ _ _
      | exact lease_Take.mono _ _ _ _ _ _ _ _ _
      | exact LeO.none _
      | refine LeO.ite ?_ ?_
      | refine LeO.bind ?_ (fun _ => ?_)
    · intro y0 y1 y2 y3 y4 y5 y6 y7
      unfold cooperagelaw16_LeaseReaders.j5
      repeat' first
      | (with_reducible exact ih0 _ _ _ _ _)
      | (with_reducible exact ih1 _ _ _ _ _ _ _)
      | (with_reducible exact ih2 _ _ _ _ _ _ _ _)
      | (with_reducible exact ih3 _ _ _ _ _ _ _)
      | (with_reducible exact ih4 _ _ _ _ _ _ _ _)
      | (with_reducible exact ih5 _ _ _ _ _ _ _ _)
      | (with_reducible exact ih6 _ _ _ _ _ _)
      | (with_reducible exact cooperagelaw16_shown.mono _)
      | (with_reducible exact lease_Give.mono _ _ _ _ _ _ _ _)
      | (with_reducible exact lease_Held.mono _ _ _ _ _ _)
      | (with_reducible exact lease_Leave.mono _ _ _ _ _ _)
      | (with_reducible exact lease_Take.mono _ _ _ _ _ _ _ _ _)
      | (with_reducible exact LeO.refl _)
      | (with_reducible exact LeO.none _)
      | (with_reducible refine LeO.ite ?_ ?_)
      | (with_reducible refine LeO.bind ?_ (fun _ => ?_))
      | exact ih0 _ _ _ _ _
      | exact ih1 _ _ _ _ _ _ _
      | exact ih2 _ _ _ _ _ _ _ _
      | exact ih3 _ _ _ _ _ _ _
      | exact ih4 _ _ _ _ _ _ _ _
      | exact ih5 _ _ _ _ _ _ _ _
      | exact ih6 _ _ _ _ _ _
      | exact cooperagelaw16_shown.mono _
      | exact lease_Give.mono _ _ _ _ _ _ _ _
      | exact lease_Held.mono _ _ _ _ _ _
      | exact lease_Leave.mono _ _ _ _ _ _
      | exact lease_Take.mono _ _ _ _ _ _ _ _ _
      | exact LeO.none _
      | refine LeO.ite ?_ ?_
      | refine LeO.bind ?_ (fun _ => ?_)
    · intro y0 y1 y2 y3 y4 y5
      unfold cooperagelaw16_LeaseReaders.j6
      repeat' first
      | (with_reducible exact ih0 _ _ _ _ _)
      | (with_reducible exact ih1 _ _ _ _ _ _ _)
      | (with_reducible exact ih2 _ _ _ _ _ _ _ _)
      | (with_reducible exact ih3 _ _ _ _ _ _ _)
      | (with_reducible exact ih4 _ _ _ _ _ _ _ _)
      | (with_reducible exact ih5 _ _ _ _ _ _ _ _)
      | (with_reducible exact ih6 _ _ _ _ _ _)
      | (with_reducible exact cooperagelaw16_shown.mono _)
      | (with_reducible exact lease_Give.mono _ _ _ _ _ _ _ _)
      | (with_reducible exact lease_Held.mono _ _ _ _ _ _)
      | (with_reducible exact lease_Leave.mono _ _ _ _ _ _)
      | (with_reducible exact lease_Take.mono _ _ _ _ _ _ _ _ _)
      | (with_reducible exact LeO.refl _)
      | (with_reducible exact LeO.none _)
      | (with_reducible refine LeO.ite ?_ ?_)
      | (with_reducible refine LeO.bind ?_ (fun _ => ?_))
      | exact ih0 _ _ _ _ _
      | exact ih1 _ _ _ _ _ _ _
      | exact ih2 _ _ _ _ _ _ _ _
      | exact ih3 _ _ _ _ _ _ _
      | exact ih4 _ _ _ _ _ _ _ _
      | exact ih5 _ _ _ _ _ _ _ _
      | exact ih6 _ _ _ _ _ _
      | exact cooperagelaw16_shown.mono _
      | exact lease_Give.mono _ _ _ _ _ _ _ _
      | exact lease_Held.mono _ _ _ _ _ _
      | exact lease_Leave.mono _ _ _ _ _ _
      | exact lease_Take.mono _ _ _ _ _ _ _ _ _
      | exact LeO.none _
      | refine LeO.ite ?_ ?_
      | refine LeO.bind ?_ (fun _ => ?_)
theorem cooperagelaw16_LeaseReaders.mono : ∀ a0 a1 a2 k, LeO (cooperagelaw16_LeaseReaders.f k a0 a1 a2) (cooperagelaw16_LeaseReaders.f (k + 1) a0 a1 a2) := by
  intro a0 a1 a2 k
  obtain ⟨ih0, ih1, ih2, ih3, ih4, ih5, ih6⟩ := cooperagelaw16_LeaseReaders.mono_l k
  unfold cooperagelaw16_LeaseReaders.f
  repeat' first
      | (with_reducible exact ih0 _ _ _ _ _)
      | (with_reducible exact ih1 _ _ _ _ _ _ _)
      | (with_reducible exact ih2 _ _ _ _ _ _ _ _)
      | (with_reducible exact ih3 _ _ _ _ _ _ _)
      | (with_reducible exact ih4 _ _ _ _ _ _ _ _)
      | (with_reducible exact ih5 _ _ _ _ _ _ _ _)
      | (with_reducible exact ih6 _ _ _ _ _ _)
      | (with_reducible exact cooperagelaw16_shown.mono _)
      | (with_reducible exact lease_Give.mono _ _ _ _ _ _ _ _)
      | (with_reducible exact lease_Held.mono _ _ _ _ _ _)
      | (with_reducible exact lease_Leave.mono _ _ _ _ _ _)
      | (with_reducible exact lease_Take.mono _ _ _ _ _ _ _ _ _)
      | (with_reducible exact LeO.refl _)
      | (with_reducible exact LeO.none _)
      | (with_reducible refine LeO.ite ?_ ?_)
      | (with_reducible refine LeO.bind ?_ (fun _ => ?_))
      | exact ih0 _ _ _ _ _
      | exact ih1 _ _ _ _ _ _ _
      | exact ih2 _ _ _ _ _ _ _ _
      | exact ih3 _ _ _ _ _ _ _
      | exact ih4 _ _ _ _ _ _ _ _
      | exact ih5 _ _ _ _ _ _ _ _
      | exact ih6 _ _ _ _ _ _
      | exact cooperagelaw16_shown.mono _
      | exact lease_Give.mono _ _ _ _ _ _ _ _
      | exact lease_Held.mono _ _ _ _ _ _
      | exact lease_Leave.mono _ _ _ _ _ _
      | exact lease_Take.mono _ _ _ _ _ _ _ _ _
      | exact LeO.none _
      | refine LeO.ite ?_ ?_
      | refine LeO.bind ?_ (fun _ => ?_)
def cooperagelaw16_LeaseReaders.T20 : Bool × List (List Nat × List Nat) := (true, [([], []), ([0], [0]), ([], []), ([], []), ([3], [3]), ([4], [4]), ([2, 5], [2, 5]), ([1, 6], [1, 6]), ([7], [7]), ([], []), ([9, 8, 6, 0, 1, 2, 3, 4, 5, 6, 7, 8, 9], [8, 9])])
def cooperagelaw16_LeaseReaders.B20 : List Nat := [0, 1, 0, 0, 8, 24, 60, 127, 255, 0, 1023]
theorem cooperagelaw16_LeaseReaders.tab20 : rtab .any (opsOf Tryd.f4 20) = cooperagelaw16_LeaseReaders.T20 := by kernel_rfl
theorem cooperagelaw16_LeaseReaders.bits20 : waitsOk cooperagelaw16_LeaseReaders.T20.2 cooperagelaw16_LeaseReaders.B20 = true := by kernel_rfl
set_option maxHeartbeats 8000000 in
set_option maxRecDepth 100000 in
theorem cooperagelaw16_LeaseReaders.calls (k : Nat) (a0 : Int) (a1 : Int) (A2 : Option Addr) (c2 : Nat) (l2 : List Int) (r : Bool) (w : World) (hr2 : Kd.C (Kd.int .i64) w A2 l2.length l2) (hc2 : l2.length ≤ c2) (h : cooperagelaw16_LeaseReaders.f k a0 a1 l2 = some r) :
    Calls Tryd.prog 4 #[.int .i64 a0, .int .i64 a1, .slice A2 l2.length c2] w fun e w' => e = .returned (.bool r) ∧ Below w.heap.size w w' := by
  have hu27 := Tryd.underlying27
  have hu32 := Tryd.underlying32
  have hu34 := Tryd.underlying34
  have HR2 := Aside0.mk hr2
  have HC2 := Aside0.mk hc2
  clear hr2 hc2
  have HB := Aside0.mk (Below.refl w.heap.size w)
  have H : ((cooperagelaw16_shown.f k).bind fun t512 => ((cooperagelaw16_pick.f a0 20).bind fun t513 => ((cooperagelaw16_pick.f a1 20).bind fun t514 => (if t512 = true then (cooperagelaw16_LeaseReaders.j0 k l2 t512 (wrap64 (1 + t513)) t514 (decide ((l2.length : Int) > 30))) else (cooperagelaw16_LeaseReaders.j0 k l2 t512 (wrap64 (1 + t513)) t514 true))))) = some r := h
  clear h
  replace H := Option.bind_eq_some_iff.mp H
  obtain ⟨t512, A40, H⟩ := H
  replace H : ((cooperagelaw16_pick.f a0 20).bind fun t513 => ((cooperagelaw16_pick.f a1 20).bind fun t514 => (if t512 = true then (cooperagelaw16_LeaseReaders.j0 k l2 t512 (wrap64 (1 + t513)) t514 (decide ((l2.length : Int) > 30))) else (cooperagelaw16_LeaseReaders.j0 k l2 t512 (wrap64 (1 + t513)) t514 true)))) = some r := H
  have A4 := Aside0.mk A40
  clear A40
  replace H := Option.bind_eq_some_iff.mp H
  obtain ⟨t513, A50, H⟩ := H
  replace H : ((cooperagelaw16_pick.f a1 20).bind fun t514 => (if t512 = true then (cooperagelaw16_LeaseReaders.j0 k l2 t512 (wrap64 (1 + t513)) t514 (decide ((l2.length : Int) > 30))) else (cooperagelaw16_LeaseReaders.j0 k l2 t512 (wrap64 (1 + t513)) t514 true))) = some r := H
  have A5 := Aside0.mk A50
  clear A50
  replace H := Option.bind_eq_some_iff.mp H
  obtain ⟨t514, A60, H⟩ := H
  replace H : (if t512 = true then (cooperagelaw16_LeaseReaders.j0 k l2 t512 (wrap64 (1 + t513)) t514 (decide ((l2.length : Int) > 30))) else (cooperagelaw16_LeaseReaders.j0 k l2 t512 (wrap64 (1 + t513)) t514 true)) = some r := H
  have A6 := Aside0.mk A60
  clear A60
  have HC7 := Aside0.mk H
  clear H
  go_enter Tryd.func4, Tryd.ntmps4
  go_upto_region 4 with (first | ((with_reducible refine gate_callee (f := 9) rfl ?_); refine goesL_ (some 24) rfl rfl Tryd.func9 (by kernel_rfl) rfl #[] rfl zA ?_; (with_reducible refine (cooperagelaw16_shown.calls k  t512 _ A4.out).mono ?_); rintro e w8 ⟨rfl, hb⟩; refine ⟨_, rfl, ?_⟩; have n0_ := Aside0.mk (below_step (zL HB.out) hb); clear HB; have HB := n0_; clear n0_; (try clear hb); (try clear hb2); (try clear hk); (try clear hi)) | ((with_reducible refine gate_callee (f := 13) rfl ?_); refine goesL_ (some 26) rfl rfl Tryd.func13 (by kernel_rfl) rfl #[.int .i64 a0, .int .i64 20] rfl zA ?_; (with_reducible refine (cooperagelaw16_pick.calls a0 20 t513 _ A5.out).mono ?_); rintro e w' ⟨rfl, ⟨nd, rfl⟩⟩; refine ⟨_, rfl, ?_⟩) | ((with_reducible refine gate_callee (f := 13) rfl ?_); refine goesL_ (some 29) rfl rfl Tryd.func13 (by kernel_rfl) rfl #[.int .i64 a1, .int .i64 20] rfl zA ?_; (with_reducible refine (cooperagelaw16_pick.calls a1 20 t514 _ A6.out).mono ?_); rintro e w' ⟨rfl, ⟨nd, rfl⟩⟩; refine ⟨_, rfl, ?_⟩))
  (try simp only [Act.put, List.setIfInBounds_toArray, List.set_cons_zero, List.set_cons_succ])
  go_cut [36] (fun v36 wc => ∃ (kq : Nat) (x36_6 : Bool), v36 = .bool x36_6 ∧ Aside0 (cooperagelaw16_LeaseReaders.j0 kq l2 t512 (wrap64 (1 + t513)) t514 x36_6 = some r) ∧ Aside0 (kq ≤ k) ∧ Aside0 (Below w.heap.size w wc))
  case first =>
    have H := HC7.out
    clear HC7
    by_cases c9 : t512 = true
    · subst c9
      have H1 : (cooperagelaw16_LeaseReaders.j0 k l2 true (wrap64 (1 + t513)) t514 (decide ((l2.length : Int) > 30))) = some r := by rw [if_pos rfl] at H; exact H
      clear H
      have H := H1
      clear H1
      have H' := Aside0.mk H
      clear H
      go_wp2
      go_meet
      case rel => exact ⟨_, (decide ((l2.length : Int) > 30)), (by first | rfl | (simp; done) | (simp [*]; done)), H', ⟨by first | omega | exact Nat.le_refl _⟩, ⟨zL HB.out⟩⟩
    · replace c9 := Bool.eq_false_iff.mpr c9
      subst c9
      have H1 : (cooperagelaw16_LeaseReaders.j0 k l2 false (wrap64 (1 + t513)) t514 true) = some r := by rw [if_neg (show ¬ (false = true) by decide)] at H; exact H
      clear H
      have H := H1
      clear H1
      have H' := Aside0.mk H
      clear H
      go_wp2
      go_meet
      case rel => exact ⟨_, (true), (by first | rfl | (simp; done) | (simp [*]; done)), H', ⟨by first | omega | exact Nat.le_refl _⟩, ⟨zL HB.out⟩⟩
  case rest =>
    clear HC7
    try clear c1
    try clear c2
    try clear p2
    try clear c4
    try clear p6
    try clear c9
    obtain ⟨kq, x36_6, rfl, HA, HJ6, HB⟩ := hcut
    cases kq with
    | zero => exact absurd HA.out (by simp [cooperagelaw16_LeaseReaders.j0])
    | succ kj6 =>
      have H := HA.out
      clear HA
      simp only [cooperagelaw16_LeaseReaders.j0] at H
      by_cases c10 : x36_6 = true
      · subst c10
        have H1 : (some t512) = some r := by rw [if_pos rfl] at H; exact H
        clear H
        have H := H1
        clear H1
        obtain rfl := Option.some.inj H
        go_wp2
        go_ret
        exact ⟨by first | rfl | (simp [errW_none, errW_some] <;> rfl) | (simp [*, errW_none, errW_some] <;> rfl), zL HB.out⟩
      · replace c10 := Bool.eq_false_iff.mpr c10
        subst c10
        have H1 : (cooperagelaw16_LeaseReaders.l0 kj6 l2 (wrap64 (1 + t513)) t514 1 0 ([] : List (S34)) ([] : List (S32))) = some r := by rw [if_neg (show ¬ (false = true) by decide)] at H; exact H
        clear H
        have H := H1
        clear H1
        have H' := Aside0.mk H
        clear H
        go_wp2_with (first | ((with_reducible refine gate_dst (N := 10) rfl ?_); (try (refine gate_guard (by rfl) ?_; dsimp only)); refine box_event ?hg (N := 10) ?hd (cs := #[.int .i64 0, .slice none 0 0, .slice none 0 0]) (t := 27) ?hr ?_; (case hd => rfl); (case hg => rfl); (case hr => first | (go_simp; done) | (go_simp; rfl)); intro gb515 hg w11 hbox hb; have n0_ := Aside0.mk (below_step (zL HB.out) hb); have n1_ := Aside0.mk (hbox); have n2_ := Aside0.mk (zG hg (zL HB.out)); have n3_ := Aside0.mk (zG hg (zL HB.out)); clear HB; have HB := n0_; have BK515 := n1_; have GW515 := n2_; have GE515 := n3_; clear n0_ n1_ n2_ n3_; clear hb hbox hg; have hcz12_0 : w11.cell? ⟨gb515, 0, none⟩ = some (.int .i64 0) := (blk_cell BK515.out 0).trans rfl; have hcz12_1 : w11.cell? ⟨gb515, 1, none⟩ = some (.slice none 0 0) := (blk_cell BK515.out 1).trans rfl; have hcz12_2 : w11.cell? ⟨gb515, 2, none⟩ = some (.slice none 0 0) := (blk_cell BK515.out 2).trans rfl; have hfz12_0 := blk_frozen BK515.out 0; have hfz12_1 := blk_frozen BK515.out 1; have hfz12_2 := blk_frozen BK515.out 2))
        go_loopg [11] kj6 (fun kq v11 w' => ∃ (x11_2 : Int) (x516000_2 : Int) (x516001_2 : List (S34)) (x516002_2 : List (S32)) (u516001 : Value) (u516002 : Value), v11 = .int .i64 x11_2 ∧ Aside0 (cooperagelaw16_LeaseReaders.l0 kq l2 (wrap64 (1 + t513)) t514 x11_2 x516000_2 x516001_2 x516002_2 = some r) ∧ Aside0 (kq ≤ kj6) ∧ Aside0 (Kd.R k34 34 w' w.heap.size (fun _ => True) u516001 x516001_2) ∧ Aside0 (Kd.R k32 32 w' w.heap.size (fun _ => True) u516002 x516002_2) ∧ Aside0 (w'.heap[gb515]? = some (.cells #[.int .i64 x516000_2, u516001, u516002] 27 (0, 0))) ∧ Aside0 (Below w.heap.size w w'))
        case atStart => exact ⟨(1), (0), (([] : List (S34))), (([] : List (S32))), (.slice none 0 0), (.slice none 0 0), (by first | rfl | (simp; done) | (simp [*]; done)), H', ⟨Nat.le_refl _⟩, ⟨by first | exact Kd.R_nil _ _ _ _ _ | exact Kd.N_nil _ _ _ _ _ | exact Kd.V_nil _ _ _ _ _ | exact Kd.Q_nil _ _ _ _ _ | exact Kd.S_nil _ _ _ _ _⟩, ⟨by first | exact Kd.R_nil _ _ _ _ _ | exact Kd.N_nil _ _ _ _ _ | exact Kd.V_nil _ _ _ _ _ | exact Kd.Q_nil _ _ _ _ _ | exact Kd.S_nil _ _ _ _ _⟩, ⟨by (with_reducible repeat (first | refine blk_drewN ?_ _ | refine blk_drew ?_ | refine blk_alloc ?_ _)); refine blk_put (cs := #[.int .i64 0, .slice none 0 0, .slice none 0 0]) ?_ 2 _ rfl; (with_reducible repeat (first | refine blk_drewN ?_ _ | refine blk_drew ?_ | refine blk_alloc ?_ _)); refine blk_put (cs := #[.int .i64 0, .slice none 0 0, .slice none 0 0]) ?_ 1 _ rfl; (with_reducible repeat (first | refine blk_drewN ?_ _ | refine blk_drew ?_ | refine blk_alloc ?_ _)); refine blk_put (cs := #[.int .i64 0, .slice none 0 0, .slice none 0 0]) ?_ 0 _ rfl; (with_reducible repeat (first | refine blk_drewN ?_ _ | refine blk_drew ?_ | refine blk_alloc ?_ _)); exact BK515.out⟩, ⟨zL HB.out⟩⟩
        case round =>
          clear H'
          try clear c1
          try clear c2
          try clear p2
          try clear c4
          try clear p6
          try clear c9
          try clear c10
          try clear hcz12_0
          try clear hcz12_1
          try clear hcz12_2
          try clear hfz12_0
          try clear hfz12_1
          try clear hfz12_2
          try clear p2
          try clear p6
          obtain ⟨x11_2, x516000_2, x516001_2, x516002_2, u516001, u516002, rfl, HA, HK2, HO_516001, HO_516002, BK515, HB⟩ := hrel
          cases gk with
          | zero => exact absurd HA.out (by simp [cooperagelaw16_LeaseReaders.l0])
          | succ k2 =>
            have H := HA.out
            clear HA
            simp only [cooperagelaw16_LeaseReaders.l0] at H
            by_cases c13 : x11_2 ≤ (wrap64 ((wrap64 ((wrap64 (1 + t513)) + 1)) + t514))
            · rw [if_pos c13] at H
              have c13b0 : decide (x11_2 ≤ (wrap64 ((wrap64 ((wrap64 (1 + t513)) + 1)) + t514))) = true := decide_eq_true c13
              clear c13
              replace H := Option.bind_eq_some_iff.mp H
              obtain ⟨⟨t516, t517, t520, t523, t524⟩, A140, H⟩ := H
              replace H : (if t524 = 0 then (cooperagelaw16_LeaseReaders.j2 k2 l2 (wrap64 (1 + t513)) t514 x11_2 ((decide (t523 > 0)) != (decide (x11_2 ≤ (wrap64 (1 + t513))))) t516 t517 t520) else (cooperagelaw16_LeaseReaders.j2 k2 l2 (wrap64 (1 + t513)) t514 x11_2 true t516 t517 t520)) = some r := H
              have A14 := Aside0.mk A140
              clear A140
              have HC15 := Aside0.mk H
              clear H
              have hcz16_0 : wr.cell? ⟨gb515, 0, none⟩ = some (.int .i64 x516000_2) := (blk_cell BK515.out 0).trans rfl
              have hcz16_1 : wr.cell? ⟨gb515, 1, none⟩ = some (u516001) := (blk_cell BK515.out 1).trans rfl
              have hcz16_2 : wr.cell? ⟨gb515, 2, none⟩ = some (u516002) := (blk_cell BK515.out 2).trans rfl
              have hfz16_0 := blk_frozen BK515.out 0
              have hfz16_1 := blk_frozen BK515.out 1
              have hfz16_2 := blk_frozen BK515.out 2
              obtain ⟨Ao17, co17, eo17⟩ := Kd.R_slice HO_516001.out
              subst eo17
              obtain ⟨Ao18, co18, eo18⟩ := Kd.R_slice HO_516002.out
              subst eo18
              go_upto_region 11 with (first | ((with_reducible refine gate_callee (f := 10) rfl ?_); refine goesL_ (some 55) rfl rfl Tryd.func10 (by kernel_rfl) rfl #[.agg #[.int .i64 x516000_2, .slice Ao17 x516001_2.length co17, .slice Ao18 x516002_2.length co18], .agg #[.int .i64 x11_2, .string (⟨#[120]⟩ : ByteArray), .bool (x11_2 == (wrap64 ((wrap64 (1 + t513)) + 1))), .int .i64 99], .int .i64 0] rfl zA ?_; (with_reducible refine (lease_Take.calls k2 x516000_2 _ _ x516001_2 _ _ x516002_2 x11_2 (⟨#[120]⟩ : ByteArray) (x11_2 == (wrap64 ((wrap64 (1 + t513)) + 1))) 99 0 t516 t517 t520 t523 t524 _ ?side1 ?side2 ?side3 ?side4 A14.out).mono ?_); (case side1 => repeat (first | exact (Kd.R_reads' HO_516001.out).2.2 | (with_reducible refine Kd.C_alloc ?_ _) | (with_reducible refine Kd.C_drewN ?_ _) | (with_reducible refine Kd.C_drew ?_))); (case side2 => exact (Kd.R_reads' HO_516001.out).2.1); (case side3 => repeat (first | exact (Kd.R_reads' HO_516002.out).2.2 | (with_reducible refine Kd.C_alloc ?_ _) | (with_reducible refine Kd.C_drewN ?_ _) | (with_reducible refine Kd.C_drew ?_))); (case side4 => exact (Kd.R_reads' HO_516002.out).2.1); rintro e w19 ⟨v518, v521, rfl, ho0, ho1, hb⟩; refine ⟨_, rfl, ?_⟩; have n0_ := Aside0.mk (Kd.R_elder' (zR HO_516001.out) (Kd.R_base ho0) hb); have n1_ := Aside0.mk (Kd.R_elder' (zR HO_516002.out) (Kd.R_base ho1) hb); have n2_ := Aside0.mk (Kd.R_lower (Kd.R_new' ho0 (Kd.R_lt (zR HO_516001.out))) (below_size (zL HB.out))); have n3_ := Aside0.mk (Kd.R_lower (Kd.R_new' ho1 (Kd.R_lt (zR HO_516002.out))) (below_size (zL HB.out))); have n4_ := Aside0.mk (blk_below (g := gb515) (o := .cells #[.int .i64 x516000_2, .slice Ao17 x516001_2.length co17, .slice Ao18 x516002_2.length co18] 27 (0, 0)) (zK BK515.out) hb); have n5_ := Aside0.mk (below_step (zL HB.out) hb); clear HO_516001; clear HO_516002; clear BK515; clear HB; have HO_516001 := n0_; have HO_516002 := n1_; have HO519 := n2_; have HO522 := n3_; have BK515 := n4_; have HB := n5_; clear n0_ n1_ n2_ n3_ n4_ n5_; (try clear hb); (try clear hb2); (try clear hk); (try clear hi); (try clear ho0); (try clear ho1)) | ((with_reducible refine gate_dst (N := 12) rfl ?_); (try (refine gate_guard (by rfl) ?_; dsimp only)); refine box_event ?hg (N := 12) ?hd (cs := #[.int .i64 0, .slice none 0 0, .slice none 0 0]) (t := 27) ?hr ?_; (case hd => rfl); (case hg => rfl); (case hr => first | (go_simp; done) | (go_simp; rfl)); intro gb525 hg w20 hbox hb; have n0_ := Aside0.mk (Kd.R_below (zR HO_516001.out) hb); have n1_ := Aside0.mk (Kd.R_below (zR HO_516002.out) hb); have n2_ := Aside0.mk (Kd.R_below (zR HO519.out) hb); have n3_ := Aside0.mk (Kd.R_below (zR HO522.out) hb); have n4_ := Aside0.mk (blk_below (g := gb515) (o := .cells #[.int .i64 x516000_2, .slice Ao17 x516001_2.length co17, .slice Ao18 x516002_2.length co18] 27 (0, 0)) (zK BK515.out) hb); have n5_ := Aside0.mk (below_step (zL HB.out) hb); have n6_ := Aside0.mk (hbox); have n7_ := Aside0.mk (zG hg (zL HB.out)); have n8_ := Aside0.mk (zG hg (zL HB.out)); have n9_ := Aside0.mk (zN (g := gb515) (o := .cells #[.int .i64 x516000_2, .slice Ao17 x516001_2.length co17, .slice Ao18 x516002_2.length co18] 27 (0, 0)) hg (zK BK515.out)); have n10_ := Aside0.mk (zO (g := gb515) (o := .cells #[.int .i64 x516000_2, .slice Ao17 x516001_2.length co17, .slice Ao18 x516002_2.length co18] 27 (0, 0)) hg (zK BK515.out)); clear HO_516001; clear HO_516002; clear HO519; clear HO522; clear BK515; clear HB; have HO_516001 := n0_; have HO_516002 := n1_; have HO519 := n2_; have HO522 := n3_; have BK515 := n4_; have HB := n5_; have BK525 := n6_; have GW525 := n7_; have GE525 := n8_; have NB515_525 := n9_; have NB525_515 := n10_; clear n0_ n1_ n2_ n3_ n4_ n5_ n6_ n7_ n8_ n9_ n10_; clear hb hbox hg; have hnb21 := NB525_515.out; have hnc21 := NB515_525.out; have hcz22_0 : w20.cell? ⟨gb525, 0, none⟩ = some (.int .i64 0) := (blk_cell BK525.out 0).trans rfl; have hcz22_1 : w20.cell? ⟨gb525, 1, none⟩ = some (.slice none 0 0) := (blk_cell BK525.out 1).trans rfl; have hcz22_2 : w20.cell? ⟨gb525, 2, none⟩ = some (.slice none 0 0) := (blk_cell BK525.out 2).trans rfl; have hfz22_0 := blk_frozen BK525.out 0; have hfz22_1 := blk_frozen BK525.out 1; have hfz22_2 := blk_frozen BK525.out 2; obtain ⟨Ao23, co23, eo23⟩ := Kd.R_slice HO519.out; subst eo23; obtain ⟨Ao24, co24, eo24⟩ := Kd.R_slice HO522.out; subst eo24))
              (try simp only [Act.put, List.setIfInBounds_toArray, List.set_cons_zero, List.set_cons_succ])
              go_cut [68] (fun v68 wc => ∃ (kq : Nat) (x68_14 : Bool), v68 = .bool x68_14 ∧ Aside0 (cooperagelaw16_LeaseReaders.j2 kq l2 (wrap64 (1 + t513)) t514 x11_2 x68_14 t516 t517 t520 = some r) ∧ Aside0 (kq ≤ k2) ∧ Aside0 (Kd.R k34 34 wc w.heap.size (fun k_ => some k_ ≠ ((.slice Ao23 t517.length co23) : Value).ownBlock) (.slice Ao17 x516001_2.length co17) x516001_2) ∧ Aside0 (Kd.R k32 32 wc w.heap.size (fun k_ => some k_ ≠ ((.slice Ao24 t520.length co24) : Value).ownBlock) (.slice Ao18 x516002_2.length co18) x516002_2) ∧ Aside0 (Kd.R k34 34 wc w.heap.size (fun k_ => some k_ ≠ ((.slice Ao17 x516001_2.length co17) : Value).ownBlock) (.slice Ao23 t517.length co23) t517) ∧ Aside0 (Kd.R k32 32 wc w.heap.size (fun k_ => some k_ ≠ ((.slice Ao18 x516002_2.length co18) : Value).ownBlock) (.slice Ao24 t520.length co24) t520) ∧ Aside0 (wc.heap[gb515]? = some (.cells #[.int .i64 x516000_2, (.slice Ao17 x516001_2.length co17), (.slice Ao18 x516002_2.length co18)] 27 (0, 0))) ∧ Aside0 (wc.heap[gb525]? = some (.cells #[.int .i64 t516, (.slice Ao23 t517.length co23), (.slice Ao24 t520.length co24)] 27 (0, 0))) ∧ Aside0 (Below w.heap.size w wc))
              case first =>
                have H := HC15.out
                clear HC15
                by_cases c25 : t524 = 0
                · rw [if_pos c25] at H
                  have c25b0 : (t524 == 0) = true := beq_iff_eq.mpr c25
                  have c25b1 : (t524 != 0) = false := bne_eq_false_iff_eq.mpr c25
                  clear c25
                  (first | rw [c25b0] | (simp only [i64_w, i32_w]; rw [c25b0]) | skip)
                  have H' := Aside0.mk H
                  clear H
                  go_wp2
                  go_meet
                  case rel => exact ⟨_, (((decide (t523 > 0)) != (decide (x11_2 ≤ (wrap64 (1 + t513)))))), (by first | rfl | (simp; done) | (simp [*]; done)), H', ⟨by have := HJ6.out; have := HK2.out; first | omega | exact Nat.le_refl _⟩, ⟨by (with_reducible repeat (first | apply Kd.R_alloc | apply Kd.R_drewN | apply Kd.R_drew)); exact Kd.R_mono (Kd.R_far (p := ⟨gb525, 2, none⟩) (Kd.R_far (p := ⟨gb525, 1, none⟩) (Kd.R_far (p := ⟨gb525, 0, none⟩) (Kd.R_types HO_516001.out BK525.out (by decide)) (fun _ hk => hk.2) (.int .i64 t516)) (fun _ hk => hk.2) (.slice Ao23 t517.length co23)) (fun _ hk => hk.2) (.slice Ao24 t520.length co24)) (fun _ hk => hk.1.2)⟩, ⟨by (with_reducible repeat (first | apply Kd.R_alloc | apply Kd.R_drewN | apply Kd.R_drew)); exact Kd.R_mono (Kd.R_far (p := ⟨gb525, 2, none⟩) (Kd.R_far (p := ⟨gb525, 1, none⟩) (Kd.R_far (p := ⟨gb525, 0, none⟩) (Kd.R_types HO_516002.out BK525.out (by decide)) (fun _ hk => hk.2) (.int .i64 t516)) (fun _ hk => hk.2) (.slice Ao23 t517.length co23)) (fun _ hk => hk.2) (.slice Ao24 t520.length co24)) (fun _ hk => hk.1.2)⟩, ⟨by (with_reducible repeat (first | apply Kd.R_alloc | apply Kd.R_drewN | apply Kd.R_drew)); exact Kd.R_mono (Kd.R_far (p := ⟨gb525, 2, none⟩) (Kd.R_far (p := ⟨gb525, 1, none⟩) (Kd.R_far (p := ⟨gb525, 0, none⟩) (Kd.R_types HO519.out BK525.out (by decide)) (fun _ hk => hk.2) (.int .i64 t516)) (fun _ hk => hk.2) (.slice Ao23 t517.length co23)) (fun _ hk => hk.2) (.slice Ao24 t520.length co24)) (fun _ hk => hk.1.2)⟩, ⟨by (with_reducible repeat (first | apply Kd.R_alloc | apply Kd.R_drewN | apply Kd.R_drew)); exact Kd.R_mono (Kd.R_far (p := ⟨gb525, 2, none⟩) (Kd.R_far (p := ⟨gb525, 1, none⟩) (Kd.R_far (p := ⟨gb525, 0, none⟩) (Kd.R_types HO522.out BK525.out (by decide)) (fun _ hk => hk.2) (.int .i64 t516)) (fun _ hk => hk.2) (.slice Ao23 t517.length co23)) (fun _ hk => hk.2) (.slice Ao24 t520.length co24)) (fun _ hk => hk.1.2)⟩, ⟨zK BK515.out⟩, ⟨by (with_reducible repeat (first | refine blk_drewN ?_ _ | refine blk_drew ?_ | refine blk_alloc ?_ _)); refine blk_put (cs := #[.int .i64 t516, .slice Ao23 t517.length co23, .slice none 0 0]) ?_ 2 _ rfl; (with_reducible repeat (first | refine blk_drewN ?_ _ | refine blk_drew ?_ | refine blk_alloc ?_ _)); refine blk_put (cs := #[.int .i64 t516, .slice none 0 0, .slice none 0 0]) ?_ 1 _ rfl; (with_reducible repeat (first | refine blk_drewN ?_ _ | refine blk_drew ?_ | refine blk_alloc ?_ _)); refine blk_put (cs := #[.int .i64 0, .slice none 0 0, .slice none 0 0]) ?_ 0 _ rfl; (with_reducible repeat (first | refine blk_drewN ?_ _ | refine blk_drew ?_ | refine blk_alloc ?_ _)); exact BK525.out⟩, ⟨zL HB.out⟩⟩
                · rw [if_neg c25] at H
                  have c25b0 : (t524 == 0) = false := beq_eq_false_iff_ne.mpr c25
                  have c25b1 : (t524 != 0) = true := bne_iff_ne.mpr c25
                  (first | rw [c25b0] | (simp only [i64_w, i32_w]; rw [c25b0]) | skip)
                  have H' := Aside0.mk H
                  clear H
                  go_wp2
                  go_meet
                  case rel => exact ⟨_, (true), (by first | rfl | (simp; done) | (simp [*]; done)), H', ⟨by have := HJ6.out; have := HK2.out; first | omega | exact Nat.le_refl _⟩, ⟨by (with_reducible repeat (first | apply Kd.R_alloc | apply Kd.R_drewN | apply Kd.R_drew)); exact Kd.R_mono (Kd.R_far (p := ⟨gb525, 2, none⟩) (Kd.R_far (p := ⟨gb525, 1, none⟩) (Kd.R_far (p := ⟨gb525, 0, none⟩) (Kd.R_types HO_516001.out BK525.out (by decide)) (fun _ hk => hk.2) (.int .i64 t516)) (fun _ hk => hk.2) (.slice Ao23 t517.length co23)) (fun _ hk => hk.2) (.slice Ao24 t520.length co24)) (fun _ hk => hk.1.2)⟩, ⟨by (with_reducible repeat (first | apply Kd.R_alloc | apply Kd.R_drewN | apply Kd.R_drew)); exact Kd.R_mono (Kd.R_far (p := ⟨gb525, 2, none⟩) (Kd.R_far (p := ⟨gb525, 1, none⟩) (Kd.R_far (p := ⟨gb525, 0, none⟩) (Kd.R_types HO_516002.out BK525.out (by decide)) (fun _ hk => hk.2) (.int .i64 t516)) (fun _ hk => hk.2) (.slice Ao23 t517.length co23)) (fun _ hk => hk.2) (.slice Ao24 t520.length co24)) (fun _ hk => hk.1.2)⟩, ⟨by (with_reducible repeat (first | apply Kd.R_alloc | apply Kd.R_drewN | apply Kd.R_drew)); exact Kd.R_mono (Kd.R_far (p := ⟨gb525, 2, none⟩) (Kd.R_far (p := ⟨gb525, 1, none⟩) (Kd.R_far (p := ⟨gb525, 0, none⟩) (Kd.R_types HO519.out BK525.out (by decide)) (fun _ hk => hk.2) (.int .i64 t516)) (fun _ hk => hk.2) (.slice Ao23 t517.length co23)) (fun _ hk => hk.2) (.slice Ao24 t520.length co24)) (fun _ hk => hk.1.2)⟩, ⟨by (with_reducible repeat (first | apply Kd.R_alloc | apply Kd.R_drewN | apply Kd.R_drew)); exact Kd.R_mono (Kd.R_far (p := ⟨gb525, 2, none⟩) (Kd.R_far (p := ⟨gb525, 1, none⟩) (Kd.R_far (p := ⟨gb525, 0, none⟩) (Kd.R_types HO522.out BK525.out (by decide)) (fun _ hk => hk.2) (.int .i64 t516)) (fun _ hk => hk.2) (.slice Ao23 t517.length co23)) (fun _ hk => hk.2) (.slice Ao24 t520.length co24)) (fun _ hk => hk.1.2)⟩, ⟨zK BK515.out⟩, ⟨by (with_reducible repeat (first | refine blk_drewN ?_ _ | refine blk_drew ?_ | refine blk_alloc ?_ _)); refine blk_put (cs := #[.int .i64 t516, .slice Ao23 t517.length co23, .slice none 0 0]) ?_ 2 _ rfl; (with_reducible repeat (first | refine blk_drewN ?_ _ | refine blk_drew ?_ | refine blk_alloc ?_ _)); refine blk_put (cs := #[.int .i64 t516, .slice none 0 0, .slice none 0 0]) ?_ 1 _ rfl; (with_reducible repeat (first | refine blk_drewN ?_ _ | refine blk_drew ?_ | refine blk_alloc ?_ _)); refine blk_put (cs := #[.int .i64 0, .slice none 0 0, .slice none 0 0]) ?_ 0 _ rfl; (with_reducible repeat (first | refine blk_drewN ?_ _ | refine blk_drew ?_ | refine blk_alloc ?_ _)); exact BK525.out⟩, ⟨zL HB.out⟩⟩
              case rest =>
                clear HC15
                try clear c1
                try clear c2
                try clear p2
                try clear c4
                try clear p6
                try clear c9
                try clear c10
                try clear c13
                try clear c13b0
                try clear c21
                try clear c25
                try clear c25b0
                try clear c25b1
                try clear hcz12_0
                try clear hcz12_1
                try clear hcz12_2
                try clear hcz16_0
                try clear hcz16_1
                try clear hcz16_2
                try clear hcz22_0
                try clear hcz22_1
                try clear hcz22_2
                try clear hfz12_0
                try clear hfz12_1
                try clear hfz12_2
                try clear hfz16_0
                try clear hfz16_1
                try clear hfz16_2
                try clear hfz22_0
                try clear hfz22_1
                try clear hfz22_2
                try clear p2
                try clear p6
                obtain ⟨kq, x68_14, rfl, HA, HJ14, HO_516001, HO_516002, HO_526001, HO_526002, BK515, BK525, HB⟩ := hcut
                cases kq with
                | zero => exact absurd HA.out (by simp [cooperagelaw16_LeaseReaders.j2])
                | succ kj14 =>
                  have H := HA.out
                  clear HA
                  simp only [cooperagelaw16_LeaseReaders.j2] at H
                  by_cases c26 : x68_14 = true
                  · subst c26
                    have H1 : (some false) = some r := by rw [if_pos rfl] at H; exact H
                    clear H
                    have H := H1
                    clear H1
                    obtain rfl := Option.some.inj H
                    go_wp2
                    go_ret
                    exact ⟨by first | rfl | (simp [errW_none, errW_some] <;> rfl) | (simp [*, errW_none, errW_some] <;> rfl), zL HB.out⟩
                  · replace c26 := Bool.eq_false_iff.mpr c26
                    subst c26
                    have H1 : (cooperagelaw16_LeaseReaders.l0 kj14 l2 (wrap64 (1 + t513)) t514 (wrap64 (x11_2 + 1)) t516 t517 t520) = some r := by rw [if_neg (show ¬ (false = true) by decide)] at H; exact H
                    clear H
                    have H := H1
                    clear H1
                    have H' := Aside0.mk H
                    clear H
                    have hnb27 := NB525_515.out
                    have hnc27 := NB515_525.out
                    have hcz28_0 : wc.cell? ⟨gb525, 0, none⟩ = some (.int .i64 t516) := (blk_cell BK525.out 0).trans rfl
                    have hcz28_1 : wc.cell? ⟨gb525, 1, none⟩ = some (.slice Ao23 t517.length co23) := (blk_cell BK525.out 1).trans rfl
                    have hcz28_2 : wc.cell? ⟨gb525, 2, none⟩ = some (.slice Ao24 t520.length co24) := (blk_cell BK525.out 2).trans rfl
                    have hfz28_0 := blk_frozen BK525.out 0
                    have hfz28_1 := blk_frozen BK525.out 1
                    have hfz28_2 := blk_frozen BK525.out 2
                    have hcz29_0 : wc.cell? ⟨gb515, 0, none⟩ = some (.int .i64 x516000_2) := (blk_cell BK515.out 0).trans rfl
                    have hcz29_1 : wc.cell? ⟨gb515, 1, none⟩ = some (.slice Ao17 x516001_2.length co17) := (blk_cell BK515.out 1).trans rfl
                    have hcz29_2 : wc.cell? ⟨gb515, 2, none⟩ = some (.slice Ao18 x516002_2.length co18) := (blk_cell BK515.out 2).trans rfl
                    have hfz29_0 := blk_frozen BK515.out 0
                    have hfz29_1 := blk_frozen BK515.out 1
                    have hfz29_2 := blk_frozen BK515.out 2
                    go_wp2
                    go_roundg kj14
                    case measure => have := HJ6.out; have := HK2.out; have := HJ14.out; omega
                    case rel => exact ⟨(wrap64 (x11_2 + 1)), (t516), (t517), (t520), (.slice Ao23 t517.length co23), (.slice Ao24 t520.length co24), (by first | rfl | (simp; done) | (simp [*]; done)), H', ⟨by have := HJ6.out; have := HK2.out; have := HJ14.out; omega⟩, ⟨by (with_reducible repeat (first | apply Kd.R_alloc | apply Kd.R_drewN | apply Kd.R_drew)); exact Kd.R_mono (Kd.R_far (p := ⟨gb515, 2, none⟩) (Kd.R_far (p := ⟨gb515, 1, none⟩) (Kd.R_far (p := ⟨gb515, 0, none⟩) (Kd.R_types HO_526001.out BK515.out (by decide)) (fun _ hk => hk.2) (.int .i64 t516)) (fun _ hk => hk.2) (.slice Ao23 t517.length co23)) (fun _ hk => hk.2) (.slice Ao24 t520.length co24)) (fun _ hk => trivial)⟩, ⟨by (with_reducible repeat (first | apply Kd.R_alloc | apply Kd.R_drewN | apply Kd.R_drew)); exact Kd.R_mono (Kd.R_far (p := ⟨gb515, 2, none⟩) (Kd.R_far (p := ⟨gb515, 1, none⟩) (Kd.R_far (p := ⟨gb515, 0, none⟩) (Kd.R_types HO_526002.out BK515.out (by decide)) (fun _ hk => hk.2) (.int .i64 t516)) (fun _ hk => hk.2) (.slice Ao23 t517.length co23)) (fun _ hk => hk.2) (.slice Ao24 t520.length co24)) (fun _ hk => trivial)⟩, ⟨by (with_reducible repeat (first | refine blk_drewN ?_ _ | refine blk_drew ?_ | refine blk_alloc ?_ _)); refine blk_put (cs := #[.int .i64 t516, .slice Ao23 t517.length co23, .slice Ao18 x516002_2.length co18]) ?_ 2 _ rfl; (with_reducible repeat (first | refine blk_drewN ?_ _ | refine blk_drew ?_ | refine blk_alloc ?_ _)); refine blk_put (cs := #[.int .i64 t516, .slice Ao17 x516001_2.length co17, .slice Ao18 x516002_2.length co18]) ?_ 1 _ rfl; (with_reducible repeat (first | refine blk_drewN ?_ _ | refine blk_drew ?_ | refine blk_alloc ?_ _)); refine blk_put (cs := #[.int .i64 x516000_2, .slice Ao17 x516001_2.length co17, .slice Ao18 x516002_2.length co18]) ?_ 0 _ rfl; (with_reducible repeat (first | refine blk_drewN ?_ _ | refine blk_drew ?_ | refine blk_alloc ?_ _)); exact BK515.out⟩, ⟨zL HB.out⟩⟩
            · rw [if_neg c13] at H
              have c13b0 : decide (x11_2 ≤ (wrap64 ((wrap64 ((wrap64 (1 + t513)) + 1)) + t514))) = false := decide_eq_false c13
              clear c13
              have H' := Aside0.mk H
              clear H
              go_wp2
              go_loopg [15] k2 (fun kq v15 w' => ∃ (x15_3 : Int) (x516000_3 : Int) (x516001_3 : List (S34)) (x516002_3 : List (S32)) (u516001 : Value) (u516002 : Value), v15 = .int .i64 x15_3 ∧ Aside0 (cooperagelaw16_LeaseReaders.l1 kq l2 (wrap64 (1 + t513)) t514 x15_3 x516000_3 x516001_3 x516002_3 = some r) ∧ Aside0 (kq ≤ k2) ∧ Aside0 (Kd.R k34 34 w' w.heap.size (fun _ => True) u516001 x516001_3) ∧ Aside0 (Kd.R k32 32 w' w.heap.size (fun _ => True) u516002 x516002_3) ∧ Aside0 (w'.heap[gb515]? = some (.cells #[.int .i64 x516000_3, u516001, u516002] 27 (0, 0))) ∧ Aside0 (Below w.heap.size w w'))
              case atStart => exact ⟨(0), (x516000_2), (x516001_2), (x516002_2), (u516001), (u516002), (by first | rfl | (simp; done) | (simp [*]; done)), H', ⟨Nat.le_refl _⟩, ⟨by (with_reducible repeat (first | apply Kd.R_alloc | apply Kd.R_drewN | apply Kd.R_drew)); exact HO_516001.out⟩, ⟨by (with_reducible repeat (first | apply Kd.R_alloc | apply Kd.R_drewN | apply Kd.R_drew)); exact HO_516002.out⟩, ⟨zK BK515.out⟩, ⟨zL HB.out⟩⟩
              case round =>
                clear H'
                try clear c1
                try clear c2
                try clear p2
                try clear c4
                try clear p6
                try clear c9
                try clear c10
                try clear c13
                try clear c13b0
                try clear c21
                try clear c25
                try clear c25b0
                try clear c25b1
                try clear c26
                try clear c27
                try clear hcz12_0
                try clear hcz12_1
                try clear hcz12_2
                try clear hcz16_0
                try clear hcz16_1
                try clear hcz16_2
                try clear hcz22_0
                try clear hcz22_1
                try clear hcz22_2
                try clear hcz28_0
                try clear hcz28_1
                try clear hcz28_2
                try clear hcz29_0
                try clear hcz29_1
                try clear hcz29_2
                try clear hfz12_0
                try clear hfz12_1
                try clear hfz12_2
                try clear hfz16_0
                try clear hfz16_1
                try clear hfz16_2
                try clear hfz22_0
                try clear hfz22_1
                try clear hfz22_2
                try clear hfz28_0
                try clear hfz28_1
                try clear hfz28_2
                try clear hfz29_0
                try clear hfz29_1
                try clear hfz29_2
                try clear p2
                try clear p6
                obtain ⟨x15_3, x516000_3, x516001_3, x516002_3, u516001, u516002, rfl, HA, HK3, HO_516001, HO_516002, BK515, HB⟩ := hrel
                cases gk with
                | zero => exact absurd HA.out (by simp [cooperagelaw16_LeaseReaders.l1])
                | succ k3 =>
                  have H := HA.out
                  clear HA
                  simp only [cooperagelaw16_LeaseReaders.l1] at H
                  by_cases c30 : x15_3 < (wrap64 (1 + t513))
                  · rw [if_pos c30] at H
                    have c30b0 : decide (x15_3 < (wrap64 (1 + t513))) = true := decide_eq_true c30
                    clear c30
                    have HC31 := Aside0.mk H
                    clear H
                    go_upto_if 78 with (fail)
                    go_cut [16] (fun v16 wc => ∃ (kq : Nat) (x16_30 : Int), v16 = .int .i64 x16_30 ∧ Aside0 (cooperagelaw16_LeaseReaders.j4 kq l2 (wrap64 (1 + t513)) t514 x15_3 x16_30 x516000_3 x516001_3 x516002_3 = some r) ∧ Aside0 (kq ≤ k3) ∧ Aside0 (Kd.R k34 34 wc w.heap.size (fun _ => True) u516001 x516001_3) ∧ Aside0 (Kd.R k32 32 wc w.heap.size (fun _ => True) u516002 x516002_3) ∧ Aside0 (wc.heap[gb515]? = some (.cells #[.int .i64 x516000_3, u516001, u516002] 27 (0, 0))) ∧ Aside0 (Below w.heap.size w wc))
                    case first =>
                      have H := HC31.out
                      clear HC31
                      by_cases c32 : x15_3 < (l2.length : Int)
                      · rw [if_pos c32] at H
                        have c32b0 : decide (x15_3 < (l2.length : Int)) = true := decide_eq_true c32
                        clear c32
                        (first | rw [c32b0] | (simp only [i64_w, i32_w]; rw [c32b0]) | skip)
                        by_cases c33 : 0 ≤ x15_3
                        · rw [if_pos c33] at H
                          have c33b0 : decide (0 ≤ x15_3) = true := decide_eq_true c33
                          clear c33
                          have H' := Aside0.mk H
                          clear H
                          have p526 : 0 ≤ (x15_3 : Int) := of_decide_eq_true (by first | (with_reducible assumption) | assumption)
                          have q526 : x15_3 < (l2.length : Int) := of_decide_eq_true (by first | (with_reducible assumption) | assumption)
                          obtain ⟨ad526, e526, hx526_0⟩ := Kd.at_int HR2.out x15_3 p526 q526
                          cases e526
                          replace hx526_0 := (HB.out.cell (World.block_lt_of_cell? w _ hx526_0)).trans hx526_0
                          replace p526 := eq_true p526
                          replace q526 := eq_true q526
                          go_wp2
                          go_meet
                          case rel => exact ⟨_, (rd l2 x15_3), (by first | rfl | (simp; done) | (simp [*]; done)), H', ⟨by have := HJ6.out; have := HK2.out; have := HK3.out; first | omega | exact Nat.le_refl _⟩, ⟨by (with_reducible repeat (first | apply Kd.R_alloc | apply Kd.R_drewN | apply Kd.R_drew)); exact HO_516001.out⟩, ⟨by (with_reducible repeat (first | apply Kd.R_alloc | apply Kd.R_drewN | apply Kd.R_drew)); exact HO_516002.out⟩, ⟨zK BK515.out⟩, ⟨zL HB.out⟩⟩
                        · rw [if_neg c33] at H
                          exact absurd H (by simp)
                      · rw [if_neg c32] at H
                        have c32b0 : decide (x15_3 < (l2.length : Int)) = false := decide_eq_false c32
                        clear c32
                        (first | rw [c32b0] | (simp only [i64_w, i32_w]; rw [c32b0]) | skip)
                        have H' := Aside0.mk H
                        clear H
                        go_wp2
                        go_meet
                        case rel => exact ⟨_, (0), (by first | rfl | (simp; done) | (simp [*]; done)), H', ⟨by have := HJ6.out; have := HK2.out; have := HK3.out; first | omega | exact Nat.le_refl _⟩, ⟨by (with_reducible repeat (first | apply Kd.R_alloc | apply Kd.R_drewN | apply Kd.R_drew)); exact HO_516001.out⟩, ⟨by (with_reducible repeat (first | apply Kd.R_alloc | apply Kd.R_drewN | apply Kd.R_drew)); exact HO_516002.out⟩, ⟨zK BK515.out⟩, ⟨zL HB.out⟩⟩
                    case rest =>
                      clear HC31
                      try clear c1
                      try clear c2
                      try clear p2
                      try clear c3
                      try clear c4
                      try clear p5
                      try clear q5
                      try clear hx5
                      try clear p6
                      try clear c9
                      try clear c10
                      try clear c13
                      try clear c13b0
                      try clear c21
                      try clear c25
                      try clear c25b0
                      try clear c25b1
                      try clear c26
                      try clear c27
                      try clear c30
                      try clear c30b0
                      try clear c32
                      try clear c32b0
                      try clear c33
                      try clear c33b0
                      try clear hcz12_0
                      try clear hcz12_1
                      try clear hcz12_2
                      try clear hcz16_0
                      try clear hcz16_1
                      try clear hcz16_2
                      try clear hcz22_0
                      try clear hcz22_1
                      try clear hcz22_2
                      try clear hcz28_0
                      try clear hcz28_1
                      try clear hcz28_2
                      try clear hcz29_0
                      try clear hcz29_1
                      try clear hcz29_2
                      try clear hfz12_0
                      try clear hfz12_1
                      try clear hfz12_2
                      try clear hfz16_0
                      try clear hfz16_1
                      try clear hfz16_2
                      try clear hfz22_0
                      try clear hfz22_1
                      try clear hfz22_2
                      try clear hfz28_0
                      try clear hfz28_1
                      try clear hfz28_2
                      try clear hfz29_0
                      try clear hfz29_1
                      try clear hfz29_2
                      try clear hx526_0
                      try clear p2
                      try clear p526
                      try clear p6
                      try clear q526
                      obtain ⟨kq, x16_30, rfl, HA, HJ30, HO_516001, HO_516002, BK515, HB⟩ := hcut
                      cases kq with
                      | zero => exact absurd HA.out (by simp [cooperagelaw16_LeaseReaders.j4])
                      | succ kj30 =>
                        have H := HA.out
                        clear HA
                        simp only [cooperagelaw16_LeaseReaders.j4] at H
                        replace H := Option.bind_eq_some_iff.mp H
                        obtain ⟨t527, A340, H⟩ := H
                        replace H : (if 0 ≤ t527 then (if t527 < (x516001_3.length : Int) then ((lease_Held.f kj30 x516000_3 x516001_3 x516002_3 (wrap64 ((wrap64 (1 + t513)) + 1)) (⟨#[120]⟩ : ByteArray)).bind fun bt530 => ((lease_Give.f kj30 x516000_3 x516001_3 x516002_3 ((rd_T34 x516001_3 t527).f0) (⟨#[120]⟩ : ByteArray) ((rd_T34 x516001_3 t527).f3) 1).bind fun bt537 => (if bt530.2.2.2.2.2 = true then (cooperagelaw16_LeaseReaders.j5 kj30 l2 (wrap64 (1 + t513)) t514 x15_3 true bt537.1 bt537.2.1 bt537.2.2.1) else (cooperagelaw16_LeaseReaders.j5 kj30 l2 (wrap64 (1 + t513)) t514 x15_3 (bt537.2.2.2 != 0) bt537.1 bt537.2.1 bt537.2.2.1)))) else (none)) else (none)) = some r := H
                        have A34 := Aside0.mk A340
                        clear A340
                        by_cases c35 : 0 ≤ t527
                        · rw [if_pos c35] at H
                          have c35b0 : decide (0 ≤ t527) = true := decide_eq_true c35
                          clear c35
                          by_cases c36 : t527 < (x516001_3.length : Int)
                          · rw [if_pos c36] at H
                            have c36b0 : decide (t527 < (x516001_3.length : Int)) = true := decide_eq_true c36
                            clear c36
                            replace H := Option.bind_eq_some_iff.mp H
                            obtain ⟨⟨t530, t531, t532, t533, t534, t535⟩, A370, H⟩ := H
                            replace H : ((lease_Give.f kj30 x516000_3 x516001_3 x516002_3 ((rd_T34 x516001_3 t527).f0) (⟨#[120]⟩ : ByteArray) ((rd_T34 x516001_3 t527).f3) 1).bind fun bt537 => (if t535 = true then (cooperagelaw16_LeaseReaders.j5 kj30 l2 (wrap64 (1 + t513)) t514 x15_3 true bt537.1 bt537.2.1 bt537.2.2.1) else (cooperagelaw16_LeaseReaders.j5 kj30 l2 (wrap64 (1 + t513)) t514 x15_3 (bt537.2.2.2 != 0) bt537.1 bt537.2.1 bt537.2.2.1))) = some r := H
                            have A37 := Aside0.mk A370
                            clear A370
                            replace H := Option.bind_eq_some_iff.mp H
                            obtain ⟨⟨t537, t538, t541, t544⟩, A380, H⟩ := H
                            replace H : (if t535 = true then (cooperagelaw16_LeaseReaders.j5 kj30 l2 (wrap64 (1 + t513)) t514 x15_3 true t537 t538 t541) else (cooperagelaw16_LeaseReaders.j5 kj30 l2 (wrap64 (1 + t513)) t514 x15_3 (t544 != 0) t537 t538 t541)) = some r := H
                            have A38 := Aside0.mk A380
                            clear A380
                            have HC39 := Aside0.mk H
                            clear H
                            try go_wp2
                            have n0_ := Aside0.mk (Kd.R_drew HO_516001.out)
                            have n1_ := Aside0.mk (Kd.R_drew HO_516002.out)
                            have n2_ := Aside0.mk (blk_drew BK515.out)
                            have n3_ := Aside0.mk (below_drew1 HB.out)
                            clear HO_516001
                            clear HO_516002
                            clear BK515
                            clear HB
                            have HO_516001 := n0_
                            have HO_516002 := n1_
                            have BK515 := n2_
                            have HB := n3_
                            clear n0_ n1_ n2_ n3_
                            obtain ⟨Ao41, co41, eo41⟩ := Kd.R_slice HO_516001.out
                            (first | subst eo41 | (injection eo41 with f1_ f2_ f3_; have f4_ := f1_.symm; have f5_ := f3_.symm; clear f1_ f2_ f3_; subst f4_; subst f5_))
                            have p528 : 0 ≤ (t527 : Int) := of_decide_eq_true (by first | (with_reducible assumption) | assumption)
                            have q528 : t527 < (x516001_3.length : Int) := of_decide_eq_true (by first | (with_reducible assumption) | assumption)
                            obtain ⟨ad528, e528, hx528_0, hx528_1, hx528_2, hx528_3, hx528_4⟩ := at_T34 (Kd.R_reads' HO_516001.out).2.2 t527 p528 q528
                            cases e528
                            replace p528 := eq_true p528
                            replace q528 := eq_true q528
                            refine start_ (n := 11) (S := fun w' => w'.cell? ⟨gb515, 0, none⟩ = some (.int .i64 x516000_3) ∧ w'.cell? ⟨gb515, 1, none⟩ = some (.slice (some ad528) x516001_3.length co41) ∧ w'.cell? ⟨gb515, 2, none⟩ = some (u516002) ∧ w'.cell? (ad528.add ((t527).toNat * 5)) = some (.int .i64 ((rd_T34 x516001_3 t527).f0)) ∧ w'.cell? ⟨(ad528.add ((t527).toNat * 5)).block, (ad528.add ((t527).toNat * 5)).off + 1, none⟩ = some (.string ((rd_T34 x516001_3 t527).f1)) ∧ w'.cell? ⟨(ad528.add ((t527).toNat * 5)).block, (ad528.add ((t527).toNat * 5)).off + 2, none⟩ = some (.bool ((rd_T34 x516001_3 t527).f2)) ∧ w'.cell? ⟨(ad528.add ((t527).toNat * 5)).block, (ad528.add ((t527).toNat * 5)).off + 3, none⟩ = some (.int .i64 ((rd_T34 x516001_3 t527).f3)) ∧ w'.cell? ⟨(ad528.add ((t527).toNat * 5)).block, (ad528.add ((t527).toNat * 5)).off + 4, none⟩ = some (.int .i64 ((rd_T34 x516001_3 t527).f4))) (ds := []) #[false, false, false, false, false, false, false, false, false, false, false] (by kernel_rfl) rfl rfl ⟨(blk_cell BK515.out 0).trans rfl, (blk_cell BK515.out 1).trans rfl, (blk_cell BK515.out 2).trans rfl, hx528_0, hx528_1, hx528_2, hx528_3, hx528_4⟩ (fun hHeld => ?_); refine with_tabW cooperagelaw16_LeaseReaders.tab20 cooperagelaw16_LeaseReaders.bits20 (fun HT_ HW_ => ?_)
                            generalize wc.drew = w40 at HO_516001 HO_516002 BK515 HB hx528_0 hx528_1 hx528_2 hx528_3 hx528_4 hHeld ⊢
                            refine pure_ (i := 0) (N := some 83) (v := ?_) (a' := ?_) #[true, false, false, false, false, false, false, false, false, false, false] rfl rfl (any_of HT_.out (by kernel_rfl)) (fun _ _ _ h => h) (Or.inl ⟨by rfl, ?_⟩) ?_ ?_
                            rotate_left
                            · intro w'
                              go_simp
                              with_reducible rfl
                            rotate_left
                            · simp only [Act.put, List.setIfInBounds_toArray, List.set_cons_zero, List.set_cons_succ, i64_w, i32_w]
                              rfl
                            refine pure_ (i := 2) (N := some 85) (v := ?_) (a' := ?_) #[true, false, true, false, false, false, false, false, false, false, false] rfl rfl (any_of HT_.out (by kernel_rfl)) (fun _ _ _ h => h) (Or.inl ⟨by rfl, ?_⟩) ?_ ?_
                            rotate_left
                            · intro w'
                              go_simp
                              with_reducible rfl
                            rotate_left
                            · simp only [Act.put, List.setIfInBounds_toArray, List.set_cons_zero, List.set_cons_succ, i64_w, i32_w]
                              rfl
                            refine pure_ (i := 3) (N := some 86) (v := ?_) (a' := ?_) #[true, false, true, true, false, false, false, false, false, false, false] rfl rfl (any_of HT_.out (by kernel_rfl)) (fun _ _ _ h => h) (Or.inl ⟨by rfl, ?_⟩) ?_ ?_
                            rotate_left
                            · intro w'
                              go_simp
                              with_reducible rfl
                            rotate_left
                            · simp only [Act.put, List.setIfInBounds_toArray, List.set_cons_zero, List.set_cons_succ, i64_w, i32_w]
                              rfl
                            refine take_ (i := 1) (N := some 84) (v := ?_) (a' := ?_) #[true, true, true, true, false, false, false, false, false, false, false] rfl rfl (take_ofW HT_.out HW_.out (by kernel_rfl)) (fun _ _ _ h => h) (Or.inl ⟨by rfl, ?_⟩) hHeld ?_ ?_
                            rotate_left
                            · rintro w' ⟨s0, s1, s2, s3, s4, s5, s6, s7⟩
                              go_simp
                              with_reducible rfl
                            rotate_left
                            · simp only [Act.put, List.setIfInBounds_toArray, List.set_cons_zero, List.set_cons_succ, i64_w, i32_w]
                              rfl
                            refine take_ (i := 4) (N := some 87) (v := ?_) (a' := ?_) #[true, true, true, true, true, false, false, false, false, false, false] rfl rfl (take_ofW HT_.out HW_.out (by kernel_rfl)) (fun _ _ _ h => h) (Or.inl ⟨by rfl, ?_⟩) hHeld ?_ ?_
                            rotate_left
                            · rintro w' ⟨s0, s1, s2, s3, s4, s5, s6, s7⟩
                              go_simp
                              with_reducible rfl
                            rotate_left
                            · simp only [Act.put, List.setIfInBounds_toArray, List.set_cons_zero, List.set_cons_succ, i64_w, i32_w]
                              rfl
                            refine pure_ (i := 5) (N := some 88) (v := ?_) (a' := ?_) #[true, true, true, true, true, true, false, false, false, false, false] rfl rfl (any_of HT_.out (by kernel_rfl)) (fun _ _ _ h => h) (Or.inl ⟨by rfl, ?_⟩) ?_ ?_
                            rotate_left
                            · intro w'
                              go_simp
                              with_reducible rfl
                            rotate_left
                            · simp only [Act.put, List.setIfInBounds_toArray, List.set_cons_zero, List.set_cons_succ, i64_w, i32_w]
                              rfl
                            refine join_ (σ := Nat) 1 #[true, true, true, true, true, true, true, true, true, true, false] (fun s_ => [(89, .int .i64 t527), (17, .pointer (some ⟨s_, 0, none⟩)), (90, .pointer (some (ad528.add ((t527).toNat * 5)))), (91, .agg #[.int .i64 ((rd_T34 x516001_3 t527).f0), .string ((rd_T34 x516001_3 t527).f1), .bool ((rd_T34 x516001_3 t527).f2), .int .i64 ((rd_T34 x516001_3 t527).f3), .int .i64 ((rd_T34 x516001_3 t527).f4)])]) (fun s_ w' => (w'.cell? ⟨gb515, 0, none⟩ = some (.int .i64 x516000_3) ∧ w'.cell? ⟨gb515, 1, none⟩ = some (.slice (some ad528) x516001_3.length co41) ∧ w'.cell? ⟨gb515, 2, none⟩ = some (u516002) ∧ w'.cell? (ad528.add ((t527).toNat * 5)) = some (.int .i64 ((rd_T34 x516001_3 t527).f0)) ∧ w'.cell? ⟨(ad528.add ((t527).toNat * 5)).block, (ad528.add ((t527).toNat * 5)).off + 1, none⟩ = some (.string ((rd_T34 x516001_3 t527).f1)) ∧ w'.cell? ⟨(ad528.add ((t527).toNat * 5)).block, (ad528.add ((t527).toNat * 5)).off + 2, none⟩ = some (.bool ((rd_T34 x516001_3 t527).f2)) ∧ w'.cell? ⟨(ad528.add ((t527).toNat * 5)).block, (ad528.add ((t527).toNat * 5)).off + 3, none⟩ = some (.int .i64 ((rd_T34 x516001_3 t527).f3)) ∧ w'.cell? ⟨(ad528.add ((t527).toNat * 5)).block, (ad528.add ((t527).toNat * 5)).off + 4, none⟩ = some (.int .i64 ((rd_T34 x516001_3 t527).f4))) ∧ (Kd.R k34 34 w' w.heap.size (fun k_ => k_ ≠ s_) (.slice (some ad528) x516001_3.length co41) x516001_3) ∧ (Kd.R k32 32 w' w.heap.size (fun _ => True) u516002 x516002_3) ∧ (w'.heap[gb515]? = some (.cells #[.int .i64 x516000_3, .slice (some ad528) x516001_3.length co41, u516002] 27 (0, 0))) ∧ (w'.heap[s_]? = some (.cells #[.int .i64 0, .string (⟨#[]⟩ : ByteArray), .bool false, .int .i64 0, .int .i64 0] 34 (0, 0))) ∧ (w.heap.size ≤ s_) ∧ (w.heap.size ≤ s_) ∧ (gb515 ≠ s_) ∧ (s_ ≠ gb515) ∧ (Below w.heap.size w w')) ?_ ?_
                            rotate_left
                            · intro hCont
                              refine two_ (i := 6) (j := 9) (Ni := some 89) (Nj := some 17) #[true, true, true, true, true, true, true, false, false, false, false] #[true, true, true, true, true, true, false, false, false, true, false] rfl rfl rfl rfl (two_of HT_.out (by kernel_rfl)) (by decide) (by decide) (fun K hK => ?_) (fun K hK => ?_)
                              · skip
                                refine goes_ Tryd.func13 (by kernel_rfl) rfl #[.int .i64 x16_30, .int .i64 (x516001_3.length : Int)] (by rfl) rfl rfl zA ?_
                                with_reducible refine (cooperagelaw16_pick.calls x16_30 (x516001_3.length : Int) t527 _ A34.out).mono ?_
                                rintro e w' ⟨rfl, ⟨nd, rfl⟩⟩
                                refine ⟨_, rfl, ?_⟩
                                refine hK.out _ _ ⟨(blk_cell BK515.out 0).trans rfl, (blk_cell BK515.out 1).trans rfl, (blk_cell BK515.out 2).trans rfl, hHeld.2.2.2.1, hHeld.2.2.2.2.1, hHeld.2.2.2.2.2.1, hHeld.2.2.2.2.2.2.1, hHeld.2.2.2.2.2.2.2⟩ (fun hHeld => ?_)
                                clear hK K
                                refine norm_ (a' := ?_) ?_ ?_
                                rotate_left
                                · show Act.put _ (some 89) _ = _
                                  simp only [Act.put, List.setIfInBounds_toArray, List.set_cons_zero, List.set_cons_succ, i64_w, i32_w]
                                  rfl
                                refine pure_ (i := 7) (N := some 90) (v := ?_) (a' := ?_) #[true, true, true, true, true, true, true, true, false, false, false] rfl rfl (any_of HT_.out (by kernel_rfl)) (fun _ _ _ h => h) (Or.inl ⟨by rfl, ?_⟩) ?_ ?_
                                rotate_left
                                · intro w'
                                  go_simp
                                  with_reducible rfl
                                rotate_left
                                · simp only [Act.put, List.setIfInBounds_toArray, List.set_cons_zero, List.set_cons_succ, i64_w, i32_w]
                                  rfl
                                refine take_ (i := 8) (N := some 91) (v := ?_) (a' := ?_) #[true, true, true, true, true, true, true, true, true, false, false] rfl rfl (take_ofW HT_.out HW_.out (by kernel_rfl)) (fun _ _ _ h => h) (Or.inl ⟨by rfl, ?_⟩) hHeld ?_ ?_
                                rotate_left
                                · rintro w' ⟨s0, s1, s2, s3, s4, s5, s6, s7⟩
                                  go_simp
                                  with_reducible rfl
                                rotate_left
                                · simp only [Act.put, List.setIfInBounds_toArray, List.set_cons_zero, List.set_cons_succ, i64_w, i32_w]
                                  rfl
                                refine one_ (i := 9) (N := some 17) #[true, true, true, true, true, true, true, true, true, true, false] rfl rfl (one_of HT_.out (by kernel_rfl)) (by decide) (fun K hK => ?_)
                                refine box_step ?hg (N := 17) ?hd (cs := #[.int .i64 0, .string (⟨#[]⟩ : ByteArray), .bool false, .int .i64 0, .int .i64 0]) (t := 34) ?hr ?_; (case hd => rfl); (case hg => rfl); (case hr => first | (go_simp; done) | (go_simp; rfl))
                                intro gb529 hg w42 hbox hb
                                have HS3_ := (hb.cell (World.block_lt_of_cell? _ _ (hHeld.2.2.2.1))).trans (hHeld.2.2.2.1)
                                have HS4_ := (hb.cell (World.block_lt_of_cell? _ _ (hHeld.2.2.2.2.1))).trans (hHeld.2.2.2.2.1)
                                have HS5_ := (hb.cell (World.block_lt_of_cell? _ _ (hHeld.2.2.2.2.2.1))).trans (hHeld.2.2.2.2.2.1)
                                have HS6_ := (hb.cell (World.block_lt_of_cell? _ _ (hHeld.2.2.2.2.2.2.1))).trans (hHeld.2.2.2.2.2.2.1)
                                have HS7_ := (hb.cell (World.block_lt_of_cell? _ _ (hHeld.2.2.2.2.2.2.2))).trans (hHeld.2.2.2.2.2.2.2)
                                have n0_ := Aside0.mk (Kd.R_below (Kd.R_elderB (zR HO_516001.out) gb529 (Nat.le_of_eq hg.symm)) hb)
                                have n1_ := Aside0.mk (Kd.R_below (zR HO_516002.out) hb)
                                have n2_ := Aside0.mk (blk_below (g := gb515) (o := .cells #[.int .i64 x516000_3, .slice (some ad528) x516001_3.length co41, u516002] 27 (0, 0)) (zK BK515.out) hb)
                                have n3_ := Aside0.mk (below_step (zL HB.out) hb)
                                have n4_ := Aside0.mk (hbox)
                                have n5_ := Aside0.mk (zG hg (zL HB.out))
                                have n6_ := Aside0.mk (zG hg (zL HB.out))
                                have n7_ := Aside0.mk (zN (g := gb515) (o := .cells #[.int .i64 x516000_3, .slice (some ad528) x516001_3.length co41, u516002] 27 (0, 0)) hg (zK BK515.out))
                                have n8_ := Aside0.mk (zO (g := gb515) (o := .cells #[.int .i64 x516000_3, .slice (some ad528) x516001_3.length co41, u516002] 27 (0, 0)) hg (zK BK515.out))
                                clear HO_516001
                                clear HO_516002
                                clear BK515
                                clear HB
                                have HO_516001 := n0_
                                have HO_516002 := n1_
                                have BK515 := n2_
                                have HB := n3_
                                have BK529 := n4_
                                have GW529 := n5_
                                have GE529 := n6_
                                have NB515_529 := n7_
                                have NB529_515 := n8_
                                clear n0_ n1_ n2_ n3_ n4_ n5_ n6_ n7_ n8_
                                clear hb hbox hg
                                refine hK.out _ _ ⟨(blk_cell BK515.out 0).trans rfl, (blk_cell BK515.out 1).trans rfl, (blk_cell BK515.out 2).trans rfl, HS3_, HS4_, HS5_, HS6_, HS7_⟩ (fun hHeld => ?_)
                                clear hK K
                                refine norm_ (a' := ?_) ?_ ?_
                                rotate_left
                                · show Act.put _ (some 17) _ = _
                                  simp only [Act.put, List.setIfInBounds_toArray, List.set_cons_zero, List.set_cons_succ, i64_w, i32_w]
                                  rfl
                                exact norm_ (by simp only [putAll, Act.put, List.setIfInBounds_toArray, List.set_cons_zero, List.set_cons_succ]) (hCont (gb529) _ ⟨hHeld, (by (with_reducible repeat (first | apply Kd.R_alloc | apply Kd.R_drewN | apply Kd.R_drew)); exact Kd.R_mono HO_516001.out (fun _ hk => hk.2)), (zR HO_516002.out), (zK BK515.out), (zK BK529.out), GW529.out, GE529.out, NB515_529.out, NB529_515.out, (zL HB.out)⟩)
                              · skip
                                refine box_step ?hg (N := 17) ?hd (cs := #[.int .i64 0, .string (⟨#[]⟩ : ByteArray), .bool false, .int .i64 0, .int .i64 0]) (t := 34) ?hr ?_; (case hd => rfl); (case hg => rfl); (case hr => first | (go_simp; done) | (go_simp; rfl))
                                intro gb529 hg w42 hbox hb
                                have HS3_ := (hb.cell (World.block_lt_of_cell? _ _ (hHeld.2.2.2.1))).trans (hHeld.2.2.2.1)
                                have HS4_ := (hb.cell (World.block_lt_of_cell? _ _ (hHeld.2.2.2.2.1))).trans (hHeld.2.2.2.2.1)
                                have HS5_ := (hb.cell (World.block_lt_of_cell? _ _ (hHeld.2.2.2.2.2.1))).trans (hHeld.2.2.2.2.2.1)
                                have HS6_ := (hb.cell (World.block_lt_of_cell? _ _ (hHeld.2.2.2.2.2.2.1))).trans (hHeld.2.2.2.2.2.2.1)
                                have HS7_ := (hb.cell (World.block_lt_of_cell? _ _ (hHeld.2.2.2.2.2.2.2))).trans (hHeld.2.2.2.2.2.2.2)
                                have n0_ := Aside0.mk (Kd.R_below (Kd.R_elderB (zR HO_516001.out) gb529 (Nat.le_of_eq hg.symm)) hb)
                                have n1_ := Aside0.mk (Kd.R_below (zR HO_516002.out) hb)
                                have n2_ := Aside0.mk (blk_below (g := gb515) (o := .cells #[.int .i64 x516000_3, .slice (some ad528) x516001_3.length co41, u516002] 27 (0, 0)) (zK BK515.out) hb)
                                have n3_ := Aside0.mk (below_step (zL HB.out) hb)
                                have n4_ := Aside0.mk (hbox)
                                have n5_ := Aside0.mk (zG hg (zL HB.out))
                                have n6_ := Aside0.mk (zG hg (zL HB.out))
                                have n7_ := Aside0.mk (zN (g := gb515) (o := .cells #[.int .i64 x516000_3, .slice (some ad528) x516001_3.length co41, u516002] 27 (0, 0)) hg (zK BK515.out))
                                have n8_ := Aside0.mk (zO (g := gb515) (o := .cells #[.int .i64 x516000_3, .slice (some ad528) x516001_3.length co41, u516002] 27 (0, 0)) hg (zK BK515.out))
                                clear HO_516001
                                clear HO_516002
                                clear BK515
                                clear HB
                                have HO_516001 := n0_
                                have HO_516002 := n1_
                                have BK515 := n2_
                                have HB := n3_
                                have BK529 := n4_
                                have GW529 := n5_
                                have GE529 := n6_
                                have NB515_529 := n7_
                                have NB529_515 := n8_
                                clear n0_ n1_ n2_ n3_ n4_ n5_ n6_ n7_ n8_
                                clear hb hbox hg
                                refine hK.out _ _ ⟨(blk_cell BK515.out 0).trans rfl, (blk_cell BK515.out 1).trans rfl, (blk_cell BK515.out 2).trans rfl, HS3_, HS4_, HS5_, HS6_, HS7_⟩ (fun hHeld => ?_)
                                clear hK K
                                refine norm_ (a' := ?_) ?_ ?_
                                rotate_left
                                · show Act.put _ (some 17) _ = _
                                  simp only [Act.put, List.setIfInBounds_toArray, List.set_cons_zero, List.set_cons_succ, i64_w, i32_w]
                                  rfl
                                refine one_ (i := 6) (N := some 89) #[true, true, true, true, true, true, true, false, false, true, false] rfl rfl (one_of HT_.out (by kernel_rfl)) (by decide) (fun K hK => ?_)
                                refine goes_ Tryd.func13 (by kernel_rfl) rfl #[.int .i64 x16_30, .int .i64 (x516001_3.length : Int)] (by rfl) rfl rfl zA ?_
                                with_reducible refine (cooperagelaw16_pick.calls x16_30 (x516001_3.length : Int) t527 _ A34.out).mono ?_
                                rintro e w' ⟨rfl, ⟨nd, rfl⟩⟩
                                refine ⟨_, rfl, ?_⟩
                                refine hK.out _ _ ⟨(blk_cell BK515.out 0).trans rfl, (blk_cell BK515.out 1).trans rfl, (blk_cell BK515.out 2).trans rfl, hHeld.2.2.2.1, hHeld.2.2.2.2.1, hHeld.2.2.2.2.2.1, hHeld.2.2.2.2.2.2.1, hHeld.2.2.2.2.2.2.2⟩ (fun hHeld => ?_)
                                clear hK K
                                refine norm_ (a' := ?_) ?_ ?_
                                rotate_left
                                · show Act.put _ (some 89) _ = _
                                  simp only [Act.put, List.setIfInBounds_toArray, List.set_cons_zero, List.set_cons_succ, i64_w, i32_w]
                                  rfl
                                refine pure_ (i := 7) (N := some 90) (v := ?_) (a' := ?_) #[true, true, true, true, true, true, true, true, false, true, false] rfl rfl (any_of HT_.out (by kernel_rfl)) (fun _ _ _ h => h) (Or.inl ⟨by rfl, ?_⟩) ?_ ?_
                                rotate_left
                                · intro w'
                                  go_simp
                                  with_reducible rfl
                                rotate_left
                                · simp only [Act.put, List.setIfInBounds_toArray, List.set_cons_zero, List.set_cons_succ, i64_w, i32_w]
                                  rfl
                                refine take_ (i := 8) (N := some 91) (v := ?_) (a' := ?_) #[true, true, true, true, true, true, true, true, true, true, false] rfl rfl (take_ofW HT_.out HW_.out (by kernel_rfl)) (fun _ _ _ h => h) (Or.inl ⟨by rfl, ?_⟩) hHeld ?_ ?_
                                rotate_left
                                · rintro w' ⟨s0, s1, s2, s3, s4, s5, s6, s7⟩
                                  go_simp
                                  with_reducible rfl
                                rotate_left
                                · simp only [Act.put, List.setIfInBounds_toArray, List.set_cons_zero, List.set_cons_succ, i64_w, i32_w]
                                  rfl
                                exact norm_ (by simp only [putAll, Act.put, List.setIfInBounds_toArray, List.set_cons_zero, List.set_cons_succ]) (hCont (gb529) _ ⟨hHeld, (by (with_reducible repeat (first | apply Kd.R_alloc | apply Kd.R_drewN | apply Kd.R_drew)); exact Kd.R_mono HO_516001.out (fun _ hk => hk.2)), (zR HO_516002.out), (zK BK515.out), (zK BK529.out), GW529.out, GE529.out, NB515_529.out, NB529_515.out, (zL HB.out)⟩)
                            rintro gb529 w43 ⟨hS_, h0_, h1_, h2_, h3_, h4_, h5_, h6_, h7_, h8_⟩
                            have n0_ : Aside0 (Kd.R k34 34 w43 w.heap.size (fun k_ => k_ ≠ gb529) (.slice (some ad528) x516001_3.length co41) x516001_3) := ⟨h0_⟩
                            have n1_ : Aside0 (Kd.R k32 32 w43 w.heap.size (fun _ => True) u516002 x516002_3) := ⟨h1_⟩
                            have n2_ : Aside0 (w43.heap[gb515]? = some (.cells #[.int .i64 x516000_3, .slice (some ad528) x516001_3.length co41, u516002] 27 (0, 0))) := ⟨h2_⟩
                            have n3_ : Aside0 (w43.heap[gb529]? = some (.cells #[.int .i64 0, .string (⟨#[]⟩ : ByteArray), .bool false, .int .i64 0, .int .i64 0] 34 (0, 0))) := ⟨h3_⟩
                            have n4_ : Aside0 (w.heap.size ≤ gb529) := ⟨h4_⟩
                            have n5_ : Aside0 (w.heap.size ≤ gb529) := ⟨h5_⟩
                            have n6_ : Aside0 (gb515 ≠ gb529) := ⟨h6_⟩
                            have n7_ : Aside0 (gb529 ≠ gb515) := ⟨h7_⟩
                            have n8_ : Aside0 (Below w.heap.size w w43) := ⟨h8_⟩
                            clear HO_516001
                            clear HO_516002
                            clear BK515
                            clear HB
                            clear h0_ h1_ h2_ h3_ h4_ h5_ h6_ h7_ h8_
                            have HO_516001 := n0_
                            have HO_516002 := n1_
                            have BK515 := n2_
                            have BK529 := n3_
                            have GW529 := n4_
                            have GE529 := n5_
                            have NB515_529 := n6_
                            have NB529_515 := n7_
                            have HB := n8_
                            clear n0_ n1_ n2_ n3_ n4_ n5_ n6_ n7_ n8_
                            have hHeld : w43.cell? ⟨gb515, 0, none⟩ = some (.int .i64 x516000_3) ∧ w43.cell? ⟨gb515, 1, none⟩ = some (.slice (some ad528) x516001_3.length co41) ∧ w43.cell? ⟨gb515, 2, none⟩ = some (u516002) ∧ w43.cell? (ad528.add ((t527).toNat * 5)) = some (.int .i64 ((rd_T34 x516001_3 t527).f0)) ∧ w43.cell? ⟨(ad528.add ((t527).toNat * 5)).block, (ad528.add ((t527).toNat * 5)).off + 1, none⟩ = some (.string ((rd_T34 x516001_3 t527).f1)) ∧ w43.cell? ⟨(ad528.add ((t527).toNat * 5)).block, (ad528.add ((t527).toNat * 5)).off + 2, none⟩ = some (.bool ((rd_T34 x516001_3 t527).f2)) ∧ w43.cell? ⟨(ad528.add ((t527).toNat * 5)).block, (ad528.add ((t527).toNat * 5)).off + 3, none⟩ = some (.int .i64 ((rd_T34 x516001_3 t527).f3)) ∧ w43.cell? ⟨(ad528.add ((t527).toNat * 5)).block, (ad528.add ((t527).toNat * 5)).off + 4, none⟩ = some (.int .i64 ((rd_T34 x516001_3 t527).f4)) := hS_
                            refine norm_ (a' := ?_) ?_ ?_
                            rotate_left
                            · simp only [putAll, Act.put, List.setIfInBounds_toArray, List.set_cons_zero, List.set_cons_succ]
                              rfl
                            refine one_ (i := 10) (N := none) #[true, true, true, true, true, true, true, true, true, true, true] rfl rfl (one_of HT_.out (by kernel_rfl)) (by decide) (fun K hK => ?_)
                            have hs44 : w43.cell? ⟨gb529, 0, none⟩ = some (.int .i64 0) := (blk_cell BK529.out 0).trans rfl
                            have hfs44 := blk_frozen BK529.out 0
                            have hns44_0 := NB515_529.out
                            have hms44_0 := NB529_515.out
                            have hs45 : w43.cell? ⟨gb529, 1, none⟩ = some (.string (⟨#[]⟩ : ByteArray)) := (blk_cell BK529.out 1).trans rfl
                            have hfs45 := blk_frozen BK529.out 1
                            have hns45_0 := NB515_529.out
                            have hms45_0 := NB529_515.out
                            have hs46 : w43.cell? ⟨gb529, 2, none⟩ = some (.bool false) := (blk_cell BK529.out 2).trans rfl
                            have hfs46 := blk_frozen BK529.out 2
                            have hns46_0 := NB515_529.out
                            have hms46_0 := NB529_515.out
                            have hs47 : w43.cell? ⟨gb529, 3, none⟩ = some (.int .i64 0) := (blk_cell BK529.out 3).trans rfl
                            have hfs47 := blk_frozen BK529.out 3
                            have hns47_0 := NB515_529.out
                            have hms47_0 := NB529_515.out
                            have hs48 : w43.cell? ⟨gb529, 4, none⟩ = some (.int .i64 0) := (blk_cell BK529.out 4).trans rfl
                            have hfs48 := blk_frozen BK529.out 4
                            have hns48_0 := NB515_529.out
                            have hms48_0 := NB529_515.out
                            refine skip_ (w1 := ?_) (by rfl) rfl ?_ ?_
                            rotate_left
                            · go_simp
                              rfl
                            refine hK.out _ _ ⟨((cell_far (p := ⟨gb529, _, none⟩) NB515_529.out _).trans (((cell_far (p := ⟨gb529, _, none⟩) NB515_529.out _).trans (((cell_far (p := ⟨gb529, _, none⟩) NB515_529.out _).trans (((cell_far (p := ⟨gb529, _, none⟩) NB515_529.out _).trans (((cell_far (p := ⟨gb529, _, none⟩) NB515_529.out _).trans (hHeld.1)))))))))), ((cell_far (p := ⟨gb529, _, none⟩) NB515_529.out _).trans (((cell_far (p := ⟨gb529, _, none⟩) NB515_529.out _).trans (((cell_far (p := ⟨gb529, _, none⟩) NB515_529.out _).trans (((cell_far (p := ⟨gb529, _, none⟩) NB515_529.out _).trans (((cell_far (p := ⟨gb529, _, none⟩) NB515_529.out _).trans (hHeld.2.1)))))))))), ((cell_far (p := ⟨gb529, _, none⟩) NB515_529.out _).trans (((cell_far (p := ⟨gb529, _, none⟩) NB515_529.out _).trans (((cell_far (p := ⟨gb529, _, none⟩) NB515_529.out _).trans (((cell_far (p := ⟨gb529, _, none⟩) NB515_529.out _).trans (((cell_far (p := ⟨gb529, _, none⟩) NB515_529.out _).trans (hHeld.2.2.1)))))))))), ((cell_far (p := ⟨gb529, _, none⟩) (by first | exact Kd.own_blk (Kd.R_away HO_516001.out (fun _ hk => hk)) | (rw [add_block]; exact Kd.own_blk (Kd.R_away HO_516001.out (fun _ hk => hk))) | (show (Addr.add _ _).block ≠ _; rw [add_block]; exact Kd.own_blk (Kd.R_away HO_516001.out (fun _ hk => hk))) | (dsimp only; exact Kd.own_blk (Kd.R_away HO_516001.out (fun _ hk => hk)))) _).trans (((cell_far (p := ⟨gb529, _, none⟩) (by first | exact Kd.own_blk (Kd.R_away HO_516001.out (fun _ hk => hk)) | (rw [add_block]; exact Kd.own_blk (Kd.R_away HO_516001.out (fun _ hk => hk))) | (show (Addr.add _ _).block ≠ _; rw [add_block]; exact Kd.own_blk (Kd.R_away HO_516001.out (fun _ hk => hk))) | (dsimp only; exact Kd.own_blk (Kd.R_away HO_516001.out (fun _ hk => hk)))) _).trans (((cell_far (p := ⟨gb529, _, none⟩) (by first | exact Kd.own_blk (Kd.R_away HO_516001.out (fun _ hk => hk)) | (rw [add_block]; exact Kd.own_blk (Kd.R_away HO_516001.out (fun _ hk => hk))) | (show (Addr.add _ _).block ≠ _; rw [add_block]; exact Kd.own_blk (Kd.R_away HO_516001.out (fun _ hk => hk))) | (dsimp only; exact Kd.own_blk (Kd.R_away HO_516001.out (fun _ hk => hk)))) _).trans (((cell_far (p := ⟨gb529, _, none⟩) (by first | exact Kd.own_blk (Kd.R_away HO_516001.out (fun _ hk => hk)) | (rw [add_block]; exact Kd.own_blk (Kd.R_away HO_516001.out (fun _ hk => hk))) | (show (Addr.add _ _).block ≠ _; rw [add_block]; exact Kd.own_blk (Kd.R_away HO_516001.out (fun _ hk => hk))) | (dsimp only; exact Kd.own_blk (Kd.R_away HO_516001.out (fun _ hk => hk)))) _).trans (((cell_far (p := ⟨gb529, _, none⟩) (by first | exact Kd.own_blk (Kd.R_away HO_516001.out (fun _ hk => hk)) | (rw [add_block]; exact Kd.own_blk (Kd.R_away HO_516001.out (fun _ hk => hk))) | (show (Addr.add _ _).block ≠ _; rw [add_block]; exact Kd.own_blk (Kd.R_away HO_516001.out (fun _ hk => hk))) | (dsimp only; exact Kd.own_blk (Kd.R_away HO_516001.out (fun _ hk => hk)))) _).trans (hHeld.2.2.2.1)))))))))), ((cell_far (p := ⟨gb529, _, none⟩) (by first | exact Kd.own_blk (Kd.R_away HO_516001.out (fun _ hk => hk)) | (rw [add_block]; exact Kd.own_blk (Kd.R_away HO_516001.out (fun _ hk => hk))) | (show (Addr.add _ _).block ≠ _; rw [add_block]; exact Kd.own_blk (Kd.R_away HO_516001.out (fun _ hk => hk))) | (dsimp only; exact Kd.own_blk (Kd.R_away HO_516001.out (fun _ hk => hk)))) _).trans (((cell_far (p := ⟨gb529, _, none⟩) (by first | exact Kd.own_blk (Kd.R_away HO_516001.out (fun _ hk => hk)) | (rw [add_block]; exact Kd.own_blk (Kd.R_away HO_516001.out (fun _ hk => hk))) | (show (Addr.add _ _).block ≠ _; rw [add_block]; exact Kd.own_blk (Kd.R_away HO_516001.out (fun _ hk => hk))) | (dsimp only; exact Kd.own_blk (Kd.R_away HO_516001.out (fun _ hk => hk)))) _).trans (((cell_far (p := ⟨gb529, _, none⟩) (by first | exact Kd.own_blk (Kd.R_away HO_516001.out (fun _ hk => hk)) | (rw [add_block]; exact Kd.own_blk (Kd.R_away HO_516001.out (fun _ hk => hk))) | (show (Addr.add _ _).block ≠ _; rw [add_block]; exact Kd.own_blk (Kd.R_away HO_516001.out (fun _ hk => hk))) | (dsimp only; exact Kd.own_blk (Kd.R_away HO_516001.out (fun _ hk => hk)))) _).trans (((cell_far (p := ⟨gb529, _, none⟩) (by first | exact Kd.own_blk (Kd.R_away HO_516001.out (fun _ hk => hk)) | (rw [add_block]; exact Kd.own_blk (Kd.R_away HO_516001.out (fun _ hk => hk))) | (show (Addr.add _ _).block ≠ _; rw [add_block]; exact Kd.own_blk (Kd.R_away HO_516001.out (fun _ hk => hk))) | (dsimp only; exact Kd.own_blk (Kd.R_away HO_516001.out (fun _ hk => hk)))) _).trans (((cell_far (p := ⟨gb529, _, none⟩) (by first | exact Kd.own_blk (Kd.R_away HO_516001.out (fun _ hk => hk)) | (rw [add_block]; exact Kd.own_blk (Kd.R_away HO_516001.out (fun _ hk => hk))) | (show (Addr.add _ _).block ≠ _; rw [add_block]; exact Kd.own_blk (Kd.R_away HO_516001.out (fun _ hk => hk))) | (dsimp only; exact Kd.own_blk (Kd.R_away HO_516001.out (fun _ hk => hk)))) _).trans (hHeld.2.2.2.2.1)))))))))), ((cell_far (p := ⟨gb529, _, none⟩) (by first | exact Kd.own_blk (Kd.R_away HO_516001.out (fun _ hk => hk)) | (rw [add_block]; exact Kd.own_blk (Kd.R_away HO_516001.out (fun _ hk => hk))) | (show (Addr.add _ _).block ≠ _; rw [add_block]; exact Kd.own_blk (Kd.R_away HO_516001.out (fun _ hk => hk))) | (dsimp only; exact Kd.own_blk (Kd.R_away HO_516001.out (fun _ hk => hk)))) _).trans (((cell_far (p := ⟨gb529, _, none⟩) (by first | exact Kd.own_blk (Kd.R_away HO_516001.out (fun _ hk => hk)) | (rw [add_block]; exact Kd.own_blk (Kd.R_away HO_516001.out (fun _ hk => hk))) | (show (Addr.add _ _).block ≠ _; rw [add_block]; exact Kd.own_blk (Kd.R_away HO_516001.out (fun _ hk => hk))) | (dsimp only; exact Kd.own_blk (Kd.R_away HO_516001.out (fun _ hk => hk)))) _).trans (((cell_far (p := ⟨gb529, _, none⟩) (by first | exact Kd.own_blk (Kd.R_away HO_516001.out (fun _ hk => hk)) | (rw [add_block]; exact Kd.own_blk (Kd.R_away HO_516001.out (fun _ hk => hk))) | (show (Addr.add _ _).block ≠ _; rw [add_block]; exact Kd.own_blk (Kd.R_away HO_516001.out (fun _ hk => hk))) | (dsimp only; exact Kd.own_blk (Kd.R_away HO_516001.out (fun _ hk => hk)))) _).trans (((cell_far (p := ⟨gb529, _, none⟩) (by first | exact Kd.own_blk (Kd.R_away HO_516001.out (fun _ hk => hk)) | (rw [add_block]; exact Kd.own_blk (Kd.R_away HO_516001.out (fun _ hk => hk))) | (show (Addr.add _ _).block ≠ _; rw [add_block]; exact Kd.own_blk (Kd.R_away HO_516001.out (fun _ hk => hk))) | (dsimp only; exact Kd.own_blk (Kd.R_away HO_516001.out (fun _ hk => hk)))) _).trans (((cell_far (p := ⟨gb529, _, none⟩) (by first | exact Kd.own_blk (Kd.R_away HO_516001.out (fun _ hk => hk)) | (rw [add_block]; exact Kd.own_blk (Kd.R_away HO_516001.out (fun _ hk => hk))) | (show (Addr.add _ _).block ≠ _; rw [add_block]; exact Kd.own_blk (Kd.R_away HO_516001.out (fun _ hk => hk))) | (dsimp only; exact Kd.own_blk (Kd.R_away HO_516001.out (fun _ hk => hk)))) _).trans (hHeld.2.2.2.2.2.1)))))))))), ((cell_far (p := ⟨gb529, _, none⟩) (by first | exact Kd.own_blk (Kd.R_away HO_516001.out (fun _ hk => hk)) | (rw [add_block]; exact Kd.own_blk (Kd.R_away HO_516001.out (fun _ hk => hk))) | (show (Addr.add _ _).block ≠ _; rw [add_block]; exact Kd.own_blk (Kd.R_away HO_516001.out (fun _ hk => hk))) | (dsimp only; exact Kd.own_blk (Kd.R_away HO_516001.out (fun _ hk => hk)))) _).trans (((cell_far (p := ⟨gb529, _, none⟩) (by first | exact Kd.own_blk (Kd.R_away HO_516001.out (fun _ hk => hk)) | (rw [add_block]; exact Kd.own_blk (Kd.R_away HO_516001.out (fun _ hk => hk))) | (show (Addr.add _ _).block ≠ _; rw [add_block]; exact Kd.own_blk (Kd.R_away HO_516001.out (fun _ hk => hk))) | (dsimp only; exact Kd.own_blk (Kd.R_away HO_516001.out (fun _ hk => hk)))) _).trans (((cell_far (p := ⟨gb529, _, none⟩) (by first | exact Kd.own_blk (Kd.R_away HO_516001.out (fun _ hk => hk)) | (rw [add_block]; exact Kd.own_blk (Kd.R_away HO_516001.out (fun _ hk => hk))) | (show (Addr.add _ _).block ≠ _; rw [add_block]; exact Kd.own_blk (Kd.R_away HO_516001.out (fun _ hk => hk))) | (dsimp only; exact Kd.own_blk (Kd.R_away HO_516001.out (fun _ hk => hk)))) _).trans (((cell_far (p := ⟨gb529, _, none⟩) (by first | exact Kd.own_blk (Kd.R_away HO_516001.out (fun _ hk => hk)) | (rw [add_block]; exact Kd.own_blk (Kd.R_away HO_516001.out (fun _ hk => hk))) | (show (Addr.add _ _).block ≠ _; rw [add_block]; exact Kd.own_blk (Kd.R_away HO_516001.out (fun _ hk => hk))) | (dsimp only; exact Kd.own_blk (Kd.R_away HO_516001.out (fun _ hk => hk)))) _).trans (((cell_far (p := ⟨gb529, _, none⟩) (by first | exact Kd.own_blk (Kd.R_away HO_516001.out (fun _ hk => hk)) | (rw [add_block]; exact Kd.own_blk (Kd.R_away HO_516001.out (fun _ hk => hk))) | (show (Addr.add _ _).block ≠ _; rw [add_block]; exact Kd.own_blk (Kd.R_away HO_516001.out (fun _ hk => hk))) | (dsimp only; exact Kd.own_blk (Kd.R_away HO_516001.out (fun _ hk => hk)))) _).trans (hHeld.2.2.2.2.2.2.1)))))))))), ((cell_far (p := ⟨gb529, _, none⟩) (by first | exact Kd.own_blk (Kd.R_away HO_516001.out (fun _ hk => hk)) | (rw [add_block]; exact Kd.own_blk (Kd.R_away HO_516001.out (fun _ hk => hk))) | (show (Addr.add _ _).block ≠ _; rw [add_block]; exact Kd.own_blk (Kd.R_away HO_516001.out (fun _ hk => hk))) | (dsimp only; exact Kd.own_blk (Kd.R_away HO_516001.out (fun _ hk => hk)))) _).trans (((cell_far (p := ⟨gb529, _, none⟩) (by first | exact Kd.own_blk (Kd.R_away HO_516001.out (fun _ hk => hk)) | (rw [add_block]; exact Kd.own_blk (Kd.R_away HO_516001.out (fun _ hk => hk))) | (show (Addr.add _ _).block ≠ _; rw [add_block]; exact Kd.own_blk (Kd.R_away HO_516001.out (fun _ hk => hk))) | (dsimp only; exact Kd.own_blk (Kd.R_away HO_516001.out (fun _ hk => hk)))) _).trans (((cell_far (p := ⟨gb529, _, none⟩) (by first | exact Kd.own_blk (Kd.R_away HO_516001.out (fun _ hk => hk)) | (rw [add_block]; exact Kd.own_blk (Kd.R_away HO_516001.out (fun _ hk => hk))) | (show (Addr.add _ _).block ≠ _; rw [add_block]; exact Kd.own_blk (Kd.R_away HO_516001.out (fun _ hk => hk))) | (dsimp only; exact Kd.own_blk (Kd.R_away HO_516001.out (fun _ hk => hk)))) _).trans (((cell_far (p := ⟨gb529, _, none⟩) (by first | exact Kd.own_blk (Kd.R_away HO_516001.out (fun _ hk => hk)) | (rw [add_block]; exact Kd.own_blk (Kd.R_away HO_516001.out (fun _ hk => hk))) | (show (Addr.add _ _).block ≠ _; rw [add_block]; exact Kd.own_blk (Kd.R_away HO_516001.out (fun _ hk => hk))) | (dsimp only; exact Kd.own_blk (Kd.R_away HO_516001.out (fun _ hk => hk)))) _).trans (((cell_far (p := ⟨gb529, _, none⟩) (by first | exact Kd.own_blk (Kd.R_away HO_516001.out (fun _ hk => hk)) | (rw [add_block]; exact Kd.own_blk (Kd.R_away HO_516001.out (fun _ hk => hk))) | (show (Addr.add _ _).block ≠ _; rw [add_block]; exact Kd.own_blk (Kd.R_away HO_516001.out (fun _ hk => hk))) | (dsimp only; exact Kd.own_blk (Kd.R_away HO_516001.out (fun _ hk => hk)))) _).trans (hHeld.2.2.2.2.2.2.2))))))))))⟩ (fun hHeld => ?_)
                            clear hK K
                            refine done_ (done_of HT_.out (by kernel_rfl)) ?_
                            have hnb49 := NB515_529.out
                            have hnc49 := NB529_515.out
                            have hcz50_0 : w43.cell? ⟨gb515, 0, none⟩ = some (.int .i64 x516000_3) := (blk_cell BK515.out 0).trans rfl
                            have hcz50_1 : w43.cell? ⟨gb515, 1, none⟩ = some (.slice (some ad528) x516001_3.length co41) := (blk_cell BK515.out 1).trans rfl
                            have hcz50_2 : w43.cell? ⟨gb515, 2, none⟩ = some (u516002) := (blk_cell BK515.out 2).trans rfl
                            have hfz50_0 := blk_frozen BK515.out 0
                            have hfz50_1 := blk_frozen BK515.out 1
                            have hfz50_2 := blk_frozen BK515.out 2
                            obtain ⟨Ao51, co51, eo51⟩ := Kd.R_slice HO_516002.out
                            subst eo51
                            go_upto_region 23 with (first | ((with_reducible refine gate_callee (f := 14) rfl ?_); refine goesL_ (some 96) rfl rfl Tryd.func14 (by kernel_rfl) rfl #[.agg #[.int .i64 x516000_3, .slice (some ad528) x516001_3.length co41, .slice Ao51 x516002_3.length co51], .int .i64 (wrap64 ((wrap64 (1 + t513)) + 1)), .string (⟨#[120]⟩ : ByteArray)] rfl zA ?_; (with_reducible refine (lease_Held.calls kj30 x516000_3 _ _ x516001_3 _ _ x516002_3 (wrap64 ((wrap64 (1 + t513)) + 1)) (⟨#[120]⟩ : ByteArray) t530 t531 t532 t533 t534 t535 _ ?side1 ?side2 ?side3 ?side4 A37.out).mono ?_); (case side1 => refine (Kd.R_reads' (e := 34) (base := w.heap.size) (ok := fun k_ => k_ ≠ gb529) (n := x516001_3.length) (c := co41) ?_).2.2; exact (zM HO_516001.out (g := gb529) (fun _ hk => hk))); (case side2 => exact (Kd.R_reads' HO_516001.out).2.1); (case side3 => refine (Kd.R_reads' (e := 32) (base := w.heap.size) (ok := fun k_ => True) (n := x516002_3.length) (c := co51) ?_).2.2; exact (zT HO_516002.out BK529.out)); (case side4 => exact (Kd.R_reads' HO_516002.out).2.1); rintro e w52 ⟨rfl, hb⟩; refine ⟨_, rfl, ?_⟩; have n0_ := Aside0.mk (Kd.R_below (zM HO_516001.out (g := gb529) (fun _ hk => hk)) hb); have n1_ := Aside0.mk (Kd.R_below (zT HO_516002.out BK529.out) hb); have n2_ := Aside0.mk (blk_below (g := gb515) (o := .cells #[.int .i64 x516000_3, .slice (some ad528) x516001_3.length co41, .slice Ao51 x516002_3.length co51] 27 (0, 0)) (zK BK515.out) hb); have n3_ := Aside0.mk (blk_below (g := gb529) (o := .cells #[.int .i64 ((rd_T34 x516001_3 t527).f0), .string ((rd_T34 x516001_3 t527).f1), .bool ((rd_T34 x516001_3 t527).f2), .int .i64 ((rd_T34 x516001_3 t527).f3), .int .i64 ((rd_T34 x516001_3 t527).f4)] 34 (0, 0)) (by (with_reducible repeat (first | refine blk_drewN ?_ _ | refine blk_drew ?_ | refine blk_alloc ?_ _)); refine blk_put (cs := #[.int .i64 ((rd_T34 x516001_3 t527).f0), .string ((rd_T34 x516001_3 t527).f1), .bool ((rd_T34 x516001_3 t527).f2), .int .i64 ((rd_T34 x516001_3 t527).f3), .int .i64 0]) ?_ 4 _ rfl; (with_reducible repeat (first | refine blk_drewN ?_ _ | refine blk_drew ?_ | refine blk_alloc ?_ _)); refine blk_put (cs := #[.int .i64 ((rd_T34 x516001_3 t527).f0), .string ((rd_T34 x516001_3 t527).f1), .bool ((rd_T34 x516001_3 t527).f2), .int .i64 0, .int .i64 0]) ?_ 3 _ rfl; (with_reducible repeat (first | refine blk_drewN ?_ _ | refine blk_drew ?_ | refine blk_alloc ?_ _)); refine blk_put (cs := #[.int .i64 ((rd_T34 x516001_3 t527).f0), .string ((rd_T34 x516001_3 t527).f1), .bool false, .int .i64 0, .int .i64 0]) ?_ 2 _ rfl; (with_reducible repeat (first | refine blk_drewN ?_ _ | refine blk_drew ?_ | refine blk_alloc ?_ _)); refine blk_put (cs := #[.int .i64 ((rd_T34 x516001_3 t527).f0), .string (⟨#[]⟩ : ByteArray), .bool false, .int .i64 0, .int .i64 0]) ?_ 1 _ rfl; (with_reducible repeat (first | refine blk_drewN ?_ _ | refine blk_drew ?_ | refine blk_alloc ?_ _)); refine blk_put (cs := #[.int .i64 0, .string (⟨#[]⟩ : ByteArray), .bool false, .int .i64 0, .int .i64 0]) ?_ 0 _ rfl; (with_reducible repeat (first | refine blk_drewN ?_ _ | refine blk_drew ?_ | refine blk_alloc ?_ _)); exact BK529.out) hb); have n4_ := Aside0.mk (below_step (zL HB.out) hb); clear HO_516001; clear HO_516002; clear BK515; clear BK529; clear HB; have HO_516001 := n0_; have HO_516002 := n1_; have BK515 := n2_; have BK529 := n3_; have HB := n4_; clear n0_ n1_ n2_ n3_ n4_; (try clear hb); (try clear hb2); (try clear hk); (try clear hi)) | ((with_reducible refine gate_dst (N := 18) rfl ?_); (try (refine gate_guard (by rfl) ?_; dsimp only)); refine box_event ?hg (N := 18) ?hd (cs := #[.int .i64 0, .string (⟨#[]⟩ : ByteArray), .bool false, .int .i64 0, .int .i64 0]) (t := 34) ?hr ?_; (case hd => rfl); (case hg => rfl); (case hr => first | (go_simp; done) | (go_simp; rfl)); intro gb536 hg w53 hbox hb; have n0_ := Aside0.mk (Kd.R_below (Kd.R_elderB (zR HO_516001.out) gb536 (Nat.le_of_eq hg.symm)) hb); have n1_ := Aside0.mk (Kd.R_below (zR HO_516002.out) hb); have n2_ := Aside0.mk (blk_below (g := gb515) (o := .cells #[.int .i64 x516000_3, .slice (some ad528) x516001_3.length co41, .slice Ao51 x516002_3.length co51] 27 (0, 0)) (zK BK515.out) hb); have n3_ := Aside0.mk (blk_below (g := gb529) (o := .cells #[.int .i64 ((rd_T34 x516001_3 t527).f0), .string ((rd_T34 x516001_3 t527).f1), .bool ((rd_T34 x516001_3 t527).f2), .int .i64 ((rd_T34 x516001_3 t527).f3), .int .i64 ((rd_T34 x516001_3 t527).f4)] 34 (0, 0)) (zK BK529.out) hb); have n4_ := Aside0.mk (below_step (zL HB.out) hb); have n5_ := Aside0.mk (hbox); have n6_ := Aside0.mk (zG hg (zL HB.out)); have n7_ := Aside0.mk (zG hg (zL HB.out)); have n8_ := Aside0.mk (zN (g := gb515) (o := .cells #[.int .i64 x516000_3, .slice (some ad528) x516001_3.length co41, .slice Ao51 x516002_3.length co51] 27 (0, 0)) hg (zK BK515.out)); have n9_ := Aside0.mk (zO (g := gb515) (o := .cells #[.int .i64 x516000_3, .slice (some ad528) x516001_3.length co41, .slice Ao51 x516002_3.length co51] 27 (0, 0)) hg (zK BK515.out)); have n10_ := Aside0.mk (zN (g := gb529) (o := .cells #[.int .i64 ((rd_T34 x516001_3 t527).f0), .string ((rd_T34 x516001_3 t527).f1), .bool ((rd_T34 x516001_3 t527).f2), .int .i64 ((rd_T34 x516001_3 t527).f3), .int .i64 ((rd_T34 x516001_3 t527).f4)] 34 (0, 0)) hg (zK BK529.out)); have n11_ := Aside0.mk (zO (g := gb529) (o := .cells #[.int .i64 ((rd_T34 x516001_3 t527).f0), .string ((rd_T34 x516001_3 t527).f1), .bool ((rd_T34 x516001_3 t527).f2), .int .i64 ((rd_T34 x516001_3 t527).f3), .int .i64 ((rd_T34 x516001_3 t527).f4)] 34 (0, 0)) hg (zK BK529.out)); clear HO_516001; clear HO_516002; clear BK515; clear BK529; clear HB; have HO_516001 := n0_; have HO_516002 := n1_; have BK515 := n2_; have BK529 := n3_; have HB := n4_; have BK536 := n5_; have GW536 := n6_; have GE536 := n7_; have NB515_536 := n8_; have NB536_515 := n9_; have NB529_536 := n10_; have NB536_529 := n11_; clear n0_ n1_ n2_ n3_ n4_ n5_ n6_ n7_ n8_ n9_ n10_ n11_; clear hb hbox hg; have hnb54 := NB536_515.out; have hnc54 := NB515_536.out; have hnb55 := NB536_529.out; have hnc55 := NB529_536.out; have hcz56_0 : w53.cell? ⟨gb536, 0, none⟩ = some (.int .i64 0) := (blk_cell BK536.out 0).trans rfl; have hcz56_1 : w53.cell? ⟨gb536, 1, none⟩ = some (.string (⟨#[]⟩ : ByteArray)) := (blk_cell BK536.out 1).trans rfl; have hcz56_2 : w53.cell? ⟨gb536, 2, none⟩ = some (.bool false) := (blk_cell BK536.out 2).trans rfl; have hcz56_3 : w53.cell? ⟨gb536, 3, none⟩ = some (.int .i64 0) := (blk_cell BK536.out 3).trans rfl; have hcz56_4 : w53.cell? ⟨gb536, 4, none⟩ = some (.int .i64 0) := (blk_cell BK536.out 4).trans rfl; have hfz56_0 := blk_frozen BK536.out 0; have hfz56_1 := blk_frozen BK536.out 1; have hfz56_2 := blk_frozen BK536.out 2; have hfz56_3 := blk_frozen BK536.out 3; have hfz56_4 := blk_frozen BK536.out 4; have hcz57_0 : w53.cell? ⟨gb515, 0, none⟩ = some (.int .i64 x516000_3) := (blk_cell BK515.out 0).trans rfl; have hcz57_1 : w53.cell? ⟨gb515, 1, none⟩ = some (.slice (some ad528) x516001_3.length co41) := (blk_cell BK515.out 1).trans rfl; have hcz57_2 : w53.cell? ⟨gb515, 2, none⟩ = some (.slice Ao51 x516002_3.length co51) := (blk_cell BK515.out 2).trans rfl; have hfz57_0 := blk_frozen BK515.out 0; have hfz57_1 := blk_frozen BK515.out 1; have hfz57_2 := blk_frozen BK515.out 2; have hcz58_0 : w53.cell? ⟨gb529, 0, none⟩ = some (.int .i64 ((rd_T34 x516001_3 t527).f0)) := (blk_cell BK529.out 0).trans rfl; have hcz58_1 : w53.cell? ⟨gb529, 1, none⟩ = some (.string ((rd_T34 x516001_3 t527).f1)) := (blk_cell BK529.out 1).trans rfl; have hcz58_2 : w53.cell? ⟨gb529, 2, none⟩ = some (.bool ((rd_T34 x516001_3 t527).f2)) := (blk_cell BK529.out 2).trans rfl; have hcz58_3 : w53.cell? ⟨gb529, 3, none⟩ = some (.int .i64 ((rd_T34 x516001_3 t527).f3)) := (blk_cell BK529.out 3).trans rfl; have hcz58_4 : w53.cell? ⟨gb529, 4, none⟩ = some (.int .i64 ((rd_T34 x516001_3 t527).f4)) := (blk_cell BK529.out 4).trans rfl; have hfz58_0 := blk_frozen BK529.out 0; have hfz58_1 := blk_frozen BK529.out 1; have hfz58_2 := blk_frozen BK529.out 2; have hfz58_3 := blk_frozen BK529.out 3; have hfz58_4 := blk_frozen BK529.out 4) | ((with_reducible refine gate_callee (f := 12) rfl ?_); refine goesL_ (some 105) rfl rfl Tryd.func12 (by kernel_rfl) rfl #[.agg #[.int .i64 x516000_3, .slice (some ad528) x516001_3.length co41, .slice Ao51 x516002_3.length co51], .int .i64 ((rd_T34 x516001_3 t527).f0), .string (⟨#[120]⟩ : ByteArray), .int .i64 ((rd_T34 x516001_3 t527).f3), .int .i64 1] rfl zA ?_; (with_reducible refine (lease_Give.calls kj30 x516000_3 _ _ x516001_3 _ _ x516002_3 ((rd_T34 x516001_3 t527).f0) (⟨#[120]⟩ : ByteArray) ((rd_T34 x516001_3 t527).f3) 1 t537 t538 t541 t544 _ ?side1 ?side2 ?side3 ?side4 A38.out).mono ?_); (case side1 => refine (Kd.R_reads' (e := 34) (base := w.heap.size) (ok := fun k_ => (k_ ≠ gb529 ∧ k_ ≠ gb536)) (n := x516001_3.length) (c := co41) ?_).2.2; exact (zM HO_516001.out (g := gb536) (fun _ hk => hk.2))); (case side2 => exact (Kd.R_reads' HO_516001.out).2.1); (case side3 => refine (Kd.R_reads' (e := 32) (base := w.heap.size) (ok := fun k_ => True) (n := x516002_3.length) (c := co51) ?_).2.2; exact (zT HO_516002.out BK536.out)); (case side4 => exact (Kd.R_reads' HO_516002.out).2.1); rintro e w59 ⟨v539, v542, rfl, ho0, ho1, hb⟩; refine ⟨_, rfl, ?_⟩; have n0_ := Aside0.mk (Kd.R_elder' (zM HO_516001.out (g := gb536) (fun _ hk => hk.2)) (Kd.R_base ho0) hb); have n1_ := Aside0.mk (Kd.R_elder' (zT HO_516002.out BK536.out) (Kd.R_base ho1) hb); have n2_ := Aside0.mk (Kd.R_lower (Kd.R_newB (Kd.R_newB (Kd.R_new' ho0 (Kd.R_lt (zM HO_516001.out (g := gb536) (fun _ hk => hk.2)))) (g := gb529) (o := .cells #[.int .i64 ((rd_T34 x516001_3 t527).f0), .string ((rd_T34 x516001_3 t527).f1), .bool ((rd_T34 x516001_3 t527).f2), .int .i64 ((rd_T34 x516001_3 t527).f3), .int .i64 ((rd_T34 x516001_3 t527).f4)] 34 (0, 0)) (zK BK529.out)) (g := gb536) (o := .cells #[.int .i64 t530, .string t531, .bool t532, .int .i64 t533, .int .i64 t534] 34 (0, 0)) (by (with_reducible repeat (first | refine blk_drewN ?_ _ | refine blk_drew ?_ | refine blk_alloc ?_ _)); refine blk_put (cs := #[.int .i64 t530, .string t531, .bool t532, .int .i64 t533, .int .i64 0]) ?_ 4 _ rfl; (with_reducible repeat (first | refine blk_drewN ?_ _ | refine blk_drew ?_ | refine blk_alloc ?_ _)); refine blk_put (cs := #[.int .i64 t530, .string t531, .bool t532, .int .i64 0, .int .i64 0]) ?_ 3 _ rfl; (with_reducible repeat (first | refine blk_drewN ?_ _ | refine blk_drew ?_ | refine blk_alloc ?_ _)); refine blk_put (cs := #[.int .i64 t530, .string t531, .bool false, .int .i64 0, .int .i64 0]) ?_ 2 _ rfl; (with_reducible repeat (first | refine blk_drewN ?_ _ | refine blk_drew ?_ | refine blk_alloc ?_ _)); refine blk_put (cs := #[.int .i64 t530, .string (⟨#[]⟩ : ByteArray), .bool false, .int .i64 0, .int .i64 0]) ?_ 1 _ rfl; (with_reducible repeat (first | refine blk_drewN ?_ _ | refine blk_drew ?_ | refine blk_alloc ?_ _)); refine blk_put (cs := #[.int .i64 0, .string (⟨#[]⟩ : ByteArray), .bool false, .int .i64 0, .int .i64 0]) ?_ 0 _ rfl; (with_reducible repeat (first | refine blk_drewN ?_ _ | refine blk_drew ?_ | refine blk_alloc ?_ _)); exact BK536.out)) (below_size (zL HB.out))); have n3_ := Aside0.mk (Kd.R_lower (Kd.R_new' ho1 (Kd.R_lt (zT HO_516002.out BK536.out))) (below_size (zL HB.out))); have n4_ := Aside0.mk (blk_below (g := gb515) (o := .cells #[.int .i64 x516000_3, .slice (some ad528) x516001_3.length co41, .slice Ao51 x516002_3.length co51] 27 (0, 0)) (zK BK515.out) hb); have n5_ := Aside0.mk (blk_below (g := gb529) (o := .cells #[.int .i64 ((rd_T34 x516001_3 t527).f0), .string ((rd_T34 x516001_3 t527).f1), .bool ((rd_T34 x516001_3 t527).f2), .int .i64 ((rd_T34 x516001_3 t527).f3), .int .i64 ((rd_T34 x516001_3 t527).f4)] 34 (0, 0)) (zK BK529.out) hb); have n6_ := Aside0.mk (blk_below (g := gb536) (o := .cells #[.int .i64 t530, .string t531, .bool t532, .int .i64 t533, .int .i64 t534] 34 (0, 0)) (by (with_reducible repeat (first | refine blk_drewN ?_ _ | refine blk_drew ?_ | refine blk_alloc ?_ _)); refine blk_put (cs := #[.int .i64 t530, .string t531, .bool t532, .int .i64 t533, .int .i64 0]) ?_ 4 _ rfl; (with_reducible repeat (first | refine blk_drewN ?_ _ | refine blk_drew ?_ | refine blk_alloc ?_ _)); refine blk_put (cs := #[.int .i64 t530, .string t531, .bool t532, .int .i64 0, .int .i64 0]) ?_ 3 _ rfl; (with_reducible repeat (first | refine blk_drewN ?_ _ | refine blk_drew ?_ | refine blk_alloc ?_ _)); refine blk_put (cs := #[.int .i64 t530, .string t531, .bool false, .int .i64 0, .int .i64 0]) ?_ 2 _ rfl; (with_reducible repeat (first | refine blk_drewN ?_ _ | refine blk_drew ?_ | refine blk_alloc ?_ _)); refine blk_put (cs := #[.int .i64 t530, .string (⟨#[]⟩ : ByteArray), .bool false, .int .i64 0, .int .i64 0]) ?_ 1 _ rfl; (with_reducible repeat (first | refine blk_drewN ?_ _ | refine blk_drew ?_ | refine blk_alloc ?_ _)); refine blk_put (cs := #[.int .i64 0, .string (⟨#[]⟩ : ByteArray), .bool false, .int .i64 0, .int .i64 0]) ?_ 0 _ rfl; (with_reducible repeat (first | refine blk_drewN ?_ _ | refine blk_drew ?_ | refine blk_alloc ?_ _)); exact BK536.out) hb); have n7_ := Aside0.mk (below_step (zL HB.out) hb); clear HO_516001; clear HO_516002; clear BK515; clear BK529; clear BK536; clear HB; have HO_516001 := n0_; have HO_516002 := n1_; have HO540 := n2_; have HO543 := n3_; have BK515 := n4_; have BK529 := n5_; have BK536 := n6_; have HB := n7_; clear n0_ n1_ n2_ n3_ n4_ n5_ n6_ n7_; (try clear hb); (try clear hb2); (try clear hk); (try clear hi); (try clear ho0); (try clear ho1)) | ((with_reducible refine gate_dst (N := 20) rfl ?_); (try (refine gate_guard (by rfl) ?_; dsimp only)); refine box_event ?hg (N := 20) ?hd (cs := #[.int .i64 0, .slice none 0 0, .slice none 0 0]) (t := 27) ?hr ?_; (case hd => rfl); (case hg => rfl); (case hr => first | (go_simp; done) | (go_simp; rfl)); intro gb545 hg w60 hbox hb; have n0_ := Aside0.mk (Kd.R_below (zR HO_516001.out) hb); have n1_ := Aside0.mk (Kd.R_below (zR HO_516002.out) hb); have n2_ := Aside0.mk (Kd.R_below (zR HO540.out) hb); have n3_ := Aside0.mk (Kd.R_below (zR HO543.out) hb); have n4_ := Aside0.mk (blk_below (g := gb515) (o := .cells #[.int .i64 x516000_3, .slice (some ad528) x516001_3.length co41, .slice Ao51 x516002_3.length co51] 27 (0, 0)) (zK BK515.out) hb); have n5_ := Aside0.mk (blk_below (g := gb529) (o := .cells #[.int .i64 ((rd_T34 x516001_3 t527).f0), .string ((rd_T34 x516001_3 t527).f1), .bool ((rd_T34 x516001_3 t527).f2), .int .i64 ((rd_T34 x516001_3 t527).f3), .int .i64 ((rd_T34 x516001_3 t527).f4)] 34 (0, 0)) (zK BK529.out) hb); have n6_ := Aside0.mk (blk_below (g := gb536) (o := .cells #[.int .i64 t530, .string t531, .bool t532, .int .i64 t533, .int .i64 t534] 34 (0, 0)) (zK BK536.out) hb); have n7_ := Aside0.mk (below_step (zL HB.out) hb); have n8_ := Aside0.mk (hbox); have n9_ := Aside0.mk (zG hg (zL HB.out)); have n10_ := Aside0.mk (zG hg (zL HB.out)); have n11_ := Aside0.mk (zN (g := gb515) (o := .cells #[.int .i64 x516000_3, .slice (some ad528) x516001_3.length co41, .slice Ao51 x516002_3.length co51] 27 (0, 0)) hg (zK BK515.out)); have n12_ := Aside0.mk (zO (g := gb515) (o := .cells #[.int .i64 x516000_3, .slice (some ad528) x516001_3.length co41, .slice Ao51 x516002_3.length co51] 27 (0, 0)) hg (zK BK515.out)); have n13_ := Aside0.mk (zN (g := gb529) (o := .cells #[.int .i64 ((rd_T34 x516001_3 t527).f0), .string ((rd_T34 x516001_3 t527).f1), .bool ((rd_T34 x516001_3 t527).f2), .int .i64 ((rd_T34 x516001_3 t527).f3), .int .i64 ((rd_T34 x516001_3 t527).f4)] 34 (0, 0)) hg (zK BK529.out)); have n14_ := Aside0.mk (zO (g := gb529) (o := .cells #[.int .i64 ((rd_T34 x516001_3 t527).f0), .string ((rd_T34 x516001_3 t527).f1), .bool ((rd_T34 x516001_3 t527).f2), .int .i64 ((rd_T34 x516001_3 t527).f3), .int .i64 ((rd_T34 x516001_3 t527).f4)] 34 (0, 0)) hg (zK BK529.out)); have n15_ := Aside0.mk (zN (g := gb536) (o := .cells #[.int .i64 t530, .string t531, .bool t532, .int .i64 t533, .int .i64 t534] 34 (0, 0)) hg (zK BK536.out)); have n16_ := Aside0.mk (zO (g := gb536) (o := .cells #[.int .i64 t530, .string t531, .bool t532, .int .i64 t533, .int .i64 t534] 34 (0, 0)) hg (zK BK536.out)); clear HO_516001; clear HO_516002; clear HO540; clear HO543; clear BK515; clear BK529; clear BK536; clear HB; have HO_516001 := n0_; have HO_516002 := n1_; have HO540 := n2_; have HO543 := n3_; have BK515 := n4_; have BK529 := n5_; have BK536 := n6_; have HB := n7_; have BK545 := n8_; have GW545 := n9_; have GE545 := n10_; have NB515_545 := n11_; have NB545_515 := n12_; have NB529_545 := n13_; have NB545_529 := n14_; have NB536_545 := n15_; have NB545_536 := n16_; clear n0_ n1_ n2_ n3_ n4_ n5_ n6_ n7_ n8_ n9_ n10_ n11_ n12_ n13_ n14_ n15_ n16_; clear hb hbox hg; have hnb61 := NB545_515.out; have hnc61 := NB515_545.out; have hnb62 := NB545_529.out; have hnc62 := NB529_545.out; have hnb63 := NB545_536.out; have hnc63 := NB536_545.out; have hcz64_0 : w60.cell? ⟨gb545, 0, none⟩ = some (.int .i64 0) := (blk_cell BK545.out 0).trans rfl; have hcz64_1 : w60.cell? ⟨gb545, 1, none⟩ = some (.slice none 0 0) := (blk_cell BK545.out 1).trans rfl; have hcz64_2 : w60.cell? ⟨gb545, 2, none⟩ = some (.slice none 0 0) := (blk_cell BK545.out 2).trans rfl; have hfz64_0 := blk_frozen BK545.out 0; have hfz64_1 := blk_frozen BK545.out 1; have hfz64_2 := blk_frozen BK545.out 2; obtain ⟨Ao65, co65, eo65⟩ := Kd.R_slice HO540.out; subst eo65; obtain ⟨Ao66, co66, eo66⟩ := Kd.R_slice HO543.out; subst eo66))
                            (try simp only [Act.put, List.setIfInBounds_toArray, List.set_cons_zero, List.set_cons_succ])
                            go_cut [112] (fun v112 wc => ∃ (kq : Nat) (x112_38 : Bool), v112 = .bool x112_38 ∧ Aside0 (cooperagelaw16_LeaseReaders.j5 kq l2 (wrap64 (1 + t513)) t514 x15_3 x112_38 t537 t538 t541 = some r) ∧ Aside0 (kq ≤ kj30) ∧ Aside0 (Kd.R k34 34 wc w.heap.size (fun k_ => some k_ ≠ ((.slice Ao65 t538.length co65) : Value).ownBlock ∧ k_ ≠ gb529 ∧ k_ ≠ gb536) (.slice (some ad528) x516001_3.length co41) x516001_3) ∧ Aside0 (Kd.R k32 32 wc w.heap.size (fun k_ => some k_ ≠ ((.slice Ao66 t541.length co66) : Value).ownBlock) (.slice Ao51 x516002_3.length co51) x516002_3) ∧ Aside0 (Kd.R k34 34 wc w.heap.size (fun k_ => some k_ ≠ ((.slice (some ad528) x516001_3.length co41) : Value).ownBlock ∧ k_ ≠ gb529 ∧ k_ ≠ gb536) (.slice Ao65 t538.length co65) t538) ∧ Aside0 (Kd.R k32 32 wc w.heap.size (fun k_ => some k_ ≠ ((.slice Ao51 x516002_3.length co51) : Value).ownBlock) (.slice Ao66 t541.length co66) t541) ∧ Aside0 (wc.heap[gb515]? = some (.cells #[.int .i64 x516000_3, (.slice (some ad528) x516001_3.length co41), (.slice Ao51 x516002_3.length co51)] 27 (0, 0))) ∧ Aside0 (wc.heap[gb529]? = some (.cells #[.int .i64 ((rd_T34 x516001_3 t527).f0), .string ((rd_T34 x516001_3 t527).f1), .bool ((rd_T34 x516001_3 t527).f2), .int .i64 ((rd_T34 x516001_3 t527).f3), .int .i64 ((rd_T34 x516001_3 t527).f4)] 34 (0, 0))) ∧ Aside0 (wc.heap[gb536]? = some (.cells #[.int .i64 t530, .string t531, .bool t532, .int .i64 t533, .int .i64 t534] 34 (0, 0))) ∧ Aside0 (wc.heap[gb545]? = some (.cells #[.int .i64 t537, (.slice Ao65 t538.length co65), (.slice Ao66 t541.length co66)] 27 (0, 0))) ∧ Aside0 (Below w.heap.size w wc))
                            case first =>
                              have H := HC39.out
                              clear HC39
                              by_cases c67 : t535 = true
                              · subst c67
                                have H1 : (cooperagelaw16_LeaseReaders.j5 kj30 l2 (wrap64 (1 + t513)) t514 x15_3 true t537 t538 t541) = some r := by rw [if_pos rfl] at H; exact H
                                clear H
                                have H := H1
                                clear H1
                                have H' := Aside0.mk H
                                clear H
                                go_wp2
                                go_meet
                                case rel => exact ⟨_, (true), (by first | rfl | (simp; done) | (simp [*]; done)), H', ⟨by have := HJ6.out; have := HK2.out; have := HK3.out; have := HJ30.out; first | omega | exact Nat.le_refl _⟩, ⟨by (with_reducible repeat (first | apply Kd.R_alloc | apply Kd.R_drewN | apply Kd.R_drew)); exact Kd.R_mono (Kd.R_far (p := ⟨gb545, 2, none⟩) (Kd.R_far (p := ⟨gb545, 1, none⟩) (Kd.R_far (p := ⟨gb545, 0, none⟩) (Kd.R_types HO_516001.out BK545.out (by decide)) (fun _ hk => hk.2) (.int .i64 t537)) (fun _ hk => hk.2) (.slice Ao65 t538.length co65)) (fun _ hk => hk.2) (.slice Ao66 t541.length co66)) (fun _ hk => ⟨hk.1.2, ⟨hk.1.1.1, hk.1.1.2⟩⟩)⟩, ⟨by (with_reducible repeat (first | apply Kd.R_alloc | apply Kd.R_drewN | apply Kd.R_drew)); exact Kd.R_mono (Kd.R_far (p := ⟨gb545, 2, none⟩) (Kd.R_far (p := ⟨gb545, 1, none⟩) (Kd.R_far (p := ⟨gb545, 0, none⟩) (Kd.R_types HO_516002.out BK545.out (by decide)) (fun _ hk => hk.2) (.int .i64 t537)) (fun _ hk => hk.2) (.slice Ao65 t538.length co65)) (fun _ hk => hk.2) (.slice Ao66 t541.length co66)) (fun _ hk => hk.1.2)⟩, ⟨by (with_reducible repeat (first | apply Kd.R_alloc | apply Kd.R_drewN | apply Kd.R_drew)); exact Kd.R_mono (Kd.R_far (p := ⟨gb545, 2, none⟩) (Kd.R_far (p := ⟨gb545, 1, none⟩) (Kd.R_far (p := ⟨gb545, 0, none⟩) (Kd.R_types HO540.out BK545.out (by decide)) (fun _ hk => hk.2) (.int .i64 t537)) (fun _ hk => hk.2) (.slice Ao65 t538.length co65)) (fun _ hk => hk.2) (.slice Ao66 t541.length co66)) (fun _ hk => ⟨hk.1.1.1.2, ⟨hk.1.1.2, hk.1.2⟩⟩)⟩, ⟨by (with_reducible repeat (first | apply Kd.R_alloc | apply Kd.R_drewN | apply Kd.R_drew)); exact Kd.R_mono (Kd.R_far (p := ⟨gb545, 2, none⟩) (Kd.R_far (p := ⟨gb545, 1, none⟩) (Kd.R_far (p := ⟨gb545, 0, none⟩) (Kd.R_types HO543.out BK545.out (by decide)) (fun _ hk => hk.2) (.int .i64 t537)) (fun _ hk => hk.2) (.slice Ao65 t538.length co65)) (fun _ hk => hk.2) (.slice Ao66 t541.length co66)) (fun _ hk => hk.1.2)⟩, ⟨zK BK515.out⟩, ⟨zK BK529.out⟩, ⟨zK BK536.out⟩, ⟨by (with_reducible repeat (first | refine blk_drewN ?_ _ | refine blk_drew ?_ | refine blk_alloc ?_ _)); refine blk_put (cs := #[.int .i64 t537, .slice Ao65 t538.length co65, .slice none 0 0]) ?_ 2 _ rfl; (with_reducible repeat (first | refine blk_drewN ?_ _ | refine blk_drew ?_ | refine blk_alloc ?_ _)); refine blk_put (cs := #[.int .i64 t537, .slice none 0 0, .slice none 0 0]) ?_ 1 _ rfl; (with_reducible repeat (first | refine blk_drewN ?_ _ | refine blk_drew ?_ | refine blk_alloc ?_ _)); refine blk_put (cs := #[.int .i64 0, .slice none 0 0, .slice none 0 0]) ?_ 0 _ rfl; (with_reducible repeat (first | refine blk_drewN ?_ _ | refine blk_drew ?_ | refine blk_alloc ?_ _)); exact BK545.out⟩, ⟨zL HB.out⟩⟩
                              · replace c67 := Bool.eq_false_iff.mpr c67
                                subst c67
                                have H1 : (cooperagelaw16_LeaseReaders.j5 kj30 l2 (wrap64 (1 + t513)) t514 x15_3 (t544 != 0) t537 t538 t541) = some r := by rw [if_neg (show ¬ (false = true) by decide)] at H; exact H
                                clear H
                                have H := H1
                                clear H1
                                have H' := Aside0.mk H
                                clear H
                                go_wp2
                                go_meet
                                case rel => exact ⟨_, ((t544 != 0)), (by first | rfl | (simp; done) | (simp [*]; done)), H', ⟨by have := HJ6.out; have := HK2.out; have := HK3.out; have := HJ30.out; first | omega | exact Nat.le_refl _⟩, ⟨by (with_reducible repeat (first | apply Kd.R_alloc | apply Kd.R_drewN | apply Kd.R_drew)); exact Kd.R_mono (Kd.R_far (p := ⟨gb545, 2, none⟩) (Kd.R_far (p := ⟨gb545, 1, none⟩) (Kd.R_far (p := ⟨gb545, 0, none⟩) (Kd.R_types HO_516001.out BK545.out (by decide)) (fun _ hk => hk.2) (.int .i64 t537)) (fun _ hk => hk.2) (.slice Ao65 t538.length co65)) (fun _ hk => hk.2) (.slice Ao66 t541.length co66)) (fun _ hk => ⟨hk.1.2, ⟨hk.1.1.1, hk.1.1.2⟩⟩)⟩, ⟨by (with_reducible repeat (first | apply Kd.R_alloc | apply Kd.R_drewN | apply Kd.R_drew)); exact Kd.R_mono (Kd.R_far (p := ⟨gb545, 2, none⟩) (Kd.R_far (p := ⟨gb545, 1, none⟩) (Kd.R_far (p := ⟨gb545, 0, none⟩) (Kd.R_types HO_516002.out BK545.out (by decide)) (fun _ hk => hk.2) (.int .i64 t537)) (fun _ hk => hk.2) (.slice Ao65 t538.length co65)) (fun _ hk => hk.2) (.slice Ao66 t541.length co66)) (fun _ hk => hk.1.2)⟩, ⟨by (with_reducible repeat (first | apply Kd.R_alloc | apply Kd.R_drewN | apply Kd.R_drew)); exact Kd.R_mono (Kd.R_far (p := ⟨gb545, 2, none⟩) (Kd.R_far (p := ⟨gb545, 1, none⟩) (Kd.R_far (p := ⟨gb545, 0, none⟩) (Kd.R_types HO540.out BK545.out (by decide)) (fun _ hk => hk.2) (.int .i64 t537)) (fun _ hk => hk.2) (.slice Ao65 t538.length co65)) (fun _ hk => hk.2) (.slice Ao66 t541.length co66)) (fun _ hk => ⟨hk.1.1.1.2, ⟨hk.1.1.2, hk.1.2⟩⟩)⟩, ⟨by (with_reducible repeat (first | apply Kd.R_alloc | apply Kd.R_drewN | apply Kd.R_drew)); exact Kd.R_mono (Kd.R_far (p := ⟨gb545, 2, none⟩) (Kd.R_far (p := ⟨gb545, 1, none⟩) (Kd.R_far (p := ⟨gb545, 0, none⟩) (Kd.R_types HO543.out BK545.out (by decide)) (fun _ hk => hk.2) (.int .i64 t537)) (fun _ hk => hk.2) (.slice Ao65 t538.length co65)) (fun _ hk => hk.2) (.slice Ao66 t541.length co66)) (fun _ hk => hk.1.2)⟩, ⟨zK BK515.out⟩, ⟨zK BK529.out⟩, ⟨zK BK536.out⟩, ⟨by (with_reducible repeat (first | refine blk_drewN ?_ _ | refine blk_drew ?_ | refine blk_alloc ?_ _)); refine blk_put (cs := #[.int .i64 t537, .slice Ao65 t538.length co65, .slice none 0 0]) ?_ 2 _ rfl; (with_reducible repeat (first | refine blk_drewN ?_ _ | refine blk_drew ?_ | refine blk_alloc ?_ _)); refine blk_put (cs := #[.int .i64 t537, .slice none 0 0, .slice none 0 0]) ?_ 1 _ rfl; (with_reducible repeat (first | refine blk_drewN ?_ _ | refine blk_drew ?_ | refine blk_alloc ?_ _)); refine blk_put (cs := #[.int .i64 0, .slice none 0 0, .slice none 0 0]) ?_ 0 _ rfl; (with_reducible repeat (first | refine blk_drewN ?_ _ | refine blk_drew ?_ | refine blk_alloc ?_ _)); exact BK545.out⟩, ⟨zL HB.out⟩⟩
                            case rest =>
                              clear HC39
                              try clear c1
                              try clear c2
                              try clear p2
                              try clear c3
                              try clear c4
                              try clear c5
                              try clear p5
                              try clear q5
                              try clear hx5
                              try clear c6
                              try clear p6
                              try clear c9
                              try clear c10
                              try clear c12
                              try clear c13
                              try clear c13b0
                              try clear c14
                              try clear c21
                              try clear c25
                              try clear c25b0
                              try clear c25b1
                              try clear c26
                              try clear c27
                              try clear c30
                              try clear c30b0
                              try clear c32
                              try clear c32b0
                              try clear c33
                              try clear c33b0
                              try clear c35
                              try clear c35b0
                              try clear c36
                              try clear c36b0
                              try clear c49
                              try clear p52
                              try clear q52
                              try clear hx52
                              try clear c54
                              try clear c55
                              try clear c61
                              try clear c62
                              try clear c63
                              try clear p64
                              try clear c67
                              try clear hcz12_0
                              try clear hcz12_1
                              try clear hcz12_2
                              try clear hcz16_0
                              try clear hcz16_1
                              try clear hcz16_2
                              try clear hcz22_0
                              try clear hcz22_1
                              try clear hcz22_2
                              try clear hcz28_0
                              try clear hcz28_1
                              try clear hcz28_2
                              try clear hcz29_0
                              try clear hcz29_1
                              try clear hcz29_2
                              try clear hcz50_0
                              try clear hcz50_1
                              try clear hcz50_2
                              try clear hcz56_0
                              try clear hcz56_1
                              try clear hcz56_2
                              try clear hcz56_3
                              try clear hcz56_4
                              try clear hcz57_0
                              try clear hcz57_1
                              try clear hcz57_2
                              try clear hcz58_0
                              try clear hcz58_1
                              try clear hcz58_2
                              try clear hcz58_3
                              try clear hcz58_4
                              try clear hcz64_0
                              try clear hcz64_1
                              try clear hcz64_2
                              try clear hfz12_0
                              try clear hfz12_1
                              try clear hfz12_2
                              try clear hfz16_0
                              try clear hfz16_1
                              try clear hfz16_2
                              try clear hfz22_0
                              try clear hfz22_1
                              try clear hfz22_2
                              try clear hfz28_0
                              try clear hfz28_1
                              try clear hfz28_2
                              try clear hfz29_0
                              try clear hfz29_1
                              try clear hfz29_2
                              try clear hfz50_0
                              try clear hfz50_1
                              try clear hfz50_2
                              try clear hfz56_0
                              try clear hfz56_1
                              try clear hfz56_2
                              try clear hfz56_3
                              try clear hfz56_4
                              try clear hfz57_0
                              try clear hfz57_1
                              try clear hfz57_2
                              try clear hfz58_0
                              try clear hfz58_1
                              try clear hfz58_2
                              try clear hfz58_3
                              try clear hfz58_4
                              try clear hfz64_0
                              try clear hfz64_1
                              try clear hfz64_2
                              try clear hx526_0
                              try clear hx528_0
                              try clear hx528_1
                              try clear hx528_2
                              try clear hx528_3
                              try clear hx528_4
                              try clear p2
                              try clear p5
                              try clear p526
                              try clear p528
                              try clear p6
                              try clear q5
                              try clear q526
                              try clear q528
                              obtain ⟨kq, x112_38, rfl, HA, HJ38, HO_516001, HO_516002, HO_546001, HO_546002, BK515, BK529, BK536, BK545, HB⟩ := hcut
                              cases kq with
                              | zero => exact absurd HA.out (by simp [cooperagelaw16_LeaseReaders.j5])
                              | succ kj38 =>
                                have H := HA.out
                                clear HA
                                simp only [cooperagelaw16_LeaseReaders.j5] at H
                                by_cases c68 : x112_38 = true
                                · subst c68
                                  have H1 : (some false) = some r := by rw [if_pos rfl] at H; exact H
                                  clear H
                                  have H := H1
                                  clear H1
                                  obtain rfl := Option.some.inj H
                                  go_wp2
                                  go_ret
                                  exact ⟨by first | rfl | (simp [errW_none, errW_some] <;> rfl) | (simp [*, errW_none, errW_some] <;> rfl), zL HB.out⟩
                                · replace c68 := Bool.eq_false_iff.mpr c68
                                  subst c68
                                  have H1 : (cooperagelaw16_LeaseReaders.l1 kj38 l2 (wrap64 (1 + t513)) t514 (wrap64 (x15_3 + 1)) t537 t538 t541) = some r := by rw [if_neg (show ¬ (false = true) by decide)] at H; exact H
                                  clear H
                                  have H := H1
                                  clear H1
                                  have H' := Aside0.mk H
                                  clear H
                                  have hnb69 := NB545_515.out
                                  have hnc69 := NB515_545.out
                                  have hnb70 := NB545_529.out
                                  have hnc70 := NB529_545.out
                                  have hnb71 := NB545_536.out
                                  have hnc71 := NB536_545.out
                                  have hcz72_0 : wc.cell? ⟨gb545, 0, none⟩ = some (.int .i64 t537) := (blk_cell BK545.out 0).trans rfl
                                  have hcz72_1 : wc.cell? ⟨gb545, 1, none⟩ = some (.slice Ao65 t538.length co65) := (blk_cell BK545.out 1).trans rfl
                                  have hcz72_2 : wc.cell? ⟨gb545, 2, none⟩ = some (.slice Ao66 t541.length co66) := (blk_cell BK545.out 2).trans rfl
                                  have hfz72_0 := blk_frozen BK545.out 0
                                  have hfz72_1 := blk_frozen BK545.out 1
                                  have hfz72_2 := blk_frozen BK545.out 2
                                  have hnb73 := NB515_529.out
                                  have hnc73 := NB529_515.out
                                  have hnb74 := NB515_536.out
                                  have hnc74 := NB536_515.out
                                  have hcz75_0 : wc.cell? ⟨gb515, 0, none⟩ = some (.int .i64 x516000_3) := (blk_cell BK515.out 0).trans rfl
                                  have hcz75_1 : wc.cell? ⟨gb515, 1, none⟩ = some (.slice (some ad528) x516001_3.length co41) := (blk_cell BK515.out 1).trans rfl
                                  have hcz75_2 : wc.cell? ⟨gb515, 2, none⟩ = some (.slice Ao51 x516002_3.length co51) := (blk_cell BK515.out 2).trans rfl
                                  have hfz75_0 := blk_frozen BK515.out 0
                                  have hfz75_1 := blk_frozen BK515.out 1
                                  have hfz75_2 := blk_frozen BK515.out 2
                                  go_wp2
                                  go_roundg kj38
                                  case measure => have := HJ6.out; have := HK2.out; have := HK3.out; have := HJ30.out; have := HJ38.out; omega
                                  case rel => exact ⟨(wrap64 (x15_3 + 1)), (t537), (t538), (t541), (.slice Ao65 t538.length co65), (.slice Ao66 t541.length co66), (by first | rfl | (simp; done) | (simp [*]; done)), H', ⟨by have := HJ6.out; have := HK2.out; have := HK3.out; have := HJ30.out; have := HJ38.out; omega⟩, ⟨by (with_reducible repeat (first | apply Kd.R_alloc | apply Kd.R_drewN | apply Kd.R_drew)); exact Kd.R_mono (Kd.R_far (p := ⟨gb515, 2, none⟩) (Kd.R_far (p := ⟨gb515, 1, none⟩) (Kd.R_far (p := ⟨gb515, 0, none⟩) (Kd.R_types HO_546001.out BK515.out (by decide)) (fun _ hk => hk.2) (.int .i64 t537)) (fun _ hk => hk.2) (.slice Ao65 t538.length co65)) (fun _ hk => hk.2) (.slice Ao66 t541.length co66)) (fun _ hk => trivial)⟩, ⟨by (with_reducible repeat (first | apply Kd.R_alloc | apply Kd.R_drewN | apply Kd.R_drew)); exact Kd.R_mono (Kd.R_far (p := ⟨gb515, 2, none⟩) (Kd.R_far (p := ⟨gb515, 1, none⟩) (Kd.R_far (p := ⟨gb515, 0, none⟩) (Kd.R_types HO_546002.out BK515.out (by decide)) (fun _ hk => hk.2) (.int .i64 t537)) (fun _ hk => hk.2) (.slice Ao65 t538.length co65)) (fun _ hk => hk.2) (.slice Ao66 t541.length co66)) (fun _ hk => trivial)⟩, ⟨by (with_reducible repeat (first | refine blk_drewN ?_ _ | refine blk_drew ?_ | refine blk_alloc ?_ _)); refine blk_put (cs := #[.int .i64 t537, .slice Ao65 t538.length co65, .slice Ao51 x516002_3.length co51]) ?_ 2 _ rfl; (with_reducible repeat (first | refine blk_drewN ?_ _ | refine blk_drew ?_ | refine blk_alloc ?_ _)); refine blk_put (cs := #[.int .i64 t537, .slice (some ad528) x516001_3.length co41, .slice Ao51 x516002_3.length co51]) ?_ 1 _ rfl; (with_reducible repeat (first | refine blk_drewN ?_ _ | refine blk_drew ?_ | refine blk_alloc ?_ _)); refine blk_put (cs := #[.int .i64 x516000_3, .slice (some ad528) x516001_3.length co41, .slice Ao51 x516002_3.length co51]) ?_ 0 _ rfl; (with_reducible repeat (first | refine blk_drewN ?_ _ | refine blk_drew ?_ | refine blk_alloc ?_ _)); exact BK515.out⟩, ⟨zL HB.out⟩⟩
                          · rw [if_neg c36] at H
                            exact absurd H (by simp)
                        · rw [if_neg c35] at H
                          exact absurd H (by simp)
                  · rw [if_neg c30] at H
                    have c30b0 : decide (x15_3 < (wrap64 (1 + t513))) = false := decide_eq_false c30
                    clear c30
                    replace H := Option.bind_eq_some_iff.mp H
                    obtain ⟨⟨t546, t547, t548, t549, t550, t551⟩, A760, H⟩ := H
                    replace H : (if t551 = true then (if t548 = true then (if (x516001_3.length : Int) = 1 then (cooperagelaw16_LeaseReaders.j6 k3 (wrap64 (1 + t513)) t514 ((x516002_3.length : Int) != t514) x516000_3 x516001_3 x516002_3) else (cooperagelaw16_LeaseReaders.j6 k3 (wrap64 (1 + t513)) t514 true x516000_3 x516001_3 x516002_3)) else (cooperagelaw16_LeaseReaders.j6 k3 (wrap64 (1 + t513)) t514 true x516000_3 x516001_3 x516002_3)) else (cooperagelaw16_LeaseReaders.j6 k3 (wrap64 (1 + t513)) t514 true x516000_3 x516001_3 x516002_3)) = some r := H
                    have A76 := Aside0.mk A760
                    clear A760
                    have HC77 := Aside0.mk H
                    clear H
                    have hcz78_0 : wr.cell? ⟨gb515, 0, none⟩ = some (.int .i64 x516000_3) := (blk_cell BK515.out 0).trans rfl
                    have hcz78_1 : wr.cell? ⟨gb515, 1, none⟩ = some (u516001) := (blk_cell BK515.out 1).trans rfl
                    have hcz78_2 : wr.cell? ⟨gb515, 2, none⟩ = some (u516002) := (blk_cell BK515.out 2).trans rfl
                    have hfz78_0 := blk_frozen BK515.out 0
                    have hfz78_1 := blk_frozen BK515.out 1
                    have hfz78_2 := blk_frozen BK515.out 2
                    obtain ⟨Ao79, co79, eo79⟩ := Kd.R_slice HO_516001.out
                    subst eo79
                    obtain ⟨Ao80, co80, eo80⟩ := Kd.R_slice HO_516002.out
                    subst eo80
                    go_upto_region 27 with (first | ((with_reducible refine gate_callee (f := 14) rfl ?_); refine goesL_ (some 118) rfl rfl Tryd.func14 (by kernel_rfl) rfl #[.agg #[.int .i64 x516000_3, .slice Ao79 x516001_3.length co79, .slice Ao80 x516002_3.length co80], .int .i64 (wrap64 ((wrap64 (1 + t513)) + 1)), .string (⟨#[120]⟩ : ByteArray)] rfl zA ?_; (with_reducible refine (lease_Held.calls k3 x516000_3 _ _ x516001_3 _ _ x516002_3 (wrap64 ((wrap64 (1 + t513)) + 1)) (⟨#[120]⟩ : ByteArray) t546 t547 t548 t549 t550 t551 _ ?side1 ?side2 ?side3 ?side4 A76.out).mono ?_); (case side1 => repeat (first | exact (Kd.R_reads' HO_516001.out).2.2 | (with_reducible refine Kd.C_alloc ?_ _) | (with_reducible refine Kd.C_drewN ?_ _) | (with_reducible refine Kd.C_drew ?_))); (case side2 => exact (Kd.R_reads' HO_516001.out).2.1); (case side3 => repeat (first | exact (Kd.R_reads' HO_516002.out).2.2 | (with_reducible refine Kd.C_alloc ?_ _) | (with_reducible refine Kd.C_drewN ?_ _) | (with_reducible refine Kd.C_drew ?_))); (case side4 => exact (Kd.R_reads' HO_516002.out).2.1); rintro e w81 ⟨rfl, hb⟩; refine ⟨_, rfl, ?_⟩; have n0_ := Aside0.mk (Kd.R_below (zR HO_516001.out) hb); have n1_ := Aside0.mk (Kd.R_below (zR HO_516002.out) hb); have n2_ := Aside0.mk (blk_below (g := gb515) (o := .cells #[.int .i64 x516000_3, .slice Ao79 x516001_3.length co79, .slice Ao80 x516002_3.length co80] 27 (0, 0)) (zK BK515.out) hb); have n3_ := Aside0.mk (below_step (zL HB.out) hb); clear HO_516001; clear HO_516002; clear BK515; clear HB; have HO_516001 := n0_; have HO_516002 := n1_; have BK515 := n2_; have HB := n3_; clear n0_ n1_ n2_ n3_; (try clear hb); (try clear hb2); (try clear hk); (try clear hi)) | ((with_reducible refine gate_dst (N := 22) rfl ?_); (try (refine gate_guard (by rfl) ?_; dsimp only)); refine box_event ?hg (N := 22) ?hd (cs := #[.int .i64 0, .string (⟨#[]⟩ : ByteArray), .bool false, .int .i64 0, .int .i64 0]) (t := 34) ?hr ?_; (case hd => rfl); (case hg => rfl); (case hr => first | (go_simp; done) | (go_simp; rfl)); intro gb552 hg w82 hbox hb; have n0_ := Aside0.mk (Kd.R_below (Kd.R_elderB (zR HO_516001.out) gb552 (Nat.le_of_eq hg.symm)) hb); have n1_ := Aside0.mk (Kd.R_below (zR HO_516002.out) hb); have n2_ := Aside0.mk (blk_below (g := gb515) (o := .cells #[.int .i64 x516000_3, .slice Ao79 x516001_3.length co79, .slice Ao80 x516002_3.length co80] 27 (0, 0)) (zK BK515.out) hb); have n3_ := Aside0.mk (below_step (zL HB.out) hb); have n4_ := Aside0.mk (hbox); have n5_ := Aside0.mk (zG hg (zL HB.out)); have n6_ := Aside0.mk (zG hg (zL HB.out)); have n7_ := Aside0.mk (zN (g := gb515) (o := .cells #[.int .i64 x516000_3, .slice Ao79 x516001_3.length co79, .slice Ao80 x516002_3.length co80] 27 (0, 0)) hg (zK BK515.out)); have n8_ := Aside0.mk (zO (g := gb515) (o := .cells #[.int .i64 x516000_3, .slice Ao79 x516001_3.length co79, .slice Ao80 x516002_3.length co80] 27 (0, 0)) hg (zK BK515.out)); clear HO_516001; clear HO_516002; clear BK515; clear HB; have HO_516001 := n0_; have HO_516002 := n1_; have BK515 := n2_; have HB := n3_; have BK552 := n4_; have GW552 := n5_; have GE552 := n6_; have NB515_552 := n7_; have NB552_515 := n8_; clear n0_ n1_ n2_ n3_ n4_ n5_ n6_ n7_ n8_; clear hb hbox hg; have hnb83 := NB552_515.out; have hnc83 := NB515_552.out; have hcz84_0 : w82.cell? ⟨gb552, 0, none⟩ = some (.int .i64 0) := (blk_cell BK552.out 0).trans rfl; have hcz84_1 : w82.cell? ⟨gb552, 1, none⟩ = some (.string (⟨#[]⟩ : ByteArray)) := (blk_cell BK552.out 1).trans rfl; have hcz84_2 : w82.cell? ⟨gb552, 2, none⟩ = some (.bool false) := (blk_cell BK552.out 2).trans rfl; have hcz84_3 : w82.cell? ⟨gb552, 3, none⟩ = some (.int .i64 0) := (blk_cell BK552.out 3).trans rfl; have hcz84_4 : w82.cell? ⟨gb552, 4, none⟩ = some (.int .i64 0) := (blk_cell BK552.out 4).trans rfl; have hfz84_0 := blk_frozen BK552.out 0; have hfz84_1 := blk_frozen BK552.out 1; have hfz84_2 := blk_frozen BK552.out 2; have hfz84_3 := blk_frozen BK552.out 3; have hfz84_4 := blk_frozen BK552.out 4))
                    (try simp only [Act.put, List.setIfInBounds_toArray, List.set_cons_zero, List.set_cons_succ])
                    go_cut [140] (fun v140 wc => ∃ (kq : Nat) (x140_76 : Bool), v140 = .bool x140_76 ∧ Aside0 (cooperagelaw16_LeaseReaders.j6 kq (wrap64 (1 + t513)) t514 x140_76 x516000_3 x516001_3 x516002_3 = some r) ∧ Aside0 (kq ≤ k3) ∧ Aside0 (Kd.R k34 34 wc w.heap.size (fun k_ => k_ ≠ gb552) (.slice Ao79 x516001_3.length co79) x516001_3) ∧ Aside0 (Kd.R k32 32 wc w.heap.size (fun _ => True) (.slice Ao80 x516002_3.length co80) x516002_3) ∧ Aside0 (wc.heap[gb515]? = some (.cells #[.int .i64 x516000_3, (.slice Ao79 x516001_3.length co79), (.slice Ao80 x516002_3.length co80)] 27 (0, 0))) ∧ Aside0 (wc.heap[gb552]? = some (.cells #[.int .i64 t546, .string t547, .bool t548, .int .i64 t549, .int .i64 t550] 34 (0, 0))) ∧ Aside0 (Below w.heap.size w wc))
                    case first =>
                      have H := HC77.out
                      clear HC77
                      by_cases c85 : t551 = true
                      · subst c85
                        have H1 : (if t548 = true then (if (x516001_3.length : Int) = 1 then (cooperagelaw16_LeaseReaders.j6 k3 (wrap64 (1 + t513)) t514 ((x516002_3.length : Int) != t514) x516000_3 x516001_3 x516002_3) else (cooperagelaw16_LeaseReaders.j6 k3 (wrap64 (1 + t513)) t514 true x516000_3 x516001_3 x516002_3)) else (cooperagelaw16_LeaseReaders.j6 k3 (wrap64 (1 + t513)) t514 true x516000_3 x516001_3 x516002_3)) = some r := by rw [if_pos rfl] at H; exact H
                        clear H
                        have H := H1
                        clear H1
                        by_cases c86 : t548 = true
                        · subst c86
                          have H1 : (if (x516001_3.length : Int) = 1 then (cooperagelaw16_LeaseReaders.j6 k3 (wrap64 (1 + t513)) t514 ((x516002_3.length : Int) != t514) x516000_3 x516001_3 x516002_3) else (cooperagelaw16_LeaseReaders.j6 k3 (wrap64 (1 + t513)) t514 true x516000_3 x516001_3 x516002_3)) = some r := by rw [if_pos rfl] at H; exact H
                          clear H
                          have H := H1
                          clear H1
                          by_cases c87 : (x516001_3.length : Int) = 1
                          · rw [if_pos c87] at H
                            have c87b0 : ((x516001_3.length : Int) == 1) = true := beq_iff_eq.mpr c87
                            have c87b1 : ((x516001_3.length : Int) != 1) = false := bne_eq_false_iff_eq.mpr c87
                            clear c87
                            (first | rw [c87b0] | (simp only [i64_w, i32_w]; rw [c87b0]) | skip)
                            have H' := Aside0.mk H
                            clear H
                            have hnb88 := NB552_515.out
                            have hnc88 := NB515_552.out
                            have hcz89_0 : w82.cell? ⟨gb552, 0, none⟩ = some (.int .i64 0) := (blk_cell BK552.out 0).trans rfl
                            have hcz89_1 : w82.cell? ⟨gb552, 1, none⟩ = some (.string (⟨#[]⟩ : ByteArray)) := (blk_cell BK552.out 1).trans rfl
                            have hcz89_2 : w82.cell? ⟨gb552, 2, none⟩ = some (.bool false) := (blk_cell BK552.out 2).trans rfl
                            have hcz89_3 : w82.cell? ⟨gb552, 3, none⟩ = some (.int .i64 0) := (blk_cell BK552.out 3).trans rfl
                            have hcz89_4 : w82.cell? ⟨gb552, 4, none⟩ = some (.int .i64 0) := (blk_cell BK552.out 4).trans rfl
                            have hfz89_0 := blk_frozen BK552.out 0
                            have hfz89_1 := blk_frozen BK552.out 1
                            have hfz89_2 := blk_frozen BK552.out 2
                            have hfz89_3 := blk_frozen BK552.out 3
                            have hfz89_4 := blk_frozen BK552.out 4
                            have hcz90_0 : w82.cell? ⟨gb515, 0, none⟩ = some (.int .i64 x516000_3) := (blk_cell BK515.out 0).trans rfl
                            have hcz90_1 : w82.cell? ⟨gb515, 1, none⟩ = some (.slice Ao79 x516001_3.length co79) := (blk_cell BK515.out 1).trans rfl
                            have hcz90_2 : w82.cell? ⟨gb515, 2, none⟩ = some (.slice Ao80 x516002_3.length co80) := (blk_cell BK515.out 2).trans rfl
                            have hfz90_0 := blk_frozen BK515.out 0
                            have hfz90_1 := blk_frozen BK515.out 1
                            have hfz90_2 := blk_frozen BK515.out 2
                            go_wp2
                            go_meet
                            case rel => exact ⟨_, (((x516002_3.length : Int) != t514)), (by first | rfl | (simp; done) | (simp [*]; done)), H', ⟨by have := HJ6.out; have := HK2.out; have := HK3.out; first | omega | exact Nat.le_refl _⟩, ⟨by (with_reducible repeat (first | apply Kd.R_alloc | apply Kd.R_drewN | apply Kd.R_drew)); exact Kd.R_mono (Kd.R_far (p := ⟨gb552, 4, none⟩) (Kd.R_far (p := ⟨gb552, 3, none⟩) (Kd.R_far (p := ⟨gb552, 2, none⟩) (Kd.R_far (p := ⟨gb552, 1, none⟩) (Kd.R_far (p := ⟨gb552, 0, none⟩) (Kd.R_mono HO_516001.out (fun k_ hk => (⟨hk, hk.2⟩ : _ ∧ k_ ≠ gb552))) (fun _ hk => hk.2) (.int .i64 t546)) (fun _ hk => hk.2) (.string t547)) (fun _ hk => hk.2) (.bool true)) (fun _ hk => hk.2) (.int .i64 t549)) (fun _ hk => hk.2) (.int .i64 t550)) (fun _ hk => hk.1.2)⟩, ⟨by (with_reducible repeat (first | apply Kd.R_alloc | apply Kd.R_drewN | apply Kd.R_drew)); exact Kd.R_mono (Kd.R_far (p := ⟨gb552, 4, none⟩) (Kd.R_far (p := ⟨gb552, 3, none⟩) (Kd.R_far (p := ⟨gb552, 2, none⟩) (Kd.R_far (p := ⟨gb552, 1, none⟩) (Kd.R_far (p := ⟨gb552, 0, none⟩) (Kd.R_types HO_516002.out BK552.out (by decide)) (fun _ hk => hk.2) (.int .i64 t546)) (fun _ hk => hk.2) (.string t547)) (fun _ hk => hk.2) (.bool true)) (fun _ hk => hk.2) (.int .i64 t549)) (fun _ hk => hk.2) (.int .i64 t550)) (fun _ hk => trivial)⟩, ⟨zK BK515.out⟩, ⟨by (with_reducible repeat (first | refine blk_drewN ?_ _ | refine blk_drew ?_ | refine blk_alloc ?_ _)); refine blk_put (cs := #[.int .i64 t546, .string t547, .bool true, .int .i64 t549, .int .i64 0]) ?_ 4 _ rfl; (with_reducible repeat (first | refine blk_drewN ?_ _ | refine blk_drew ?_ | refine blk_alloc ?_ _)); refine blk_put (cs := #[.int .i64 t546, .string t547, .bool true, .int .i64 0, .int .i64 0]) ?_ 3 _ rfl; (with_reducible repeat (first | refine blk_drewN ?_ _ | refine blk_drew ?_ | refine blk_alloc ?_ _)); refine blk_put (cs := #[.int .i64 t546, .string t547, .bool false, .int .i64 0, .int .i64 0]) ?_ 2 _ rfl; (with_reducible repeat (first | refine blk_drewN ?_ _ | refine blk_drew ?_ | refine blk_alloc ?_ _)); refine blk_put (cs := #[.int .i64 t546, .string (⟨#[]⟩ : ByteArray), .bool false, .int .i64 0, .int .i64 0]) ?_ 1 _ rfl; (with_reducible repeat (first | refine blk_drewN ?_ _ | refine blk_drew ?_ | refine blk_alloc ?_ _)); refine blk_put (cs := #[.int .i64 0, .string (⟨#[]⟩ : ByteArray), .bool false, .int .i64 0, .int .i64 0]) ?_ 0 _ rfl; (with_reducible repeat (first | refine blk_drewN ?_ _ | refine blk_drew ?_ | refine blk_alloc ?_ _)); exact BK552.out⟩, ⟨zL HB.out⟩⟩
                          · rw [if_neg c87] at H
                            have c87b0 : ((x516001_3.length : Int) == 1) = false := beq_eq_false_iff_ne.mpr c87
                            have c87b1 : ((x516001_3.length : Int) != 1) = true := bne_iff_ne.mpr c87
                            (first | rw [c87b0] | (simp only [i64_w, i32_w]; rw [c87b0]) | skip)
                            have H' := Aside0.mk H
                            clear H
                            have hnb91 := NB552_515.out
                            have hnc91 := NB515_552.out
                            have hcz92_0 : w82.cell? ⟨gb552, 0, none⟩ = some (.int .i64 0) := (blk_cell BK552.out 0).trans rfl
                            have hcz92_1 : w82.cell? ⟨gb552, 1, none⟩ = some (.string (⟨#[]⟩ : ByteArray)) := (blk_cell BK552.out 1).trans rfl
                            have hcz92_2 : w82.cell? ⟨gb552, 2, none⟩ = some (.bool false) := (blk_cell BK552.out 2).trans rfl
                            have hcz92_3 : w82.cell? ⟨gb552, 3, none⟩ = some (.int .i64 0) := (blk_cell BK552.out 3).trans rfl
                            have hcz92_4 : w82.cell? ⟨gb552, 4, none⟩ = some (.int .i64 0) := (blk_cell BK552.out 4).trans rfl
                            have hfz92_0 := blk_frozen BK552.out 0
                            have hfz92_1 := blk_frozen BK552.out 1
                            have hfz92_2 := blk_frozen BK552.out 2
                            have hfz92_3 := blk_frozen BK552.out 3
                            have hfz92_4 := blk_frozen BK552.out 4
                            have hcz93_0 : w82.cell? ⟨gb515, 0, none⟩ = some (.int .i64 x516000_3) := (blk_cell BK515.out 0).trans rfl
                            have hcz93_1 : w82.cell? ⟨gb515, 1, none⟩ = some (.slice Ao79 x516001_3.length co79) := (blk_cell BK515.out 1).trans rfl
                            have hcz93_2 : w82.cell? ⟨gb515, 2, none⟩ = some (.slice Ao80 x516002_3.length co80) := (blk_cell BK515.out 2).trans rfl
                            have hfz93_0 := blk_frozen BK515.out 0
                            have hfz93_1 := blk_frozen BK515.out 1
                            have hfz93_2 := blk_frozen BK515.out 2
                            go_wp2
                            go_meet
                            case rel => exact ⟨_, (true), (by first | rfl | (simp; done) | (simp [*]; done)), H', ⟨by have := HJ6.out; have := HK2.out; have := HK3.out; first | omega | exact Nat.le_refl _⟩, ⟨by (with_reducible repeat (first | apply Kd.R_alloc | apply Kd.R_drewN | apply Kd.R_drew)); exact Kd.R_mono (Kd.R_far (p := ⟨gb552, 4, none⟩) (Kd.R_far (p := ⟨gb552, 3, none⟩) (Kd.R_far (p := ⟨gb552, 2, none⟩) (Kd.R_far (p := ⟨gb552, 1, none⟩) (Kd.R_far (p := ⟨gb552, 0, none⟩) (Kd.R_mono HO_516001.out (fun k_ hk => (⟨hk, hk.2⟩ : _ ∧ k_ ≠ gb552))) (fun _ hk => hk.2) (.int .i64 t546)) (fun _ hk => hk.2) (.string t547)) (fun _ hk => hk.2) (.bool true)) (fun _ hk => hk.2) (.int .i64 t549)) (fun _ hk => hk.2) (.int .i64 t550)) (fun _ hk => hk.1.2)⟩, ⟨by (with_reducible repeat (first | apply Kd.R_alloc | apply Kd.R_drewN | apply Kd.R_drew)); exact Kd.R_mono (Kd.R_far (p := ⟨gb552, 4, none⟩) (Kd.R_far (p := ⟨gb552, 3, none⟩) (Kd.R_far (p := ⟨gb552, 2, none⟩) (Kd.R_far (p := ⟨gb552, 1, none⟩) (Kd.R_far (p := ⟨gb552, 0, none⟩) (Kd.R_types HO_516002.out BK552.out (by decide)) (fun _ hk => hk.2) (.int .i64 t546)) (fun _ hk => hk.2) (.string t547)) (fun _ hk => hk.2) (.bool true)) (fun _ hk => hk.2) (.int .i64 t549)) (fun _ hk => hk.2) (.int .i64 t550)) (fun _ hk => trivial)⟩, ⟨zK BK515.out⟩, ⟨by (with_reducible repeat (first | refine blk_drewN ?_ _ | refine blk_drew ?_ | refine blk_alloc ?_ _)); refine blk_put (cs := #[.int .i64 t546, .string t547, .bool true, .int .i64 t549, .int .i64 0]) ?_ 4 _ rfl; (with_reducible repeat (first | refine blk_drewN ?_ _ | refine blk_drew ?_ | refine blk_alloc ?_ _)); refine blk_put (cs := #[.int .i64 t546, .string t547, .bool true, .int .i64 0, .int .i64 0]) ?_ 3 _ rfl; (with_reducible repeat (first | refine blk_drewN ?_ _ | refine blk_drew ?_ | refine blk_alloc ?_ _)); refine blk_put (cs := #[.int .i64 t546, .string t547, .bool false, .int .i64 0, .int .i64 0]) ?_ 2 _ rfl; (with_reducible repeat (first | refine blk_drewN ?_ _ | refine blk_drew ?_ | refine blk_alloc ?_ _)); refine blk_put (cs := #[.int .i64 t546, .string (⟨#[]⟩ : ByteArray), .bool false, .int .i64 0, .int .i64 0]) ?_ 1 _ rfl; (with_reducible repeat (first | refine blk_drewN ?_ _ | refine blk_drew ?_ | refine blk_alloc ?_ _)); refine blk_put (cs := #[.int .i64 0, .string (⟨#[]⟩ : ByteArray), .bool false, .int .i64 0, .int .i64 0]) ?_ 0 _ rfl; (with_reducible repeat (first | refine blk_drewN ?_ _ | refine blk_drew ?_ | refine blk_alloc ?_ _)); exact BK552.out⟩, ⟨zL HB.out⟩⟩
                        · replace c86 := Bool.eq_false_iff.mpr c86
                          subst c86
                          have H1 : (cooperagelaw16_LeaseReaders.j6 k3 (wrap64 (1 + t513)) t514 true x516000_3 x516001_3 x516002_3) = some r := by rw [if_neg (show ¬ (false = true) by decide)] at H; exact H
                          clear H
                          have H := H1
                          clear H1
                          have H' := Aside0.mk H
                          clear H
                          have hnb94 := NB552_515.out
                          have hnc94 := NB515_552.out
                          have hcz95_0 : w82.cell? ⟨gb552, 0, none⟩ = some (.int .i64 0) := (blk_cell BK552.out 0).trans rfl
                          have hcz95_1 : w82.cell? ⟨gb552, 1, none⟩ = some (.string (⟨#[]⟩ : ByteArray)) := (blk_cell BK552.out 1).trans rfl
                          have hcz95_2 : w82.cell? ⟨gb552, 2, none⟩ = some (.bool false) := (blk_cell BK552.out 2).trans rfl
                          have hcz95_3 : w82.cell? ⟨gb552, 3, none⟩ = some (.int .i64 0) := (blk_cell BK552.out 3).trans rfl
                          have hcz95_4 : w82.cell? ⟨gb552, 4, none⟩ = some (.int .i64 0) := (blk_cell BK552.out 4).trans rfl
                          have hfz95_0 := blk_frozen BK552.out 0
                          have hfz95_1 := blk_frozen BK552.out 1
                          have hfz95_2 := blk_frozen BK552.out 2
                          have hfz95_3 := blk_frozen BK552.out 3
                          have hfz95_4 := blk_frozen BK552.out 4
                          go_wp2
                          go_meet
                          case rel => exact ⟨_, (true), (by first | rfl | (simp; done) | (simp [*]; done)), H', ⟨by have := HJ6.out; have := HK2.out; have := HK3.out; first | omega | exact Nat.le_refl _⟩, ⟨by (with_reducible repeat (first | apply Kd.R_alloc | apply Kd.R_drewN | apply Kd.R_drew)); exact Kd.R_mono (Kd.R_far (p := ⟨gb552, 4, none⟩) (Kd.R_far (p := ⟨gb552, 3, none⟩) (Kd.R_far (p := ⟨gb552, 2, none⟩) (Kd.R_far (p := ⟨gb552, 1, none⟩) (Kd.R_far (p := ⟨gb552, 0, none⟩) (Kd.R_mono HO_516001.out (fun k_ hk => (⟨hk, hk.2⟩ : _ ∧ k_ ≠ gb552))) (fun _ hk => hk.2) (.int .i64 t546)) (fun _ hk => hk.2) (.string t547)) (fun _ hk => hk.2) (.bool false)) (fun _ hk => hk.2) (.int .i64 t549)) (fun _ hk => hk.2) (.int .i64 t550)) (fun _ hk => hk.1.2)⟩, ⟨by (with_reducible repeat (first | apply Kd.R_alloc | apply Kd.R_drewN | apply Kd.R_drew)); exact Kd.R_mono (Kd.R_far (p := ⟨gb552, 4, none⟩) (Kd.R_far (p := ⟨gb552, 3, none⟩) (Kd.R_far (p := ⟨gb552, 2, none⟩) (Kd.R_far (p := ⟨gb552, 1, none⟩) (Kd.R_far (p := ⟨gb552, 0, none⟩) (Kd.R_types HO_516002.out BK552.out (by decide)) (fun _ hk => hk.2) (.int .i64 t546)) (fun _ hk => hk.2) (.string t547)) (fun _ hk => hk.2) (.bool false)) (fun _ hk => hk.2) (.int .i64 t549)) (fun _ hk => hk.2) (.int .i64 t550)) (fun _ hk => trivial)⟩, ⟨zK BK515.out⟩, ⟨by (with_reducible repeat (first | refine blk_drewN ?_ _ | refine blk_drew ?_ | refine blk_alloc ?_ _)); refine blk_put (cs := #[.int .i64 t546, .string t547, .bool false, .int .i64 t549, .int .i64 0]) ?_ 4 _ rfl; (with_reducible repeat (first | refine blk_drewN ?_ _ | refine blk_drew ?_ | refine blk_alloc ?_ _)); refine blk_put (cs := #[.int .i64 t546, .string t547, .bool false, .int .i64 0, .int .i64 0]) ?_ 3 _ rfl; (with_reducible repeat (first | refine blk_drewN ?_ _ | refine blk_drew ?_ | refine blk_alloc ?_ _)); refine blk_put (cs := #[.int .i64 t546, .string t547, .bool false, .int .i64 0, .int .i64 0]) ?_ 2 _ rfl; (with_reducible repeat (first | refine blk_drewN ?_ _ | refine blk_drew ?_ | refine blk_alloc ?_ _)); refine blk_put (cs := #[.int .i64 t546, .string (⟨#[]⟩ : ByteArray), .bool false, .int .i64 0, .int .i64 0]) ?_ 1 _ rfl; (with_reducible repeat (first | refine blk_drewN ?_ _ | refine blk_drew ?_ | refine blk_alloc ?_ _)); refine blk_put (cs := #[.int .i64 0, .string (⟨#[]⟩ : ByteArray), .bool false, .int .i64 0, .int .i64 0]) ?_ 0 _ rfl; (with_reducible repeat (first | refine blk_drewN ?_ _ | refine blk_drew ?_ | refine blk_alloc ?_ _)); exact BK552.out⟩, ⟨zL HB.out⟩⟩
                      · replace c85 := Bool.eq_false_iff.mpr c85
                        subst c85
                        have H1 : (cooperagelaw16_LeaseReaders.j6 k3 (wrap64 (1 + t513)) t514 true x516000_3 x516001_3 x516002_3) = some r := by rw [if_neg (show ¬ (false = true) by decide)] at H; exact H
                        clear H
                        have H := H1
                        clear H1
                        have H' := Aside0.mk H
                        clear H
                        go_wp2
                        go_meet
                        case rel => exact ⟨_, (true), (by first | rfl | (simp; done) | (simp [*]; done)), H', ⟨by have := HJ6.out; have := HK2.out; have := HK3.out; first | omega | exact Nat.le_refl _⟩, ⟨by (with_reducible repeat (first | apply Kd.R_alloc | apply Kd.R_drewN | apply Kd.R_drew)); exact Kd.R_mono (Kd.R_far (p := ⟨gb552, 4, none⟩) (Kd.R_far (p := ⟨gb552, 3, none⟩) (Kd.R_far (p := ⟨gb552, 2, none⟩) (Kd.R_far (p := ⟨gb552, 1, none⟩) (Kd.R_far (p := ⟨gb552, 0, none⟩) (Kd.R_mono HO_516001.out (fun k_ hk => (⟨hk, hk.2⟩ : _ ∧ k_ ≠ gb552))) (fun _ hk => hk.2) (.int .i64 t546)) (fun _ hk => hk.2) (.string t547)) (fun _ hk => hk.2) (.bool t548)) (fun _ hk => hk.2) (.int .i64 t549)) (fun _ hk => hk.2) (.int .i64 t550)) (fun _ hk => hk.1.2)⟩, ⟨by (with_reducible repeat (first | apply Kd.R_alloc | apply Kd.R_drewN | apply Kd.R_drew)); exact Kd.R_mono (Kd.R_far (p := ⟨gb552, 4, none⟩) (Kd.R_far (p := ⟨gb552, 3, none⟩) (Kd.R_far (p := ⟨gb552, 2, none⟩) (Kd.R_far (p := ⟨gb552, 1, none⟩) (Kd.R_far (p := ⟨gb552, 0, none⟩) (Kd.R_types HO_516002.out BK552.out (by decide)) (fun _ hk => hk.2) (.int .i64 t546)) (fun _ hk => hk.2) (.string t547)) (fun _ hk => hk.2) (.bool t548)) (fun _ hk => hk.2) (.int .i64 t549)) (fun _ hk => hk.2) (.int .i64 t550)) (fun _ hk => trivial)⟩, ⟨zK BK515.out⟩, ⟨by (with_reducible repeat (first | refine blk_drewN ?_ _ | refine blk_drew ?_ | refine blk_alloc ?_ _)); refine blk_put (cs := #[.int .i64 t546, .string t547, .bool t548, .int .i64 t549, .int .i64 0]) ?_ 4 _ rfl; (with_reducible repeat (first | refine blk_drewN ?_ _ | refine blk_drew ?_ | refine blk_alloc ?_ _)); refine blk_put (cs := #[.int .i64 t546, .string t547, .bool t548, .int .i64 0, .int .i64 0]) ?_ 3 _ rfl; (with_reducible repeat (first | refine blk_drewN ?_ _ | refine blk_drew ?_ | refine blk_alloc ?_ _)); refine blk_put (cs := #[.int .i64 t546, .string t547, .bool false, .int .i64 0, .int .i64 0]) ?_ 2 _ rfl; (with_reducible repeat (first | refine blk_drewN ?_ _ | refine blk_drew ?_ | refine blk_alloc ?_ _)); refine blk_put (cs := #[.int .i64 t546, .string (⟨#[]⟩ : ByteArray), .bool false, .int .i64 0, .int .i64 0]) ?_ 1 _ rfl; (with_reducible repeat (first | refine blk_drewN ?_ _ | refine blk_drew ?_ | refine blk_alloc ?_ _)); refine blk_put (cs := #[.int .i64 0, .string (⟨#[]⟩ : ByteArray), .bool false, .int .i64 0, .int .i64 0]) ?_ 0 _ rfl; (with_reducible repeat (first | refine blk_drewN ?_ _ | refine blk_drew ?_ | refine blk_alloc ?_ _)); exact BK552.out⟩, ⟨zL HB.out⟩⟩
                    case rest =>
                      clear HC77
                      try clear c1
                      try clear c2
                      try clear p2
                      try clear c3
                      try clear c4
                      try clear c5
                      try clear p5
                      try clear q5
                      try clear hx5
                      try clear c6
                      try clear p6
                      try clear c7
                      try clear c8
                      try clear c9
                      try clear c10
                      try clear c12
                      try clear c13
                      try clear c13b0
                      try clear c14
                      try clear c21
                      try clear c25
                      try clear c25b0
                      try clear c25b1
                      try clear c26
                      try clear c27
                      try clear c30
                      try clear c30b0
                      try clear c32
                      try clear c32b0
                      try clear c33
                      try clear c33b0
                      try clear c35
                      try clear c35b0
                      try clear c36
                      try clear c36b0
                      try clear c49
                      try clear p52
                      try clear q52
                      try clear hx52
                      try clear c54
                      try clear c55
                      try clear c61
                      try clear c62
                      try clear c63
                      try clear p64
                      try clear c67
                      try clear c68
                      try clear c69
                      try clear c70
                      try clear c71
                      try clear c73
                      try clear c74
                      try clear c83
                      try clear c85
                      try clear c86
                      try clear c87
                      try clear c87b0
                      try clear c87b1
                      try clear c88
                      try clear c91
                      try clear c94
                      try clear hcz12_0
                      try clear hcz12_1
                      try clear hcz12_2
                      try clear hcz16_0
                      try clear hcz16_1
                      try clear hcz16_2
                      try clear hcz22_0
                      try clear hcz22_1
                      try clear hcz22_2
                      try clear hcz28_0
                      try clear hcz28_1
                      try clear hcz28_2
                      try clear hcz29_0
                      try clear hcz29_1
                      try clear hcz29_2
                      try clear hcz50_0
                      try clear hcz50_1
                      try clear hcz50_2
                      try clear hcz56_0
                      try clear hcz56_1
                      try clear hcz56_2
                      try clear hcz56_3
                      try clear hcz56_4
                      try clear hcz57_0
                      try clear hcz57_1
                      try clear hcz57_2
                      try clear hcz58_0
                      try clear hcz58_1
                      try clear hcz58_2
                      try clear hcz58_3
                      try clear hcz58_4
                      try clear hcz64_0
                      try clear hcz64_1
                      try clear hcz64_2
                      try clear hcz72_0
                      try clear hcz72_1
                      try clear hcz72_2
                      try clear hcz75_0
                      try clear hcz75_1
                      try clear hcz75_2
                      try clear hcz78_0
                      try clear hcz78_1
                      try clear hcz78_2
                      try clear hcz84_0
                      try clear hcz84_1
                      try clear hcz84_2
                      try clear hcz84_3
                      try clear hcz84_4
                      try clear hcz89_0
                      try clear hcz89_1
                      try clear hcz89_2
                      try clear hcz89_3
                      try clear hcz89_4
                      try clear hcz90_0
                      try clear hcz90_1
                      try clear hcz90_2
                      try clear hcz92_0
                      try clear hcz92_1
                      try clear hcz92_2
                      try clear hcz92_3
                      try clear hcz92_4
                      try clear hcz93_0
                      try clear hcz93_1
                      try clear hcz93_2
                      try clear hcz95_0
                      try clear hcz95_1
                      try clear hcz95_2
                      try clear hcz95_3
                      try clear hcz95_4
                      try clear hfz12_0
                      try clear hfz12_1
                      try clear hfz12_2
                      try clear hfz16_0
                      try clear hfz16_1
                      try clear hfz16_2
                      try clear hfz22_0
                      try clear hfz22_1
                      try clear hfz22_2
                      try clear hfz28_0
                      try clear hfz28_1
                      try clear hfz28_2
                      try clear hfz29_0
                      try clear hfz29_1
                      try clear hfz29_2
                      try clear hfz50_0
                      try clear hfz50_1
                      try clear hfz50_2
                      try clear hfz56_0
                      try clear hfz56_1
                      try clear hfz56_2
                      try clear hfz56_3
                      try clear hfz56_4
                      try clear hfz57_0
                      try clear hfz57_1
                      try clear hfz57_2
                      try clear hfz58_0
                      try clear hfz58_1
                      try clear hfz58_2
                      try clear hfz58_3
                      try clear hfz58_4
                      try clear hfz64_0
                      try clear hfz64_1
                      try clear hfz64_2
                      try clear hfz72_0
                      try clear hfz72_1
                      try clear hfz72_2
                      try clear hfz75_0
                      try clear hfz75_1
                      try clear hfz75_2
                      try clear hfz78_0
                      try clear hfz78_1
                      try clear hfz78_2
                      try clear hfz84_0
                      try clear hfz84_1
                      try clear hfz84_2
                      try clear hfz84_3
                      try clear hfz84_4
                      try clear hfz89_0
                      try clear hfz89_1
                      try clear hfz89_2
                      try clear hfz89_3
                      try clear hfz89_4
                      try clear hfz90_0
                      try clear hfz90_1
                      try clear hfz90_2
                      try clear hfz92_0
                      try clear hfz92_1
                      try clear hfz92_2
                      try clear hfz92_3
                      try clear hfz92_4
                      try clear hfz93_0
                      try clear hfz93_1
                      try clear hfz93_2
                      try clear hfz95_0
                      try clear hfz95_1
                      try clear hfz95_2
                      try clear hfz95_3
                      try clear hfz95_4
                      try clear hx526_0
                      try clear hx528_0
                      try clear hx528_1
                      try clear hx528_2
                      try clear hx528_3
                      try clear hx528_4
                      try clear p2
                      try clear p5
                      try clear p52
                      try clear p526
                      try clear p528
                      try clear p6
                      try clear p64
                      try clear q5
                      try clear q52
                      try clear q526
                      try clear q528
                      obtain ⟨kq, x140_76, rfl, HA, HJ76, HO_516001, HO_516002, BK515, BK552, HB⟩ := hcut
                      cases kq with
                      | zero => exact absurd HA.out (by simp [cooperagelaw16_LeaseReaders.j6])
                      | succ kj76 =>
                        have H := HA.out
                        clear HA
                        simp only [cooperagelaw16_LeaseReaders.j6] at H
                        by_cases c96 : x140_76 = true
                        · subst c96
                          have H1 : (some false) = some r := by rw [if_pos rfl] at H; exact H
                          clear H
                          have H := H1
                          clear H1
                          obtain rfl := Option.some.inj H
                          go_wp2
                          go_ret
                          exact ⟨by first | rfl | (simp [errW_none, errW_some] <;> rfl) | (simp [*, errW_none, errW_some] <;> rfl), zL HB.out⟩
                        · replace c96 := Bool.eq_false_iff.mpr c96
                          subst c96
                          have H1 : ((lease_Leave.f kj76 x516000_3 x516001_3 x516002_3 (wrap64 ((wrap64 (1 + t513)) + 1)) 2).bind fun bt553 => (if (bt553.2.1.length : Int) = t514 then (some ((bt553.2.2.length : Int) == 0)) else (some false))) = some r := by rw [if_neg (show ¬ (false = true) by decide)] at H; exact H
                          clear H
                          have H := H1
                          clear H1
                          replace H := Option.bind_eq_some_iff.mp H
                          obtain ⟨⟨t553, t554, t557⟩, A970, H⟩ := H
                          replace H : (if (t554.length : Int) = t514 then (some ((t557.length : Int) == 0)) else (some false)) = some r := H
                          have A97 := Aside0.mk A970
                          clear A970
                          by_cases c98 : (t554.length : Int) = t514
                          · rw [if_pos c98] at H
                            have c98b0 : ((t554.length : Int) == t514) = true := beq_iff_eq.mpr c98
                            have c98b1 : ((t554.length : Int) != t514) = false := bne_eq_false_iff_eq.mpr c98
                            clear c98
                            obtain rfl := Option.some.inj H
                            have hnb99 := NB515_552.out
                            have hnc99 := NB552_515.out
                            have hcz100_0 : wc.cell? ⟨gb515, 0, none⟩ = some (.int .i64 x516000_3) := (blk_cell BK515.out 0).trans rfl
                            have hcz100_1 : wc.cell? ⟨gb515, 1, none⟩ = some (.slice Ao79 x516001_3.length co79) := (blk_cell BK515.out 1).trans rfl
                            have hcz100_2 : wc.cell? ⟨gb515, 2, none⟩ = some (.slice Ao80 x516002_3.length co80) := (blk_cell BK515.out 2).trans rfl
                            have hfz100_0 := blk_frozen BK515.out 0
                            have hfz100_1 := blk_frozen BK515.out 1
                            have hfz100_2 := blk_frozen BK515.out 2
                            go_wp2_with (first | ((with_reducible refine gate_callee (f := 15) rfl ?_); refine goesL_ (some 144) rfl rfl Tryd.func15 (by kernel_rfl) rfl #[.agg #[.int .i64 x516000_3, .slice Ao79 x516001_3.length co79, .slice Ao80 x516002_3.length co80], .int .i64 (wrap64 ((wrap64 (1 + t513)) + 1)), .int .i64 2] rfl zA ?_; (with_reducible refine (lease_Leave.calls kj76 x516000_3 (fun k_ => some k_ = (.slice Ao79 x516001_3.length co79 : Value).ownBlock) _ _ x516001_3 (fun k_ => some k_ = (.slice Ao80 x516002_3.length co80 : Value).ownBlock) _ _ x516002_3 (wrap64 ((wrap64 (1 + t513)) + 1)) 2 t553 t554 t557 _ ?side1 ?side2 A97.out).mono ?_); (case side1 => exact Kd.R_V (Kd.R_tight rfl (Kd.R_types (Kd.R_apart' (HO_516001.out) (Kd.R_typed HO_516002.out) (by decide)) BK515.out (by decide)))); (case side2 => exact Kd.R_V (Kd.R_tight rfl (Kd.R_types (Kd.R_types (Kd.R_apart' (HO_516002.out) (Kd.R_typed HO_516001.out) (by decide)) BK515.out (by decide)) BK552.out (by decide)))); rintro e w101 ⟨v555, v558, rfl, ho0, ho1, hb⟩; refine ⟨_, rfl, ?_⟩; have n0_ := Aside0.mk (Kd.R_below (zR HO_516001.out) hb); have n1_ := Aside0.mk (Kd.R_below (zR HO_516002.out) hb); have n2_ := Aside0.mk (Kd.V_lower (Kd.V_mono (ok' := fun k_ => k_ ≠ gb515 ∧ k_ ≠ gb552) ho0 (fun k_ hk_ => ⟨Or.elim hk_ (fun hs_ => Or.elim hs_ (fun hs_ => ((Kd.R_types (Kd.R_apart' (HO_516001.out) (Kd.R_typed HO_516002.out) (by decide)) BK515.out (by decide)).1 k_ hs_.symm).2) (fun hs_ => ((Kd.R_types (Kd.R_types (Kd.R_apart' (HO_516002.out) (Kd.R_typed HO_516001.out) (by decide)) BK515.out (by decide)) BK552.out (by decide)).1 k_ hs_.symm).1.2)) (fun hn_ => (Kd.freshB (g := gb515) (o := .cells #[.int .i64 x516000_3, .slice Ao79 x516001_3.length co79, .slice Ao80 x516002_3.length co80] 27 (0, 0)) (zK BK515.out) k_ hn_)), Or.elim hk_ (fun hs_ => Or.elim hs_ (fun hs_ => ((Kd.R_types (Kd.R_apart' (HO_516001.out) (Kd.R_typed HO_516002.out) (by decide)) BK515.out (by decide)).1 k_ hs_.symm).1.1) (fun hs_ => ((Kd.R_types (Kd.R_types (Kd.R_apart' (HO_516002.out) (Kd.R_typed HO_516001.out) (by decide)) BK515.out (by decide)) BK552.out (by decide)).1 k_ hs_.symm).2)) (fun hn_ => (Kd.freshB (g := gb552) (o := .cells #[.int .i64 t546, .string t547, .bool t548, .int .i64 t549, .int .i64 t550] 34 (0, 0)) (zK BK552.out) k_ hn_))⟩)) (below_size (zL HB.out))); have n3_ := Aside0.mk (Kd.V_lower (Kd.V_mono (ok' := fun k_ => k_ ≠ gb515 ∧ k_ ≠ gb552) ho1 (fun k_ hk_ => ⟨Or.elim hk_ (fun hs_ => Or.elim hs_ (fun hs_ => ((Kd.R_types (Kd.R_apart' (HO_516001.out) (Kd.R_typed HO_516002.out) (by decide)) BK515.out (by decide)).1 k_ hs_.symm).2) (fun hs_ => ((Kd.R_types (Kd.R_types (Kd.R_apart' (HO_516002.out) (Kd.R_typed HO_516001.out) (by decide)) BK515.out (by decide)) BK552.out (by decide)).1 k_ hs_.symm).1.2)) (fun hn_ => (Kd.freshB (g := gb515) (o := .cells #[.int .i64 x516000_3, .slice Ao79 x516001_3.length co79, .slice Ao80 x516002_3.length co80] 27 (0, 0)) (zK BK515.out) k_ hn_)), Or.elim hk_ (fun hs_ => Or.elim hs_ (fun hs_ => ((Kd.R_types (Kd.R_apart' (HO_516001.out) (Kd.R_typed HO_516002.out) (by decide)) BK515.out (by decide)).1 k_ hs_.symm).1.1) (fun hs_ => ((Kd.R_types (Kd.R_types (Kd.R_apart' (HO_516002.out) (Kd.R_typed HO_516001.out) (by decide)) BK515.out (by decide)) BK552.out (by decide)).1 k_ hs_.symm).2)) (fun hn_ => (Kd.freshB (g := gb552) (o := .cells #[.int .i64 t546, .string t547, .bool t548, .int .i64 t549, .int .i64 t550] 34 (0, 0)) (zK BK552.out) k_ hn_))⟩)) (below_size (zL HB.out))); have n4_ := Aside0.mk (blk_below (g := gb515) (o := .cells #[.int .i64 x516000_3, .slice Ao79 x516001_3.length co79, .slice Ao80 x516002_3.length co80] 27 (0, 0)) (zK BK515.out) hb); have n5_ := Aside0.mk (blk_below (g := gb552) (o := .cells #[.int .i64 t546, .string t547, .bool t548, .int .i64 t549, .int .i64 t550] 34 (0, 0)) (zK BK552.out) hb); have n6_ := Aside0.mk (below_step (zL HB.out) hb); clear HO_516001; clear HO_516002; clear BK515; clear BK552; clear HB; have HO_516001 := n0_; have HO_516002 := n1_; have HO556 := n2_; have HO559 := n3_; have BK515 := n4_; have BK552 := n5_; have HB := n6_; clear n0_ n1_ n2_ n3_ n4_ n5_ n6_; (try clear hb); (try clear hb2); (try clear hk); (try clear hi); (try clear ho0); (try clear ho1); have hcz102_0 : w101.cell? ⟨gb515, 0, none⟩ = some (.int .i64 x516000_3) := (blk_cell BK515.out 0).trans rfl; have hcz102_1 : w101.cell? ⟨gb515, 1, none⟩ = some (.slice Ao79 x516001_3.length co79) := (blk_cell BK515.out 1).trans rfl; have hcz102_2 : w101.cell? ⟨gb515, 2, none⟩ = some (.slice Ao80 x516002_3.length co80) := (blk_cell BK515.out 2).trans rfl; have hfz102_0 := blk_frozen BK515.out 0; have hfz102_1 := blk_frozen BK515.out 1; have hfz102_2 := blk_frozen BK515.out 2; obtain ⟨Ao103, co103, eo103⟩ := Kd.V_slice HO556.out; subst eo103; obtain ⟨Ao104, co104, eo104⟩ := Kd.V_slice HO559.out; subst eo104))
                            go_ret
                            exact ⟨by first | rfl | (simp [errW_none, errW_some] <;> rfl) | (simp [*, errW_none, errW_some] <;> rfl), zL HB.out⟩
                          · rw [if_neg c98] at H
                            have c98b0 : ((t554.length : Int) == t514) = false := beq_eq_false_iff_ne.mpr c98
                            have c98b1 : ((t554.length : Int) != t514) = true := bne_iff_ne.mpr c98
                            obtain rfl := Option.some.inj H
                            have hnb105 := NB515_552.out
                            have hnc105 := NB552_515.out
                            have hcz106_0 : wc.cell? ⟨gb515, 0, none⟩ = some (.int .i64 x516000_3) := (blk_cell BK515.out 0).trans rfl
                            have hcz106_1 : wc.cell? ⟨gb515, 1, none⟩ = some (.slice Ao79 x516001_3.length co79) := (blk_cell BK515.out 1).trans rfl
                            have hcz106_2 : wc.cell? ⟨gb515, 2, none⟩ = some (.slice Ao80 x516002_3.length co80) := (blk_cell BK515.out 2).trans rfl
                            have hfz106_0 := blk_frozen BK515.out 0
                            have hfz106_1 := blk_frozen BK515.out 1
                            have hfz106_2 := blk_frozen BK515.out 2
                            go_wp2_with (first | ((with_reducible refine gate_callee (f := 15) rfl ?_); refine goesL_ (some 144) rfl rfl Tryd.func15 (by kernel_rfl) rfl #[.agg #[.int .i64 x516000_3, .slice Ao79 x516001_3.length co79, .slice Ao80 x516002_3.length co80], .int .i64 (wrap64 ((wrap64 (1 + t513)) + 1)), .int .i64 2] rfl zA ?_; (with_reducible refine (lease_Leave.calls kj76 x516000_3 (fun k_ => some k_ = (.slice Ao79 x516001_3.length co79 : Value).ownBlock) _ _ x516001_3 (fun k_ => some k_ = (.slice Ao80 x516002_3.length co80 : Value).ownBlock) _ _ x516002_3 (wrap64 ((wrap64 (1 + t513)) + 1)) 2 t553 t554 t557 _ ?side1 ?side2 A97.out).mono ?_); (case side1 => exact Kd.R_V (Kd.R_tight rfl (Kd.R_types (Kd.R_apart' (HO_516001.out) (Kd.R_typed HO_516002.out) (by decide)) BK515.out (by decide)))); (case side2 => exact Kd.R_V (Kd.R_tight rfl (Kd.R_types (Kd.R_types (Kd.R_apart' (HO_516002.out) (Kd.R_typed HO_516001.out) (by decide)) BK515.out (by decide)) BK552.out (by decide)))); rintro e w107 ⟨v555, v558, rfl, ho0, ho1, hb⟩; refine ⟨_, rfl, ?_⟩; have n0_ := Aside0.mk (Kd.R_below (zR HO_516001.out) hb); have n1_ := Aside0.mk (Kd.R_below (zR HO_516002.out) hb); have n2_ := Aside0.mk (Kd.V_lower (Kd.V_mono (ok' := fun k_ => k_ ≠ gb515 ∧ k_ ≠ gb552) ho0 (fun k_ hk_ => ⟨Or.elim hk_ (fun hs_ => Or.elim hs_ (fun hs_ => ((Kd.R_types (Kd.R_apart' (HO_516001.out) (Kd.R_typed HO_516002.out) (by decide)) BK515.out (by decide)).1 k_ hs_.symm).2) (fun hs_ => ((Kd.R_types (Kd.R_types (Kd.R_apart' (HO_516002.out) (Kd.R_typed HO_516001.out) (by decide)) BK515.out (by decide)) BK552.out (by decide)).1 k_ hs_.symm).1.2)) (fun hn_ => (Kd.freshB (g := gb515) (o := .cells #[.int .i64 x516000_3, .slice Ao79 x516001_3.length co79, .slice Ao80 x516002_3.length co80] 27 (0, 0)) (zK BK515.out) k_ hn_)), Or.elim hk_ (fun hs_ => Or.elim hs_ (fun hs_ => ((Kd.R_types (Kd.R_apart' (HO_516001.out) (Kd.R_typed HO_516002.out) (by decide)) BK515.out (by decide)).1 k_ hs_.symm).1.1) (fun hs_ => ((Kd.R_types (Kd.R_types (Kd.R_apart' (HO_516002.out) (Kd.R_typed HO_516001.out) (by decide)) BK515.out (by decide)) BK552.out (by decide)).1 k_ hs_.symm).2)) (fun hn_ => (Kd.freshB (g := gb552) (o := .cells #[.int .i64 t546, .string t547, .bool t548, .int .i64 t549, .int .i64 t550] 34 (0, 0)) (zK BK552.out) k_ hn_))⟩)) (below_size (zL HB.out))); have n3_ := Aside0.mk (Kd.V_lower (Kd.V_mono (ok' := fun k_ => k_ ≠ gb515 ∧ k_ ≠ gb552) ho1 (fun k_ hk_ => ⟨Or.elim hk_ (fun hs_ => Or.elim hs_ (fun hs_ => ((Kd.R_types (Kd.R_apart' (HO_516001.out) (Kd.R_typed HO_516002.out) (by decide)) BK515.out (by decide)).1 k_ hs_.symm).2) (fun hs_ => ((Kd.R_types (Kd.R_types (Kd.R_apart' (HO_516002.out) (Kd.R_typed HO_516001.out) (by decide)) BK515.out (by decide)) BK552.out (by decide)).1 k_ hs_.symm).1.2)) (fun hn_ => (Kd.freshB (g := gb515) (o := .cells #[.int .i64 x516000_3, .slice Ao79 x516001_3.length co79, .slice Ao80 x516002_3.length co80] 27 (0, 0)) (zK BK515.out) k_ hn_)), Or.elim hk_ (fun hs_ => Or.elim hs_ (fun hs_ => ((Kd.R_types (Kd.R_apart' (HO_516001.out) (Kd.R_typed HO_516002.out) (by decide)) BK515.out (by decide)).1 k_ hs_.symm).1.1) (fun hs_ => ((Kd.R_types (Kd.R_types (Kd.R_apart' (HO_516002.out) (Kd.R_typed HO_516001.out) (by decide)) BK515.out (by decide)) BK552.out (by decide)).1 k_ hs_.symm).2)) (fun hn_ => (Kd.freshB (g := gb552) (o := .cells #[.int .i64 t546, .string t547, .bool t548, .int .i64 t549, .int .i64 t550] 34 (0, 0)) (zK BK552.out) k_ hn_))⟩)) (below_size (zL HB.out))); have n4_ := Aside0.mk (blk_below (g := gb515) (o := .cells #[.int .i64 x516000_3, .slice Ao79 x516001_3.length co79, .slice Ao80 x516002_3.length co80] 27 (0, 0)) (zK BK515.out) hb); have n5_ := Aside0.mk (blk_below (g := gb552) (o := .cells #[.int .i64 t546, .string t547, .bool t548, .int .i64 t549, .int .i64 t550] 34 (0, 0)) (zK BK552.out) hb); have n6_ := Aside0.mk (below_step (zL HB.out) hb); clear HO_516001; clear HO_516002; clear BK515; clear BK552; clear HB; have HO_516001 := n0_; have HO_516002 := n1_; have HO556 := n2_; have HO559 := n3_; have BK515 := n4_; have BK552 := n5_; have HB := n6_; clear n0_ n1_ n2_ n3_ n4_ n5_ n6_; (try clear hb); (try clear hb2); (try clear hk); (try clear hi); (try clear ho0); (try clear ho1); have hcz108_0 : w107.cell? ⟨gb515, 0, none⟩ = some (.int .i64 x516000_3) := (blk_cell BK515.out 0).trans rfl; have hcz108_1 : w107.cell? ⟨gb515, 1, none⟩ = some (.slice Ao79 x516001_3.length co79) := (blk_cell BK515.out 1).trans rfl; have hcz108_2 : w107.cell? ⟨gb515, 2, none⟩ = some (.slice Ao80 x516002_3.length co80) := (blk_cell BK515.out 2).trans rfl; have hfz108_0 := blk_frozen BK515.out 0; have hfz108_1 := blk_frozen BK515.out 1; have hfz108_2 := blk_frozen BK515.out 2; obtain ⟨Ao109, co109, eo109⟩ := Kd.V_slice HO556.out; subst eo109; obtain ⟨Ao110, co110, eo110⟩ := Kd.V_slice HO559.out; subst eo110))
                            go_ret
                            exact ⟨by first | rfl | (simp [errW_none, errW_some] <;> rfl) | (simp [*, errW_none, errW_some] <;> rfl), zL HB.out⟩

/-- THE ONE PURE STATEMENT of cooperagelaw16_LeaseReaders. -/
def cooperagelaw16_LeaseReaders.Pure : Prop := ∀ (a0 : Int) (a1 : Int) (l2 : List Int), (Lit.int .i64 a0).wf = true → (Lit.int .i64 a1).wf = true → l2.length ≤ 9223372036854775807 → l2.length * 8 ≤ 140737488351232 → (∀ x ∈ l2, (Lit.int .i64 x).wf = true) → ∃ k, cooperagelaw16_LeaseReaders.f k a0 a1 l2 = some true
theorem cooperagelaw16_LeaseReaders.walk (P : cooperagelaw16_LeaseReaders.Pure) (a0 : Int) (a1 : Int) (A2 : Option Addr) (c2 : Nat) (l2 : List Int) (w : World) (w0 : (Lit.int .i64 a0).wf = true) (w1 : (Lit.int .i64 a1).wf = true) (r2 : Kd.C (Kd.int .i64) w A2 l2.length l2) (q2 : l2.length ≤ c2) (m2 : l2.length ≤ 9223372036854775807) (y2 : l2.length * 8 ≤ 140737488351232) (e2 : ∀ x ∈ l2, (Lit.int .i64 x).wf = true) :
    Calls Tryd.prog 4 #[.int .i64 a0, .int .i64 a1, .slice A2 l2.length c2] w fun e w' => e = .returned (.bool true) ∧ Below w.heap.size w w' := by
  obtain ⟨k, h⟩ := P a0 a1 l2 w0 w1 m2 y2 e2
  refine (cooperagelaw16_LeaseReaders.calls k a0 a1 _ _ l2 true w r2 q2 h).mono ?_
  rintro e w' ⟨rfl, hd⟩
  exact ⟨rfl, hd⟩

end Go.Proofs.YtgcghjkaomgloaaDoor.PLease
