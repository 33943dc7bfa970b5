-- Written by a program of this session (wip/tools/ext.py, over the kit's printer); not trusted: Lean checks it.
import Derived.Test.YtgcghjkaomgloaaDoorPLeasex0
import Derived.Test.YtgcghjkaomgloaaDoorPLeasex1
import Derived.Test.YtgcghjkaomgloaaDoorPLeasex6
import Derived.Test.YtgcghjkaomgloaaDoorPLeasex9
namespace Go.Proofs.YtgcghjkaomgloaaDoor.PLease
open Go.RowKit Go.Proofs.YtgcghjkaomgloaaDoorW.PrintWords Go.Proofs.YtgcghjkaomgloaaDoorW.PrintLast Go.Proofs.YtgcghjkaomgloaaDoorW.PrintMore
attribute [local go_sem] max2_int min2_int max_two min_two max_three min_three max_four min_four   -- for this text's walks alone
set_option linter.unusedVariables false
set_option linter.unusedSimpArgs false

theorem zI {α : Type} {d : Kd α} {e base n c : Nat} {W : World} {ok : Nat → Prop} {ad : Addr} {xs : List α} (h : Kd.V d e W base ok (.slice (some ad) n c) xs) (hn : 0 < n) (hs : 0 < d.sz) : ok ad.block := by
 obtain ⟨hl, _, hf⟩ := Kd.V_at h
 refine Classical.byContradiction fun hno => ?_
 have h2 := hf { W with heap := W.heap.setIfInBounds ad.block (.cells #[] 0) } (fun k hk hlt => by simp [show ad.block ≠ k from fun e => hno (e ▸ hk)])
 obtain ⟨ad', he, hc⟩ := h2.2.2 (by omega)
 injection he with he
 subst he
 obtain ⟨c', hcl, _, hcell⟩ := hc 0 _ (List.getElem?_eq_getElem (by omega))
 have h1 := hcell 0 _ (List.getElem?_eq_getElem (by omega))
 rw [Nat.zero_mul, Nat.zero_add, Addr.add_zero'] at h1
 have h0 : ({ W with heap := W.heap.setIfInBounds ad.block (.cells #[] 0) } : World).cell? ad = none := by
  by_cases hlt : ad.block < W.heap.size <;> simp [World.cell?, hlt]
 exact absurd (h0.symm.trans h1) (by simp)
/-! ### cooperagelaw16_LeaseOne: function 6 -/
mutual
def cooperagelaw16_LeaseOne.j0 : Nat → List (S52) → Bool → Bool → Option (Bool)
 | 0, _, _, _ => none
 | k + 1, x0, x3, x27 => if x27 = true then (some x3) else (cooperagelaw16_LeaseOne.l0 k x0 0 0 0 ([] : List (S34)) ([] : List (S32)))
def cooperagelaw16_LeaseOne.l0 : Nat → List (S52) → Int → Int → Int → List (S34) → List (S32) → Option (Bool)
 | 0, _, _, _, _, _, _ => none
 | k + 1, x0, x6, x7, x537000, x537001, x537002 => if x7 < (x0.length : Int) then (if 0 ≤ x7 then ((cooperagelaw16_pick.f ((rd_T52 x0 x7).f4) 5).bind fun t538 => ((cooperagelaw16_does.f k x537000 x537001 x537002 ((rd_T52 x0 x7).f0) ((rd_T52 x0 x7).f1) ((rd_T52 x0 x7).f2) ((rd_T52 x0 x7).f3) ((rd_T52 x0 x7).f4) ((rd_T52 x0 x7).f5) ((rd_T52 x0 x7).f6) (wrap64 (x6 + t538))).bind fun bt540 => (cooperagelaw16_LeaseOne.l1 k x0 (wrap64 (x6 + t538)) x7 0 bt540.1 bt540.2.1 bt540.2.2.1))) else (none)) else (some true)
def cooperagelaw16_LeaseOne.l1 : Nat → List (S52) → Int → Int → Int → Int → List (S34) → List (S32) → Option (Bool)
 | 0, _, _, _, _, _, _, _ => none
 | k + 1, x0, x6, x7, x8, x537000, x537001, x537002 => if x8 < (x537001.length : Int) then (cooperagelaw16_LeaseOne.l2 k x0 x6 x7 x8 0 x537000 x537001 x537002) else (cooperagelaw16_LeaseOne.l3 k x0 x6 x7 0 x537000 x537001 x537002)
def cooperagelaw16_LeaseOne.l2 : Nat → List (S52) → Int → Int → Int → Int → Int → List (S34) → List (S32) → Option (Bool)
 | 0, _, _, _, _, _, _, _, _ => none
 | k + 1, x0, x6, x7, x8, x9, x537000, x537001, x537002 => if x9 < x8 then (if 0 ≤ x8 then (if x8 < (x537001.length : Int) then (if 0 ≤ x9 then (if x9 < (x537001.length : Int) then (if ((rd_T34 x537001 x8).f1).toList = ((rd_T34 x537001 x9).f1).toList then (if (rd_T34 x537001 x8).f2 = true then (cooperagelaw16_LeaseOne.j4 k x0 x6 x7 x8 x9 true x537000 x537001 x537002) else (if (rd_T34 x537001 x9).f2 = true then (cooperagelaw16_LeaseOne.j4 k x0 x6 x7 x8 x9 true x537000 x537001 x537002) else (if ((rd_T34 x537001 x8).f0) = ((rd_T34 x537001 x9).f0) then (cooperagelaw16_LeaseOne.j4 k x0 x6 x7 x8 x9 true x537000 x537001 x537002) else (if ((rd_T34 x537001 x8).f3) ≤ ((rd_T34 x537001 x9).f3) then (cooperagelaw16_LeaseOne.j4 k x0 x6 x7 x8 x9 true x537000 x537001 x537002) else (cooperagelaw16_LeaseOne.j4 k x0 x6 x7 x8 x9 (decide (((rd_T34 x537001 x8).f3) > x537000)) x537000 x537001 x537002))))) else (if ((rd_T34 x537001 x8).f3) ≤ ((rd_T34 x537001 x9).f3) then (cooperagelaw16_LeaseOne.j4 k x0 x6 x7 x8 x9 true x537000 x537001 x537002) else (cooperagelaw16_LeaseOne.j4 k x0 x6 x7 x8 x9 (decide (((rd_T34 x537001 x8).f3) > x537000)) x537000 x537001 x537002))) else (none)) else (none)) else (none)) else (none)) else (cooperagelaw16_LeaseOne.l1 k x0 x6 x7 (wrap64 (x8 + 1)) x537000 x537001 x537002)
def cooperagelaw16_LeaseOne.j4 : Nat → List (S52) → Int → Int → Int → Int → Bool → Int → List (S34) → List (S32) → Option (Bool)
 | 0, _, _, _, _, _, _, _, _, _ => none
 | k + 1, x0, x6, x7, x8, x9, x110, x537000, x537001, x537002 => if x110 = true then (some false) else (cooperagelaw16_LeaseOne.l2 k x0 x6 x7 x8 (wrap64 (x9 + 1)) x537000 x537001 x537002)
def cooperagelaw16_LeaseOne.l3 : Nat → List (S52) → Int → Int → Int → Int → List (S34) → List (S32) → Option (Bool)
 | 0, _, _, _, _, _, _, _ => none
 | k + 1, x0, x6, x7, x12, x537000, x537001, x537002 => if x12 < (x537002.length : Int) then (if 0 ≤ x12 then (cooperagelaw16_LeaseOne.l4 k x0 x6 x7 x12 false 0 x537000 x537001 x537002 ((rd_T32 x537002 x12).f0) ((rd_T32 x537002 x12).f1) ((rd_T32 x537002 x12).f2) ((rd_T32 x537002 x12).f3)) else (none)) else (cooperagelaw16_LeaseOne.l0 k x0 x6 (wrap64 (x7 + 1)) x537000 x537001 x537002)
def cooperagelaw16_LeaseOne.l4 : Nat → List (S52) → Int → Int → Int → Bool → Int → Int → List (S34) → List (S32) → Int → ByteArray → Bool → Int → Option (Bool)
 | 0, _, _, _, _, _, _, _, _, _, _, _, _, _ => none
 | k + 1, x0, x6, x7, x12, x14, x15, x537000, x537001, x537002, x555000, x555001, x555002, x555003 => if x15 < (x537001.length : Int) then (if x14 = true then (cooperagelaw16_LeaseOne.l4 k x0 x6 x7 x12 true (wrap64 (x15 + 1)) x537000 x537001 x537002 x555000 x555001 x555002 x555003) else (if 0 ≤ x15 then (if ((rd_T34 x537001 x15).f1).toList = x555001.toList then (if (rd_T34 x537001 x15).f2 = true then (cooperagelaw16_LeaseOne.l4 k x0 x6 x7 x12 true (wrap64 (x15 + 1)) x537000 x537001 x537002 x555000 x555001 x555002 x555003) else (cooperagelaw16_LeaseOne.l4 k x0 x6 x7 x12 x555002 (wrap64 (x15 + 1)) x537000 x537001 x537002 x555000 x555001 x555002 x555003)) else (cooperagelaw16_LeaseOne.l4 k x0 x6 x7 x12 false (wrap64 (x15 + 1)) x537000 x537001 x537002 x555000 x555001 x555002 x555003)) else (none))) else (cooperagelaw16_LeaseOne.l5 k x0 x6 x7 x12 x14 0 x537000 x537001 x537002 x555000 x555001 x555002 x555003)
def cooperagelaw16_LeaseOne.l5 : Nat → List (S52) → Int → Int → Int → Bool → Int → Int → List (S34) → List (S32) → Int → ByteArray → Bool → Int → Option (Bool)
 | 0, _, _, _, _, _, _, _, _, _, _, _, _, _ => none
 | k + 1, x0, x6, x7, x12, x14, x16, x537000, x537001, x537002, x555000, x555001, x555002, x555003 => if x16 < x12 then (if x14 = true then (cooperagelaw16_LeaseOne.j8 k x0 x6 x7 x12 true x16 x537000 x537001 x537002 x555000 x555001 x555002 x555003) else (if 0 ≤ x16 then (if x16 < (x537002.length : Int) then (cooperagelaw16_LeaseOne.j8 k x0 x6 x7 x12 (((rd_T32 x537002 x16).f1).toList == x555001.toList) x16 x537000 x537001 x537002 x555000 x555001 x555002 x555003) else (none)) else (none))) else ((lease_Held.f k x537000 x537001 x537002 x555000 x555001).bind fun bt559 => (if x14 = true then (cooperagelaw16_LeaseOne.j9 k x0 x6 x7 x12 bt559.2.2.2.2.2 x537000 x537001 x537002) else (cooperagelaw16_LeaseOne.j9 k x0 x6 x7 x12 true x537000 x537001 x537002)))
def cooperagelaw16_LeaseOne.j8 : Nat → List (S52) → Int → Int → Int → Bool → Int → Int → List (S34) → List (S32) → Int → ByteArray → Bool → Int → Option (Bool)
 | 0, _, _, _, _, _, _, _, _, _, _, _, _, _ => none
 | k + 1, x0, x6, x7, x12, x14, x16, x537000, x537001, x537002, x555000, x555001, x555002, x555003 => if 0 ≤ x16 then (if x16 < (x537002.length : Int) then (if ((rd_T32 x537002 x16).f0) = x555000 then (some false) else (cooperagelaw16_LeaseOne.l5 k x0 x6 x7 x12 x14 (wrap64 (x16 + 1)) x537000 x537001 x537002 x555000 x555001 x555002 x555003)) else (none)) else (none)
def cooperagelaw16_LeaseOne.j9 : Nat → List (S52) → Int → Int → Int → Bool → Int → List (S34) → List (S32) → Option (Bool)
 | 0, _, _, _, _, _, _, _, _ => none
 | k + 1, x0, x6, x7, x12, x193, x537000, x537001, x537002 => if x193 = true then (some false) else (cooperagelaw16_LeaseOne.l3 k x0 x6 x7 (wrap64 (x12 + 1)) x537000 x537001 x537002)
end
def cooperagelaw16_LeaseOne.f (k : Nat) (l0 : List (S52)) : Option (Bool) := (cooperagelaw16_shown.f k).bind fun t534 => ((cooperagelaw16_right.f k l0).bind fun t535 => (if t534 = true then (cooperagelaw16_LeaseOne.j0 k l0 t534 (!t535)) else (cooperagelaw16_LeaseOne.j0 k l0 t534 true)))
theorem cooperagelaw16_LeaseOne.mono_l : ∀ k, (∀ y0 y1 y2, LeO (cooperagelaw16_LeaseOne.j0 k y0 y1 y2) (cooperagelaw16_LeaseOne.j0 (k + 1) y0 y1 y2)) ∧ (∀ y0 y1 y2 y3 y4 y5, LeO (cooperagelaw16_LeaseOne.l0 k y0 y1 y2 y3 y4 y5) (cooperagelaw16_LeaseOne.l0 (k + 1) y0 y1 y2 y3 y4 y5)) ∧ (∀ y0 y1 y2 y3 y4 y5 y6, LeO (cooperagelaw16_LeaseOne.l1 k y0 y1 y2 y3 y4 y5 y6) (cooperagelaw16_LeaseOne.l1 (k + 1) y0 y1 y2 y3 y4 y5 y6)) ∧ (∀ y0 y1 y2 y3 y4 y5 y6 y7, LeO (cooperagelaw16_LeaseOne.l2 k y0 y1 y2 y3 y4 y5 y6 y7) (cooperagelaw16_LeaseOne.l2 (k + 1) y0 y1 y2 y3 y4 y5 y6 y7)) ∧ (∀ y0 y1 y2 y3 y4 y5 y6 y7 y8, LeO (cooperagelaw16_LeaseOne.j4 k y0 y1 y2 y3 y4 y5 y6 y7 y8) (cooperagelaw16_LeaseOne.j4 (k + 1) y0 y1 y2 y3 y4 y5 y6 y7 y8)) ∧ (∀ y0 y1 y2 y3 y4 y5 y6, LeO (cooperagelaw16_LeaseOne.l3 k y0 y1 y2 y3 y4 y5 y6) (cooperagelaw16_LeaseOne.l3 (k + 1) y0 y1 y2 y3 y4 y5 y6)) ∧ (∀ y0 y1 y2 y3 y4 y5 y6 y7 y8 y9 y10 y11 y12, LeO (cooperagelaw16_LeaseOne.l4 k y0 y1 y2 y3 y4 y5 y6 y7 y8 y9 y10 y11 y12) (cooperagelaw16_LeaseOne.l4 (k + 1) y0 y1 y2 y3 y4 y5 y6 y7 y8 y9 y10 y11 y12)) ∧ (∀ y0 y1 y2 y3 y4 y5 y6 y7 y8 y9 y10 y11 y12, LeO (cooperagelaw16_LeaseOne.l5 k y0 y1 y2 y3 y4 y5 y6 y7 y8 y9 y10 y11 y12) (cooperagelaw16_LeaseOne.l5 (k + 1) y0 y1 y2 y3 y4 y5 y6 y7 y8 y9 y10 y11 y12)) ∧ (∀ y0 y1 y2 y3 y4 y5 y6 y7 y8 y9 y10 y11 y12, LeO (cooperagelaw16_LeaseOne.j8 k y0 y1 y2 y3 y4 y5 y6 y7 y8 y9 y10 y11 y12) (cooperagelaw16_LeaseOne.j8 (k + 1) y0 y1 y2 y3 y4 y5 y6 y7 y8 y9 y10 y11 y12)) ∧ (∀ y0 y1 y2 y3 y4 y5 y6 y7, LeO (cooperagelaw16_LeaseOne.j9 k y0 y1 y2 y3 y4 y5 y6 y7) (cooperagelaw16_LeaseOne.j9 (k + 1) y0 y1 y2 y3 y4 y5 y6 y7))
 | 0 => ⟨fun _ _ _ r h => by simp [cooperagelaw16_LeaseOne.j0] at h, fun _ _ _ _ _ _ r h => by simp [cooperagelaw16_LeaseOne.l0] at h, fun _ _ _ _ _ _ _ r h => by simp [cooperagelaw16_LeaseOne.l1] at h, fun _ _ _ _ _ _ _ _ r h => by simp [cooperagelaw16_LeaseOne.l2] at h, fun _ _ _ _ _ _ _ _ _ r h => by simp [cooperagelaw16_LeaseOne.j4] at h, fun _ _ _ _ _ _ _ r h => by simp [cooperagelaw16_LeaseOne.l3] at h, fun _ _ _ _ _ _ _ _ _ _ _ _ _ r h => by simp [cooperagelaw16_LeaseOne.l4] at h, fun _ _ _ _ _ _ _ _ _ _ _ _ _ r h => by simp [cooperagelaw16_LeaseOne.l5] at h, fun _ _ _ _ _ _ _ _ _ _ _ _ _ r h => by simp [cooperagelaw16_LeaseOne.j8] at h, fun _ _ _ _ _ _ _ _ r h => by simp [cooperagelaw16_LeaseOne.j9] at h⟩
 | k + 1 => by
  obtain ⟨ih0, ih1, ih2, ih3, ih4, ih5, ih6, ih7, ih8, ih9⟩ := cooperagelaw16_LeaseOne.mono_l k
  refine ⟨?_, ?_, ?_, ?_, ?_, ?_, ?_, ?_, ?_, ?_⟩
  ·intro y0 y1 y2
   unfold cooperagelaw16_LeaseOne.j0
   repeat' first
   | (with_reducible exact ih0 _ _ _)
   | (with_reducible exact ih1 _ _ _ _ _ _)
   | (with_reducible exact ih2 _ _ _ _ _ _ _)
   | (with_reducible exact ih3 _ _ _ _ _ _ _ _)
   | (with_reducible exact ih4 _ _ _ _ _ _ _ _ _)
   | (with_reducible exact ih5 _ _ _ _ _ _ _)
   | (with_reducible exact ih6 _ _ _ _ _ _ _ _ _ _ _ _ _)
   | (with_reducible exact ih7 _ _ _ _ _ _ _ _ _ _ _ _ _)
   | (with_reducible exact ih8 _ _ _ _ _ _ _ _ _ _ _ _ _)
   | (with_reducible exact ih9 _ _ _ _ _ _ _ _)
   | (with_reducible exact cooperagelaw16_does.mono _ _ _ _ _ _ _ _ _ _ _ _)
   | (with_reducible exact cooperagelaw16_right.mono _ _)
   | (with_reducible exact cooperagelaw16_shown.mono _)
   | (with_reducible exact lease_Held.mono _ _ _ _ _ _)
   | (with_reducible exact LeO.refl _)
   | (with_reducible exact LeO.none _)
   | (with_reducible refine LeO.ite ?_ ?_)
   | (with_reducible refine LeO.bind ?_ (fun _ => ?_))
   | exact ih0 _ _ _
   | exact ih1 _ _ _ _ _ _
   | exact ih2 _ _ _ _ _ _ _
   | exact ih3 _ _ _ _ _ _ _ _
   | exact ih4 _ _ _ _ _ _ _ _ _
   | exact ih5 _ _ _ _ _ _ _
   | exact ih6 _ _ _ _ _ _ _ _ _ _ _ _ _
   | exact ih7 _ _ _ _ _ _ _ _ _ _ _ _ _
   | exact ih8 _ _ _ _ _ _ _ _ _ _ _ _ _
   | exact ih9 _ _ _ _ _ _ _ _
   | exact cooperagelaw16_does.mono _ _ _ _ _ _ _ _ _ _ _ _
   | exact cooperagelaw16_right.mono _ _
   | exact cooperagelaw16_shown.mono _
   | exact lease_Held.mono _ _ _ _ _ _
   | exact LeO.none _
   | refine LeO.ite ?_ ?_
   | refine LeO.bind ?_ (fun _ => ?_)
  ·intro y0 y1 y2 y3 y4 y5
   unfold cooperagelaw16_LeaseOne.l0
   repeat' first
   | (with_reducible exact ih0 _ _ _)
   | (with_reducible exact ih1 _ _ _ _ _ _)
   | (with_reducible exact ih2 _ _ _ _ _ _ _)
   | (with_reducible exact ih3 _ _ _ _ _ _ _ _)
   | (with_reducible exact ih4 _ _ _ _ _ _ _ _ _)
   | (with_reducible exact ih5 _ _ _ _ _ _ _)
   | (with_reducible exact ih6 _ _ _ _ _ _ _ _ _ _ _ _ _)
   | (with_reducible exact ih7 _ _ _ _ _ _ _ _ _ _ _ _ _)
   | (with_reducible exact ih8 _ _ _ _ _ _ _ _ _ _ _ _ _)
   | (with_reducible exact ih9 _ _ _ _ _ _ _ _)
   | (with_reducible exact cooperagelaw16_does.mono _ _ _ _ _ _ _ _ _ _ _ _)
   | (with_reducible exact cooperagelaw16_right.mono _ _)
   | (with_reducible exact cooperagelaw16_shown.mono _)
   | (with_reducible exact lease_Held.mono _ _ _ _ _ _)
   | (with_reducible exact LeO.refl _)
   | (with_reducible exact LeO.none _)
   | (with_reducible refine LeO.ite ?_ ?_)
   | (with_reducible refine LeO.bind ?_ (fun _ => ?_))
   | exact ih0 _ _ _
   | exact ih1 _ _ _ _ _ _
   | exact ih2 _ _ _ _ _ _ _
   | exact ih3 _ _ _ _ _ _ _ _
   | exact ih4 _ _ _ _ _ _ _ _ _
   | exact ih5 _ _ _ _ _ _ _
   | exact ih6 _ _ _ _ _ _ _ _ _ _ _ _ _
   | exact ih7 _ _ _ _ _ _ _ _ _ _ _ _ _
   | exact ih8 _ _ _ _ _ _ _ _ _ _ _ _ _
   | exact ih9 _ _ _ _ _ _ _ _
   | exact cooperagelaw16_does.mono _ _ _ _ _ _ _ _ _ _ _ _
   | exact cooperagelaw16_right.mono _ _
   | exact cooperagelaw16_shown.mono _
   | exact lease_Held.mono _ _ _ _ _ _
   | exact LeO.none _
   | refine LeO.ite ?_ ?_
   | refine LeO.bind ?_ (fun _ => ?_)
  ·intro y0 y1 y2 y3 y4 y5 y6
   unfold cooperagelaw16_LeaseOne.l1
   repeat' first
   | (with_reducible exact ih0 _ _ _)
   | (with_reducible exact ih1 _ _ _ _ _ _)
   | (with_reducible exact ih2 _ _ _ _ _ _ _)
   | (with_reducible exact ih3 _ _ _ _ _ _ _ _)
   | (with_reducible exact ih4 _ _ _ _ _ _ _ _ _)
   | (with_reducible exact ih5 _ _ _ _ _ _ _)
   | (with_reducible exact ih6 _ _ _ _ _ _ _ _ _ _ _ _ _)
   | (with_reducible exact ih7 _ _ _ _ _ _ _ _ _ _ _ _ _)
   | (with_reducible exact ih8 _ _ _ _ _ _ _ _ _ _ _ _ _)
   | (with_reducible exact ih9 _ _ _ _ _ _ _ _)
   | (with_reducible exact cooperagelaw16_does.mono _ _ _ _ _ _ _ _ _ _ _ _)
   | (with_reducible exact cooperagelaw16_right.mono _ _)
   | (with_reducible exact cooperagelaw16_shown.mono _)
   | (with_reducible exact lease_Held.mono _ _ _ _ _ _)
   | (with_reducible exact LeO.refl _)
   | (with_reducible exact LeO.none _)
   | (with_reducible refine LeO.ite ?_ ?_)
   | (with_reducible refine LeO.bind ?_ (fun _ => ?_))
   | exact ih0 _ _ _
   | exact ih1 _ _ _ _ _ _
   | exact ih2 _ _ _ _ _ _ _
   | exact ih3 _ _ _ _ _ _ _ _
   | exact ih4 _ _ _ _ _ _ _ _ _
   | exact ih5 _ _ _ _ _ _ _
   | exact ih6 _ _ _ _ _ _ _ _ _ _ _ _ _
   | exact ih7 _ _ _ _ _ _ _ _ _ _ _ _ _
   | exact ih8 _ _ _ _ _ _ _ _ _ _ _ _ _
   | exact ih9 _ _ _ _ _ _ _ _
   | exact cooperagelaw16_does.mono _ _ _ _ _ _ _ _ _ _ _ _
   | exact cooperagelaw16_right.mono _ _
   | exact cooperagelaw16_shown.mono _
   | exact lease_Held.mono _ _ _ _ _ _
   | exact LeO.none _
   | refine LeO.ite ?_ ?_
   | refine LeO.bind ?_ (fun _ => ?_)
  ·intro y0 y1 y2 y3 y4 y5 y6 y7
   unfold cooperagelaw16_LeaseOne.l2
   repeat' first
   | (with_reducible exact ih0 _ _ _)
   | (with_reducible exact ih1 _ _ _ _ _ _)
   | (with_reducible exact ih2 _ _ _ _ _ _ _)
   | (with_reducible exact ih3 _ _ _ _ _ _ _ _)
   | (with_reducible exact ih4 _ _ _ _ _ _ _ _ _)
   | (with_reducible exact ih5 _ _ _ _ _ _ _)
   | (with_reducible exact ih6 _ _ _ _ _ _ _ _ _ _ _ _ _)
   | (with_reducible exact ih7 _ _ _ _ _ _ _ _ _ _ _ _ _)
   | (with_reducible exact ih8 _ _ _ _ _ _ _ _ _ _ _ _ _)
   | (with_reducible exact ih9 _ _ _ _ _ _ _ _)
   | (with_reducible exact cooperagelaw16_does.mono _ _ _ _ _ _ _ _ _ _ _ _)
   | (with_reducible exact cooperagelaw16_right.mono _ _)
   | (with_reducible exact cooperagelaw16_shown.mono _)
   | (with_reducible exact lease_Held.mono _ _ _ _ _ _)
   | (with_reducible exact LeO.refl _)
   | (with_reducible exact LeO.none _)
   | (with_reducible refine LeO.ite ?_ ?_)
   | (with_reducible refine LeO.bind ?_ (fun _ => ?_))
   | exact ih0 _ _ _
   | exact ih1 _ _ _ _ _ _
   | exact ih2 _ _ _ _ _ _ _
   | exact ih3 _ _ _ _ _ _ _ _
   | exact ih4 _ _ _ _ _ _ _ _ _
   | exact ih5 _ _ _ _ _ _ _
   | exact ih6 _ _ _ _ _ _ _ _ _ _ _ _ _
   | exact ih7 _ _ _ _ _ _ _ _ _ _ _ _ _
   | exact ih8 _ _ _ _ _ _ _ _ _ _ _ _ _
   | exact ih9 _ _ _ _ _ _ _ _
   | exact cooperagelaw16_does.mono _ _ _ _ _ _ _ _ _ _ _ _
   | exact cooperagelaw16_right.mono _ _
   | exact cooperagelaw16_shown.mono _
   | exact lease_Held.mono _ _ _ _ _ _
   | exact LeO.none _
   | refine LeO.ite ?_ ?_
   | refine LeO.bind ?_ (fun _ => ?_)
  ·intro y0 y1 y2 y3 y4 y5 y6 y7 y8
   unfold cooperagelaw16_LeaseOne.j4
   repeat' first
   | (with_reducible exact ih0 _ _ _)
   | (with_reducible exact ih1 _ _ _ _ _ _)
   | (with_reducible exact ih2 _ _ _ _ _ _ _)
   | (with_reducible exact ih3 _ _ _ _ _ _ _ _)
   | (with_reducible exact ih4 _ _ _ _ _ _ _ _ _)
   | (with_reducible exact ih5 _ _ _ _ _ _ _)
   | (with_reducible exact ih6 _ _ _ _ _ _ _ _ _ _ _ _ _)
   | (with_reducible exact ih7 _ _ _ _ _ _ _ _ _ _ _ _ _)
   | (with_reducible exact ih8 _ _ _ _ _ _ _ _ _ _ _ _ _)
   | (with_reducible exact ih9 _ _ _ _ _ _ _ _)
   | (with_reducible exact cooperagelaw16_does.mono _ _ _ _ _ _ _ _ _ _ _ _)
   | (with_reducible exact cooperagelaw16_right.mono _ _)
   | (with_reducible exact cooperagelaw16_shown.mono _)
   | (with_reducible exact lease_Held.mono _ _ _ _ _ _)
   | (with_reducible exact LeO.refl _)
   | (with_reducible exact LeO.none _)
   | (with_reducible refine LeO.ite ?_ ?_)
   | (with_reducible refine LeO.bind ?_ (fun _ => ?_))
   | exact ih0 _ _ _
   | exact ih1 _ _ _ _ _ _
   | exact ih2 _ _ _ _ _ _ _
   | exact ih3 _ _ _ _ _ _ _ _
   | exact ih4 _ _ _ _ _ _ _ _ _
   | exact ih5 _ _ _ _ _ _ _
   | exact ih6 _ _ _ _ _ _ _ _ _ _ _ _ _
   | exact ih7 _ _ _ _ _ _ _ _ _ _ _ _ _
   | exact ih8 _ _ _ _ _ _ _ _ _ _ _ _ _
   | exact ih9 _ _ _ _ _ _ _ _
   | exact cooperagelaw16_does.mono _ _ _ _ _ _ _ _ _ _ _ _
   | exact cooperagelaw16_right.mono _ _
   | exact cooperagelaw16_shown.mono _
   | exact lease_Held.mono _ _ _ _ _ _
   | exact LeO.none _
   | refine LeO.ite ?_ ?_
   | refine LeO.bind ?_ (fun _ => ?_)
  ·intro y0 y1 y2 y3 y4 y5 y6
   unfold cooperagelaw16_LeaseOne.l3
   repeat' first
   | (with_reducible exact ih0 _ _ _)
   | (with_reducible exact ih1 _ _ _ _ _ _)
   | (with_reducible exact ih2 _ _ _ _ _ _ _)
   | (with_reducible exact ih3 _ _ _ _ _ _ _ _)
   | (with_reducible exact ih4 _ _ _ _ _ _ _ _ _)
   | (with_reducible exact ih5 _ _ _ _ _ _ _)
   | (with_reducible exact ih6 _ _ _ _ _ _ _ _ _ _ _ _ _)
   | (with_reducible exact ih7 _ _ _ _ _ _ _ _ _ _ _ _ _)
   | (with_reducible exact ih8 _ _ _ _ _ _ _ _ _ _ _ _ _)
   | (with_reducible exact ih9 _ _ _ _ _ _ _ _)
   | (with_reducible exact cooperagelaw16_does.mono _ _ _ _ _ _ _ _ _ _ _ _)
   | (with_reducible exact cooperagelaw16_right.mono _ _)
   | (with_reducible exact cooperagelaw16_shown.mono _)
   | (with_reducible exact lease_Held.mono _ _ _ _ _ _)
   | (with_reducible exact LeO.refl _)
   | (with_reducible exact LeO.none _)
   | (with_reducible refine LeO.ite ?_ ?_)
   | (with_reducible refine LeO.bind ?_ (fun _ => ?_))
   | exact ih0 _ _ _
   | exact ih1 _ _ _ _ _ _
   | exact ih2 _ _ _ _ _ _ _
   | exact ih3 _ _ _ _ _ _ _ _
   | exact ih4 _ _ _ _ _ _ _ _ _
   | exact ih5 _ _ _ _ _ _ _
   | exact ih6 _ _ _ _ _ _ _ _ _ _ _ _ _
   | exact ih7 _ _ _ _ _ _ _ _ _ _ _ _ _
   | exact ih8 _ _ _ _ _ _ _ _ _ _ _ _ _
   | exact ih9 _ _ _ _ _ _ _ _
   | exact cooperagelaw16_does.mono _ _ _ _ _ _ _ _ _ _ _ _
   | exact cooperagelaw16_right.mono _ _
   | exact cooperagelaw16_shown.mono _
   | exact lease_Held.mono _ _ _ _ _ _
   | exact LeO.none _
   | refine LeO.ite ?_ ?_
   | refine LeO.bind ?_ (fun _ => ?_)
  ·intro y0 y1 y2 y3 y4 y5 y6 y7 y8 y9 y10 y11 y12
   unfold cooperagelaw16_LeaseOne.l4
   repeat' first
   | (with_reducible exact ih0 _ _ _)
   | (with_reducible exact ih1 _ _ _ _ _ _)
   | (with_reducible exact ih2 _ _ _ _ _ _ _)
   | (with_reducible exact ih3 _ _ _ _ _ _ _ _)
   | (with_reducible exact ih4 _ _ _ _ _ _ _ _ _)
   | (with_reducible exact ih5 _ _ _ _ _ _ _)
   | (with_reducible exact ih6 _ _ _ _ _ _ _ _ _ _ _ _ _)
   | (with_reducible exact ih7 _ _ _ _ _ _ _ _ _ _ _ _ _)
   | (with_reducible exact ih8 _ _ _ _ _ _ _ _ _ _ _ _ _)
   | (with_reducible exact ih9 _ _ _ _ _ _ _ _)
   | (with_reducible exact cooperagelaw16_does.mono _ _ _ _ _ _ _ _ _ _ _ _)
   | (with_reducible exact cooperagelaw16_right.mono _ _)
   | (with_reducible exact cooperagelaw16_shown.mono _)
   | (with_reducible exact lease_Held.mono _ _ _ _ _ _)
   | (with_reducible exact LeO.refl _)
   | (with_reducible exact LeO.none _)
   | (with_reducible refine LeO.ite ?_ ?_)
   | (with_reducible refine LeO.bind ?_ (fun _ => ?_))
   | exact ih0 _ _ _
   | exact ih1 _ _ _ _ _ _
   | exact ih2 _ _ _ _ _ _ _
   | exact ih3 _ _ _ _ _ _ _ _
   | exact ih4 _ _ _ _ _ _ _ _ _
   | exact ih5 _ _ _ _ _ _ _
   | exact ih6 _ _ _ _ _ _ _ _ _ _ _ _ _
   | exact ih7 _ _ _ _ _ _ _ _ _ _ _ _ _
   | exact ih8 _ _ _ _ _ _ _ _ _ _ _ _ _
   | exact ih9 _ _ _ _ _ _ _ _
   | exact cooperagelaw16_does.mono _ _ _ _ _ _ _ _ _ _ _ _
   | exact cooperagelaw16_right.mono _ _
   | exact cooperagelaw16_shown.mono _
   | exact lease_Held.mono _ _ _ _ _ _
   | exact LeO.none _
   | refine LeO.ite ?_ ?_
   | refine LeO.bind ?_ (fun _ => ?_)
  ·intro y0 y1 y2 y3 y4 y5 y6 y7 y8 y9 y10 y11 y12
   unfold cooperagelaw16_LeaseOne.l5
   repeat' first
   | (with_reducible exact ih0 _ _ _)
   | (with_reducible exact ih1 _ _ _ _ _ _)
   | (with_reducible exact ih2 _ _ _ _ _ _ _)
   | (with_reducible exact ih3 _ _ _ _ _ _ _ _)
   | (with_reducible exact ih4 _ _ _ _ _ _ _ _ _)
   | (with_reducible exact ih5 _ _ _ _ _ _ _)
   | (with_reducible exact ih6 _ _ _ _ _ _ _ _ _ _ _ _ _)
   | (with_reducible exact ih7 _ _ _ _ _ _ _ _ _ _ _ _ _)
   | (with_reducible exact ih8 _ _ _ _ _ _ _ _ _ _ _ _ _)
   | (with_reducible exact ih9 _ _ _ _ _ _ _ _)
   | (with_reducible exact cooperagelaw16_does.mono _ _ _ _ _ _ _ _ _ _ _ _)
   | (with_reducible exact cooperagelaw16_right.mono _ _)
   | (with_reducible exact cooperagelaw16_shown.mono _)
   | (with_reducible exact lease_Held.mono _ _ _ _ _ _)
   | (with_reducible exact LeO.refl _)
   | (with_reducible exact LeO.none _)
   | (with_reducible refine LeO.ite ?_ ?_)
   | (with_reducible refine LeO.bind ?_ (fun _ => ?_))
   | exact ih0 _ _ _
   | exact ih1 _ _ _ _ _ _
   | exact ih2 _ _ _ _ _ _ _
   | exact ih3 _ _ _ _ _ _ _ _
   | exact ih4 _ _ _ _ _ _ _ _ _
   | exact ih5 _ _ _ _ _ _ _
   | exact ih6 _ _ _ _ _ _ _ _ _ _ _ _ _
   | exact ih7 _ _ _ _ _ _ _ _ _ _ _ _ _
   | exact ih8 _ _ _ _ _ _ _ _ _ _ _ _ _
   | exact ih9 _ _ _ _ _ _ _ _
   | exact cooperagelaw16_does.mono _ _ _ _ _ _ _ _ _ _ _ _
   | exact cooperagelaw16_right.mono _ _
   | exact cooperagelaw16_shown.mono _
   | exact lease_Held.mono _ _ _ _ _ _
   | exact LeO.none _
   | refine LeO.ite ?_ ?_
   | refine LeO.bind ?_ (fun _ => ?_)
  ·intro y0 y1 y2 y3 y4 y5 y6 y7 y8 y9 y10 y11 y12
   unfold cooperagelaw16_LeaseOne.j8
   repeat' first
   | (with_reducible exact ih0 _ _ _)
   | (with_reducible exact ih1 _ _ _ _ _ _)
   | (with_reducible exact ih2 _ _ _ _ _ _ _)
   | (with_reducible exact ih3 _ _ _ _ _ _ _ _)
   | (with_reducible exact ih4 _ _ _ _ _ _ _ _ _)
   | (with_reducible exact ih5 _ _ _ _ _ _ _)
   | (with_reducible exact ih6 _ _ _ _ _ _ _ _ _ _ _ _ _)
   | (with_reducible exact ih7 _ _ _ _ _ _ _ _ _ _ _ _ _)
   | (with_reducible exact ih8 _ _ _ _ _ _ _ _ _ _ _ _ _)
   | (with_reducible exact ih9 _ _ _ _ _ _ _ _)
   | (with_reducible exact cooperagelaw16_does.mono _ _ _ _ _ _ _ _ _ _ _ _)
   | (with_reducible exact cooperagelaw16_right.mono _ _)
   | (with_reducible exact cooperagelaw16_shown.mono _)
   | (with_reducible exact lease_Held.mono _ _ _ _ _ _)
   | (with_reducible exact LeO.refl _)
   | (with_reducible exact LeO.none _)
   | (with_reducible refine LeO.ite ?_ ?_)
   | (with_reducible refine LeO.bind ?_ (fun _ => ?_))
   | exact ih0 _ _ _
   | exact ih1 _ _ _ _ _ _
   | exact ih2 _ _ _ _ _ _ _
   | exact ih3 _ _ _ _ _ _ _ _
   | exact ih4 _ _ _ _ _ _ _ _ _
   | exact ih5 _ _ _ _ _ _ _
   | exact ih6 _ _ _ _ _ _ _ _ _ _ _ _ _
   | exact ih7 _ _ _ _ _ _ _ _ _ _ _ _ _
   | exact ih8 _ _ _ _ _ _ _ _ _ _ _ _ _
   | exact ih9 _ _ _ _ _ _ _ _
   | exact cooperagelaw16_does.mono _ _ _ _ _ _ _ _ _ _ _ _
   | exact cooperagelaw16_right.mono _ _
   | exact cooperagelaw16_shown.mono _
   | exact lease_Held.mono _ _ _ _ _ _
   | exact LeO.none _
   | refine LeO.ite ?_ ?_
   | refine LeO.bind ?_ (fun _ => ?_)
  ·intro y0 y1 y2 y3 y4 y5 y6 y7
   unfold cooperagelaw16_LeaseOne.j9
   repeat' first
   | (with_reducible exact ih0 _ _ _)
   | (with_reducible exact ih1 _ _ _ _ _ _)
   | (with_reducible exact ih2 _ _ _ _ _ _ _)
   | (with_reducible exact ih3 _ _ _ _ _ _ _ _)
   | (with_reducible exact ih4 _ _ _ _ _ _ _ _ _)
   | (with_reducible exact ih5 _ _ _ _ _ _ _)
   | (with_reducible exact ih6 _ _ _ _ _ _ _ _ _ _ _ _ _)
   | (with_reducible exact ih7 _ _ _ _ _ _ _ _ _ _ _ _ _)
   | (with_reducible exact ih8 _ _ _ _ _ _ _ _ _ _ _ _ _)
   | (with_reducible exact ih9 _ _ _ _ _ _ _ _)
   | (with_reducible exact cooperagelaw16_does.mono _ _ _ _ _ _ _ _ _ _ _ _)
   | (with_reducible exact cooperagelaw16_right.mono _ _)
   | (with_reducible exact cooperagelaw16_shown.mono _)
   | (with_reducible exact lease_Held.mono _ _ _ _ _ _)
   | (with_reducible exact LeO.refl _)
   | (with_reducible exact LeO.none _)
   | (with_reducible refine LeO.ite ?_ ?_)
   | (with_reducible refine LeO.bind ?_ (fun _ => ?_))
   | exact ih0 _ _ _
   | exact ih1 _ _ _ _ _ _
   | exact ih2 _ _ _ _ _ _ _
   | exact ih3 _ _ _ _ _ _ _ _
   | exact ih4 _ _ _ _ _ _ _ _ _
   | exact ih5 _ _ _ _ _ _ _
   | exact ih6 _ _ _ _ _ _ _ _ _ _ _ _ _
   | exact ih7 _ _ _ _ _ _ _ _ _ _ _ _ _
   | exact ih8 _ _ _ _ _ _ _ _ _ _ _ _ _
   | exact ih9 _ _ _ _ _ _ _ _
   | exact cooperagelaw16_does.mono _ _ _ _ _ _ _ _ _ _ _ _
   | exact cooperagelaw16_right.mono _ _
   | exact cooperagelaw16_shown.mono _
   | exact lease_Held.mono _ _ _ _ _ _
   | exact LeO.none _
   | refine LeO.ite ?_ ?_
   | refine LeO.bind ?_ (fun _ => ?_)
theorem cooperagelaw16_LeaseOne.mono : ∀ a0 k, LeO (cooperagelaw16_LeaseOne.f k a0) (cooperagelaw16_LeaseOne.f (k + 1) a0) := by
 intro a0 k
 obtain ⟨ih0, ih1, ih2, ih3, ih4, ih5, ih6, ih7, ih8, ih9⟩ := cooperagelaw16_LeaseOne.mono_l k
 unfold cooperagelaw16_LeaseOne.f
 repeat' first
   | (with_reducible exact ih0 _ _ _)
   | (with_reducible exact ih1 _ _ _ _ _ _)
   | (with_reducible exact ih2 _ _ _ _ _ _ _)
   | (with_reducible exact ih3 _ _ _ _ _ _ _ _)
   | (with_reducible exact ih4 _ _ _ _ _ _ _ _ _)
   | (with_reducible exact ih5 _ _ _ _ _ _ _)
   | (with_reducible exact ih6 _ _ _ _ _ _ _ _ _ _ _ _ _)
   | (with_reducible exact ih7 _ _ _ _ _ _ _ _ _ _ _ _ _)
   | (with_reducible exact ih8 _ _ _ _ _ _ _ _ _ _ _ _ _)
   | (with_reducible exact ih9 _ _ _ _ _ _ _ _)
   | (with_reducible exact cooperagelaw16_does.mono _ _ _ _ _ _ _ _ _ _ _ _)
   | (with_reducible exact cooperagelaw16_right.mono _ _)
   | (with_reducible exact cooperagelaw16_shown.mono _)
   | (with_reducible exact lease_Held.mono _ _ _ _ _ _)
   | (with_reducible exact LeO.refl _)
   | (with_reducible exact LeO.none _)
   | (with_reducible refine LeO.ite ?_ ?_)
   | (with_reducible refine LeO.bind ?_ (fun _ => ?_))
   | exact ih0 _ _ _
   | exact ih1 _ _ _ _ _ _
   | exact ih2 _ _ _ _ _ _ _
   | exact ih3 _ _ _ _ _ _ _ _
   | exact ih4 _ _ _ _ _ _ _ _ _
   | exact ih5 _ _ _ _ _ _ _
   | exact ih6 _ _ _ _ _ _ _ _ _ _ _ _ _
   | exact ih7 _ _ _ _ _ _ _ _ _ _ _ _ _
   | exact ih8 _ _ _ _ _ _ _ _ _ _ _ _ _
   | exact ih9 _ _ _ _ _ _ _ _
   | exact cooperagelaw16_does.mono _ _ _ _ _ _ _ _ _ _ _ _
   | exact cooperagelaw16_right.mono _ _
   | exact cooperagelaw16_shown.mono _
   | exact lease_Held.mono _ _ _ _ _ _
   | exact LeO.none _
   | refine LeO.ite ?_ ?_
   | refine LeO.bind ?_ (fun _ => ?_)
def cooperagelaw16_LeaseOne.T11 : Bool × List (List Nat × List Nat) := (true, [([], []), ([], []), ([], []), ([1, 2], [1, 2]), ([3], [3]), ([], []), ([0, 4, 5], [0, 4, 5]), ([6], [6]), ([7], [7]), ([7], [7]), ([7], [7]), ([8, 6, 0, 1, 2, 3, 4, 5, 6, 7, 8], [8])])
def cooperagelaw16_LeaseOne.B11 : List Nat := [0, 0, 0, 6, 14, 0, 63, 127, 255, 255, 255, 511]
theorem cooperagelaw16_LeaseOne.tab11 : rtab .any (opsOf Tryd.f6 11) = cooperagelaw16_LeaseOne.T11 := by kernel_rfl
theorem cooperagelaw16_LeaseOne.bits11 : waitsOk cooperagelaw16_LeaseOne.T11.2 cooperagelaw16_LeaseOne.B11 = true := by kernel_rfl
def cooperagelaw16_LeaseOne.T30 : Bool × List (List Nat × List Nat) := (true, [([], []), ([0], [0]), ([1], [1]), ([2, 1], [1, 2]), ([1], [1]), ([3, 4, 1], [1, 3, 4]), ([5, 1], [1, 5]), ([6, 1], [1, 6]), ([1], [1]), ([8, 1], [1, 8]), ([7, 9, 1], [1, 7, 9]), ([10, 1, 1], [1, 10]), ([11], [11]), ([12, 11], [11, 12]), ([11], [11]), ([13, 14, 11], [11, 13, 14]), ([15, 11], [11, 15]), ([16, 11], [11, 16]), ([17, 11, 11], [11, 17]), ([18], [18]), ([19, 18], [18, 19]), ([18, 20, 11], [11, 18, 20]), ([11, 21, 1], [1, 11, 21]), ([1, 22], [1, 22]), ([23, 18, 0, 1, 2, 3, 4, 5, 6, 7, 8, 9, 10, 11, 12, 13, 14, 15, 16, 17, 18, 19, 20, 21, 22, 23], [0, 23])])
def cooperagelaw16_LeaseOne.B30 : List Nat := [0, 1, 3, 7, 3, 31, 63, 127, 3, 259, 1023, 2047, 4095, 8191, 4095, 32767, 65535, 131071, 262143, 524287, 1048575, 2097151, 4194303, 8388607, 16777215]
theorem cooperagelaw16_LeaseOne.tab30 : rtab .any (opsOf Tryd.f6 30) = cooperagelaw16_LeaseOne.T30 := by kernel_rfl
theorem cooperagelaw16_LeaseOne.bits30 : waitsOk cooperagelaw16_LeaseOne.T30.2 cooperagelaw16_LeaseOne.B30 = true := by kernel_rfl
def cooperagelaw16_LeaseOne.T34 : Bool × List (List Nat × List Nat) := (true, [([], []), ([0], [0]), ([1], [1]), ([2, 1], [1, 2]), ([1], [1]), ([3, 4, 1], [1, 3, 4]), ([5, 1], [1, 5]), ([6, 1], [1, 6]), ([1], [1]), ([8, 1], [1, 8]), ([7, 9, 1], [1, 7, 9]), ([1, 10], [1, 10]), ([11, 1, 0, 1, 2, 3, 4, 5, 6, 7, 8, 9, 10, 11], [0, 11])])
def cooperagelaw16_LeaseOne.B34 : List Nat := [0, 1, 3, 7, 3, 31, 63, 127, 3, 259, 1023, 2047, 4095]
theorem cooperagelaw16_LeaseOne.tab34 : rtab .any (opsOf Tryd.f6 34) = cooperagelaw16_LeaseOne.T34 := by kernel_rfl
theorem cooperagelaw16_LeaseOne.bits34 : waitsOk cooperagelaw16_LeaseOne.T34.2 cooperagelaw16_LeaseOne.B34 = true := by kernel_rfl
def cooperagelaw16_LeaseOne.T35 : Bool × List (List Nat × List Nat) := (true, [([], []), ([0], [0]), ([], []), ([1, 2], [1, 2]), ([3], [3]), ([4], [4]), ([], []), ([6], [6]), ([5, 7], [5, 7])])
def cooperagelaw16_LeaseOne.B35 : List Nat := [0, 1, 0, 7, 15, 31, 0, 64, 255]
theorem cooperagelaw16_LeaseOne.tab35 : rtab .any (opsOf Tryd.f6 35) = cooperagelaw16_LeaseOne.T35 := by kernel_rfl
theorem cooperagelaw16_LeaseOne.bits35 : waitsOk cooperagelaw16_LeaseOne.T35.2 cooperagelaw16_LeaseOne.B35 = true := by kernel_rfl
set_option maxHeartbeats 80000000 in
set_option maxRecDepth 100000 in
theorem cooperagelaw16_LeaseOne.calls (k : Nat) (A0 : Option Addr) (c0 : Nat) (l0 : List (S52)) (r : Bool) (w : World) (hr0 : Kd.C k52 w A0 l0.length l0) (hc0 : l0.length ≤ c0) (h : cooperagelaw16_LeaseOne.f k l0 = some r) :
  Calls Tryd.prog 6 #[.slice A0 l0.length c0] w fun e w' => e = .returned (.bool r) ∧ Below w.heap.size w w' := by
 have hu27 := Tryd.underlying27
 have hu52 := Tryd.underlying52
 have hu34 := Tryd.underlying34
 have hu32 := Tryd.underlying32
 have HR0 := Aside0.mk hr0
 have HC0 := Aside0.mk hc0
 clear hr0 hc0
 have HB := Aside0.mk (Below.refl w.heap.size w)
 have H : ((cooperagelaw16_shown.f k).bind fun t534 => ((cooperagelaw16_right.f k l0).bind fun t535 => (if t534 = true then (cooperagelaw16_LeaseOne.j0 k l0 t534 (!t535)) else (cooperagelaw16_LeaseOne.j0 k l0 t534 true)))) = some r := h
 clear h
 replace H := Option.bind_eq_some_iff.mp H
 obtain ⟨t534, A20, H⟩ := H
 replace H : ((cooperagelaw16_right.f k l0).bind fun t535 => (if t534 = true then (cooperagelaw16_LeaseOne.j0 k l0 t534 (!t535)) else (cooperagelaw16_LeaseOne.j0 k l0 t534 true))) = some r := H
 have A2 := Aside0.mk A20
 clear A20
 replace H := Option.bind_eq_some_iff.mp H
 obtain ⟨t535, A30, H⟩ := H
 replace H : (if t534 = true then (cooperagelaw16_LeaseOne.j0 k l0 t534 (!t535)) else (cooperagelaw16_LeaseOne.j0 k l0 t534 true)) = some r := H
 have A3 := Aside0.mk A30
 clear A30
 have HC4 := Aside0.mk H
 clear H
 go_enter Tryd.func6, Tryd.ntmps6
 go_upto_region 3 with (first | ((with_reducible refine gate_callee (f := 9) rfl ?_); refine goesL_ (some 19) rfl rfl Tryd.func9 (by as_aux_lemma => kernel_rfl) rfl #[] rfl zA ?_; (with_reducible refine (cooperagelaw16_shown.calls k  t534 _ A2.out).mono ?_); rintro e w5 ⟨rfl, hb⟩; refine ⟨_, rfl, ?_⟩; have n0_ := Aside0.mk (below_step (zL HB.out) hb); revert n0_; clear HB; intro HB; (try clear hb); (try clear hb2); (try clear hk); (try clear hi)) | ((with_reducible refine gate_callee (f := 16) rfl ?_); refine goesL_ (some 21) rfl rfl Tryd.func16 (by as_aux_lemma => kernel_rfl) rfl #[.slice A0 l0.length c0] rfl zA ?_; (with_reducible refine (cooperagelaw16_right.calls k _ _ l0 t535 _ ?side1 ?side2 A3.out).mono ?_); (case side1 => repeat (first | exact (Kd.C_below HR0.out HB.out) | (with_reducible refine Kd.C_alloc ?_ _) | (with_reducible refine Kd.C_drewN ?_ _) | (with_reducible refine Kd.C_drew ?_))); (case side2 => exact HC0.out); rintro e w' ⟨rfl, ⟨nd, rfl⟩⟩; refine ⟨_, rfl, ?_⟩))
 (try simp only [Act.put, List.setIfInBounds_toArray, List.set_cons_zero, List.set_cons_succ])
 go_cut [27] (fun v27 wc => ∃ (kq : Nat) (x27_3 : Bool), v27 = .bool x27_3 ∧ Aside0 (cooperagelaw16_LeaseOne.j0 kq l0 t534 x27_3 = some r) ∧ Aside0 (kq ≤ k) ∧ Aside0 (Below w.heap.size w wc))
 case first =>
  have H := HC4.out
  clear HC4
  by_cases c6 : t534 = true
  ·subst c6
   have H1 : (cooperagelaw16_LeaseOne.j0 k l0 true (!t535)) = some r := by rw [if_pos rfl] at H; exact H
   clear H
   have H := H1
   clear H1
   have H' := Aside0.mk H
   clear H
   go_wp2
   go_meet
   case rel => as_aux_lemma => exact ⟨_, (!t535), zS, H', ⟨by first | omega | exact Nat.le_refl _⟩, ⟨zL HB.out⟩⟩
  ·replace c6 := Bool.eq_false_iff.mpr c6
   subst c6
   have H1 : (cooperagelaw16_LeaseOne.j0 k l0 false true) = some r := by rw [if_neg (show ¬ (false = true) by decide)] at H; exact H
   clear H
   have H := H1
   clear H1
   have H' := Aside0.mk H
   clear H
   go_wp2
   go_meet
   case rel => as_aux_lemma => exact ⟨_, (true), zS, H', ⟨by first | omega | exact Nat.le_refl _⟩, ⟨zL HB.out⟩⟩
 case rest =>
  clear HC4
  try clear c1
  try clear p2
  try clear c6
  obtain ⟨kq, x27_3, rfl, HA, HJ3, HB⟩ := hcut
  cases kq with
  | zero => exact absurd HA.out (by simp [cooperagelaw16_LeaseOne.j0])
  | succ kj3 =>
   have H := HA.out
   clear HA
   simp only [cooperagelaw16_LeaseOne.j0] at H
   by_cases c7 : x27_3 = true
   ·subst c7
    have H1 : (some t534) = some r := by rw [if_pos rfl] at H; exact H
    clear H
    have H := H1
    clear H1
    obtain rfl := Option.some.inj H
    go_wp2
    go_ret
    exact ⟨zE, zL HB.out⟩
   ·replace c7 := Bool.eq_false_iff.mpr c7
    subst c7
    have H1 : (cooperagelaw16_LeaseOne.l0 kj3 l0 0 0 0 ([] : List (S34)) ([] : List (S32))) = some r := by rw [if_neg (show ¬ (false = true) by decide)] at H; exact H
    clear H
    have H := H1
    clear H1
    have H' := Aside0.mk H
    clear H
    go_wp2_with (first | ((with_reducible refine gate_dst (N := 5) rfl ?_); refine box_event ?hg (N := 5) ?hd (cs := #[.int .i64 0, .slice none 0 0, .slice none 0 0]) (t := 27) ?hr ?_; (case hd => rfl); (case hg => rfl); (case hr => first | (go_simp; done) | (go_simp; rfl)); intro gb536 hg w8 hbox hb; have n0_ := Aside0.mk (below_step (zL HB.out) hb); have n1_ := Aside0.mk (hbox); have n2_ := Aside0.mk (zG hg (zL HB.out)); have n3_ := Aside0.mk (zG hg (zL HB.out)); revert n0_ n1_ n2_ n3_; clear HB; intro HB BK536 GW536 GE536; clear hb hbox hg; obtain ⟨hcz9_0, hcz9_1, hcz9_2, hfz9_0, hfz9_1, hfz9_2⟩ := zC3 BK536.out))
    go_loopg [6, 7] kj3 (fun kq v6 v7 w' => ∃ (x6_2 : Int) (x7_2 : Int) (x537000_2 : Int) (x537001_2 : List (S34)) (x537002_2 : List (S32)) (u537001 : Value) (u537002 : Value), v6 = .int .i64 x6_2 ∧ v7 = .int .i64 x7_2 ∧ Aside0 (cooperagelaw16_LeaseOne.l0 kq l0 x6_2 x7_2 x537000_2 x537001_2 x537002_2 = some r) ∧ Aside0 (kq ≤ kj3) ∧ Aside0 (Kd.V k34 34 w' w.heap.size (fun k_ => k_ ≠ gb536) u537001 x537001_2) ∧ Aside0 (Kd.V k32 32 w' w.heap.size (fun k_ => k_ ≠ gb536) u537002 x537002_2) ∧ Aside0 (w'.heap[gb536]? = some (.cells #[.int .i64 x537000_2, u537001, u537002] 27 (0, 0))) ∧ Aside0 (Below w.heap.size w w'))
    case atStart => as_aux_lemma => exact ⟨(0), (0), (0), (([] : List (S34))), (([] : List (S32))), (.slice none 0 0), (.slice none 0 0), zS, zS, H', ⟨Nat.le_refl _⟩, ⟨Kd.V_nil _ _ _ _ _⟩, ⟨Kd.V_nil _ _ _ _ _⟩, ⟨zP3 BK536.out⟩, ⟨zL HB.out⟩⟩
    case round =>
     clear H'
     try clear c1
     try clear p2
     try clear c6
     try clear c7
     try clear c9
     try clear hcz9_0
     try clear hcz9_1
     try clear hcz9_2
     try clear hfz9_0
     try clear hfz9_1
     try clear hfz9_2
     try clear p2
     obtain ⟨x6_2, x7_2, x537000_2, x537001_2, x537002_2, u537001, u537002, rfl, rfl, HA, HK2, HO_537001, HO_537002, BK536, HB⟩ := hrel
     cases gk with
     | zero => exact absurd HA.out (by simp [cooperagelaw16_LeaseOne.l0])
     | succ k2 =>
      have H := HA.out
      clear HA
      simp only [cooperagelaw16_LeaseOne.l0] at H
      by_cases c10 : x7_2 < (l0.length : Int)
      ·rw [if_pos c10] at H
       have c10b0 : decide (x7_2 < (l0.length : Int)) = true := decide_eq_true c10
       clear c10
       by_cases c11 : 0 ≤ x7_2
       ·rw [if_pos c11] at H
        have c11b0 : decide (0 ≤ x7_2) = true := decide_eq_true c11
        clear c11
        replace H := Option.bind_eq_some_iff.mp H
        obtain ⟨t538, A120, H⟩ := H
        replace H : ((cooperagelaw16_does.f k2 x537000_2 x537001_2 x537002_2 ((rd_T52 l0 x7_2).f0) ((rd_T52 l0 x7_2).f1) ((rd_T52 l0 x7_2).f2) ((rd_T52 l0 x7_2).f3) ((rd_T52 l0 x7_2).f4) ((rd_T52 l0 x7_2).f5) ((rd_T52 l0 x7_2).f6) (wrap64 (x6_2 + t538))).bind fun bt540 => (cooperagelaw16_LeaseOne.l1 k2 l0 (wrap64 (x6_2 + t538)) x7_2 0 bt540.1 bt540.2.1 bt540.2.2.1)) = some r := H
        have A12 := Aside0.mk A120
        clear A120
        replace H := Option.bind_eq_some_iff.mp H
        obtain ⟨⟨t540, t541, t544, t547, t548⟩, A130, H⟩ := H
        replace H : (cooperagelaw16_LeaseOne.l1 k2 l0 (wrap64 (x6_2 + t538)) x7_2 0 t540 t541 t544) = some r := H
        have A13 := Aside0.mk A130
        clear A130
        have H' := Aside0.mk H
        clear H
        have p537 : 0 ≤ (x7_2 : Int) := zD
        have q537 : x7_2 < (l0.length : Int) := zD
        obtain ⟨ad537, e537, hx537_0, hx537_1, hx537_2, hx537_3, hx537_4, hx537_5, hx537_6⟩ := at_T52 HR0.out x7_2 p537 q537
        cases e537
        replace hx537_0 := zX HB.out hx537_0
        replace hx537_1 := zX HB.out hx537_1
        replace hx537_2 := zX HB.out hx537_2
        replace hx537_3 := zX HB.out hx537_3
        replace hx537_4 := zX HB.out hx537_4
        replace hx537_5 := zX HB.out hx537_5
        replace hx537_6 := zX HB.out hx537_6
        replace p537 := eq_true p537
        replace q537 := eq_true q537
        try go_wp2_with (first | ((with_reducible refine gate_callee (f := 13) rfl ?_); refine goesL_ (some 42) rfl rfl Tryd.func13 (by as_aux_lemma => kernel_rfl) rfl #[.int .i64 ((rd_T52 l0 x7_2).f4), .int .i64 5] rfl zA ?_; (with_reducible refine (cooperagelaw16_pick.calls ((rd_T52 l0 x7_2).f4) 5 t538 _ A12.out).mono ?_); rintro e w' ⟨rfl, ⟨nd, rfl⟩⟩; refine ⟨_, rfl, ?_⟩; (try (rw [drewN_self wr]; generalize hq_ : World.drewN wr _ = wr; have n0_ : Aside0 (Kd.V k34 34 wr w.heap.size (fun k_ => k_ ≠ gb536) u537001 x537001_2) := ⟨by rw [← hq_]; exact (zV HO_537001.out)⟩; have n1_ : Aside0 (Kd.V k32 32 wr w.heap.size (fun k_ => k_ ≠ gb536) u537002 x537002_2) := ⟨by rw [← hq_]; exact (zV HO_537002.out)⟩; have n2_ : Aside0 (wr.heap[gb536]? = some (.cells #[.int .i64 x537000_2, u537001, u537002] 27 (0, 0))) := ⟨by rw [← hq_]; exact (zK BK536.out)⟩; have n3_ : Aside0 (Below w.heap.size w wr) := ⟨by rw [← hq_]; exact (zL HB.out)⟩; clear HO_537001 HO_537002 BK536 HB hq_; have HO_537001 := n0_; have HO_537002 := n1_; have BK536 := n2_; have HB := n3_; clear n0_ n1_ n2_ n3_))))
        have n0_ := Aside0.mk (Kd.V_drew HO_537001.out)
        have n1_ := Aside0.mk (Kd.V_drew HO_537002.out)
        have n2_ := Aside0.mk (blk_drew BK536.out)
        have n3_ := Aside0.mk (below_drew1 HB.out)
        clear HO_537001
        clear HO_537002
        clear BK536
        clear HB
        have HO_537001 := n0_
        have HO_537002 := n1_
        have BK536 := n2_
        have HB := n3_
        clear n0_ n1_ n2_ n3_
        have p539 : 0 ≤ (x7_2 : Int) := zD
        have q539 : x7_2 < (l0.length : Int) := zD
        obtain ⟨ad539, e539, hx539_0, hx539_1, hx539_2, hx539_3, hx539_4, hx539_5, hx539_6⟩ := at_T52 HR0.out x7_2 p539 q539
        have hw539_6 := hx539_6
        have hw539_5 := hx539_5
        have hw539_4 := hx539_4
        have hw539_3 := hx539_3
        have hw539_2 := hx539_2
        have hw539_1 := hx539_1
        have hw539_0 := hx539_0
        obtain rfl : ad537 = ad539 := (by injection e539)
        replace hx539_0 := zX HB.out hx539_0
        replace hx539_1 := zX HB.out hx539_1
        replace hx539_2 := zX HB.out hx539_2
        replace hx539_3 := zX HB.out hx539_3
        replace hx539_4 := zX HB.out hx539_4
        replace hx539_5 := zX HB.out hx539_5
        replace hx539_6 := zX HB.out hx539_6
        replace p539 := eq_true p539
        replace q539 := eq_true q539
        obtain ⟨Ao15, co15, eo15⟩ := Kd.V_slice HO_537001.out
        (first | subst eo15 | (injection eo15 with f1_ f2_ f3_; have f4_ := f1_.symm; have f5_ := f3_.symm; clear f1_ f2_ f3_; subst f4_; subst f5_))
        obtain ⟨Ao16, co16, eo16⟩ := Kd.V_slice HO_537002.out
        (first | subst eo16 | (injection eo16 with f1_ f2_ f3_; have f4_ := f1_.symm; have f5_ := f3_.symm; clear f1_ f2_ f3_; subst f4_; subst f5_))
        refine start_ (n := 12) (S := fun w' => w'.cell? ⟨gb536, 0, none⟩ = some (.int .i64 x537000_2) ∧ w'.cell? ⟨gb536, 1, none⟩ = some (.slice Ao15 x537001_2.length co15) ∧ w'.cell? ⟨gb536, 2, none⟩ = some (.slice Ao16 x537002_2.length co16) ∧ w'.cell? (ad537.add ((x7_2).toNat * 7)) = some (.int .i64 ((rd_T52 l0 x7_2).f0)) ∧ w'.cell? ⟨(ad537.add ((x7_2).toNat * 7)).block, (ad537.add ((x7_2).toNat * 7)).off + 1, none⟩ = some (.int .i64 ((rd_T52 l0 x7_2).f1)) ∧ w'.cell? ⟨(ad537.add ((x7_2).toNat * 7)).block, (ad537.add ((x7_2).toNat * 7)).off + 2, none⟩ = some (.int .i64 ((rd_T52 l0 x7_2).f2)) ∧ w'.cell? ⟨(ad537.add ((x7_2).toNat * 7)).block, (ad537.add ((x7_2).toNat * 7)).off + 3, none⟩ = some (.int .i64 ((rd_T52 l0 x7_2).f3)) ∧ w'.cell? ⟨(ad537.add ((x7_2).toNat * 7)).block, (ad537.add ((x7_2).toNat * 7)).off + 4, none⟩ = some (.int .i64 ((rd_T52 l0 x7_2).f4)) ∧ w'.cell? ⟨(ad537.add ((x7_2).toNat * 7)).block, (ad537.add ((x7_2).toNat * 7)).off + 5, none⟩ = some (.string ((rd_T52 l0 x7_2).f5)) ∧ w'.cell? ⟨(ad537.add ((x7_2).toNat * 7)).block, (ad537.add ((x7_2).toNat * 7)).off + 6, none⟩ = some (.bool ((rd_T52 l0 x7_2).f6))) (ds := [11]) #[false, false, false, false, false, false, false, false, false, false, false, false] (by as_aux_lemma => kernel_rfl) rfl rfl ⟨(blk_cell BK536.out 0).trans rfl, (blk_cell BK536.out 1).trans rfl, (blk_cell BK536.out 2).trans rfl, (zX HB.out hw539_0), (zX HB.out hw539_1), (zX HB.out hw539_2), (zX HB.out hw539_3), (zX HB.out hw539_4), (zX HB.out hw539_5), (zX HB.out hw539_6)⟩ (fun hHeld => ?_); refine with_tabW cooperagelaw16_LeaseOne.tab11 cooperagelaw16_LeaseOne.bits11 (fun HT_ HW_ => ?_)
        generalize wr.drew = w14 at HO_537001 HO_537002 BK536 HB hx539_0 hx539_1 hx539_2 hx539_3 hx539_4 hx539_5 hx539_6 hHeld ⊢
        refine pure_ (i := 1) (N := some 46) (v := ?_) (a' := ?_) #[false, true, false, false, false, false, false, false, false, false, false, false] rfl rfl (any_of HT_.out (by as_aux_lemma => kernel_rfl)) (fun _ _ _ h => h) (Or.inl ⟨by rfl, ?_⟩) ?_ ?_
        rotate_left
        ·intro w'
         go_simp
         with_reducible rfl
        rotate_left
        ·simp only [Act.put, List.setIfInBounds_toArray, List.set_cons_zero, List.set_cons_succ, i64_w, i32_w]
         rfl
        refine pure_ (i := 2) (N := some 47) (v := ?_) (a' := ?_) #[false, true, true, false, false, false, false, false, false, false, false, false] rfl rfl (any_of HT_.out (by as_aux_lemma => kernel_rfl)) (fun _ _ _ h => h) (Or.inl ⟨by rfl, ?_⟩) ?_ ?_
        rotate_left
        ·intro w'
         go_simp
         with_reducible rfl
        rotate_left
        ·simp only [Act.put, List.setIfInBounds_toArray, List.set_cons_zero, List.set_cons_succ, i64_w, i32_w]
         rfl
        refine pure_ (i := 3) (N := some 48) (v := ?_) (a' := ?_) #[false, true, true, true, false, false, false, false, false, false, false, false] rfl rfl (any_of HT_.out (by as_aux_lemma => kernel_rfl)) (fun _ _ _ h => h) (Or.inl ⟨by rfl, ?_⟩) ?_ ?_
        rotate_left
        ·intro w'
         go_simp
         with_reducible rfl
        rotate_left
        ·simp only [Act.put, List.setIfInBounds_toArray, List.set_cons_zero, List.set_cons_succ, i64_w, i32_w]
         rfl
        refine pure_ (i := 5) (N := some 50) (v := ?_) (a' := ?_) #[false, true, true, true, false, true, false, false, false, false, false, false] rfl rfl (any_of HT_.out (by as_aux_lemma => kernel_rfl)) (fun _ _ _ h => h) (Or.inl ⟨by rfl, ?_⟩) ?_ ?_
        rotate_left
        ·intro w'
         go_simp
         with_reducible rfl
        rotate_left
        ·simp only [Act.put, List.setIfInBounds_toArray, List.set_cons_zero, List.set_cons_succ, i64_w, i32_w]
         rfl
        refine take_ (i := 0) (N := some 45) (v := ?_) (a' := ?_) #[true, true, true, true, false, true, false, false, false, false, false, false] rfl rfl (take_ofW HT_.out HW_.out (by as_aux_lemma => kernel_rfl)) (fun _ _ _ h => h) (Or.inl ⟨by rfl, ?_⟩) hHeld ?_ ?_
        rotate_left
        ·rintro w' ⟨s0, s1, s2, s3, s4, s5, s6, s7, s8, s9⟩
         go_simp
         with_reducible rfl
        rotate_left
        ·simp only [Act.put, List.setIfInBounds_toArray, List.set_cons_zero, List.set_cons_succ, i64_w, i32_w]
         rfl
        refine take_ (i := 4) (N := some 49) (v := ?_) (a' := ?_) #[true, true, true, true, true, true, false, false, false, false, false, false] rfl rfl (take_ofW HT_.out HW_.out (by as_aux_lemma => kernel_rfl)) (fun _ _ _ h => h) (Or.inl ⟨by rfl, ?_⟩) hHeld ?_ ?_
        rotate_left
        ·rintro w' ⟨s0, s1, s2, s3, s4, s5, s6, s7, s8, s9⟩
         go_simp
         with_reducible rfl
        rotate_left
        ·simp only [Act.put, List.setIfInBounds_toArray, List.set_cons_zero, List.set_cons_succ, i64_w, i32_w]
         rfl
        refine one_ (i := 6) (N := some 51) #[true, true, true, true, true, true, true, false, false, false, false, false] rfl rfl (one_of HT_.out (by as_aux_lemma => kernel_rfl)) (by decide) (fun K hK => ?_)
        refine goes_ Tryd.func17 (by as_aux_lemma => kernel_rfl) rfl #[.agg #[.int .i64 x537000_2, .slice Ao15 x537001_2.length co15, .slice Ao16 x537002_2.length co16], .agg #[.int .i64 ((rd_T52 l0 x7_2).f0), .int .i64 ((rd_T52 l0 x7_2).f1), .int .i64 ((rd_T52 l0 x7_2).f2), .int .i64 ((rd_T52 l0 x7_2).f3), .int .i64 ((rd_T52 l0 x7_2).f4), .string ((rd_T52 l0 x7_2).f5), .bool ((rd_T52 l0 x7_2).f6)], .int .i64 (wrap64 (x6_2 + t538))] (by rfl) rfl rfl zA ?_
        with_reducible refine (cooperagelaw16_does.calls k2 x537000_2 (fun k_ => k_ ≠ gb536) _ _ x537001_2 (fun k_ => k_ ≠ gb536) _ _ x537002_2 ((rd_T52 l0 x7_2).f0) ((rd_T52 l0 x7_2).f1) ((rd_T52 l0 x7_2).f2) ((rd_T52 l0 x7_2).f3) ((rd_T52 l0 x7_2).f4) ((rd_T52 l0 x7_2).f5) ((rd_T52 l0 x7_2).f6) (wrap64 (x6_2 + t538)) t540 t541 t544 t547 t548 _ ?side1 ?side2 A13.out).mono ?_
        (case side1 => exact HO_537001.out)
        (case side2 => exact HO_537002.out)
        rintro e w17 ⟨v542, v545, rfl, ho0, ho1, hb⟩
        refine ⟨_, rfl, ?_⟩
        have n0_ := Aside0.mk (Kd.V_below (zV HO_537001.out) hb)
        have n1_ := Aside0.mk (Kd.V_below (zV HO_537002.out) hb)
        have n2_ := Aside0.mk (Kd.V_lower (Kd.V_mono (ok' := fun k_ => k_ ≠ gb536) ho0 (fun k_ hk_ => Or.elim hk_ (fun hs_ => Or.elim hs_ (fun hs_ => hs_) (fun hs_ => hs_)) (fun hn_ => (Kd.freshB (g := gb536) (o := .cells #[.int .i64 x537000_2, .slice Ao15 x537001_2.length co15, .slice Ao16 x537002_2.length co16] 27 (0, 0)) (zK BK536.out) k_ hn_)))) (below_size (zL HB.out)))
        have n3_ := Aside0.mk (Kd.V_lower (Kd.V_mono (ok' := fun k_ => k_ ≠ gb536) ho1 (fun k_ hk_ => Or.elim hk_ (fun hs_ => Or.elim hs_ (fun hs_ => hs_) (fun hs_ => hs_)) (fun hn_ => (Kd.freshB (g := gb536) (o := .cells #[.int .i64 x537000_2, .slice Ao15 x537001_2.length co15, .slice Ao16 x537002_2.length co16] 27 (0, 0)) (zK BK536.out) k_ hn_)))) (below_size (zL HB.out)))
        have n4_ := Aside0.mk (blk_below (g := gb536) (o := .cells #[.int .i64 x537000_2, .slice Ao15 x537001_2.length co15, .slice Ao16 x537002_2.length co16] 27 (0, 0)) (zK BK536.out) hb)
        have n5_ := Aside0.mk (below_step (zL HB.out) hb)
        clear HO_537001
        clear HO_537002
        clear BK536
        clear HB
        have HO_537001 := n0_
        have HO_537002 := n1_
        have HO543 := n2_
        have HO546 := n3_
        have BK536 := n4_
        have HB := n5_
        clear n0_ n1_ n2_ n3_ n4_ n5_
        (try clear hb)
        (try clear hb2)
        (try clear hk)
        (try clear hi)
        (try clear ho0)
        (try clear ho1)
        obtain ⟨Ao19, co19, eo19⟩ := Kd.V_slice HO543.out
        (first | subst eo19 | (injection eo19 with f1_ f2_ f3_; have f4_ := f1_.symm; have f5_ := f3_.symm; clear f1_ f2_ f3_; subst f4_; subst f5_))
        obtain ⟨Ao21, co21, eo21⟩ := Kd.V_slice HO546.out
        (first | subst eo21 | (injection eo21 with f1_ f2_ f3_; have f4_ := f1_.symm; have f5_ := f3_.symm; clear f1_ f2_ f3_; subst f4_; subst f5_))
        refine hK.out _ _ ⟨(blk_cell BK536.out 0).trans rfl, (blk_cell BK536.out 1).trans rfl, (blk_cell BK536.out 2).trans rfl, (zX HB.out hw539_0), (zX HB.out hw539_1), (zX HB.out hw539_2), (zX HB.out hw539_3), (zX HB.out hw539_4), (zX HB.out hw539_5), (zX HB.out hw539_6)⟩ (fun hHeld => ?_)
        clear hK K
        refine norm_ (a' := ?_) ?_ ?_
        rotate_left
        ·show Act.put _ (some 51) _ = _
         simp only [Act.put, List.setIfInBounds_toArray, List.set_cons_zero, List.set_cons_succ, i64_w, i32_w]
         rfl
        refine pure_ (i := 7) (N := some 44) (v := ?_) (a' := ?_) #[true, true, true, true, true, true, true, true, false, false, false, false] rfl rfl (any_of HT_.out (by as_aux_lemma => kernel_rfl)) (fun _ _ _ h => h) (Or.inl ⟨by rfl, ?_⟩) ?_ ?_
        rotate_left
        ·intro w'
         go_simp
         with_reducible rfl
        rotate_left
        ·simp only [Act.put, List.setIfInBounds_toArray, List.set_cons_zero, List.set_cons_succ, i64_w, i32_w]
         rfl
        refine pure_ (i := 8) (N := some 52) (v := ?_) (a' := ?_) #[true, true, true, true, true, true, true, true, true, false, false, false] rfl rfl (any_of HT_.out (by as_aux_lemma => kernel_rfl)) (fun _ _ _ h => h) (Or.inl ⟨by rfl, ?_⟩) ?_ ?_
        rotate_left
        ·intro w'
         go_simp
         with_reducible rfl
        rotate_left
        ·simp only [Act.put, List.setIfInBounds_toArray, List.set_cons_zero, List.set_cons_succ, i64_w, i32_w]
         rfl
        refine pure_ (i := 9) (N := some 53) (v := ?_) (a' := ?_) #[true, true, true, true, true, true, true, true, true, true, false, false] rfl rfl (any_of HT_.out (by as_aux_lemma => kernel_rfl)) (fun _ _ _ h => h) (Or.inl ⟨by rfl, ?_⟩) ?_ ?_
        rotate_left
        ·intro w'
         go_simp
         with_reducible rfl
        rotate_left
        ·simp only [Act.put, List.setIfInBounds_toArray, List.set_cons_zero, List.set_cons_succ, i64_w, i32_w]
         rfl
        refine pure_ (i := 10) (N := some 54) (v := ?_) (a' := ?_) #[true, true, true, true, true, true, true, true, true, true, true, false] rfl rfl (any_of HT_.out (by as_aux_lemma => kernel_rfl)) (fun _ _ _ h => h) (Or.inl ⟨by rfl, ?_⟩) ?_ ?_
        rotate_left
        ·intro w'
         go_simp
         with_reducible rfl
        rotate_left
        ·simp only [Act.put, List.setIfInBounds_toArray, List.set_cons_zero, List.set_cons_succ, i64_w, i32_w]
         rfl
        refine last_ (i := 11) (N := none) #[true, true, true, true, true, true, true, true, true, true, true, true] rfl rfl (one_of HT_.out (by as_aux_lemma => kernel_rfl)) (by decide) (fun K hK => ?_)
        have hs18 : w17.cell? ⟨gb536, 0, none⟩ = some (.int .i64 x537000_2) := (blk_cell BK536.out 0).trans rfl
        have hfs18 := blk_frozen BK536.out 0
        have hs20 : w17.cell? ⟨gb536, 1, none⟩ = some (.slice Ao15 x537001_2.length co15) := (blk_cell BK536.out 1).trans rfl
        have hfs20 := blk_frozen BK536.out 1
        have hs22 : w17.cell? ⟨gb536, 2, none⟩ = some (.slice Ao16 x537002_2.length co16) := (blk_cell BK536.out 2).trans rfl
        have hfs22 := blk_frozen BK536.out 2
        refine skip_ (w1 := ?_) (by rfl) rfl ?_ ?_
        rotate_left
        ·go_simp
         rfl
        refine hK.out _ _ ?_
        clear hK K
        refine done_ (done_of HT_.out (by as_aux_lemma => kernel_rfl)) ?_
        try go_wp2
        go_loopg [8] k2 (fun kq v8 w' => ∃ (x8_3 : Int), v8 = .int .i64 x8_3 ∧ Aside0 (cooperagelaw16_LeaseOne.l1 kq l0 (wrap64 (x6_2 + t538)) x7_2 x8_3 t540 t541 t544 = some r) ∧ Aside0 (kq ≤ k2) ∧ Aside0 (Kd.V k34 34 w' w.heap.size (fun k_ => k_ ≠ gb536) (.slice Ao19 t541.length co19) t541) ∧ Aside0 (Kd.V k32 32 w' w.heap.size (fun k_ => k_ ≠ gb536) (.slice Ao21 t544.length co21) t544) ∧ Aside0 (w'.heap[gb536]? = some (.cells #[.int .i64 t540, (.slice Ao19 t541.length co19), (.slice Ao21 t544.length co21)] 27 (0, 0))) ∧ Aside0 (Below w.heap.size w w'))
        case atStart => as_aux_lemma => exact ⟨(0), zS, H', ⟨Nat.le_refl _⟩, ⟨by (with_reducible repeat (first | apply Kd.V_alloc | apply Kd.V_drewN | apply Kd.V_drew)); exact Kd.V_mono (zNV HO543.out (g := gb536) (fun _ hk => hk)) (fun _ hk => hk.1)⟩, ⟨by (with_reducible repeat (first | apply Kd.V_alloc | apply Kd.V_drewN | apply Kd.V_drew)); exact Kd.V_mono (zNV HO546.out (g := gb536) (fun _ hk => hk)) (fun _ hk => hk.1)⟩, ⟨zP3 BK536.out⟩, ⟨zL HB.out⟩⟩
        case round =>
         clear H'
         try clear c1
         try clear p2
         try clear p5
         try clear q5
         try clear hx5
         try clear c6
         try clear p6
         try clear c7
         try clear c9
         try clear c10
         try clear c10b0
         try clear c11
         try clear c11b0
         try clear c13
         try clear c16
         try clear c17
         try clear hcz9_0
         try clear hcz9_1
         try clear hcz9_2
         try clear hfz9_0
         try clear hfz9_1
         try clear hfz9_2
         try clear hx537_0
         try clear hx537_1
         try clear hx537_2
         try clear hx537_3
         try clear hx537_4
         try clear hx537_5
         try clear hx537_6
         try clear hx539_0
         try clear hx539_1
         try clear hx539_2
         try clear hx539_3
         try clear hx539_4
         try clear hx539_5
         try clear hx539_6
         try clear p2
         try clear p537
         try clear p539
         try clear q537
         try clear q539
         obtain ⟨x8_3, rfl, HA, HK3, HO_537001, HO_537002, BK536, HB⟩ := hrel
         cases gk with
         | zero => exact absurd HA.out (by simp [cooperagelaw16_LeaseOne.l1])
         | succ k3 =>
          have H := HA.out
          clear HA
          simp only [cooperagelaw16_LeaseOne.l1] at H
          by_cases c23 : x8_3 < (t541.length : Int)
          ·rw [if_pos c23] at H
           have c23b0 : decide (x8_3 < (t541.length : Int)) = true := decide_eq_true c23
           clear c23
           have H' := Aside0.mk H
           clear H
           obtain ⟨hcz24_0, hcz24_1, hcz24_2, hfz24_0, hfz24_1, hfz24_2⟩ := zC3 BK536.out
           go_wp2
           go_loopg [9] k3 (fun kq v9 w' => ∃ (x9_4 : Int), v9 = .int .i64 x9_4 ∧ Aside0 (cooperagelaw16_LeaseOne.l2 kq l0 (wrap64 (x6_2 + t538)) x7_2 x8_3 x9_4 t540 t541 t544 = some r) ∧ Aside0 (kq ≤ k3) ∧ Aside0 (Kd.V k34 34 w' w.heap.size (fun k_ => k_ ≠ gb536) (.slice Ao19 t541.length co19) t541) ∧ Aside0 (Kd.V k32 32 w' w.heap.size (fun k_ => k_ ≠ gb536) (.slice Ao21 t544.length co21) t544) ∧ Aside0 (w'.heap[gb536]? = some (.cells #[.int .i64 t540, (.slice Ao19 t541.length co19), (.slice Ao21 t544.length co21)] 27 (0, 0))) ∧ Aside0 (Below w.heap.size w w'))
           case atStart => as_aux_lemma => exact ⟨(0), zS, H', ⟨Nat.le_refl _⟩, ⟨by (with_reducible repeat (first | apply Kd.V_alloc | apply Kd.V_drewN | apply Kd.V_drew)); exact HO_537001.out⟩, ⟨by (with_reducible repeat (first | apply Kd.V_alloc | apply Kd.V_drewN | apply Kd.V_drew)); exact HO_537002.out⟩, ⟨zK BK536.out⟩, ⟨zL HB.out⟩⟩
           case round =>
            clear H'
            try clear c1
            try clear c2
            try clear p2
            try clear p5
            try clear q5
            try clear hx5
            try clear c6
            try clear p6
            try clear c7
            try clear c9
            try clear c10
            try clear c10b0
            try clear c11
            try clear c11b0
            try clear c13
            try clear c16
            try clear c17
            try clear c23
            try clear c23b0
            try clear hcz24_0
            try clear hcz24_1
            try clear hcz24_2
            try clear hcz9_0
            try clear hcz9_1
            try clear hcz9_2
            try clear hfz24_0
            try clear hfz24_1
            try clear hfz24_2
            try clear hfz9_0
            try clear hfz9_1
            try clear hfz9_2
            try clear hx537_0
            try clear hx537_1
            try clear hx537_2
            try clear hx537_3
            try clear hx537_4
            try clear hx537_5
            try clear hx537_6
            try clear hx539_0
            try clear hx539_1
            try clear hx539_2
            try clear hx539_3
            try clear hx539_4
            try clear hx539_5
            try clear hx539_6
            try clear p2
            try clear p5
            try clear p537
            try clear p539
            try clear p6
            try clear q5
            try clear q537
            try clear q539
            obtain ⟨x9_4, rfl, HA, HK4, HO_537001, HO_537002, BK536, HB⟩ := hrel
            cases gk with
            | zero => exact absurd HA.out (by simp [cooperagelaw16_LeaseOne.l2])
            | succ k4 =>
             have H := HA.out
             clear HA
             simp only [cooperagelaw16_LeaseOne.l2] at H
             by_cases c25 : x9_4 < x8_3
             ·rw [if_pos c25] at H
              have c25b0 : decide (x9_4 < x8_3) = true := decide_eq_true c25
              clear c25
              by_cases c26 : 0 ≤ x8_3
              ·rw [if_pos c26] at H
               have c26b0 : decide (0 ≤ x8_3) = true := decide_eq_true c26
               clear c26
               by_cases c27 : x8_3 < (t541.length : Int)
               ·rw [if_pos c27] at H
                have c27b0 : decide (x8_3 < (t541.length : Int)) = true := decide_eq_true c27
                clear c27
                by_cases c28 : 0 ≤ x9_4
                ·rw [if_pos c28] at H
                 have c28b0 : decide (0 ≤ x9_4) = true := decide_eq_true c28
                 clear c28
                 by_cases c29 : x9_4 < (t541.length : Int)
                 ·rw [if_pos c29] at H
                  have c29b0 : decide (x9_4 < (t541.length : Int)) = true := decide_eq_true c29
                  clear c29
                  have HC30 := Aside0.mk H
                  clear H
                  obtain ⟨hcz31_0, hcz31_1, hcz31_2, hfz31_0, hfz31_1, hfz31_2⟩ := zC3 BK536.out
                  have p549 : 0 ≤ (x8_3 : Int) := zD
                  have q549 : x8_3 < (t541.length : Int) := zD
                  obtain ⟨ad549, e549, hx549_0, hx549_1, hx549_2, hx549_3, hx549_4⟩ := at_T34 (Kd.V_reads' HO_537001.out).2.2 x8_3 p549 q549
                  cases e549
                  replace p549 := eq_true p549
                  replace q549 := eq_true q549
                  go_upto_region 20 with (first | ((with_reducible refine gate_dst (N := 10) rfl ?_); refine box_event ?hg (N := 10) ?hd (cs := #[.int .i64 0, .string (⟨#[]⟩ : ByteArray), .bool false, .int .i64 0, .int .i64 0]) (t := 34) ?hr ?_; (case hd => rfl); (case hg => rfl); (case hr => first | (go_simp; done) | (go_simp; rfl)); intro gb550 hg w32 hbox hb; have n0_ := Aside0.mk (Kd.V_below (Kd.V_elderB (zV HO_537001.out) gb550 (Nat.le_of_eq hg.symm)) hb); have n1_ := Aside0.mk (Kd.V_below (Kd.V_elderB (zV HO_537002.out) gb550 (Nat.le_of_eq hg.symm)) hb); have n2_ := Aside0.mk (blk_below (g := gb536) (o := .cells #[.int .i64 t540, .slice (some ad549) t541.length co19, .slice Ao21 t544.length co21] 27 (0, 0)) (zK BK536.out) hb); have n3_ := Aside0.mk (below_step (zL HB.out) hb); have n4_ := Aside0.mk (hbox); have n5_ := Aside0.mk (zG hg (zL HB.out)); have n6_ := Aside0.mk (zG hg (zL HB.out)); have n7_ := Aside0.mk (zN (g := gb536) (o := .cells #[.int .i64 t540, .slice (some ad549) t541.length co19, .slice Ao21 t544.length co21] 27 (0, 0)) hg (zK BK536.out)); have n8_ := Aside0.mk (zO (g := gb536) (o := .cells #[.int .i64 t540, .slice (some ad549) t541.length co19, .slice Ao21 t544.length co21] 27 (0, 0)) hg (zK BK536.out)); revert n0_ n1_ n2_ n3_ n4_ n5_ n6_ n7_ n8_; clear HO_537001 HO_537002 BK536 HB; intro HO_537001 HO_537002 BK536 HB BK550 GW550 GE550 NB536_550 NB550_536; clear hb hbox hg; have hnb33 := NB550_536.out; have hnc33 := NB536_550.out; obtain ⟨hcz34_0, hcz34_1, hcz34_2, hcz34_3, hcz34_4, hfz34_0, hfz34_1, hfz34_2, hfz34_3, hfz34_4⟩ := zC5 BK550.out; obtain ⟨hcz35_0, hcz35_1, hcz35_2, hfz35_0, hfz35_1, hfz35_2⟩ := zC3 BK536.out; have p551 : 0 ≤ (x9_4 : Int) := zD; have q551 : x9_4 < (t541.length : Int) := zD; obtain ⟨ad551, e551, hx551_0, hx551_1, hx551_2, hx551_3, hx551_4⟩ := at_T34 (Kd.V_reads' HO_537001.out).2.2 x9_4 p551 q551; obtain rfl : ad549 = ad551 := (by injection e551); have hn551_0 : ad549.block ≠ gb550 := (by have h_ := zI HO_537001.out (by omega) (by decide); first | exact h_.2 | exact h_.1.2 | exact h_.1.1.2 | exact h_.2.2 | exact h_.2.1 | exact h_.2.2.2 | exact h_.2.2.1); have hn551_1 : ad549.block ≠ gb550 := (by have h_ := zI HO_537001.out (by omega) (by decide); first | exact h_.2 | exact h_.1.2 | exact h_.1.1.2 | exact h_.2.2 | exact h_.2.1 | exact h_.2.2.2 | exact h_.2.2.1); have hn551_2 : ad549.block ≠ gb550 := (by have h_ := zI HO_537001.out (by omega) (by decide); first | exact h_.2 | exact h_.1.2 | exact h_.1.1.2 | exact h_.2.2 | exact h_.2.1 | exact h_.2.2.2 | exact h_.2.2.1); have hn551_3 : ad549.block ≠ gb550 := (by have h_ := zI HO_537001.out (by omega) (by decide); first | exact h_.2 | exact h_.1.2 | exact h_.1.1.2 | exact h_.2.2 | exact h_.2.1 | exact h_.2.2.2 | exact h_.2.2.1); have hn551_4 : ad549.block ≠ gb550 := (by have h_ := zI HO_537001.out (by omega) (by decide); first | exact h_.2 | exact h_.1.2 | exact h_.1.1.2 | exact h_.2.2 | exact h_.2.1 | exact h_.2.2.2 | exact h_.2.2.1); replace hx551_0 := (cell_far (p := ⟨gb550, 0, none⟩) (by first | (rw [add_block]; exact hn551_0) | (show (Addr.add _ _).block ≠ _; rw [add_block]; exact hn551_0) | exact hn551_0) (.int .i64 ((rd_T34 t541 x8_3).f0))).trans hx551_0; replace hx551_1 := (cell_far (p := ⟨gb550, 0, none⟩) (by first | (rw [add_block]; exact hn551_0) | (show (Addr.add _ _).block ≠ _; rw [add_block]; exact hn551_0) | exact hn551_0) (.int .i64 ((rd_T34 t541 x8_3).f0))).trans hx551_1; replace hx551_2 := (cell_far (p := ⟨gb550, 0, none⟩) (by first | (rw [add_block]; exact hn551_0) | (show (Addr.add _ _).block ≠ _; rw [add_block]; exact hn551_0) | exact hn551_0) (.int .i64 ((rd_T34 t541 x8_3).f0))).trans hx551_2; replace hx551_3 := (cell_far (p := ⟨gb550, 0, none⟩) (by first | (rw [add_block]; exact hn551_0) | (show (Addr.add _ _).block ≠ _; rw [add_block]; exact hn551_0) | exact hn551_0) (.int .i64 ((rd_T34 t541 x8_3).f0))).trans hx551_3; replace hx551_4 := (cell_far (p := ⟨gb550, 0, none⟩) (by first | (rw [add_block]; exact hn551_0) | (show (Addr.add _ _).block ≠ _; rw [add_block]; exact hn551_0) | exact hn551_0) (.int .i64 ((rd_T34 t541 x8_3).f0))).trans hx551_4; replace hx551_0 := (cell_far (p := ⟨gb550, 1, none⟩) (by first | (rw [add_block]; exact hn551_1) | (show (Addr.add _ _).block ≠ _; rw [add_block]; exact hn551_1) | exact hn551_1) (.string ((rd_T34 t541 x8_3).f1))).trans hx551_0; replace hx551_1 := (cell_far (p := ⟨gb550, 1, none⟩) (by first | (rw [add_block]; exact hn551_1) | (show (Addr.add _ _).block ≠ _; rw [add_block]; exact hn551_1) | exact hn551_1) (.string ((rd_T34 t541 x8_3).f1))).trans hx551_1; replace hx551_2 := (cell_far (p := ⟨gb550, 1, none⟩) (by first | (rw [add_block]; exact hn551_1) | (show (Addr.add _ _).block ≠ _; rw [add_block]; exact hn551_1) | exact hn551_1) (.string ((rd_T34 t541 x8_3).f1))).trans hx551_2; replace hx551_3 := (cell_far (p := ⟨gb550, 1, none⟩) (by first | (rw [add_block]; exact hn551_1) | (show (Addr.add _ _).block ≠ _; rw [add_block]; exact hn551_1) | exact hn551_1) (.string ((rd_T34 t541 x8_3).f1))).trans hx551_3; replace hx551_4 := (cell_far (p := ⟨gb550, 1, none⟩) (by first | (rw [add_block]; exact hn551_1) | (show (Addr.add _ _).block ≠ _; rw [add_block]; exact hn551_1) | exact hn551_1) (.string ((rd_T34 t541 x8_3).f1))).trans hx551_4; replace hx551_0 := (cell_far (p := ⟨gb550, 2, none⟩) (by first | (rw [add_block]; exact hn551_2) | (show (Addr.add _ _).block ≠ _; rw [add_block]; exact hn551_2) | exact hn551_2) (.bool ((rd_T34 t541 x8_3).f2))).trans hx551_0; replace hx551_1 := (cell_far (p := ⟨gb550, 2, none⟩) (by first | (rw [add_block]; exact hn551_2) | (show (Addr.add _ _).block ≠ _; rw [add_block]; exact hn551_2) | exact hn551_2) (.bool ((rd_T34 t541 x8_3).f2))).trans hx551_1; replace hx551_2 := (cell_far (p := ⟨gb550, 2, none⟩) (by first | (rw [add_block]; exact hn551_2) | (show (Addr.add _ _).block ≠ _; rw [add_block]; exact hn551_2) | exact hn551_2) (.bool ((rd_T34 t541 x8_3).f2))).trans hx551_2; replace hx551_3 := (cell_far (p := ⟨gb550, 2, none⟩) (by first | (rw [add_block]; exact hn551_2) | (show (Addr.add _ _).block ≠ _; rw [add_block]; exact hn551_2) | exact hn551_2) (.bool ((rd_T34 t541 x8_3).f2))).trans hx551_3; replace hx551_4 := (cell_far (p := ⟨gb550, 2, none⟩) (by first | (rw [add_block]; exact hn551_2) | (show (Addr.add _ _).block ≠ _; rw [add_block]; exact hn551_2) | exact hn551_2) (.bool ((rd_T34 t541 x8_3).f2))).trans hx551_4; replace hx551_0 := (cell_far (p := ⟨gb550, 3, none⟩) (by first | (rw [add_block]; exact hn551_3) | (show (Addr.add _ _).block ≠ _; rw [add_block]; exact hn551_3) | exact hn551_3) (.int .i64 ((rd_T34 t541 x8_3).f3))).trans hx551_0; replace hx551_1 := (cell_far (p := ⟨gb550, 3, none⟩) (by first | (rw [add_block]; exact hn551_3) | (show (Addr.add _ _).block ≠ _; rw [add_block]; exact hn551_3) | exact hn551_3) (.int .i64 ((rd_T34 t541 x8_3).f3))).trans hx551_1; replace hx551_2 := (cell_far (p := ⟨gb550, 3, none⟩) (by first | (rw [add_block]; exact hn551_3) | (show (Addr.add _ _).block ≠ _; rw [add_block]; exact hn551_3) | exact hn551_3) (.int .i64 ((rd_T34 t541 x8_3).f3))).trans hx551_2; replace hx551_3 := (cell_far (p := ⟨gb550, 3, none⟩) (by first | (rw [add_block]; exact hn551_3) | (show (Addr.add _ _).block ≠ _; rw [add_block]; exact hn551_3) | exact hn551_3) (.int .i64 ((rd_T34 t541 x8_3).f3))).trans hx551_3; replace hx551_4 := (cell_far (p := ⟨gb550, 3, none⟩) (by first | (rw [add_block]; exact hn551_3) | (show (Addr.add _ _).block ≠ _; rw [add_block]; exact hn551_3) | exact hn551_3) (.int .i64 ((rd_T34 t541 x8_3).f3))).trans hx551_4; replace hx551_0 := (cell_far (p := ⟨gb550, 4, none⟩) (by first | (rw [add_block]; exact hn551_4) | (show (Addr.add _ _).block ≠ _; rw [add_block]; exact hn551_4) | exact hn551_4) (.int .i64 ((rd_T34 t541 x8_3).f4))).trans hx551_0; replace hx551_1 := (cell_far (p := ⟨gb550, 4, none⟩) (by first | (rw [add_block]; exact hn551_4) | (show (Addr.add _ _).block ≠ _; rw [add_block]; exact hn551_4) | exact hn551_4) (.int .i64 ((rd_T34 t541 x8_3).f4))).trans hx551_1; replace hx551_2 := (cell_far (p := ⟨gb550, 4, none⟩) (by first | (rw [add_block]; exact hn551_4) | (show (Addr.add _ _).block ≠ _; rw [add_block]; exact hn551_4) | exact hn551_4) (.int .i64 ((rd_T34 t541 x8_3).f4))).trans hx551_2; replace hx551_3 := (cell_far (p := ⟨gb550, 4, none⟩) (by first | (rw [add_block]; exact hn551_4) | (show (Addr.add _ _).block ≠ _; rw [add_block]; exact hn551_4) | exact hn551_4) (.int .i64 ((rd_T34 t541 x8_3).f4))).trans hx551_3; replace hx551_4 := (cell_far (p := ⟨gb550, 4, none⟩) (by first | (rw [add_block]; exact hn551_4) | (show (Addr.add _ _).block ≠ _; rw [add_block]; exact hn551_4) | exact hn551_4) (.int .i64 ((rd_T34 t541 x8_3).f4))).trans hx551_4; clear hn551_0; clear hn551_1; clear hn551_2; clear hn551_3; clear hn551_4; replace p551 := eq_true p551; replace q551 := eq_true q551) | ((with_reducible refine gate_dst (N := 11) rfl ?_); refine box_event ?hg (N := 11) ?hd (cs := #[.int .i64 0, .string (⟨#[]⟩ : ByteArray), .bool false, .int .i64 0, .int .i64 0]) (t := 34) ?hr ?_; (case hd => rfl); (case hg => rfl); (case hr => first | (go_simp; done) | (go_simp; rfl)); intro gb552 hg w36 hbox hb; have n0_ := Aside0.mk (Kd.V_below (Kd.V_elderB (zMV HO_537001.out (g := gb550) (fun _ hk => hk.2)) gb552 (Nat.le_of_eq hg.symm)) hb); have n1_ := Aside0.mk (Kd.V_below (Kd.V_elderB (zMV HO_537002.out (g := gb550) (fun _ hk => hk.2)) gb552 (Nat.le_of_eq hg.symm)) hb); have n2_ := Aside0.mk (blk_below (g := gb536) (o := .cells #[.int .i64 t540, .slice (some ad549) t541.length co19, .slice Ao21 t544.length co21] 27 (0, 0)) (zK BK536.out) hb); have n3_ := Aside0.mk (blk_below (g := gb550) (o := .cells #[.int .i64 ((rd_T34 t541 x8_3).f0), .string ((rd_T34 t541 x8_3).f1), .bool ((rd_T34 t541 x8_3).f2), .int .i64 ((rd_T34 t541 x8_3).f3), .int .i64 ((rd_T34 t541 x8_3).f4)] 34 (0, 0)) (zP5 BK550.out) hb); have n4_ := Aside0.mk (below_step (zL HB.out) hb); have n5_ := Aside0.mk (hbox); have n6_ := Aside0.mk (zG hg (zL HB.out)); have n7_ := Aside0.mk (zG hg (zL HB.out)); have n8_ := Aside0.mk (zN (g := gb536) (o := .cells #[.int .i64 t540, .slice (some ad549) t541.length co19, .slice Ao21 t544.length co21] 27 (0, 0)) hg (zK BK536.out)); have n9_ := Aside0.mk (zO (g := gb536) (o := .cells #[.int .i64 t540, .slice (some ad549) t541.length co19, .slice Ao21 t544.length co21] 27 (0, 0)) hg (zK BK536.out)); have n10_ := Aside0.mk ((by rw [hg]; exact Nat.ne_of_lt (blk_lt (g := gb550) (o := .cells #[.int .i64 ((rd_T34 t541 x8_3).f0), .string ((rd_T34 t541 x8_3).f1), .bool ((rd_T34 t541 x8_3).f2), .int .i64 ((rd_T34 t541 x8_3).f3), .int .i64 ((rd_T34 t541 x8_3).f4)] 34 (0, 0)) (zP5 BK550.out)) : gb550 ≠ gb552)); have n11_ := Aside0.mk ((by rw [hg]; exact Nat.ne_of_gt (blk_lt (g := gb550) (o := .cells #[.int .i64 ((rd_T34 t541 x8_3).f0), .string ((rd_T34 t541 x8_3).f1), .bool ((rd_T34 t541 x8_3).f2), .int .i64 ((rd_T34 t541 x8_3).f3), .int .i64 ((rd_T34 t541 x8_3).f4)] 34 (0, 0)) (zP5 BK550.out)) : gb552 ≠ gb550)); revert n0_ n1_ n2_ n3_ n4_ n5_ n6_ n7_ n8_ n9_ n10_ n11_; clear HO_537001 HO_537002 BK536 BK550 HB; intro HO_537001 HO_537002 BK536 BK550 HB BK552 GW552 GE552 NB536_552 NB552_536 NB550_552 NB552_550; clear hb hbox hg; have hnb37 := NB552_536.out; have hnc37 := NB536_552.out; have hnb38 := NB552_550.out; have hnc38 := NB550_552.out; obtain ⟨hcz39_0, hcz39_1, hcz39_2, hcz39_3, hcz39_4, hfz39_0, hfz39_1, hfz39_2, hfz39_3, hfz39_4⟩ := zC5 BK552.out))
                  (try simp only [Act.put, List.setIfInBounds_toArray, List.set_cons_zero, List.set_cons_succ])
                  go_cut [110] (fun v110 wc => ∃ (kq : Nat) (x110_29 : Bool), v110 = .bool x110_29 ∧ Aside0 (cooperagelaw16_LeaseOne.j4 kq l0 (wrap64 (x6_2 + t538)) x7_2 x8_3 x9_4 x110_29 t540 t541 t544 = some r) ∧ Aside0 (kq ≤ k4) ∧ Aside0 (Kd.V k34 34 wc w.heap.size (fun k_ => k_ ≠ gb536 ∧ k_ ≠ gb550 ∧ k_ ≠ gb552) (.slice (some ad549) t541.length co19) t541) ∧ Aside0 (Kd.V k32 32 wc w.heap.size (fun k_ => k_ ≠ gb536 ∧ k_ ≠ gb550 ∧ k_ ≠ gb552) (.slice Ao21 t544.length co21) t544) ∧ Aside0 (wc.heap[gb536]? = some (.cells #[.int .i64 t540, (.slice (some ad549) t541.length co19), (.slice Ao21 t544.length co21)] 27 (0, 0))) ∧ Aside0 (wc.heap[gb550]? = some (.cells #[.int .i64 ((rd_T34 t541 x8_3).f0), .string ((rd_T34 t541 x8_3).f1), .bool ((rd_T34 t541 x8_3).f2), .int .i64 ((rd_T34 t541 x8_3).f3), .int .i64 ((rd_T34 t541 x8_3).f4)] 34 (0, 0))) ∧ Aside0 (wc.heap[gb552]? = some (.cells #[.int .i64 ((rd_T34 t541 x9_4).f0), .string ((rd_T34 t541 x9_4).f1), .bool ((rd_T34 t541 x9_4).f2), .int .i64 ((rd_T34 t541 x9_4).f3), .int .i64 ((rd_T34 t541 x9_4).f4)] 34 (0, 0))) ∧ Aside0 (Below w.heap.size w wc))
                  case first =>
                   have H := HC30.out
                   clear HC30
                   by_cases c40 : ((rd_T34 t541 x8_3).f1).toList = ((rd_T34 t541 x9_4).f1).toList
                   ·rw [if_pos c40] at H
                    have c40b0 : (((rd_T34 t541 x8_3).f1).toList == ((rd_T34 t541 x9_4).f1).toList) = true := beq_iff_eq.mpr c40
                    have c40b1 : (((rd_T34 t541 x8_3).f1).toList != ((rd_T34 t541 x9_4).f1).toList) = false := bne_eq_false_iff_eq.mpr c40
                    clear c40
                    (first | rw [c40b0] | (simp only [i64_w, i32_w]; rw [c40b0]) | skip)
                    obtain ⟨bq41, hbq41⟩ : ∃ b_ : Bool, b_ = ((rd_T34 t541 x8_3).f2) := ⟨_, rfl⟩
                    replace H : (if bq41 = true then (cooperagelaw16_LeaseOne.j4 k4 l0 (wrap64 (x6_2 + t538)) x7_2 x8_3 x9_4 true t540 t541 t544) else (if (rd_T34 t541 x9_4).f2 = true then (cooperagelaw16_LeaseOne.j4 k4 l0 (wrap64 (x6_2 + t538)) x7_2 x8_3 x9_4 true t540 t541 t544) else (if ((rd_T34 t541 x8_3).f0) = ((rd_T34 t541 x9_4).f0) then (cooperagelaw16_LeaseOne.j4 k4 l0 (wrap64 (x6_2 + t538)) x7_2 x8_3 x9_4 true t540 t541 t544) else (if ((rd_T34 t541 x8_3).f3) ≤ ((rd_T34 t541 x9_4).f3) then (cooperagelaw16_LeaseOne.j4 k4 l0 (wrap64 (x6_2 + t538)) x7_2 x8_3 x9_4 true t540 t541 t544) else (cooperagelaw16_LeaseOne.j4 k4 l0 (wrap64 (x6_2 + t538)) x7_2 x8_3 x9_4 (decide (((rd_T34 t541 x8_3).f3) > t540)) t540 t541 t544))))) = some r := by rw [← hbq41] at H; exact H
                    have Nbq41 := Aside0.mk hbq41
                    clear hbq41
                    by_cases c42 : bq41 = true
                    ·subst c42
                     have H1 : (cooperagelaw16_LeaseOne.j4 k4 l0 (wrap64 (x6_2 + t538)) x7_2 x8_3 x9_4 true t540 t541 t544) = some r := by rw [if_pos rfl] at H; exact H
                     clear H
                     have H := H1
                     clear H1
                     have H' := Aside0.mk H
                     clear H
                     have hnb43 := NB550_536.out
                     have hnc43 := NB536_550.out
                     have hnb44 := NB550_552.out
                     have hnc44 := NB552_550.out
                     obtain ⟨hcz45_0, hcz45_1, hcz45_2, hcz45_3, hcz45_4, hfz45_0, hfz45_1, hfz45_2, hfz45_3, hfz45_4⟩ := zC5 BK550.out; (try rw [← Nbq41.out] at hcz45_2); (try rw [← Nbq41.out])
                     have hnb46 := NB552_536.out
                     have hnc46 := NB536_552.out
                     obtain ⟨hcz47_0, hcz47_1, hcz47_2, hcz47_3, hcz47_4, hfz47_0, hfz47_1, hfz47_2, hfz47_3, hfz47_4⟩ := zC5 BK552.out; (try rw [← Nbq41.out] at hcz47_2); (try rw [← Nbq41.out])
                     go_wp2
                     go_meet
                     case rel => as_aux_lemma => exact ⟨_, (true), zS, H', ⟨by have := HJ3.out; have := HK2.out; have := HK3.out; have := HK4.out; first | omega | exact Nat.le_refl _⟩, ⟨by (with_reducible repeat (first | apply Kd.V_alloc | apply Kd.V_drewN | apply Kd.V_drew)); exact Kd.V_mono (zNV HO_537001.out (g := gb552) (fun _ hk => hk.2)) (fun _ hk => ⟨hk.1.1.1, ⟨hk.1.1.2, hk.1.2⟩⟩)⟩, ⟨by (with_reducible repeat (first | apply Kd.V_alloc | apply Kd.V_drewN | apply Kd.V_drew)); exact Kd.V_mono (zNV HO_537002.out (g := gb552) (fun _ hk => hk.2)) (fun _ hk => ⟨hk.1.1.1, ⟨hk.1.1.2, hk.1.2⟩⟩)⟩, ⟨zK BK536.out⟩, ⟨zK BK550.out⟩, ⟨by (try rw [← Nbq41.out]); exact zP5 BK552.out⟩, ⟨zL HB.out⟩⟩
                    ·replace c42 := Bool.eq_false_iff.mpr c42
                     subst c42
                     have H1 : (if (rd_T34 t541 x9_4).f2 = true then (cooperagelaw16_LeaseOne.j4 k4 l0 (wrap64 (x6_2 + t538)) x7_2 x8_3 x9_4 true t540 t541 t544) else (if ((rd_T34 t541 x8_3).f0) = ((rd_T34 t541 x9_4).f0) then (cooperagelaw16_LeaseOne.j4 k4 l0 (wrap64 (x6_2 + t538)) x7_2 x8_3 x9_4 true t540 t541 t544) else (if ((rd_T34 t541 x8_3).f3) ≤ ((rd_T34 t541 x9_4).f3) then (cooperagelaw16_LeaseOne.j4 k4 l0 (wrap64 (x6_2 + t538)) x7_2 x8_3 x9_4 true t540 t541 t544) else (cooperagelaw16_LeaseOne.j4 k4 l0 (wrap64 (x6_2 + t538)) x7_2 x8_3 x9_4 (decide (((rd_T34 t541 x8_3).f3) > t540)) t540 t541 t544)))) = some r := by rw [if_neg (show ¬ (false = true) by decide)] at H; exact H
                     clear H
                     have H := H1
                     clear H1
                     obtain ⟨bq48, hbq48⟩ : ∃ b_ : Bool, b_ = ((rd_T34 t541 x9_4).f2) := ⟨_, rfl⟩
                     replace H : (if bq48 = true then (cooperagelaw16_LeaseOne.j4 k4 l0 (wrap64 (x6_2 + t538)) x7_2 x8_3 x9_4 true t540 t541 t544) else (if ((rd_T34 t541 x8_3).f0) = ((rd_T34 t541 x9_4).f0) then (cooperagelaw16_LeaseOne.j4 k4 l0 (wrap64 (x6_2 + t538)) x7_2 x8_3 x9_4 true t540 t541 t544) else (if ((rd_T34 t541 x8_3).f3) ≤ ((rd_T34 t541 x9_4).f3) then (cooperagelaw16_LeaseOne.j4 k4 l0 (wrap64 (x6_2 + t538)) x7_2 x8_3 x9_4 true t540 t541 t544) else (cooperagelaw16_LeaseOne.j4 k4 l0 (wrap64 (x6_2 + t538)) x7_2 x8_3 x9_4 (decide (((rd_T34 t541 x8_3).f3) > t540)) t540 t541 t544)))) = some r := by rw [← hbq48] at H; exact H
                     have Nbq48 := Aside0.mk hbq48
                     clear hbq48
                     by_cases c49 : bq48 = true
                     ·subst c49
                      have H1 : (cooperagelaw16_LeaseOne.j4 k4 l0 (wrap64 (x6_2 + t538)) x7_2 x8_3 x9_4 true t540 t541 t544) = some r := by rw [if_pos rfl] at H; exact H
                      clear H
                      have H := H1
                      clear H1
                      have H' := Aside0.mk H
                      clear H
                      have hnb50 := NB550_536.out
                      have hnc50 := NB536_550.out
                      have hnb51 := NB550_552.out
                      have hnc51 := NB552_550.out
                      obtain ⟨hcz52_0, hcz52_1, hcz52_2, hcz52_3, hcz52_4, hfz52_0, hfz52_1, hfz52_2, hfz52_3, hfz52_4⟩ := zC5 BK550.out; (try rw [← Nbq41.out] at hcz52_2); (try rw [← Nbq48.out] at hcz52_2); (try rw [← Nbq41.out]); (try rw [← Nbq48.out])
                      have hnb53 := NB552_536.out
                      have hnc53 := NB536_552.out
                      obtain ⟨hcz54_0, hcz54_1, hcz54_2, hcz54_3, hcz54_4, hfz54_0, hfz54_1, hfz54_2, hfz54_3, hfz54_4⟩ := zC5 BK552.out; (try rw [← Nbq41.out] at hcz54_2); (try rw [← Nbq48.out] at hcz54_2); (try rw [← Nbq41.out]); (try rw [← Nbq48.out])
                      go_wp2
                      go_meet
                      case rel => as_aux_lemma => exact ⟨_, (true), zS, H', ⟨by have := HJ3.out; have := HK2.out; have := HK3.out; have := HK4.out; first | omega | exact Nat.le_refl _⟩, ⟨by (with_reducible repeat (first | apply Kd.V_alloc | apply Kd.V_drewN | apply Kd.V_drew)); exact Kd.V_mono (zNV HO_537001.out (g := gb552) (fun _ hk => hk.2)) (fun _ hk => ⟨hk.1.1.1, ⟨hk.1.1.2, hk.1.2⟩⟩)⟩, ⟨by (with_reducible repeat (first | apply Kd.V_alloc | apply Kd.V_drewN | apply Kd.V_drew)); exact Kd.V_mono (zNV HO_537002.out (g := gb552) (fun _ hk => hk.2)) (fun _ hk => ⟨hk.1.1.1, ⟨hk.1.1.2, hk.1.2⟩⟩)⟩, ⟨zK BK536.out⟩, ⟨zK BK550.out⟩, ⟨by (try rw [← Nbq41.out]); (try rw [← Nbq48.out]); exact zP5 BK552.out⟩, ⟨zL HB.out⟩⟩
                     ·replace c49 := Bool.eq_false_iff.mpr c49
                      subst c49
                      have H1 : (if ((rd_T34 t541 x8_3).f0) = ((rd_T34 t541 x9_4).f0) then (cooperagelaw16_LeaseOne.j4 k4 l0 (wrap64 (x6_2 + t538)) x7_2 x8_3 x9_4 true t540 t541 t544) else (if ((rd_T34 t541 x8_3).f3) ≤ ((rd_T34 t541 x9_4).f3) then (cooperagelaw16_LeaseOne.j4 k4 l0 (wrap64 (x6_2 + t538)) x7_2 x8_3 x9_4 true t540 t541 t544) else (cooperagelaw16_LeaseOne.j4 k4 l0 (wrap64 (x6_2 + t538)) x7_2 x8_3 x9_4 (decide (((rd_T34 t541 x8_3).f3) > t540)) t540 t541 t544))) = some r := by rw [if_neg (show ¬ (false = true) by decide)] at H; exact H
                      clear H
                      have H := H1
                      clear H1
                      by_cases c55 : ((rd_T34 t541 x8_3).f0) = ((rd_T34 t541 x9_4).f0)
                      ·rw [if_pos c55] at H
                       have c55b0 : (((rd_T34 t541 x8_3).f0) == ((rd_T34 t541 x9_4).f0)) = true := beq_iff_eq.mpr c55
                       have c55b1 : (((rd_T34 t541 x8_3).f0) != ((rd_T34 t541 x9_4).f0)) = false := bne_eq_false_iff_eq.mpr c55
                       clear c55
                       have H' := Aside0.mk H
                       clear H
                       have hnb56 := NB550_536.out
                       have hnc56 := NB536_550.out
                       have hnb57 := NB550_552.out
                       have hnc57 := NB552_550.out
                       obtain ⟨hcz58_0, hcz58_1, hcz58_2, hcz58_3, hcz58_4, hfz58_0, hfz58_1, hfz58_2, hfz58_3, hfz58_4⟩ := zC5 BK550.out; (try rw [← Nbq41.out] at hcz58_2); (try rw [← Nbq48.out] at hcz58_2); (try rw [← Nbq41.out]); (try rw [← Nbq48.out])
                       have hnb59 := NB552_536.out
                       have hnc59 := NB536_552.out
                       obtain ⟨hcz60_0, hcz60_1, hcz60_2, hcz60_3, hcz60_4, hfz60_0, hfz60_1, hfz60_2, hfz60_3, hfz60_4⟩ := zC5 BK552.out; (try rw [← Nbq41.out] at hcz60_2); (try rw [← Nbq48.out] at hcz60_2); (try rw [← Nbq41.out]); (try rw [← Nbq48.out])
                       go_wp2
                       go_meet
                       case rel => as_aux_lemma => exact ⟨_, (true), zS, H', ⟨by have := HJ3.out; have := HK2.out; have := HK3.out; have := HK4.out; first | omega | exact Nat.le_refl _⟩, ⟨by (with_reducible repeat (first | apply Kd.V_alloc | apply Kd.V_drewN | apply Kd.V_drew)); exact Kd.V_mono (zNV HO_537001.out (g := gb552) (fun _ hk => hk.2)) (fun _ hk => ⟨hk.1.1.1, ⟨hk.1.1.2, hk.1.2⟩⟩)⟩, ⟨by (with_reducible repeat (first | apply Kd.V_alloc | apply Kd.V_drewN | apply Kd.V_drew)); exact Kd.V_mono (zNV HO_537002.out (g := gb552) (fun _ hk => hk.2)) (fun _ hk => ⟨hk.1.1.1, ⟨hk.1.1.2, hk.1.2⟩⟩)⟩, ⟨zK BK536.out⟩, ⟨zK BK550.out⟩, ⟨by (try rw [← Nbq41.out]); (try rw [← Nbq48.out]); exact zP5 BK552.out⟩, ⟨zL HB.out⟩⟩
                      ·rw [if_neg c55] at H
                       have c55b0 : (((rd_T34 t541 x8_3).f0) == ((rd_T34 t541 x9_4).f0)) = false := beq_eq_false_iff_ne.mpr c55
                       have c55b1 : (((rd_T34 t541 x8_3).f0) != ((rd_T34 t541 x9_4).f0)) = true := bne_iff_ne.mpr c55
                       by_cases c61 : ((rd_T34 t541 x8_3).f3) ≤ ((rd_T34 t541 x9_4).f3)
                       ·rw [if_pos c61] at H
                        have c61b0 : decide (((rd_T34 t541 x8_3).f3) ≤ ((rd_T34 t541 x9_4).f3)) = true := decide_eq_true c61
                        clear c61
                        have H' := Aside0.mk H
                        clear H
                        have hnb62 := NB550_536.out
                        have hnc62 := NB536_550.out
                        have hnb63 := NB550_552.out
                        have hnc63 := NB552_550.out
                        obtain ⟨hcz64_0, hcz64_1, hcz64_2, hcz64_3, hcz64_4, hfz64_0, hfz64_1, hfz64_2, hfz64_3, hfz64_4⟩ := zC5 BK550.out; (try rw [← Nbq41.out] at hcz64_2); (try rw [← Nbq48.out] at hcz64_2); (try rw [← Nbq41.out]); (try rw [← Nbq48.out])
                        have hnb65 := NB552_536.out
                        have hnc65 := NB536_552.out
                        obtain ⟨hcz66_0, hcz66_1, hcz66_2, hcz66_3, hcz66_4, hfz66_0, hfz66_1, hfz66_2, hfz66_3, hfz66_4⟩ := zC5 BK552.out; (try rw [← Nbq41.out] at hcz66_2); (try rw [← Nbq48.out] at hcz66_2); (try rw [← Nbq41.out]); (try rw [← Nbq48.out])
                        go_wp2
                        go_meet
                        case rel => as_aux_lemma => exact ⟨_, (true), zS, H', ⟨by have := HJ3.out; have := HK2.out; have := HK3.out; have := HK4.out; first | omega | exact Nat.le_refl _⟩, ⟨by (with_reducible repeat (first | apply Kd.V_alloc | apply Kd.V_drewN | apply Kd.V_drew)); exact Kd.V_mono (zNV HO_537001.out (g := gb552) (fun _ hk => hk.2)) (fun _ hk => ⟨hk.1.1.1, ⟨hk.1.1.2, hk.1.2⟩⟩)⟩, ⟨by (with_reducible repeat (first | apply Kd.V_alloc | apply Kd.V_drewN | apply Kd.V_drew)); exact Kd.V_mono (zNV HO_537002.out (g := gb552) (fun _ hk => hk.2)) (fun _ hk => ⟨hk.1.1.1, ⟨hk.1.1.2, hk.1.2⟩⟩)⟩, ⟨zK BK536.out⟩, ⟨zK BK550.out⟩, ⟨by (try rw [← Nbq41.out]); (try rw [← Nbq48.out]); exact zP5 BK552.out⟩, ⟨zL HB.out⟩⟩
                       ·rw [if_neg c61] at H
                        have c61b0 : decide (((rd_T34 t541 x8_3).f3) ≤ ((rd_T34 t541 x9_4).f3)) = false := decide_eq_false c61
                        clear c61
                        have H' := Aside0.mk H
                        clear H
                        have hnb67 := NB550_536.out
                        have hnc67 := NB536_550.out
                        have hnb68 := NB550_552.out
                        have hnc68 := NB552_550.out
                        obtain ⟨hcz69_0, hcz69_1, hcz69_2, hcz69_3, hcz69_4, hfz69_0, hfz69_1, hfz69_2, hfz69_3, hfz69_4⟩ := zC5 BK550.out; (try rw [← Nbq41.out] at hcz69_2); (try rw [← Nbq48.out] at hcz69_2); (try rw [← Nbq41.out]); (try rw [← Nbq48.out])
                        have hnb70 := NB552_536.out
                        have hnc70 := NB536_552.out
                        obtain ⟨hcz71_0, hcz71_1, hcz71_2, hcz71_3, hcz71_4, hfz71_0, hfz71_1, hfz71_2, hfz71_3, hfz71_4⟩ := zC5 BK552.out; (try rw [← Nbq41.out] at hcz71_2); (try rw [← Nbq48.out] at hcz71_2); (try rw [← Nbq41.out]); (try rw [← Nbq48.out])
                        obtain ⟨hcz72_0, hcz72_1, hcz72_2, hfz72_0, hfz72_1, hfz72_2⟩ := zC3 BK536.out
                        go_wp2
                        go_meet
                        case rel => as_aux_lemma => exact ⟨_, (decide (((rd_T34 t541 x8_3).f3) > t540)), zS, H', ⟨by have := HJ3.out; have := HK2.out; have := HK3.out; have := HK4.out; first | omega | exact Nat.le_refl _⟩, ⟨by (with_reducible repeat (first | apply Kd.V_alloc | apply Kd.V_drewN | apply Kd.V_drew)); exact Kd.V_mono (zNV HO_537001.out (g := gb552) (fun _ hk => hk.2)) (fun _ hk => ⟨hk.1.1.1, ⟨hk.1.1.2, hk.1.2⟩⟩)⟩, ⟨by (with_reducible repeat (first | apply Kd.V_alloc | apply Kd.V_drewN | apply Kd.V_drew)); exact Kd.V_mono (zNV HO_537002.out (g := gb552) (fun _ hk => hk.2)) (fun _ hk => ⟨hk.1.1.1, ⟨hk.1.1.2, hk.1.2⟩⟩)⟩, ⟨zK BK536.out⟩, ⟨zK BK550.out⟩, ⟨by (try rw [← Nbq41.out]); (try rw [← Nbq48.out]); exact zP5 BK552.out⟩, ⟨zL HB.out⟩⟩
                   ·rw [if_neg c40] at H
                    have c40b0 : (((rd_T34 t541 x8_3).f1).toList == ((rd_T34 t541 x9_4).f1).toList) = false := beq_eq_false_iff_ne.mpr c40
                    have c40b1 : (((rd_T34 t541 x8_3).f1).toList != ((rd_T34 t541 x9_4).f1).toList) = true := bne_iff_ne.mpr c40
                    (first | rw [c40b0] | (simp only [i64_w, i32_w]; rw [c40b0]) | skip)
                    by_cases c73 : ((rd_T34 t541 x8_3).f3) ≤ ((rd_T34 t541 x9_4).f3)
                    ·rw [if_pos c73] at H
                     have c73b0 : decide (((rd_T34 t541 x8_3).f3) ≤ ((rd_T34 t541 x9_4).f3)) = true := decide_eq_true c73
                     clear c73
                     have H' := Aside0.mk H
                     clear H
                     have hnb74 := NB550_536.out
                     have hnc74 := NB536_550.out
                     have hnb75 := NB550_552.out
                     have hnc75 := NB552_550.out
                     obtain ⟨hcz76_0, hcz76_1, hcz76_2, hcz76_3, hcz76_4, hfz76_0, hfz76_1, hfz76_2, hfz76_3, hfz76_4⟩ := zC5 BK550.out
                     have hnb77 := NB552_536.out
                     have hnc77 := NB536_552.out
                     obtain ⟨hcz78_0, hcz78_1, hcz78_2, hcz78_3, hcz78_4, hfz78_0, hfz78_1, hfz78_2, hfz78_3, hfz78_4⟩ := zC5 BK552.out
                     go_wp2
                     go_meet
                     case rel => as_aux_lemma => exact ⟨_, (true), zS, H', ⟨by have := HJ3.out; have := HK2.out; have := HK3.out; have := HK4.out; first | omega | exact Nat.le_refl _⟩, ⟨by (with_reducible repeat (first | apply Kd.V_alloc | apply Kd.V_drewN | apply Kd.V_drew)); exact Kd.V_mono (zNV HO_537001.out (g := gb552) (fun _ hk => hk.2)) (fun _ hk => ⟨hk.1.1.1, ⟨hk.1.1.2, hk.1.2⟩⟩)⟩, ⟨by (with_reducible repeat (first | apply Kd.V_alloc | apply Kd.V_drewN | apply Kd.V_drew)); exact Kd.V_mono (zNV HO_537002.out (g := gb552) (fun _ hk => hk.2)) (fun _ hk => ⟨hk.1.1.1, ⟨hk.1.1.2, hk.1.2⟩⟩)⟩, ⟨zK BK536.out⟩, ⟨zK BK550.out⟩, ⟨zP5 BK552.out⟩, ⟨zL HB.out⟩⟩
                    ·rw [if_neg c73] at H
                     have c73b0 : decide (((rd_T34 t541 x8_3).f3) ≤ ((rd_T34 t541 x9_4).f3)) = false := decide_eq_false c73
                     clear c73
                     have H' := Aside0.mk H
                     clear H
                     have hnb79 := NB550_536.out
                     have hnc79 := NB536_550.out
                     have hnb80 := NB550_552.out
                     have hnc80 := NB552_550.out
                     obtain ⟨hcz81_0, hcz81_1, hcz81_2, hcz81_3, hcz81_4, hfz81_0, hfz81_1, hfz81_2, hfz81_3, hfz81_4⟩ := zC5 BK550.out
                     have hnb82 := NB552_536.out
                     have hnc82 := NB536_552.out
                     obtain ⟨hcz83_0, hcz83_1, hcz83_2, hcz83_3, hcz83_4, hfz83_0, hfz83_1, hfz83_2, hfz83_3, hfz83_4⟩ := zC5 BK552.out
                     obtain ⟨hcz84_0, hcz84_1, hcz84_2, hfz84_0, hfz84_1, hfz84_2⟩ := zC3 BK536.out
                     go_wp2
                     go_meet
                     case rel => as_aux_lemma => exact ⟨_, (decide (((rd_T34 t541 x8_3).f3) > t540)), zS, H', ⟨by have := HJ3.out; have := HK2.out; have := HK3.out; have := HK4.out; first | omega | exact Nat.le_refl _⟩, ⟨by (with_reducible repeat (first | apply Kd.V_alloc | apply Kd.V_drewN | apply Kd.V_drew)); exact Kd.V_mono (zNV HO_537001.out (g := gb552) (fun _ hk => hk.2)) (fun _ hk => ⟨hk.1.1.1, ⟨hk.1.1.2, hk.1.2⟩⟩)⟩, ⟨by (with_reducible repeat (first | apply Kd.V_alloc | apply Kd.V_drewN | apply Kd.V_drew)); exact Kd.V_mono (zNV HO_537002.out (g := gb552) (fun _ hk => hk.2)) (fun _ hk => ⟨hk.1.1.1, ⟨hk.1.1.2, hk.1.2⟩⟩)⟩, ⟨zK BK536.out⟩, ⟨zK BK550.out⟩, ⟨zP5 BK552.out⟩, ⟨zL HB.out⟩⟩
                  case rest =>
                   clear HC30
                   try clear c1
                   try clear c2
                   try clear p2
                   try clear c3
                   try clear c4
                   try clear q4
                   try clear c5
                   try clear p5
                   try clear q5
                   try clear hx5
                   try clear c6
                   try clear p6
                   try clear c7
                   try clear c8
                   try clear c9
                   try clear c10
                   try clear c10b0
                   try clear c11
                   try clear c11b0
                   try clear c13
                   try clear c16
                   try clear c17
                   try clear c23
                   try clear c23b0
                   try clear c25
                   try clear c25b0
                   try clear c26
                   try clear c26b0
                   try clear c27
                   try clear c27b0
                   try clear c28
                   try clear c28b0
                   try clear c29
                   try clear c29b0
                   try clear c33
                   try clear c37
                   try clear c38
                   try clear c40
                   try clear c40b0
                   try clear c40b1
                   try clear q41
                   try clear c42
                   try clear c43
                   try clear c44
                   try clear c46
                   try clear q48
                   try clear c49
                   try clear c50
                   try clear c51
                   try clear c53
                   try clear p53
                   try clear q53
                   try clear hx53
                   try clear p54
                   try clear q54
                   try clear hx54
                   try clear c55
                   try clear c55b0
                   try clear c55b1
                   try clear p55
                   try clear q55
                   try clear hx55
                   try clear c56
                   try clear c57
                   try clear c59
                   try clear c61
                   try clear c61b0
                   try clear c62
                   try clear c63
                   try clear p64
                   try clear c65
                   try clear c67
                   try clear c68
                   try clear c70
                   try clear c73
                   try clear c73b0
                   try clear c74
                   try clear c75
                   try clear c77
                   try clear c79
                   try clear c80
                   try clear c82
                   try clear hcz24_0
                   try clear hcz24_1
                   try clear hcz24_2
                   try clear hcz31_0
                   try clear hcz31_1
                   try clear hcz31_2
                   try clear hcz34_0
                   try clear hcz34_1
                   try clear hcz34_2
                   try clear hcz34_3
                   try clear hcz34_4
                   try clear hcz35_0
                   try clear hcz35_1
                   try clear hcz35_2
                   try clear hcz39_0
                   try clear hcz39_1
                   try clear hcz39_2
                   try clear hcz39_3
                   try clear hcz39_4
                   try clear hcz45_0
                   try clear hcz45_1
                   try clear hcz45_2
                   try clear hcz45_3
                   try clear hcz45_4
                   try clear hcz47_0
                   try clear hcz47_1
                   try clear hcz47_2
                   try clear hcz47_3
                   try clear hcz47_4
                   try clear hcz52_0
                   try clear hcz52_1
                   try clear hcz52_2
                   try clear hcz52_3
                   try clear hcz52_4
                   try clear hcz54_0
                   try clear hcz54_1
                   try clear hcz54_2
                   try clear hcz54_3
                   try clear hcz54_4
                   try clear hcz58_0
                   try clear hcz58_1
                   try clear hcz58_2
                   try clear hcz58_3
                   try clear hcz58_4
                   try clear hcz60_0
                   try clear hcz60_1
                   try clear hcz60_2
                   try clear hcz60_3
                   try clear hcz60_4
                   try clear hcz64_0
                   try clear hcz64_1
                   try clear hcz64_2
                   try clear hcz64_3
                   try clear hcz64_4
                   try clear hcz66_0
                   try clear hcz66_1
                   try clear hcz66_2
                   try clear hcz66_3
                   try clear hcz66_4
                   try clear hcz69_0
                   try clear hcz69_1
                   try clear hcz69_2
                   try clear hcz69_3
                   try clear hcz69_4
                   try clear hcz71_0
                   try clear hcz71_1
                   try clear hcz71_2
                   try clear hcz71_3
                   try clear hcz71_4
                   try clear hcz72_0
                   try clear hcz72_1
                   try clear hcz72_2
                   try clear hcz76_0
                   try clear hcz76_1
                   try clear hcz76_2
                   try clear hcz76_3
                   try clear hcz76_4
                   try clear hcz78_0
                   try clear hcz78_1
                   try clear hcz78_2
                   try clear hcz78_3
                   try clear hcz78_4
                   try clear hcz81_0
                   try clear hcz81_1
                   try clear hcz81_2
                   try clear hcz81_3
                   try clear hcz81_4
                   try clear hcz83_0
                   try clear hcz83_1
                   try clear hcz83_2
                   try clear hcz83_3
                   try clear hcz83_4
                   try clear hcz84_0
                   try clear hcz84_1
                   try clear hcz84_2
                   try clear hcz9_0
                   try clear hcz9_1
                   try clear hcz9_2
                   try clear hfz24_0
                   try clear hfz24_1
                   try clear hfz24_2
                   try clear hfz31_0
                   try clear hfz31_1
                   try clear hfz31_2
                   try clear hfz34_0
                   try clear hfz34_1
                   try clear hfz34_2
                   try clear hfz34_3
                   try clear hfz34_4
                   try clear hfz35_0
                   try clear hfz35_1
                   try clear hfz35_2
                   try clear hfz39_0
                   try clear hfz39_1
                   try clear hfz39_2
                   try clear hfz39_3
                   try clear hfz39_4
                   try clear hfz45_0
                   try clear hfz45_1
                   try clear hfz45_2
                   try clear hfz45_3
                   try clear hfz45_4
                   try clear hfz47_0
                   try clear hfz47_1
                   try clear hfz47_2
                   try clear hfz47_3
                   try clear hfz47_4
                   try clear hfz52_0
                   try clear hfz52_1
                   try clear hfz52_2
                   try clear hfz52_3
                   try clear hfz52_4
                   try clear hfz54_0
                   try clear hfz54_1
                   try clear hfz54_2
                   try clear hfz54_3
                   try clear hfz54_4
                   try clear hfz58_0
                   try clear hfz58_1
                   try clear hfz58_2
                   try clear hfz58_3
                   try clear hfz58_4
                   try clear hfz60_0
                   try clear hfz60_1
                   try clear hfz60_2
                   try clear hfz60_3
                   try clear hfz60_4
                   try clear hfz64_0
                   try clear hfz64_1
                   try clear hfz64_2
                   try clear hfz64_3
                   try clear hfz64_4
                   try clear hfz66_0
                   try clear hfz66_1
                   try clear hfz66_2
                   try clear hfz66_3
                   try clear hfz66_4
                   try clear hfz69_0
                   try clear hfz69_1
                   try clear hfz69_2
                   try clear hfz69_3
                   try clear hfz69_4
                   try clear hfz71_0
                   try clear hfz71_1
                   try clear hfz71_2
                   try clear hfz71_3
                   try clear hfz71_4
                   try clear hfz72_0
                   try clear hfz72_1
                   try clear hfz72_2
                   try clear hfz76_0
                   try clear hfz76_1
                   try clear hfz76_2
                   try clear hfz76_3
                   try clear hfz76_4
                   try clear hfz78_0
                   try clear hfz78_1
                   try clear hfz78_2
                   try clear hfz78_3
                   try clear hfz78_4
                   try clear hfz81_0
                   try clear hfz81_1
                   try clear hfz81_2
                   try clear hfz81_3
                   try clear hfz81_4
                   try clear hfz83_0
                   try clear hfz83_1
                   try clear hfz83_2
                   try clear hfz83_3
                   try clear hfz83_4
                   try clear hfz84_0
                   try clear hfz84_1
                   try clear hfz84_2
                   try clear hfz9_0
                   try clear hfz9_1
                   try clear hfz9_2
                   try clear hx537_0
                   try clear hx537_1
                   try clear hx537_2
                   try clear hx537_3
                   try clear hx537_4
                   try clear hx537_5
                   try clear hx537_6
                   try clear hx539_0
                   try clear hx539_1
                   try clear hx539_2
                   try clear hx539_3
                   try clear hx539_4
                   try clear hx539_5
                   try clear hx539_6
                   try clear hx549_0
                   try clear hx549_1
                   try clear hx549_2
                   try clear hx549_3
                   try clear hx549_4
                   try clear hx551_0
                   try clear hx551_1
                   try clear hx551_2
                   try clear hx551_3
                   try clear hx551_4
                   try clear p2
                   try clear p5
                   try clear p537
                   try clear p539
                   try clear p549
                   try clear p551
                   try clear p6
                   try clear q5
                   try clear q537
                   try clear q539
                   try clear q549
                   try clear q551
                   obtain ⟨kq, x110_29, rfl, HA, HJ29, HO_537001, HO_537002, BK536, BK550, BK552, HB⟩ := hcut
                   cases kq with
                   | zero => exact absurd HA.out (by simp [cooperagelaw16_LeaseOne.j4])
                   | succ kj29 =>
                    have H := HA.out
                    clear HA
                    simp only [cooperagelaw16_LeaseOne.j4] at H
                    by_cases c85 : x110_29 = true
                    ·subst c85
                     have H1 : (some false) = some r := by rw [if_pos rfl] at H; exact H
                     clear H
                     have H := H1
                     clear H1
                     obtain rfl := Option.some.inj H
                     go_wp2
                     go_ret
                     exact ⟨zE, zL HB.out⟩
                    ·replace c85 := Bool.eq_false_iff.mpr c85
                     subst c85
                     have H1 : (cooperagelaw16_LeaseOne.l2 kj29 l0 (wrap64 (x6_2 + t538)) x7_2 x8_3 (wrap64 (x9_4 + 1)) t540 t541 t544) = some r := by rw [if_neg (show ¬ (false = true) by decide)] at H; exact H
                     clear H
                     have H := H1
                     clear H1
                     have H' := Aside0.mk H
                     clear H
                     go_wp2
                     go_roundg kj29
                     case measure => have := HJ3.out; have := HK2.out; have := HK3.out; have := HK4.out; have := HJ29.out; omega
                     case rel => as_aux_lemma => exact ⟨(wrap64 (x9_4 + 1)), zS, H', ⟨by have := HJ3.out; have := HK2.out; have := HK3.out; have := HK4.out; have := HJ29.out; omega⟩, ⟨by (with_reducible repeat (first | apply Kd.V_alloc | apply Kd.V_drewN | apply Kd.V_drew)); exact Kd.V_mono HO_537001.out (fun _ hk => hk.1)⟩, ⟨by (with_reducible repeat (first | apply Kd.V_alloc | apply Kd.V_drewN | apply Kd.V_drew)); exact Kd.V_mono HO_537002.out (fun _ hk => hk.1)⟩, ⟨zK BK536.out⟩, ⟨zL HB.out⟩⟩
                 ·rw [if_neg c29] at H
                  exact absurd H (by simp)
                ·rw [if_neg c28] at H
                 exact absurd H (by simp)
               ·rw [if_neg c27] at H
                exact absurd H (by simp)
              ·rw [if_neg c26] at H
               exact absurd H (by simp)
             ·rw [if_neg c25] at H
              have c25b0 : decide (x9_4 < x8_3) = false := decide_eq_false c25
              clear c25
              have H' := Aside0.mk H
              clear H
              go_wp2
              go_roundg k4
              case measure => have := HJ3.out; have := HK2.out; have := HK3.out; have := HK4.out; omega
              case rel => as_aux_lemma => exact ⟨(wrap64 (x8_3 + 1)), zS, H', ⟨by have := HJ3.out; have := HK2.out; have := HK3.out; have := HK4.out; omega⟩, ⟨by (with_reducible repeat (first | apply Kd.V_alloc | apply Kd.V_drewN | apply Kd.V_drew)); exact HO_537001.out⟩, ⟨by (with_reducible repeat (first | apply Kd.V_alloc | apply Kd.V_drewN | apply Kd.V_drew)); exact HO_537002.out⟩, ⟨zK BK536.out⟩, ⟨zL HB.out⟩⟩
          ·rw [if_neg c23] at H
           have c23b0 : decide (x8_3 < (t541.length : Int)) = false := decide_eq_false c23
           clear c23
           have H' := Aside0.mk H
           clear H
           obtain ⟨hcz86_0, hcz86_1, hcz86_2, hfz86_0, hfz86_1, hfz86_2⟩ := zC3 BK536.out
           go_wp2
           go_loopg [12] k3 (fun kq v12 w' => ∃ (x12_4 : Int), v12 = .int .i64 x12_4 ∧ Aside0 (cooperagelaw16_LeaseOne.l3 kq l0 (wrap64 (x6_2 + t538)) x7_2 x12_4 t540 t541 t544 = some r) ∧ Aside0 (kq ≤ k3) ∧ Aside0 (Kd.V k34 34 w' w.heap.size (fun k_ => k_ ≠ gb536) (.slice Ao19 t541.length co19) t541) ∧ Aside0 (Kd.V k32 32 w' w.heap.size (fun k_ => k_ ≠ gb536) (.slice Ao21 t544.length co21) t544) ∧ Aside0 (w'.heap[gb536]? = some (.cells #[.int .i64 t540, (.slice Ao19 t541.length co19), (.slice Ao21 t544.length co21)] 27 (0, 0))) ∧ Aside0 (Below w.heap.size w w'))
           case atStart => as_aux_lemma => exact ⟨(0), zS, H', ⟨Nat.le_refl _⟩, ⟨by (with_reducible repeat (first | apply Kd.V_alloc | apply Kd.V_drewN | apply Kd.V_drew)); exact HO_537001.out⟩, ⟨by (with_reducible repeat (first | apply Kd.V_alloc | apply Kd.V_drewN | apply Kd.V_drew)); exact HO_537002.out⟩, ⟨zK BK536.out⟩, ⟨zL HB.out⟩⟩
           case round => as_aux_lemma =>
            clear H'
            try clear c1
            try clear c2
            try clear p2
            try clear c3
            try clear c4
            try clear q4
            try clear c5
            try clear p5
            try clear q5
            try clear hx5
            try clear c6
            try clear p6
            try clear c7
            try clear c8
            try clear c9
            try clear c10
            try clear c10b0
            try clear c11
            try clear c11b0
            try clear c13
            try clear c16
            try clear c17
            try clear c23
            try clear c23b0
            try clear c25
            try clear c25b0
            try clear c26
            try clear c26b0
            try clear c27
            try clear c27b0
            try clear c28
            try clear c28b0
            try clear c29
            try clear c29b0
            try clear c33
            try clear c37
            try clear c38
            try clear c40
            try clear c40b0
            try clear c40b1
            try clear q41
            try clear c42
            try clear c43
            try clear c44
            try clear c46
            try clear q48
            try clear c49
            try clear c50
            try clear c51
            try clear c53
            try clear p53
            try clear q53
            try clear hx53
            try clear p54
            try clear q54
            try clear hx54
            try clear c55
            try clear c55b0
            try clear c55b1
            try clear p55
            try clear q55
            try clear hx55
            try clear c56
            try clear c57
            try clear c59
            try clear c61
            try clear c61b0
            try clear c62
            try clear c63
            try clear p64
            try clear c65
            try clear c67
            try clear c68
            try clear c70
            try clear c73
            try clear c73b0
            try clear c74
            try clear c75
            try clear c77
            try clear c79
            try clear c80
            try clear c82
            try clear c85
            try clear hcz24_0
            try clear hcz24_1
            try clear hcz24_2
            try clear hcz31_0
            try clear hcz31_1
            try clear hcz31_2
            try clear hcz34_0
            try clear hcz34_1
            try clear hcz34_2
            try clear hcz34_3
            try clear hcz34_4
            try clear hcz35_0
            try clear hcz35_1
            try clear hcz35_2
            try clear hcz39_0
            try clear hcz39_1
            try clear hcz39_2
            try clear hcz39_3
            try clear hcz39_4
            try clear hcz45_0
            try clear hcz45_1
            try clear hcz45_2
            try clear hcz45_3
            try clear hcz45_4
            try clear hcz47_0
            try clear hcz47_1
            try clear hcz47_2
            try clear hcz47_3
            try clear hcz47_4
            try clear hcz52_0
            try clear hcz52_1
            try clear hcz52_2
            try clear hcz52_3
            try clear hcz52_4
            try clear hcz54_0
            try clear hcz54_1
            try clear hcz54_2
            try clear hcz54_3
            try clear hcz54_4
            try clear hcz58_0
            try clear hcz58_1
            try clear hcz58_2
            try clear hcz58_3
            try clear hcz58_4
            try clear hcz60_0
            try clear hcz60_1
            try clear hcz60_2
            try clear hcz60_3
            try clear hcz60_4
            try clear hcz64_0
            try clear hcz64_1
            try clear hcz64_2
            try clear hcz64_3
            try clear hcz64_4
            try clear hcz66_0
            try clear hcz66_1
            try clear hcz66_2
            try clear hcz66_3
            try clear hcz66_4
            try clear hcz69_0
            try clear hcz69_1
            try clear hcz69_2
            try clear hcz69_3
            try clear hcz69_4
            try clear hcz71_0
            try clear hcz71_1
            try clear hcz71_2
            try clear hcz71_3
            try clear hcz71_4
            try clear hcz72_0
            try clear hcz72_1
            try clear hcz72_2
            try clear hcz76_0
            try clear hcz76_1
            try clear hcz76_2
            try clear hcz76_3
            try clear hcz76_4
            try clear hcz78_0
            try clear hcz78_1
            try clear hcz78_2
            try clear hcz78_3
            try clear hcz78_4
            try clear hcz81_0
            try clear hcz81_1
            try clear hcz81_2
            try clear hcz81_3
            try clear hcz81_4
            try clear hcz83_0
            try clear hcz83_1
            try clear hcz83_2
            try clear hcz83_3
            try clear hcz83_4
            try clear hcz84_0
            try clear hcz84_1
            try clear hcz84_2
            try clear hcz86_0
            try clear hcz86_1
            try clear hcz86_2
            try clear hcz9_0
            try clear hcz9_1
            try clear hcz9_2
            try clear hfz24_0
            try clear hfz24_1
            try clear hfz24_2
            try clear hfz31_0
            try clear hfz31_1
            try clear hfz31_2
            try clear hfz34_0
            try clear hfz34_1
            try clear hfz34_2
            try clear hfz34_3
            try clear hfz34_4
            try clear hfz35_0
            try clear hfz35_1
            try clear hfz35_2
            try clear hfz39_0
            try clear hfz39_1
            try clear hfz39_2
            try clear hfz39_3
            try clear hfz39_4
            try clear hfz45_0
            try clear hfz45_1
            try clear hfz45_2
            try clear hfz45_3
            try clear hfz45_4
            try clear hfz47_0
            try clear hfz47_1
            try clear hfz47_2
            try clear hfz47_3
            try clear hfz47_4
            try clear hfz52_0
            try clear hfz52_1
            try clear hfz52_2
            try clear hfz52_3
            try clear hfz52_4
            try clear hfz54_0
            try clear hfz54_1
            try clear hfz54_2
            try clear hfz54_3
            try clear hfz54_4
            try clear hfz58_0
            try clear hfz58_1
            try clear hfz58_2
            try clear hfz58_3
            try clear hfz58_4
            try clear hfz60_0
            try clear hfz60_1
            try clear hfz60_2
            try clear hfz60_3
            try clear hfz60_4
            try clear hfz64_0
            try clear hfz64_1
            try clear hfz64_2
            try clear hfz64_3
            try clear hfz64_4
            try clear hfz66_0
            try clear hfz66_1
            try clear hfz66_2
            try clear hfz66_3
            try clear hfz66_4
            try clear hfz69_0
            try clear hfz69_1
            try clear hfz69_2
            try clear hfz69_3
            try clear hfz69_4
            try clear hfz71_0
            try clear hfz71_1
            try clear hfz71_2
            try clear hfz71_3
            try clear hfz71_4
            try clear hfz72_0
            try clear hfz72_1
            try clear hfz72_2
            try clear hfz76_0
            try clear hfz76_1
            try clear hfz76_2
            try clear hfz76_3
            try clear hfz76_4
            try clear hfz78_0
            try clear hfz78_1
            try clear hfz78_2
            try clear hfz78_3
            try clear hfz78_4
            try clear hfz81_0
            try clear hfz81_1
            try clear hfz81_2
            try clear hfz81_3
            try clear hfz81_4
            try clear hfz83_0
            try clear hfz83_1
            try clear hfz83_2
            try clear hfz83_3
            try clear hfz83_4
            try clear hfz84_0
            try clear hfz84_1
            try clear hfz84_2
            try clear hfz86_0
            try clear hfz86_1
            try clear hfz86_2
            try clear hfz9_0
            try clear hfz9_1
            try clear hfz9_2
            try clear hx537_0
            try clear hx537_1
            try clear hx537_2
            try clear hx537_3
            try clear hx537_4
            try clear hx537_5
            try clear hx537_6
            try clear hx539_0
            try clear hx539_1
            try clear hx539_2
            try clear hx539_3
            try clear hx539_4
            try clear hx539_5
            try clear hx539_6
            try clear hx549_0
            try clear hx549_1
            try clear hx549_2
            try clear hx549_3
            try clear hx549_4
            try clear hx551_0
            try clear hx551_1
            try clear hx551_2
            try clear hx551_3
            try clear hx551_4
            try clear p2
            try clear p5
            try clear p53
            try clear p537
            try clear p539
            try clear p54
            try clear p549
            try clear p55
            try clear p551
            try clear p6
            try clear p64
            try clear q4
            try clear q41
            try clear q48
            try clear q5
            try clear q53
            try clear q537
            try clear q539
            try clear q54
            try clear q549
            try clear q55
            try clear q551
            obtain ⟨x12_4, rfl, HA, HK4, HO_537001, HO_537002, BK536, HB⟩ := hrel
            cases gk with
            | zero => exact absurd HA.out (by simp [cooperagelaw16_LeaseOne.l3])
            | succ k4 =>
             have H := HA.out
             clear HA
             simp only [cooperagelaw16_LeaseOne.l3] at H
             by_cases c87 : x12_4 < (t544.length : Int)
             ·rw [if_pos c87] at H
              have c87b0 : decide (x12_4 < (t544.length : Int)) = true := decide_eq_true c87
              clear c87
              by_cases c88 : 0 ≤ x12_4
              ·rw [if_pos c88] at H
               have c88b0 : decide (0 ≤ x12_4) = true := decide_eq_true c88
               clear c88
               have H' := Aside0.mk H
               clear H
               obtain ⟨hcz89_0, hcz89_1, hcz89_2, hfz89_0, hfz89_1, hfz89_2⟩ := zC3 BK536.out
               have p553 : 0 ≤ (x12_4 : Int) := zD
               have q553 : x12_4 < (t544.length : Int) := zD
               obtain ⟨ad553, e553, hx553_0, hx553_1, hx553_2, hx553_3⟩ := at_T32 (Kd.V_reads' HO_537002.out).2.2 x12_4 p553 q553
               cases e553
               replace p553 := eq_true p553
               replace q553 := eq_true q553
               go_wp2_with (first | ((with_reducible refine gate_dst (N := 13) rfl ?_); refine box_event ?hg (N := 13) ?hd (cs := #[.int .i64 0, .string (⟨#[]⟩ : ByteArray), .bool false, .int .i64 0]) (t := 32) ?hr ?_; (case hd => rfl); (case hg => rfl); (case hr => first | (go_simp; done) | (go_simp; rfl)); intro gb554 hg w90 hbox hb; have n0_ := Aside0.mk (Kd.V_below (Kd.V_elderB (zV HO_537001.out) gb554 (Nat.le_of_eq hg.symm)) hb); have n1_ := Aside0.mk (Kd.V_below (Kd.V_elderB (zV HO_537002.out) gb554 (Nat.le_of_eq hg.symm)) hb); have n2_ := Aside0.mk (blk_below (g := gb536) (o := .cells #[.int .i64 t540, .slice Ao19 t541.length co19, .slice (some ad553) t544.length co21] 27 (0, 0)) (zK BK536.out) hb); have n3_ := Aside0.mk (below_step (zL HB.out) hb); have n4_ := Aside0.mk (hbox); have n5_ := Aside0.mk (zG hg (zL HB.out)); have n6_ := Aside0.mk (zG hg (zL HB.out)); have n7_ := Aside0.mk (zN (g := gb536) (o := .cells #[.int .i64 t540, .slice Ao19 t541.length co19, .slice (some ad553) t544.length co21] 27 (0, 0)) hg (zK BK536.out)); have n8_ := Aside0.mk (zO (g := gb536) (o := .cells #[.int .i64 t540, .slice Ao19 t541.length co19, .slice (some ad553) t544.length co21] 27 (0, 0)) hg (zK BK536.out)); revert n0_ n1_ n2_ n3_ n4_ n5_ n6_ n7_ n8_; clear HO_537001 HO_537002 BK536 HB; intro HO_537001 HO_537002 BK536 HB BK554 GW554 GE554 NB536_554 NB554_536; clear hb hbox hg; have hnb91 := NB554_536.out; have hnc91 := NB536_554.out; obtain ⟨hcz92_0, hcz92_1, hcz92_2, hcz92_3, hfz92_0, hfz92_1, hfz92_2, hfz92_3⟩ := zC4 BK554.out))
               go_loopg [14, 15] k4 (fun kq v14 v15 w' => ∃ (x14_5 : Bool) (x15_5 : Int), v14 = .bool x14_5 ∧ v15 = .int .i64 x15_5 ∧ Aside0 (cooperagelaw16_LeaseOne.l4 kq l0 (wrap64 (x6_2 + t538)) x7_2 x12_4 x14_5 x15_5 t540 t541 t544 ((rd_T32 t544 x12_4).f0) ((rd_T32 t544 x12_4).f1) ((rd_T32 t544 x12_4).f2) ((rd_T32 t544 x12_4).f3) = some r) ∧ Aside0 (kq ≤ k4) ∧ Aside0 (Kd.V k34 34 w' w.heap.size (fun k_ => k_ ≠ gb536 ∧ k_ ≠ gb554) (.slice Ao19 t541.length co19) t541) ∧ Aside0 (Kd.V k32 32 w' w.heap.size (fun k_ => k_ ≠ gb536 ∧ k_ ≠ gb554) (.slice (some ad553) t544.length co21) t544) ∧ Aside0 (w'.heap[gb536]? = some (.cells #[.int .i64 t540, (.slice Ao19 t541.length co19), (.slice (some ad553) t544.length co21)] 27 (0, 0))) ∧ Aside0 (w'.heap[gb554]? = some (.cells #[.int .i64 ((rd_T32 t544 x12_4).f0), .string ((rd_T32 t544 x12_4).f1), .bool ((rd_T32 t544 x12_4).f2), .int .i64 ((rd_T32 t544 x12_4).f3)] 32 (0, 0))) ∧ Aside0 (Below w.heap.size w w'))
               case atStart => as_aux_lemma => exact ⟨(false), (0), zS, zS, H', ⟨Nat.le_refl _⟩, ⟨by (with_reducible repeat (first | apply Kd.V_alloc | apply Kd.V_drewN | apply Kd.V_drew)); exact Kd.V_mono (zNV HO_537001.out (g := gb554) (fun _ hk => hk.2)) (fun _ hk => ⟨hk.1.1, hk.1.2⟩)⟩, ⟨by (with_reducible repeat (first | apply Kd.V_alloc | apply Kd.V_drewN | apply Kd.V_drew)); exact Kd.V_mono (zNV HO_537002.out (g := gb554) (fun _ hk => hk.2)) (fun _ hk => ⟨hk.1.1, hk.1.2⟩)⟩, ⟨zK BK536.out⟩, ⟨zP4 BK554.out⟩, ⟨zL HB.out⟩⟩
               case round =>
                clear H'
                try clear c1
                try clear c2
                try clear p2
                try clear c3
                try clear c4
                try clear q4
                try clear c5
                try clear p5
                try clear q5
                try clear hx5
                try clear c6
                try clear p6
                try clear c7
                try clear c8
                try clear c9
                try clear c10
                try clear c10b0
                try clear c11
                try clear c11b0
                try clear c13
                try clear c16
                try clear c17
                try clear c23
                try clear c23b0
                try clear c25
                try clear c25b0
                try clear c26
                try clear c26b0
                try clear c27
                try clear c27b0
                try clear c28
                try clear c28b0
                try clear c29
                try clear c29b0
                try clear c33
                try clear c37
                try clear c38
                try clear c40
                try clear c40b0
                try clear c40b1
                try clear q41
                try clear c42
                try clear c43
                try clear c44
                try clear c46
                try clear q48
                try clear c49
                try clear c50
                try clear c51
                try clear c53
                try clear p53
                try clear q53
                try clear hx53
                try clear p54
                try clear q54
                try clear hx54
                try clear c55
                try clear c55b0
                try clear c55b1
                try clear p55
                try clear q55
                try clear hx55
                try clear c56
                try clear c57
                try clear c59
                try clear c61
                try clear c61b0
                try clear c62
                try clear c63
                try clear p64
                try clear c65
                try clear c67
                try clear c68
                try clear c70
                try clear c73
                try clear c73b0
                try clear c74
                try clear c75
                try clear c77
                try clear c79
                try clear c80
                try clear c82
                try clear c85
                try clear c87
                try clear c87b0
                try clear c88
                try clear c88b0
                try clear c91
                try clear hcz24_0
                try clear hcz24_1
                try clear hcz24_2
                try clear hcz31_0
                try clear hcz31_1
                try clear hcz31_2
                try clear hcz34_0
                try clear hcz34_1
                try clear hcz34_2
                try clear hcz34_3
                try clear hcz34_4
                try clear hcz35_0
                try clear hcz35_1
                try clear hcz35_2
                try clear hcz39_0
                try clear hcz39_1
                try clear hcz39_2
                try clear hcz39_3
                try clear hcz39_4
                try clear hcz45_0
                try clear hcz45_1
                try clear hcz45_2
                try clear hcz45_3
                try clear hcz45_4
                try clear hcz47_0
                try clear hcz47_1
                try clear hcz47_2
                try clear hcz47_3
                try clear hcz47_4
                try clear hcz52_0
                try clear hcz52_1
                try clear hcz52_2
                try clear hcz52_3
                try clear hcz52_4
                try clear hcz54_0
                try clear hcz54_1
                try clear hcz54_2
                try clear hcz54_3
                try clear hcz54_4
                try clear hcz58_0
                try clear hcz58_1
                try clear hcz58_2
                try clear hcz58_3
                try clear hcz58_4
                try clear hcz60_0
                try clear hcz60_1
                try clear hcz60_2
                try clear hcz60_3
                try clear hcz60_4
                try clear hcz64_0
                try clear hcz64_1
                try clear hcz64_2
                try clear hcz64_3
                try clear hcz64_4
                try clear hcz66_0
                try clear hcz66_1
                try clear hcz66_2
                try clear hcz66_3
                try clear hcz66_4
                try clear hcz69_0
                try clear hcz69_1
                try clear hcz69_2
                try clear hcz69_3
                try clear hcz69_4
                try clear hcz71_0
                try clear hcz71_1
                try clear hcz71_2
                try clear hcz71_3
                try clear hcz71_4
                try clear hcz72_0
                try clear hcz72_1
                try clear hcz72_2
                try clear hcz76_0
                try clear hcz76_1
                try clear hcz76_2
                try clear hcz76_3
                try clear hcz76_4
                try clear hcz78_0
                try clear hcz78_1
                try clear hcz78_2
                try clear hcz78_3
                try clear hcz78_4
                try clear hcz81_0
                try clear hcz81_1
                try clear hcz81_2
                try clear hcz81_3
                try clear hcz81_4
                try clear hcz83_0
                try clear hcz83_1
                try clear hcz83_2
                try clear hcz83_3
                try clear hcz83_4
                try clear hcz84_0
                try clear hcz84_1
                try clear hcz84_2
                try clear hcz86_0
                try clear hcz86_1
                try clear hcz86_2
                try clear hcz89_0
                try clear hcz89_1
                try clear hcz89_2
                try clear hcz92_0
                try clear hcz92_1
                try clear hcz92_2
                try clear hcz92_3
                try clear hcz9_0
                try clear hcz9_1
                try clear hcz9_2
                try clear hfz24_0
                try clear hfz24_1
                try clear hfz24_2
                try clear hfz31_0
                try clear hfz31_1
                try clear hfz31_2
                try clear hfz34_0
                try clear hfz34_1
                try clear hfz34_2
                try clear hfz34_3
                try clear hfz34_4
                try clear hfz35_0
                try clear hfz35_1
                try clear hfz35_2
                try clear hfz39_0
                try clear hfz39_1
                try clear hfz39_2
                try clear hfz39_3
                try clear hfz39_4
                try clear hfz45_0
                try clear hfz45_1
                try clear hfz45_2
                try clear hfz45_3
                try clear hfz45_4
                try clear hfz47_0
                try clear hfz47_1
                try clear hfz47_2
                try clear hfz47_3
                try clear hfz47_4
                try clear hfz52_0
                try clear hfz52_1
                try clear hfz52_2
                try clear hfz52_3
                try clear hfz52_4
                try clear hfz54_0
                try clear hfz54_1
                try clear hfz54_2
                try clear hfz54_3
                try clear hfz54_4
                try clear hfz58_0
                try clear hfz58_1
                try clear hfz58_2
                try clear hfz58_3
                try clear hfz58_4
                try clear hfz60_0
                try clear hfz60_1
                try clear hfz60_2
                try clear hfz60_3
                try clear hfz60_4
                try clear hfz64_0
                try clear hfz64_1
                try clear hfz64_2
                try clear hfz64_3
                try clear hfz64_4
                try clear hfz66_0
                try clear hfz66_1
                try clear hfz66_2
                try clear hfz66_3
                try clear hfz66_4
                try clear hfz69_0
                try clear hfz69_1
                try clear hfz69_2
                try clear hfz69_3
                try clear hfz69_4
                try clear hfz71_0
                try clear hfz71_1
                try clear hfz71_2
                try clear hfz71_3
                try clear hfz71_4
                try clear hfz72_0
                try clear hfz72_1
                try clear hfz72_2
                try clear hfz76_0
                try clear hfz76_1
                try clear hfz76_2
                try clear hfz76_3
                try clear hfz76_4
                try clear hfz78_0
                try clear hfz78_1
                try clear hfz78_2
                try clear hfz78_3
                try clear hfz78_4
                try clear hfz81_0
                try clear hfz81_1
                try clear hfz81_2
                try clear hfz81_3
                try clear hfz81_4
                try clear hfz83_0
                try clear hfz83_1
                try clear hfz83_2
                try clear hfz83_3
                try clear hfz83_4
                try clear hfz84_0
                try clear hfz84_1
                try clear hfz84_2
                try clear hfz86_0
                try clear hfz86_1
                try clear hfz86_2
                try clear hfz89_0
                try clear hfz89_1
                try clear hfz89_2
                try clear hfz92_0
                try clear hfz92_1
                try clear hfz92_2
                try clear hfz92_3
                try clear hfz9_0
                try clear hfz9_1
                try clear hfz9_2
                try clear hx537_0
                try clear hx537_1
                try clear hx537_2
                try clear hx537_3
                try clear hx537_4
                try clear hx537_5
                try clear hx537_6
                try clear hx539_0
                try clear hx539_1
                try clear hx539_2
                try clear hx539_3
                try clear hx539_4
                try clear hx539_5
                try clear hx539_6
                try clear hx549_0
                try clear hx549_1
                try clear hx549_2
                try clear hx549_3
                try clear hx549_4
                try clear hx551_0
                try clear hx551_1
                try clear hx551_2
                try clear hx551_3
                try clear hx551_4
                try clear hx553_0
                try clear hx553_1
                try clear hx553_2
                try clear hx553_3
                try clear p2
                try clear p5
                try clear p53
                try clear p537
                try clear p539
                try clear p54
                try clear p549
                try clear p55
                try clear p551
                try clear p553
                try clear p6
                try clear p64
                try clear q4
                try clear q41
                try clear q48
                try clear q5
                try clear q53
                try clear q537
                try clear q539
                try clear q54
                try clear q549
                try clear q55
                try clear q551
                try clear q553
                obtain ⟨x14_5, x15_5, rfl, rfl, HA, HK5, HO_537001, HO_537002, BK536, BK554, HB⟩ := hrel
                cases gk with
                | zero => exact absurd HA.out (by simp [cooperagelaw16_LeaseOne.l4])
                | succ k5 =>
                 have H := HA.out
                 clear HA
                 simp only [cooperagelaw16_LeaseOne.l4] at H
                 by_cases c93 : x15_5 < (t541.length : Int)
                 ·rw [if_pos c93] at H
                  have c93b0 : decide (x15_5 < (t541.length : Int)) = true := decide_eq_true c93
                  clear c93
                  by_cases c94 : x14_5 = true
                  ·subst c94
                   have H1 : (cooperagelaw16_LeaseOne.l4 k5 l0 (wrap64 (x6_2 + t538)) x7_2 x12_4 true (wrap64 (x15_5 + 1)) t540 t541 t544 ((rd_T32 t544 x12_4).f0) ((rd_T32 t544 x12_4).f1) ((rd_T32 t544 x12_4).f2) ((rd_T32 t544 x12_4).f3)) = some r := by rw [if_pos rfl] at H; exact H
                   clear H
                   have H := H1
                   clear H1
                   have H' := Aside0.mk H
                   clear H
                   have hnb95 := NB536_554.out
                   have hnc95 := NB554_536.out
                   obtain ⟨hcz96_0, hcz96_1, hcz96_2, hfz96_0, hfz96_1, hfz96_2⟩ := zC3 BK536.out
                   try go_wp2
                   have n0_ := Aside0.mk (Kd.V_drew HO_537001.out)
                   have n1_ := Aside0.mk (Kd.V_drew HO_537002.out)
                   have n2_ := Aside0.mk (blk_drew BK536.out)
                   have n3_ := Aside0.mk (blk_drew BK554.out)
                   have n4_ := Aside0.mk (below_drew1 HB.out)
                   clear HO_537001
                   clear HO_537002
                   clear BK536
                   clear BK554
                   clear HB
                   have HO_537001 := n0_
                   have HO_537002 := n1_
                   have BK536 := n2_
                   have BK554 := n3_
                   have HB := n4_
                   clear n0_ n1_ n2_ n3_ n4_
                   refine start_ (n := 25) (S := fun w' => True) (ds := []) #[false, false, false, false, false, false, false, false, false, false, false, false, false, false, false, false, false, false, false, false, false, false, false, false, false] (by as_aux_lemma => kernel_rfl) rfl rfl trivial (fun hHeld => ?_); refine with_tabW cooperagelaw16_LeaseOne.tab30 cooperagelaw16_LeaseOne.bits30 (fun HT_ HW_ => ?_)
                   generalize wr.drew = w97 at HO_537001 HO_537002 BK536 BK554 HB hHeld ⊢
                   refine pure_ (i := 0) (N := some 130) (v := ?_) (a' := ?_) #[true, false, false, false, false, false, false, false, false, false, false, false, false, false, false, false, false, false, false, false, false, false, false, false, false] rfl rfl (any_of HT_.out (by as_aux_lemma => kernel_rfl)) (fun _ _ _ h => h) (Or.inl ⟨by rfl, ?_⟩) ?_ ?_
                   rotate_left
                   ·intro w'
                    go_simp
                    with_reducible rfl
                   rotate_left
                   ·simp only [Act.put, List.setIfInBounds_toArray, List.set_cons_zero, List.set_cons_succ, i64_w, i32_w]
                    rfl
                   refine pure_ (i := 1) (N := some 131) (v := ?_) (a' := ?_) #[true, true, false, false, false, false, false, false, false, false, false, false, false, false, false, false, false, false, false, false, false, false, false, false, false] rfl rfl (any_of HT_.out (by as_aux_lemma => kernel_rfl)) (fun _ _ _ h => h) (Or.inl ⟨by rfl, ?_⟩) ?_ ?_
                   rotate_left
                   ·intro w'
                    go_simp
                    with_reducible rfl
                   rotate_left
                   ·simp only [Act.put, List.setIfInBounds_toArray, List.set_cons_zero, List.set_cons_succ, i64_w, i32_w]
                    rfl
                   refine pure_ (i := 2) (N := some 132) (v := undef) (a' := ?_) #[true, true, true, false, false, false, false, false, false, false, false, false, false, false, false, false, false, false, false, false, false, false, false, false, false] rfl rfl (any_of HT_.out (by as_aux_lemma => kernel_rfl)) (fun _ _ _ h => h) (Or.inr ⟨by rfl, rfl⟩) ?_ ?_
                   rotate_left
                   ·simp only [Act.put, List.setIfInBounds_toArray, List.set_cons_zero, List.set_cons_succ, i64_w, i32_w]
                    rfl
                   refine pure_ (i := 3) (N := some 133) (v := undef) (a' := ?_) #[true, true, true, true, false, false, false, false, false, false, false, false, false, false, false, false, false, false, false, false, false, false, false, false, false] rfl rfl (any_of HT_.out (by as_aux_lemma => kernel_rfl)) (fun _ _ _ h => h) (Or.inr ⟨by rfl, rfl⟩) ?_ ?_
                   rotate_left
                   ·simp only [Act.put, List.setIfInBounds_toArray, List.set_cons_zero, List.set_cons_succ, i64_w, i32_w]
                    rfl
                   refine pure_ (i := 4) (N := some 134) (v := undef) (a' := ?_) #[true, true, true, true, true, false, false, false, false, false, false, false, false, false, false, false, false, false, false, false, false, false, false, false, false] rfl rfl (any_of HT_.out (by as_aux_lemma => kernel_rfl)) (fun _ _ _ h => h) (Or.inr ⟨by rfl, rfl⟩) ?_ ?_
                   rotate_left
                   ·simp only [Act.put, List.setIfInBounds_toArray, List.set_cons_zero, List.set_cons_succ, i64_w, i32_w]
                    rfl
                   refine pure_ (i := 5) (N := some 135) (v := undef) (a' := ?_) #[true, true, true, true, true, true, false, false, false, false, false, false, false, false, false, false, false, false, false, false, false, false, false, false, false] rfl rfl (any_of HT_.out (by as_aux_lemma => kernel_rfl)) (fun _ _ _ h => h) (Or.inr ⟨by rfl, rfl⟩) ?_ ?_
                   rotate_left
                   ·simp only [Act.put, List.setIfInBounds_toArray, List.set_cons_zero, List.set_cons_succ, i64_w, i32_w]
                    rfl
                   refine pure_ (i := 6) (N := some 136) (v := undef) (a' := ?_) #[true, true, true, true, true, true, true, false, false, false, false, false, false, false, false, false, false, false, false, false, false, false, false, false, false] rfl rfl (any_of HT_.out (by as_aux_lemma => kernel_rfl)) (fun _ _ _ h => h) (Or.inr ⟨by rfl, rfl⟩) ?_ ?_
                   rotate_left
                   ·simp only [Act.put, List.setIfInBounds_toArray, List.set_cons_zero, List.set_cons_succ, i64_w, i32_w]
                    rfl
                   refine pure_ (i := 7) (N := some 137) (v := undef) (a' := ?_) #[true, true, true, true, true, true, true, true, false, false, false, false, false, false, false, false, false, false, false, false, false, false, false, false, false] rfl rfl (any_of HT_.out (by as_aux_lemma => kernel_rfl)) (fun _ _ _ h => h) (Or.inr ⟨by rfl, rfl⟩) ?_ ?_
                   rotate_left
                   ·simp only [Act.put, List.setIfInBounds_toArray, List.set_cons_zero, List.set_cons_succ, i64_w, i32_w]
                    rfl
                   refine pure_ (i := 8) (N := some 138) (v := undef) (a' := ?_) #[true, true, true, true, true, true, true, true, true, false, false, false, false, false, false, false, false, false, false, false, false, false, false, false, false] rfl rfl (any_of HT_.out (by as_aux_lemma => kernel_rfl)) (fun _ _ _ h => h) (Or.inr ⟨by rfl, rfl⟩) ?_ ?_
                   rotate_left
                   ·simp only [Act.put, List.setIfInBounds_toArray, List.set_cons_zero, List.set_cons_succ, i64_w, i32_w]
                    rfl
                   refine pure_ (i := 9) (N := some 139) (v := undef) (a' := ?_) #[true, true, true, true, true, true, true, true, true, true, false, false, false, false, false, false, false, false, false, false, false, false, false, false, false] rfl rfl (any_of HT_.out (by as_aux_lemma => kernel_rfl)) (fun _ _ _ h => h) (Or.inr ⟨by rfl, rfl⟩) ?_ ?_
                   rotate_left
                   ·simp only [Act.put, List.setIfInBounds_toArray, List.set_cons_zero, List.set_cons_succ, i64_w, i32_w]
                    rfl
                   refine pure_ (i := 10) (N := some 140) (v := undef) (a' := ?_) #[true, true, true, true, true, true, true, true, true, true, true, false, false, false, false, false, false, false, false, false, false, false, false, false, false] rfl rfl (any_of HT_.out (by as_aux_lemma => kernel_rfl)) (fun _ _ _ h => h) (Or.inr ⟨by rfl, rfl⟩) ?_ ?_
                   rotate_left
                   ·simp only [Act.put, List.setIfInBounds_toArray, List.set_cons_zero, List.set_cons_succ, i64_w, i32_w]
                    rfl
                   refine pure_ (i := 11) (N := some 141) (v := undef) (a' := ?_) #[true, true, true, true, true, true, true, true, true, true, true, true, false, false, false, false, false, false, false, false, false, false, false, false, false] rfl rfl (any_of HT_.out (by as_aux_lemma => kernel_rfl)) (fun _ _ _ h => h) (Or.inr ⟨by rfl, rfl⟩) ?_ ?_
                   rotate_left
                   ·simp only [Act.put, List.setIfInBounds_toArray, List.set_cons_zero, List.set_cons_succ, i64_w, i32_w]
                    rfl
                   refine pure_ (i := 12) (N := some 142) (v := undef) (a' := ?_) #[true, true, true, true, true, true, true, true, true, true, true, true, true, false, false, false, false, false, false, false, false, false, false, false, false] rfl rfl (any_of HT_.out (by as_aux_lemma => kernel_rfl)) (fun _ _ _ h => h) (Or.inr ⟨by rfl, rfl⟩) ?_ ?_
                   rotate_left
                   ·simp only [Act.put, List.setIfInBounds_toArray, List.set_cons_zero, List.set_cons_succ, i64_w, i32_w]
                    rfl
                   refine pure_ (i := 13) (N := some 143) (v := undef) (a' := ?_) #[true, true, true, true, true, true, true, true, true, true, true, true, true, true, false, false, false, false, false, false, false, false, false, false, false] rfl rfl (any_of HT_.out (by as_aux_lemma => kernel_rfl)) (fun _ _ _ h => h) (Or.inr ⟨by rfl, rfl⟩) ?_ ?_
                   rotate_left
                   ·simp only [Act.put, List.setIfInBounds_toArray, List.set_cons_zero, List.set_cons_succ, i64_w, i32_w]
                    rfl
                   refine pure_ (i := 14) (N := some 144) (v := undef) (a' := ?_) #[true, true, true, true, true, true, true, true, true, true, true, true, true, true, true, false, false, false, false, false, false, false, false, false, false] rfl rfl (any_of HT_.out (by as_aux_lemma => kernel_rfl)) (fun _ _ _ h => h) (Or.inr ⟨by rfl, rfl⟩) ?_ ?_
                   rotate_left
                   ·simp only [Act.put, List.setIfInBounds_toArray, List.set_cons_zero, List.set_cons_succ, i64_w, i32_w]
                    rfl
                   refine pure_ (i := 15) (N := some 145) (v := undef) (a' := ?_) #[true, true, true, true, true, true, true, true, true, true, true, true, true, true, true, true, false, false, false, false, false, false, false, false, false] rfl rfl (any_of HT_.out (by as_aux_lemma => kernel_rfl)) (fun _ _ _ h => h) (Or.inr ⟨by rfl, rfl⟩) ?_ ?_
                   rotate_left
                   ·simp only [Act.put, List.setIfInBounds_toArray, List.set_cons_zero, List.set_cons_succ, i64_w, i32_w]
                    rfl
                   refine pure_ (i := 16) (N := some 146) (v := undef) (a' := ?_) #[true, true, true, true, true, true, true, true, true, true, true, true, true, true, true, true, true, false, false, false, false, false, false, false, false] rfl rfl (any_of HT_.out (by as_aux_lemma => kernel_rfl)) (fun _ _ _ h => h) (Or.inr ⟨by rfl, rfl⟩) ?_ ?_
                   rotate_left
                   ·simp only [Act.put, List.setIfInBounds_toArray, List.set_cons_zero, List.set_cons_succ, i64_w, i32_w]
                    rfl
                   refine pure_ (i := 17) (N := some 147) (v := undef) (a' := ?_) #[true, true, true, true, true, true, true, true, true, true, true, true, true, true, true, true, true, true, false, false, false, false, false, false, false] rfl rfl (any_of HT_.out (by as_aux_lemma => kernel_rfl)) (fun _ _ _ h => h) (Or.inr ⟨by rfl, rfl⟩) ?_ ?_
                   rotate_left
                   ·simp only [Act.put, List.setIfInBounds_toArray, List.set_cons_zero, List.set_cons_succ, i64_w, i32_w]
                    rfl
                   refine pure_ (i := 18) (N := some 148) (v := undef) (a' := ?_) #[true, true, true, true, true, true, true, true, true, true, true, true, true, true, true, true, true, true, true, false, false, false, false, false, false] rfl rfl (any_of HT_.out (by as_aux_lemma => kernel_rfl)) (fun _ _ _ h => h) (Or.inr ⟨by rfl, rfl⟩) ?_ ?_
                   rotate_left
                   ·simp only [Act.put, List.setIfInBounds_toArray, List.set_cons_zero, List.set_cons_succ, i64_w, i32_w]
                    rfl
                   refine pure_ (i := 19) (N := some 149) (v := undef) (a' := ?_) #[true, true, true, true, true, true, true, true, true, true, true, true, true, true, true, true, true, true, true, true, false, false, false, false, false] rfl rfl (any_of HT_.out (by as_aux_lemma => kernel_rfl)) (fun _ _ _ h => h) (Or.inr ⟨by rfl, rfl⟩) ?_ ?_
                   rotate_left
                   ·simp only [Act.put, List.setIfInBounds_toArray, List.set_cons_zero, List.set_cons_succ, i64_w, i32_w]
                    rfl
                   refine pure_ (i := 20) (N := some 150) (v := undef) (a' := ?_) #[true, true, true, true, true, true, true, true, true, true, true, true, true, true, true, true, true, true, true, true, true, false, false, false, false] rfl rfl (any_of HT_.out (by as_aux_lemma => kernel_rfl)) (fun _ _ _ h => h) (Or.inr ⟨by rfl, rfl⟩) ?_ ?_
                   rotate_left
                   ·simp only [Act.put, List.setIfInBounds_toArray, List.set_cons_zero, List.set_cons_succ, i64_w, i32_w]
                    rfl
                   refine pure_ (i := 21) (N := some 151) (v := undef) (a' := ?_) #[true, true, true, true, true, true, true, true, true, true, true, true, true, true, true, true, true, true, true, true, true, true, false, false, false] rfl rfl (any_of HT_.out (by as_aux_lemma => kernel_rfl)) (fun _ _ _ h => h) (Or.inr ⟨by rfl, rfl⟩) ?_ ?_
                   rotate_left
                   ·simp only [Act.put, List.setIfInBounds_toArray, List.set_cons_zero, List.set_cons_succ, i64_w, i32_w]
                    rfl
                   refine pure_ (i := 22) (N := some 152) (v := undef) (a' := ?_) #[true, true, true, true, true, true, true, true, true, true, true, true, true, true, true, true, true, true, true, true, true, true, true, false, false] rfl rfl (any_of HT_.out (by as_aux_lemma => kernel_rfl)) (fun _ _ _ h => h) (Or.inr ⟨by rfl, rfl⟩) ?_ ?_
                   rotate_left
                   ·simp only [Act.put, List.setIfInBounds_toArray, List.set_cons_zero, List.set_cons_succ, i64_w, i32_w]
                    rfl
                   refine pure_ (i := 23) (N := some 153) (v := ?_) (a' := ?_) #[true, true, true, true, true, true, true, true, true, true, true, true, true, true, true, true, true, true, true, true, true, true, true, true, false] rfl rfl (any_of HT_.out (by as_aux_lemma => kernel_rfl)) (fun _ _ _ h => h) (Or.inl ⟨by rfl, ?_⟩) ?_ ?_
                   rotate_left
                   ·intro w'
                    go_simp
                    with_reducible rfl
                   rotate_left
                   ·simp only [Act.put, List.setIfInBounds_toArray, List.set_cons_zero, List.set_cons_succ, i64_w, i32_w]
                    rfl
                   refine pure_ (i := 24) (N := some 14) (v := ?_) (a' := ?_) #[true, true, true, true, true, true, true, true, true, true, true, true, true, true, true, true, true, true, true, true, true, true, true, true, true] rfl rfl (any_of HT_.out (by as_aux_lemma => kernel_rfl)) (fun _ _ _ h => h) (Or.inl ⟨by rfl, ?_⟩) ?_ ?_
                   rotate_left
                   ·intro w'
                    go_simp
                    with_reducible rfl
                   rotate_left
                   ·simp only [Act.put, List.setIfInBounds_toArray, List.set_cons_zero, List.set_cons_succ, i64_w, i32_w]
                    rfl
                   refine done_ (done_of HT_.out (by as_aux_lemma => kernel_rfl)) ?_
                   try go_wp2
                   go_roundg k5
                   case measure => have := HJ3.out; have := HK2.out; have := HK3.out; have := HK4.out; have := HK5.out; omega
                   case rel => as_aux_lemma => exact ⟨(true), (wrap64 (x15_5 + 1)), zS, zS, H', ⟨by have := HJ3.out; have := HK2.out; have := HK3.out; have := HK4.out; have := HK5.out; omega⟩, ⟨by (with_reducible repeat (first | apply Kd.V_alloc | apply Kd.V_drewN | apply Kd.V_drew)); exact HO_537001.out⟩, ⟨by (with_reducible repeat (first | apply Kd.V_alloc | apply Kd.V_drewN | apply Kd.V_drew)); exact HO_537002.out⟩, ⟨zK BK536.out⟩, ⟨zK BK554.out⟩, ⟨zL HB.out⟩⟩
                  ·replace c94 := Bool.eq_false_iff.mpr c94
                   subst c94
                   have H1 : (if 0 ≤ x15_5 then (if ((rd_T34 t541 x15_5).f1).toList = ((rd_T32 t544 x12_4).f1).toList then (if (rd_T34 t541 x15_5).f2 = true then (cooperagelaw16_LeaseOne.l4 k5 l0 (wrap64 (x6_2 + t538)) x7_2 x12_4 true (wrap64 (x15_5 + 1)) t540 t541 t544 ((rd_T32 t544 x12_4).f0) ((rd_T32 t544 x12_4).f1) ((rd_T32 t544 x12_4).f2) ((rd_T32 t544 x12_4).f3)) else (cooperagelaw16_LeaseOne.l4 k5 l0 (wrap64 (x6_2 + t538)) x7_2 x12_4 ((rd_T32 t544 x12_4).f2) (wrap64 (x15_5 + 1)) t540 t541 t544 ((rd_T32 t544 x12_4).f0) ((rd_T32 t544 x12_4).f1) ((rd_T32 t544 x12_4).f2) ((rd_T32 t544 x12_4).f3))) else (cooperagelaw16_LeaseOne.l4 k5 l0 (wrap64 (x6_2 + t538)) x7_2 x12_4 false (wrap64 (x15_5 + 1)) t540 t541 t544 ((rd_T32 t544 x12_4).f0) ((rd_T32 t544 x12_4).f1) ((rd_T32 t544 x12_4).f2) ((rd_T32 t544 x12_4).f3))) else (none)) = some r := by rw [if_neg (show ¬ (false = true) by decide)] at H; exact H
                   clear H
                   have H := H1
                   clear H1
                   by_cases c98 : 0 ≤ x15_5
                   ·rw [if_pos c98] at H
                    have c98b0 : decide (0 ≤ x15_5) = true := decide_eq_true c98
                    clear c98
                    by_cases c99 : ((rd_T34 t541 x15_5).f1).toList = ((rd_T32 t544 x12_4).f1).toList
                    ·rw [if_pos c99] at H
                     have c99b0 : (((rd_T34 t541 x15_5).f1).toList == ((rd_T32 t544 x12_4).f1).toList) = true := beq_iff_eq.mpr c99
                     have c99b1 : (((rd_T34 t541 x15_5).f1).toList != ((rd_T32 t544 x12_4).f1).toList) = false := bne_eq_false_iff_eq.mpr c99
                     clear c99
                     obtain ⟨bq100, hbq100⟩ : ∃ b_ : Bool, b_ = ((rd_T34 t541 x15_5).f2) := ⟨_, rfl⟩
                     replace H : (if bq100 = true then (cooperagelaw16_LeaseOne.l4 k5 l0 (wrap64 (x6_2 + t538)) x7_2 x12_4 true (wrap64 (x15_5 + 1)) t540 t541 t544 ((rd_T32 t544 x12_4).f0) ((rd_T32 t544 x12_4).f1) ((rd_T32 t544 x12_4).f2) ((rd_T32 t544 x12_4).f3)) else (cooperagelaw16_LeaseOne.l4 k5 l0 (wrap64 (x6_2 + t538)) x7_2 x12_4 ((rd_T32 t544 x12_4).f2) (wrap64 (x15_5 + 1)) t540 t541 t544 ((rd_T32 t544 x12_4).f0) ((rd_T32 t544 x12_4).f1) ((rd_T32 t544 x12_4).f2) ((rd_T32 t544 x12_4).f3))) = some r := by rw [← hbq100] at H; exact H
                     have Nbq100 := Aside0.mk hbq100
                     clear hbq100
                     by_cases c101 : bq100 = true
                     ·subst c101
                      have H1 : (cooperagelaw16_LeaseOne.l4 k5 l0 (wrap64 (x6_2 + t538)) x7_2 x12_4 true (wrap64 (x15_5 + 1)) t540 t541 t544 ((rd_T32 t544 x12_4).f0) ((rd_T32 t544 x12_4).f1) ((rd_T32 t544 x12_4).f2) ((rd_T32 t544 x12_4).f3)) = some r := by rw [if_pos rfl] at H; exact H
                      clear H
                      have H := H1
                      clear H1
                      have H' := Aside0.mk H
                      clear H
                      have hnb102 := NB536_554.out
                      have hnc102 := NB554_536.out
                      obtain ⟨hcz103_0, hcz103_1, hcz103_2, hfz103_0, hfz103_1, hfz103_2⟩ := zC3 BK536.out
                      try go_wp2
                      have n0_ := Aside0.mk (Kd.V_drew HO_537001.out)
                      have n1_ := Aside0.mk (Kd.V_drew HO_537002.out)
                      have n2_ := Aside0.mk (blk_drew BK536.out)
                      have n3_ := Aside0.mk (blk_drew BK554.out)
                      have n4_ := Aside0.mk (below_drew1 HB.out)
                      clear HO_537001
                      clear HO_537002
                      clear BK536
                      clear BK554
                      clear HB
                      have HO_537001 := n0_
                      have HO_537002 := n1_
                      have BK536 := n2_
                      have BK554 := n3_
                      have HB := n4_
                      clear n0_ n1_ n2_ n3_ n4_
                      have p555 : 0 ≤ (x15_5 : Int) := zD
                      have q555 : x15_5 < (t541.length : Int) := zD
                      obtain ⟨ad555, e555, hx555_0, hx555_1, hx555_2, hx555_3, hx555_4⟩ := at_T34 (Kd.V_reads' HO_537001.out).2.2 x15_5 p555 q555
                      (try rw [← Nbq100.out] at hx555_2)
                      cases e555
                      replace p555 := eq_true p555
                      replace q555 := eq_true q555
                      have p556 : 0 ≤ (x15_5 : Int) := zD
                      have q556 : x15_5 < (t541.length : Int) := zD
                      obtain ⟨ad556, e556, hx556_0, hx556_1, hx556_2, hx556_3, hx556_4⟩ := at_T34 (Kd.V_reads' HO_537001.out).2.2 x15_5 p556 q556
                      (try rw [← Nbq100.out] at hx556_2)
                      obtain rfl : ad555 = ad556 := (by injection e556)
                      replace p556 := eq_true p556
                      replace q556 := eq_true q556
                      refine start_ (n := 25) (S := fun w' => w'.cell? ⟨gb536, 0, none⟩ = some (.int .i64 t540) ∧ w'.cell? ⟨gb536, 1, none⟩ = some (.slice (some ad555) t541.length co19) ∧ w'.cell? ⟨gb536, 2, none⟩ = some (.slice (some ad553) t544.length co21) ∧ w'.cell? ⟨gb554, 0, none⟩ = some (.int .i64 ((rd_T32 t544 x12_4).f0)) ∧ w'.cell? ⟨gb554, 1, none⟩ = some (.string ((rd_T32 t544 x12_4).f1)) ∧ w'.cell? ⟨gb554, 2, none⟩ = some (.bool ((rd_T32 t544 x12_4).f2)) ∧ w'.cell? ⟨gb554, 3, none⟩ = some (.int .i64 ((rd_T32 t544 x12_4).f3)) ∧ w'.cell? (ad555.add ((x15_5).toNat * 5)) = some (.int .i64 ((rd_T34 t541 x15_5).f0)) ∧ w'.cell? ⟨(ad555.add ((x15_5).toNat * 5)).block, (ad555.add ((x15_5).toNat * 5)).off + 1, none⟩ = some (.string ((rd_T34 t541 x15_5).f1)) ∧ w'.cell? ⟨(ad555.add ((x15_5).toNat * 5)).block, (ad555.add ((x15_5).toNat * 5)).off + 2, none⟩ = some (.bool true) ∧ w'.cell? ⟨(ad555.add ((x15_5).toNat * 5)).block, (ad555.add ((x15_5).toNat * 5)).off + 3, none⟩ = some (.int .i64 ((rd_T34 t541 x15_5).f3)) ∧ w'.cell? ⟨(ad555.add ((x15_5).toNat * 5)).block, (ad555.add ((x15_5).toNat * 5)).off + 4, none⟩ = some (.int .i64 ((rd_T34 t541 x15_5).f4)) ∧ w'.cell? (ad555.add ((x15_5).toNat * 5)) = some (.int .i64 ((rd_T34 t541 x15_5).f0)) ∧ w'.cell? ⟨(ad555.add ((x15_5).toNat * 5)).block, (ad555.add ((x15_5).toNat * 5)).off + 1, none⟩ = some (.string ((rd_T34 t541 x15_5).f1)) ∧ w'.cell? ⟨(ad555.add ((x15_5).toNat * 5)).block, (ad555.add ((x15_5).toNat * 5)).off + 2, none⟩ = some (.bool true) ∧ w'.cell? ⟨(ad555.add ((x15_5).toNat * 5)).block, (ad555.add ((x15_5).toNat * 5)).off + 3, none⟩ = some (.int .i64 ((rd_T34 t541 x15_5).f3)) ∧ w'.cell? ⟨(ad555.add ((x15_5).toNat * 5)).block, (ad555.add ((x15_5).toNat * 5)).off + 4, none⟩ = some (.int .i64 ((rd_T34 t541 x15_5).f4))) (ds := []) #[false, false, false, false, false, false, false, false, false, false, false, false, false, false, false, false, false, false, false, false, false, false, false, false, false] (by as_aux_lemma => kernel_rfl) rfl rfl ⟨(blk_cell BK536.out 0).trans rfl, (blk_cell BK536.out 1).trans rfl, (blk_cell BK536.out 2).trans rfl, (blk_cell BK554.out 0).trans rfl, (blk_cell BK554.out 1).trans rfl, (blk_cell BK554.out 2).trans rfl, (blk_cell BK554.out 3).trans rfl, hx555_0, hx555_1, hx555_2, hx555_3, hx555_4, hx556_0, hx556_1, hx556_2, hx556_3, hx556_4⟩ (fun hHeld => ?_); refine with_tabW cooperagelaw16_LeaseOne.tab30 cooperagelaw16_LeaseOne.bits30 (fun HT_ HW_ => ?_)
                      generalize wr.drew = w104 at HO_537001 HO_537002 BK536 BK554 HB hx555_0 hx555_1 hx555_2 hx555_3 hx555_4 hx556_0 hx556_1 hx556_2 hx556_3 hx556_4 hHeld ⊢
                      refine pure_ (i := 0) (N := some 130) (v := ?_) (a' := ?_) #[true, false, false, false, false, false, false, false, false, false, false, false, false, false, false, false, false, false, false, false, false, false, false, false, false] rfl rfl (any_of HT_.out (by as_aux_lemma => kernel_rfl)) (fun _ _ _ h => h) (Or.inl ⟨by rfl, ?_⟩) ?_ ?_
                      rotate_left
                      ·intro w'
                       go_simp
                       with_reducible rfl
                      rotate_left
                      ·simp only [Act.put, List.setIfInBounds_toArray, List.set_cons_zero, List.set_cons_succ, i64_w, i32_w]
                       rfl
                      refine pure_ (i := 1) (N := some 131) (v := ?_) (a' := ?_) #[true, true, false, false, false, false, false, false, false, false, false, false, false, false, false, false, false, false, false, false, false, false, false, false, false] rfl rfl (any_of HT_.out (by as_aux_lemma => kernel_rfl)) (fun _ _ _ h => h) (Or.inl ⟨by rfl, ?_⟩) ?_ ?_
                      rotate_left
                      ·intro w'
                       go_simp
                       with_reducible rfl
                      rotate_left
                      ·simp only [Act.put, List.setIfInBounds_toArray, List.set_cons_zero, List.set_cons_succ, i64_w, i32_w]
                       rfl
                      refine pure_ (i := 2) (N := some 132) (v := ?_) (a' := ?_) #[true, true, true, false, false, false, false, false, false, false, false, false, false, false, false, false, false, false, false, false, false, false, false, false, false] rfl rfl (any_of HT_.out (by as_aux_lemma => kernel_rfl)) (fun _ _ _ h => h) (Or.inl ⟨by rfl, ?_⟩) ?_ ?_
                      rotate_left
                      ·intro w'
                       go_simp
                       with_reducible rfl
                      rotate_left
                      ·simp only [Act.put, List.setIfInBounds_toArray, List.set_cons_zero, List.set_cons_succ, i64_w, i32_w]
                       rfl
                      refine pure_ (i := 4) (N := some 134) (v := ?_) (a' := ?_) #[true, true, true, false, true, false, false, false, false, false, false, false, false, false, false, false, false, false, false, false, false, false, false, false, false] rfl rfl (any_of HT_.out (by as_aux_lemma => kernel_rfl)) (fun _ _ _ h => h) (Or.inl ⟨by rfl, ?_⟩) ?_ ?_
                      rotate_left
                      ·intro w'
                       go_simp
                       with_reducible rfl
                      rotate_left
                      ·simp only [Act.put, List.setIfInBounds_toArray, List.set_cons_zero, List.set_cons_succ, i64_w, i32_w]
                       rfl
                      refine pure_ (i := 8) (N := some 138) (v := ?_) (a' := ?_) #[true, true, true, false, true, false, false, false, true, false, false, false, false, false, false, false, false, false, false, false, false, false, false, false, false] rfl rfl (any_of HT_.out (by as_aux_lemma => kernel_rfl)) (fun _ _ _ h => h) (Or.inl ⟨by rfl, ?_⟩) ?_ ?_
                      rotate_left
                      ·intro w'
                       go_simp
                       with_reducible rfl
                      rotate_left
                      ·simp only [Act.put, List.setIfInBounds_toArray, List.set_cons_zero, List.set_cons_succ, i64_w, i32_w]
                       rfl
                      refine take_ (i := 3) (N := some 133) (v := ?_) (a' := ?_) #[true, true, true, true, true, false, false, false, true, false, false, false, false, false, false, false, false, false, false, false, false, false, false, false, false] rfl rfl (take_ofW HT_.out HW_.out (by as_aux_lemma => kernel_rfl)) (fun _ _ _ h => h) (Or.inl ⟨by rfl, ?_⟩) hHeld ?_ ?_
                      rotate_left
                      ·rintro w' ⟨s0, s1, s2, s3, s4, s5, s6, s7, s8, s9, s10, s11, s12, s13, s14, s15, s16⟩
                       go_simp
                       with_reducible rfl
                      rotate_left
                      ·simp only [Act.put, List.setIfInBounds_toArray, List.set_cons_zero, List.set_cons_succ, i64_w, i32_w]
                       rfl
                      refine pure_ (i := 5) (N := some 135) (v := ?_) (a' := ?_) #[true, true, true, true, true, true, false, false, true, false, false, false, false, false, false, false, false, false, false, false, false, false, false, false, false] rfl rfl (any_of HT_.out (by as_aux_lemma => kernel_rfl)) (fun _ _ _ h => h) (Or.inl ⟨by rfl, ?_⟩) ?_ ?_
                      rotate_left
                      ·intro w'
                       go_simp
                       with_reducible rfl
                      rotate_left
                      ·simp only [Act.put, List.setIfInBounds_toArray, List.set_cons_zero, List.set_cons_succ, i64_w, i32_w]
                       rfl
                      refine pure_ (i := 6) (N := some 136) (v := ?_) (a' := ?_) #[true, true, true, true, true, true, true, false, true, false, false, false, false, false, false, false, false, false, false, false, false, false, false, false, false] rfl rfl (any_of HT_.out (by as_aux_lemma => kernel_rfl)) (fun _ _ _ h => h) (Or.inl ⟨by rfl, ?_⟩) ?_ ?_
                      rotate_left
                      ·intro w'
                       go_simp
                       with_reducible rfl
                      rotate_left
                      ·simp only [Act.put, List.setIfInBounds_toArray, List.set_cons_zero, List.set_cons_succ, i64_w, i32_w]
                       rfl
                      refine take_ (i := 7) (N := some 137) (v := ?_) (a' := ?_) #[true, true, true, true, true, true, true, true, true, false, false, false, false, false, false, false, false, false, false, false, false, false, false, false, false] rfl rfl (take_ofW HT_.out HW_.out (by as_aux_lemma => kernel_rfl)) (fun _ _ _ h => h) (Or.inl ⟨by rfl, ?_⟩) hHeld ?_ ?_
                      rotate_left
                      ·rintro w' ⟨s0, s1, s2, s3, s4, s5, s6, s7, s8, s9, s10, s11, s12, s13, s14, s15, s16⟩
                       go_simp
                       with_reducible rfl
                      rotate_left
                      ·simp only [Act.put, List.setIfInBounds_toArray, List.set_cons_zero, List.set_cons_succ, i64_w, i32_w]
                       rfl
                      refine take_ (i := 9) (N := some 139) (v := ?_) (a' := ?_) #[true, true, true, true, true, true, true, true, true, true, false, false, false, false, false, false, false, false, false, false, false, false, false, false, false] rfl rfl (take_ofW HT_.out HW_.out (by as_aux_lemma => kernel_rfl)) (fun _ _ _ h => h) (Or.inl ⟨by rfl, ?_⟩) hHeld ?_ ?_
                      rotate_left
                      ·rintro w' ⟨s0, s1, s2, s3, s4, s5, s6, s7, s8, s9, s10, s11, s12, s13, s14, s15, s16⟩
                       go_simp
                       with_reducible rfl
                      rotate_left
                      ·simp only [Act.put, List.setIfInBounds_toArray, List.set_cons_zero, List.set_cons_succ, i64_w, i32_w]
                       rfl
                      refine pure_ (i := 10) (N := some 140) (v := ?_) (a' := ?_) #[true, true, true, true, true, true, true, true, true, true, true, false, false, false, false, false, false, false, false, false, false, false, false, false, false] rfl rfl (any_of HT_.out (by as_aux_lemma => kernel_rfl)) (fun _ _ _ h => h) (Or.inl ⟨by rfl, ?_⟩) ?_ ?_
                      rotate_left
                      ·intro w'
                       go_simp
                       with_reducible rfl
                      rotate_left
                      ·simp only [Act.put, List.setIfInBounds_toArray, List.set_cons_zero, List.set_cons_succ, i64_w, i32_w]
                       rfl
                      refine pure_ (i := 11) (N := some 141) (v := ?_) (a' := ?_) #[true, true, true, true, true, true, true, true, true, true, true, true, false, false, false, false, false, false, false, false, false, false, false, false, false] rfl rfl (any_of HT_.out (by as_aux_lemma => kernel_rfl)) (fun _ _ _ h => h) (Or.inl ⟨by rfl, ?_⟩) ?_ ?_
                      rotate_left
                      ·intro w'
                       go_simp
                       with_reducible rfl
                      rotate_left
                      ·simp only [Act.put, List.setIfInBounds_toArray, List.set_cons_zero, List.set_cons_succ, i64_w, i32_w]
                       rfl
                      refine pure_ (i := 12) (N := some 142) (v := ?_) (a' := ?_) #[true, true, true, true, true, true, true, true, true, true, true, true, true, false, false, false, false, false, false, false, false, false, false, false, false] rfl rfl (any_of HT_.out (by as_aux_lemma => kernel_rfl)) (fun _ _ _ h => h) (Or.inl ⟨by rfl, ?_⟩) ?_ ?_
                      rotate_left
                      ·intro w'
                       go_simp
                       with_reducible rfl
                      rotate_left
                      ·simp only [Act.put, List.setIfInBounds_toArray, List.set_cons_zero, List.set_cons_succ, i64_w, i32_w]
                       rfl
                      refine pure_ (i := 14) (N := some 144) (v := ?_) (a' := ?_) #[true, true, true, true, true, true, true, true, true, true, true, true, true, false, true, false, false, false, false, false, false, false, false, false, false] rfl rfl (any_of HT_.out (by as_aux_lemma => kernel_rfl)) (fun _ _ _ h => h) (Or.inl ⟨by rfl, ?_⟩) ?_ ?_
                      rotate_left
                      ·intro w'
                       go_simp
                       with_reducible rfl
                      rotate_left
                      ·simp only [Act.put, List.setIfInBounds_toArray, List.set_cons_zero, List.set_cons_succ, i64_w, i32_w]
                       rfl
                      refine take_ (i := 13) (N := some 143) (v := ?_) (a' := ?_) #[true, true, true, true, true, true, true, true, true, true, true, true, true, true, true, false, false, false, false, false, false, false, false, false, false] rfl rfl (take_ofW HT_.out HW_.out (by as_aux_lemma => kernel_rfl)) (fun _ _ _ h => h) (Or.inl ⟨by rfl, ?_⟩) hHeld ?_ ?_
                      rotate_left
                      ·rintro w' ⟨s0, s1, s2, s3, s4, s5, s6, s7, s8, s9, s10, s11, s12, s13, s14, s15, s16⟩
                       go_simp
                       with_reducible rfl
                      rotate_left
                      ·simp only [Act.put, List.setIfInBounds_toArray, List.set_cons_zero, List.set_cons_succ, i64_w, i32_w]
                       rfl
                      refine pure_ (i := 15) (N := some 145) (v := ?_) (a' := ?_) #[true, true, true, true, true, true, true, true, true, true, true, true, true, true, true, true, false, false, false, false, false, false, false, false, false] rfl rfl (any_of HT_.out (by as_aux_lemma => kernel_rfl)) (fun _ _ _ h => h) (Or.inl ⟨by rfl, ?_⟩) ?_ ?_
                      rotate_left
                      ·intro w'
                       go_simp
                       with_reducible rfl
                      rotate_left
                      ·simp only [Act.put, List.setIfInBounds_toArray, List.set_cons_zero, List.set_cons_succ, i64_w, i32_w]
                       rfl
                      refine pure_ (i := 16) (N := some 146) (v := ?_) (a' := ?_) #[true, true, true, true, true, true, true, true, true, true, true, true, true, true, true, true, true, false, false, false, false, false, false, false, false] rfl rfl (any_of HT_.out (by as_aux_lemma => kernel_rfl)) (fun _ _ _ h => h) (Or.inl ⟨by rfl, ?_⟩) ?_ ?_
                      rotate_left
                      ·intro w'
                       go_simp
                       with_reducible rfl
                      rotate_left
                      ·simp only [Act.put, List.setIfInBounds_toArray, List.set_cons_zero, List.set_cons_succ, i64_w, i32_w]
                       rfl
                      refine take_ (i := 17) (N := some 147) (v := ?_) (a' := ?_) #[true, true, true, true, true, true, true, true, true, true, true, true, true, true, true, true, true, true, false, false, false, false, false, false, false] rfl rfl (take_ofW HT_.out HW_.out (by as_aux_lemma => kernel_rfl)) (fun _ _ _ h => h) (Or.inl ⟨by rfl, ?_⟩) hHeld ?_ ?_
                      rotate_left
                      ·rintro w' ⟨s0, s1, s2, s3, s4, s5, s6, s7, s8, s9, s10, s11, s12, s13, s14, s15, s16⟩
                       go_simp
                       with_reducible rfl
                      rotate_left
                      ·simp only [Act.put, List.setIfInBounds_toArray, List.set_cons_zero, List.set_cons_succ, i64_w, i32_w]
                       rfl
                      refine pure_ (i := 18) (N := some 148) (v := ?_) (a' := ?_) #[true, true, true, true, true, true, true, true, true, true, true, true, true, true, true, true, true, true, true, false, false, false, false, false, false] rfl rfl (any_of HT_.out (by as_aux_lemma => kernel_rfl)) (fun _ _ _ h => h) (Or.inl ⟨by rfl, ?_⟩) ?_ ?_
                      rotate_left
                      ·intro w'
                       go_simp
                       with_reducible rfl
                      rotate_left
                      ·simp only [Act.put, List.setIfInBounds_toArray, List.set_cons_zero, List.set_cons_succ, i64_w, i32_w]
                       rfl
                      refine pure_ (i := 19) (N := some 149) (v := undef) (a' := ?_) #[true, true, true, true, true, true, true, true, true, true, true, true, true, true, true, true, true, true, true, true, false, false, false, false, false] rfl rfl (any_of HT_.out (by as_aux_lemma => kernel_rfl)) (fun _ _ _ h => h) (Or.inr ⟨by rfl, rfl⟩) ?_ ?_
                      rotate_left
                      ·simp only [Act.put, List.setIfInBounds_toArray, List.set_cons_zero, List.set_cons_succ, i64_w, i32_w]
                       rfl
                      refine pure_ (i := 20) (N := some 150) (v := undef) (a' := ?_) #[true, true, true, true, true, true, true, true, true, true, true, true, true, true, true, true, true, true, true, true, true, false, false, false, false] rfl rfl (any_of HT_.out (by as_aux_lemma => kernel_rfl)) (fun _ _ _ h => h) (Or.inr ⟨by rfl, rfl⟩) ?_ ?_
                      rotate_left
                      ·simp only [Act.put, List.setIfInBounds_toArray, List.set_cons_zero, List.set_cons_succ, i64_w, i32_w]
                       rfl
                      refine pure_ (i := 21) (N := some 151) (v := ?_) (a' := ?_) #[true, true, true, true, true, true, true, true, true, true, true, true, true, true, true, true, true, true, true, true, true, true, false, false, false] rfl rfl (any_of HT_.out (by as_aux_lemma => kernel_rfl)) (fun _ _ _ h => h) (Or.inl ⟨by rfl, ?_⟩) ?_ ?_
                      rotate_left
                      ·intro w'
                       go_simp
                       with_reducible rfl
                      rotate_left
                      ·simp only [Act.put, List.setIfInBounds_toArray, List.set_cons_zero, List.set_cons_succ, i64_w, i32_w]
                       rfl
                      refine pure_ (i := 22) (N := some 152) (v := ?_) (a' := ?_) #[true, true, true, true, true, true, true, true, true, true, true, true, true, true, true, true, true, true, true, true, true, true, true, false, false] rfl rfl (any_of HT_.out (by as_aux_lemma => kernel_rfl)) (fun _ _ _ h => h) (Or.inl ⟨by rfl, ?_⟩) ?_ ?_
                      rotate_left
                      ·intro w'
                       go_simp
                       with_reducible rfl
                      rotate_left
                      ·simp only [Act.put, List.setIfInBounds_toArray, List.set_cons_zero, List.set_cons_succ, i64_w, i32_w]
                       rfl
                      refine pure_ (i := 23) (N := some 153) (v := ?_) (a' := ?_) #[true, true, true, true, true, true, true, true, true, true, true, true, true, true, true, true, true, true, true, true, true, true, true, true, false] rfl rfl (any_of HT_.out (by as_aux_lemma => kernel_rfl)) (fun _ _ _ h => h) (Or.inl ⟨by rfl, ?_⟩) ?_ ?_
                      rotate_left
                      ·intro w'
                       go_simp
                       with_reducible rfl
                      rotate_left
                      ·simp only [Act.put, List.setIfInBounds_toArray, List.set_cons_zero, List.set_cons_succ, i64_w, i32_w]
                       rfl
                      refine pure_ (i := 24) (N := some 14) (v := ?_) (a' := ?_) #[true, true, true, true, true, true, true, true, true, true, true, true, true, true, true, true, true, true, true, true, true, true, true, true, true] rfl rfl (any_of HT_.out (by as_aux_lemma => kernel_rfl)) (fun _ _ _ h => h) (Or.inl ⟨by rfl, ?_⟩) ?_ ?_
                      rotate_left
                      ·intro w'
                       go_simp
                       with_reducible rfl
                      rotate_left
                      ·simp only [Act.put, List.setIfInBounds_toArray, List.set_cons_zero, List.set_cons_succ, i64_w, i32_w]
                       rfl
                      refine done_ (done_of HT_.out (by as_aux_lemma => kernel_rfl)) ?_
                      try go_wp2
                      go_roundg k5
                      case measure => have := HJ3.out; have := HK2.out; have := HK3.out; have := HK4.out; have := HK5.out; omega
                      case rel => as_aux_lemma => exact ⟨(true), (wrap64 (x15_5 + 1)), zS, zS, H', ⟨by have := HJ3.out; have := HK2.out; have := HK3.out; have := HK4.out; have := HK5.out; omega⟩, ⟨by (with_reducible repeat (first | apply Kd.V_alloc | apply Kd.V_drewN | apply Kd.V_drew)); exact HO_537001.out⟩, ⟨by (with_reducible repeat (first | apply Kd.V_alloc | apply Kd.V_drewN | apply Kd.V_drew)); exact HO_537002.out⟩, ⟨zK BK536.out⟩, ⟨zK BK554.out⟩, ⟨zL HB.out⟩⟩
                     ·replace c101 := Bool.eq_false_iff.mpr c101
                      subst c101
                      have H1 : (cooperagelaw16_LeaseOne.l4 k5 l0 (wrap64 (x6_2 + t538)) x7_2 x12_4 ((rd_T32 t544 x12_4).f2) (wrap64 (x15_5 + 1)) t540 t541 t544 ((rd_T32 t544 x12_4).f0) ((rd_T32 t544 x12_4).f1) ((rd_T32 t544 x12_4).f2) ((rd_T32 t544 x12_4).f3)) = some r := by rw [if_neg (show ¬ (false = true) by decide)] at H; exact H
                      clear H
                      have H := H1
                      clear H1
                      have H' := Aside0.mk H
                      clear H
                      have hnb105 := NB536_554.out
                      have hnc105 := NB554_536.out
                      obtain ⟨hcz106_0, hcz106_1, hcz106_2, hfz106_0, hfz106_1, hfz106_2⟩ := zC3 BK536.out
                      try go_wp2
                      have n0_ := Aside0.mk (Kd.V_drew HO_537001.out)
                      have n1_ := Aside0.mk (Kd.V_drew HO_537002.out)
                      have n2_ := Aside0.mk (blk_drew BK536.out)
                      have n3_ := Aside0.mk (blk_drew BK554.out)
                      have n4_ := Aside0.mk (below_drew1 HB.out)
                      clear HO_537001
                      clear HO_537002
                      clear BK536
                      clear BK554
                      clear HB
                      have HO_537001 := n0_
                      have HO_537002 := n1_
                      have BK536 := n2_
                      have BK554 := n3_
                      have HB := n4_
                      clear n0_ n1_ n2_ n3_ n4_
                      have p555 : 0 ≤ (x15_5 : Int) := zD
                      have q555 : x15_5 < (t541.length : Int) := zD
                      obtain ⟨ad555, e555, hx555_0, hx555_1, hx555_2, hx555_3, hx555_4⟩ := at_T34 (Kd.V_reads' HO_537001.out).2.2 x15_5 p555 q555
                      (try rw [← Nbq100.out] at hx555_2)
                      cases e555
                      replace p555 := eq_true p555
                      replace q555 := eq_true q555
                      have p556 : 0 ≤ (x15_5 : Int) := zD
                      have q556 : x15_5 < (t541.length : Int) := zD
                      obtain ⟨ad556, e556, hx556_0, hx556_1, hx556_2, hx556_3, hx556_4⟩ := at_T34 (Kd.V_reads' HO_537001.out).2.2 x15_5 p556 q556
                      (try rw [← Nbq100.out] at hx556_2)
                      obtain rfl : ad555 = ad556 := (by injection e556)
                      replace p556 := eq_true p556
                      replace q556 := eq_true q556
                      refine start_ (n := 25) (S := fun w' => w'.cell? ⟨gb536, 0, none⟩ = some (.int .i64 t540) ∧ w'.cell? ⟨gb536, 1, none⟩ = some (.slice (some ad555) t541.length co19) ∧ w'.cell? ⟨gb536, 2, none⟩ = some (.slice (some ad553) t544.length co21) ∧ w'.cell? ⟨gb554, 0, none⟩ = some (.int .i64 ((rd_T32 t544 x12_4).f0)) ∧ w'.cell? ⟨gb554, 1, none⟩ = some (.string ((rd_T32 t544 x12_4).f1)) ∧ w'.cell? ⟨gb554, 2, none⟩ = some (.bool ((rd_T32 t544 x12_4).f2)) ∧ w'.cell? ⟨gb554, 3, none⟩ = some (.int .i64 ((rd_T32 t544 x12_4).f3)) ∧ w'.cell? (ad555.add ((x15_5).toNat * 5)) = some (.int .i64 ((rd_T34 t541 x15_5).f0)) ∧ w'.cell? ⟨(ad555.add ((x15_5).toNat * 5)).block, (ad555.add ((x15_5).toNat * 5)).off + 1, none⟩ = some (.string ((rd_T34 t541 x15_5).f1)) ∧ w'.cell? ⟨(ad555.add ((x15_5).toNat * 5)).block, (ad555.add ((x15_5).toNat * 5)).off + 2, none⟩ = some (.bool false) ∧ w'.cell? ⟨(ad555.add ((x15_5).toNat * 5)).block, (ad555.add ((x15_5).toNat * 5)).off + 3, none⟩ = some (.int .i64 ((rd_T34 t541 x15_5).f3)) ∧ w'.cell? ⟨(ad555.add ((x15_5).toNat * 5)).block, (ad555.add ((x15_5).toNat * 5)).off + 4, none⟩ = some (.int .i64 ((rd_T34 t541 x15_5).f4)) ∧ w'.cell? (ad555.add ((x15_5).toNat * 5)) = some (.int .i64 ((rd_T34 t541 x15_5).f0)) ∧ w'.cell? ⟨(ad555.add ((x15_5).toNat * 5)).block, (ad555.add ((x15_5).toNat * 5)).off + 1, none⟩ = some (.string ((rd_T34 t541 x15_5).f1)) ∧ w'.cell? ⟨(ad555.add ((x15_5).toNat * 5)).block, (ad555.add ((x15_5).toNat * 5)).off + 2, none⟩ = some (.bool false) ∧ w'.cell? ⟨(ad555.add ((x15_5).toNat * 5)).block, (ad555.add ((x15_5).toNat * 5)).off + 3, none⟩ = some (.int .i64 ((rd_T34 t541 x15_5).f3)) ∧ w'.cell? ⟨(ad555.add ((x15_5).toNat * 5)).block, (ad555.add ((x15_5).toNat * 5)).off + 4, none⟩ = some (.int .i64 ((rd_T34 t541 x15_5).f4))) (ds := []) #[false, false, false, false, false, false, false, false, false, false, false, false, false, false, false, false, false, false, false, false, false, false, false, false, false] (by as_aux_lemma => kernel_rfl) rfl rfl ⟨(blk_cell BK536.out 0).trans rfl, (blk_cell BK536.out 1).trans rfl, (blk_cell BK536.out 2).trans rfl, (blk_cell BK554.out 0).trans rfl, (blk_cell BK554.out 1).trans rfl, (blk_cell BK554.out 2).trans rfl, (blk_cell BK554.out 3).trans rfl, hx555_0, hx555_1, hx555_2, hx555_3, hx555_4, hx556_0, hx556_1, hx556_2, hx556_3, hx556_4⟩ (fun hHeld => ?_); refine with_tabW cooperagelaw16_LeaseOne.tab30 cooperagelaw16_LeaseOne.bits30 (fun HT_ HW_ => ?_)
                      generalize wr.drew = w107 at HO_537001 HO_537002 BK536 BK554 HB hx555_0 hx555_1 hx555_2 hx555_3 hx555_4 hx556_0 hx556_1 hx556_2 hx556_3 hx556_4 hHeld ⊢
                      refine pure_ (i := 0) (N := some 130) (v := ?_) (a' := ?_) #[true, false, false, false, false, false, false, false, false, false, false, false, false, false, false, false, false, false, false, false, false, false, false, false, false] rfl rfl (any_of HT_.out (by as_aux_lemma => kernel_rfl)) (fun _ _ _ h => h) (Or.inl ⟨by rfl, ?_⟩) ?_ ?_
                      rotate_left
                      ·intro w'
                       go_simp
                       with_reducible rfl
                      rotate_left
                      ·simp only [Act.put, List.setIfInBounds_toArray, List.set_cons_zero, List.set_cons_succ, i64_w, i32_w]
                       rfl
                      refine pure_ (i := 1) (N := some 131) (v := ?_) (a' := ?_) #[true, true, false, false, false, false, false, false, false, false, false, false, false, false, false, false, false, false, false, false, false, false, false, false, false] rfl rfl (any_of HT_.out (by as_aux_lemma => kernel_rfl)) (fun _ _ _ h => h) (Or.inl ⟨by rfl, ?_⟩) ?_ ?_
                      rotate_left
                      ·intro w'
                       go_simp
                       with_reducible rfl
                      rotate_left
                      ·simp only [Act.put, List.setIfInBounds_toArray, List.set_cons_zero, List.set_cons_succ, i64_w, i32_w]
                       rfl
                      refine pure_ (i := 2) (N := some 132) (v := ?_) (a' := ?_) #[true, true, true, false, false, false, false, false, false, false, false, false, false, false, false, false, false, false, false, false, false, false, false, false, false] rfl rfl (any_of HT_.out (by as_aux_lemma => kernel_rfl)) (fun _ _ _ h => h) (Or.inl ⟨by rfl, ?_⟩) ?_ ?_
                      rotate_left
                      ·intro w'
                       go_simp
                       with_reducible rfl
                      rotate_left
                      ·simp only [Act.put, List.setIfInBounds_toArray, List.set_cons_zero, List.set_cons_succ, i64_w, i32_w]
                       rfl
                      refine pure_ (i := 4) (N := some 134) (v := ?_) (a' := ?_) #[true, true, true, false, true, false, false, false, false, false, false, false, false, false, false, false, false, false, false, false, false, false, false, false, false] rfl rfl (any_of HT_.out (by as_aux_lemma => kernel_rfl)) (fun _ _ _ h => h) (Or.inl ⟨by rfl, ?_⟩) ?_ ?_
                      rotate_left
                      ·intro w'
                       go_simp
                       with_reducible rfl
                      rotate_left
                      ·simp only [Act.put, List.setIfInBounds_toArray, List.set_cons_zero, List.set_cons_succ, i64_w, i32_w]
                       rfl
                      refine pure_ (i := 8) (N := some 138) (v := ?_) (a' := ?_) #[true, true, true, false, true, false, false, false, true, false, false, false, false, false, false, false, false, false, false, false, false, false, false, false, false] rfl rfl (any_of HT_.out (by as_aux_lemma => kernel_rfl)) (fun _ _ _ h => h) (Or.inl ⟨by rfl, ?_⟩) ?_ ?_
                      rotate_left
                      ·intro w'
                       go_simp
                       with_reducible rfl
                      rotate_left
                      ·simp only [Act.put, List.setIfInBounds_toArray, List.set_cons_zero, List.set_cons_succ, i64_w, i32_w]
                       rfl
                      refine take_ (i := 3) (N := some 133) (v := ?_) (a' := ?_) #[true, true, true, true, true, false, false, false, true, false, false, false, false, false, false, false, false, false, false, false, false, false, false, false, false] rfl rfl (take_ofW HT_.out HW_.out (by as_aux_lemma => kernel_rfl)) (fun _ _ _ h => h) (Or.inl ⟨by rfl, ?_⟩) hHeld ?_ ?_
                      rotate_left
                      ·rintro w' ⟨s0, s1, s2, s3, s4, s5, s6, s7, s8, s9, s10, s11, s12, s13, s14, s15, s16⟩
                       go_simp
                       with_reducible rfl
                      rotate_left
                      ·simp only [Act.put, List.setIfInBounds_toArray, List.set_cons_zero, List.set_cons_succ, i64_w, i32_w]
                       rfl
                      refine pure_ (i := 5) (N := some 135) (v := ?_) (a' := ?_) #[true, true, true, true, true, true, false, false, true, false, false, false, false, false, false, false, false, false, false, false, false, false, false, false, false] rfl rfl (any_of HT_.out (by as_aux_lemma => kernel_rfl)) (fun _ _ _ h => h) (Or.inl ⟨by rfl, ?_⟩) ?_ ?_
                      rotate_left
                      ·intro w'
                       go_simp
                       with_reducible rfl
                      rotate_left
                      ·simp only [Act.put, List.setIfInBounds_toArray, List.set_cons_zero, List.set_cons_succ, i64_w, i32_w]
                       rfl
                      refine pure_ (i := 6) (N := some 136) (v := ?_) (a' := ?_) #[true, true, true, true, true, true, true, false, true, false, false, false, false, false, false, false, false, false, false, false, false, false, false, false, false] rfl rfl (any_of HT_.out (by as_aux_lemma => kernel_rfl)) (fun _ _ _ h => h) (Or.inl ⟨by rfl, ?_⟩) ?_ ?_
                      rotate_left
                      ·intro w'
                       go_simp
                       with_reducible rfl
                      rotate_left
                      ·simp only [Act.put, List.setIfInBounds_toArray, List.set_cons_zero, List.set_cons_succ, i64_w, i32_w]
                       rfl
                      refine take_ (i := 7) (N := some 137) (v := ?_) (a' := ?_) #[true, true, true, true, true, true, true, true, true, false, false, false, false, false, false, false, false, false, false, false, false, false, false, false, false] rfl rfl (take_ofW HT_.out HW_.out (by as_aux_lemma => kernel_rfl)) (fun _ _ _ h => h) (Or.inl ⟨by rfl, ?_⟩) hHeld ?_ ?_
                      rotate_left
                      ·rintro w' ⟨s0, s1, s2, s3, s4, s5, s6, s7, s8, s9, s10, s11, s12, s13, s14, s15, s16⟩
                       go_simp
                       with_reducible rfl
                      rotate_left
                      ·simp only [Act.put, List.setIfInBounds_toArray, List.set_cons_zero, List.set_cons_succ, i64_w, i32_w]
                       rfl
                      refine take_ (i := 9) (N := some 139) (v := ?_) (a' := ?_) #[true, true, true, true, true, true, true, true, true, true, false, false, false, false, false, false, false, false, false, false, false, false, false, false, false] rfl rfl (take_ofW HT_.out HW_.out (by as_aux_lemma => kernel_rfl)) (fun _ _ _ h => h) (Or.inl ⟨by rfl, ?_⟩) hHeld ?_ ?_
                      rotate_left
                      ·rintro w' ⟨s0, s1, s2, s3, s4, s5, s6, s7, s8, s9, s10, s11, s12, s13, s14, s15, s16⟩
                       go_simp
                       with_reducible rfl
                      rotate_left
                      ·simp only [Act.put, List.setIfInBounds_toArray, List.set_cons_zero, List.set_cons_succ, i64_w, i32_w]
                       rfl
                      refine pure_ (i := 10) (N := some 140) (v := ?_) (a' := ?_) #[true, true, true, true, true, true, true, true, true, true, true, false, false, false, false, false, false, false, false, false, false, false, false, false, false] rfl rfl (any_of HT_.out (by as_aux_lemma => kernel_rfl)) (fun _ _ _ h => h) (Or.inl ⟨by rfl, ?_⟩) ?_ ?_
                      rotate_left
                      ·intro w'
                       go_simp
                       with_reducible rfl
                      rotate_left
                      ·simp only [Act.put, List.setIfInBounds_toArray, List.set_cons_zero, List.set_cons_succ, i64_w, i32_w]
                       rfl
                      refine pure_ (i := 11) (N := some 141) (v := ?_) (a' := ?_) #[true, true, true, true, true, true, true, true, true, true, true, true, false, false, false, false, false, false, false, false, false, false, false, false, false] rfl rfl (any_of HT_.out (by as_aux_lemma => kernel_rfl)) (fun _ _ _ h => h) (Or.inl ⟨by rfl, ?_⟩) ?_ ?_
                      rotate_left
                      ·intro w'
                       go_simp
                       with_reducible rfl
                      rotate_left
                      ·simp only [Act.put, List.setIfInBounds_toArray, List.set_cons_zero, List.set_cons_succ, i64_w, i32_w]
                       rfl
                      refine pure_ (i := 12) (N := some 142) (v := ?_) (a' := ?_) #[true, true, true, true, true, true, true, true, true, true, true, true, true, false, false, false, false, false, false, false, false, false, false, false, false] rfl rfl (any_of HT_.out (by as_aux_lemma => kernel_rfl)) (fun _ _ _ h => h) (Or.inl ⟨by rfl, ?_⟩) ?_ ?_
                      rotate_left
                      ·intro w'
                       go_simp
                       with_reducible rfl
                      rotate_left
                      ·simp only [Act.put, List.setIfInBounds_toArray, List.set_cons_zero, List.set_cons_succ, i64_w, i32_w]
                       rfl
                      refine pure_ (i := 14) (N := some 144) (v := ?_) (a' := ?_) #[true, true, true, true, true, true, true, true, true, true, true, true, true, false, true, false, false, false, false, false, false, false, false, false, false] rfl rfl (any_of HT_.out (by as_aux_lemma => kernel_rfl)) (fun _ _ _ h => h) (Or.inl ⟨by rfl, ?_⟩) ?_ ?_
                      rotate_left
                      ·intro w'
                       go_simp
                       with_reducible rfl
                      rotate_left
                      ·simp only [Act.put, List.setIfInBounds_toArray, List.set_cons_zero, List.set_cons_succ, i64_w, i32_w]
                       rfl
                      refine take_ (i := 13) (N := some 143) (v := ?_) (a' := ?_) #[true, true, true, true, true, true, true, true, true, true, true, true, true, true, true, false, false, false, false, false, false, false, false, false, false] rfl rfl (take_ofW HT_.out HW_.out (by as_aux_lemma => kernel_rfl)) (fun _ _ _ h => h) (Or.inl ⟨by rfl, ?_⟩) hHeld ?_ ?_
                      rotate_left
                      ·rintro w' ⟨s0, s1, s2, s3, s4, s5, s6, s7, s8, s9, s10, s11, s12, s13, s14, s15, s16⟩
                       go_simp
                       with_reducible rfl
                      rotate_left
                      ·simp only [Act.put, List.setIfInBounds_toArray, List.set_cons_zero, List.set_cons_succ, i64_w, i32_w]
                       rfl
                      refine pure_ (i := 15) (N := some 145) (v := ?_) (a' := ?_) #[true, true, true, true, true, true, true, true, true, true, true, true, true, true, true, true, false, false, false, false, false, false, false, false, false] rfl rfl (any_of HT_.out (by as_aux_lemma => kernel_rfl)) (fun _ _ _ h => h) (Or.inl ⟨by rfl, ?_⟩) ?_ ?_
                      rotate_left
                      ·intro w'
                       go_simp
                       with_reducible rfl
                      rotate_left
                      ·simp only [Act.put, List.setIfInBounds_toArray, List.set_cons_zero, List.set_cons_succ, i64_w, i32_w]
                       rfl
                      refine pure_ (i := 16) (N := some 146) (v := ?_) (a' := ?_) #[true, true, true, true, true, true, true, true, true, true, true, true, true, true, true, true, true, false, false, false, false, false, false, false, false] rfl rfl (any_of HT_.out (by as_aux_lemma => kernel_rfl)) (fun _ _ _ h => h) (Or.inl ⟨by rfl, ?_⟩) ?_ ?_
                      rotate_left
                      ·intro w'
                       go_simp
                       with_reducible rfl
                      rotate_left
                      ·simp only [Act.put, List.setIfInBounds_toArray, List.set_cons_zero, List.set_cons_succ, i64_w, i32_w]
                       rfl
                      refine take_ (i := 17) (N := some 147) (v := ?_) (a' := ?_) #[true, true, true, true, true, true, true, true, true, true, true, true, true, true, true, true, true, true, false, false, false, false, false, false, false] rfl rfl (take_ofW HT_.out HW_.out (by as_aux_lemma => kernel_rfl)) (fun _ _ _ h => h) (Or.inl ⟨by rfl, ?_⟩) hHeld ?_ ?_
                      rotate_left
                      ·rintro w' ⟨s0, s1, s2, s3, s4, s5, s6, s7, s8, s9, s10, s11, s12, s13, s14, s15, s16⟩
                       go_simp
                       with_reducible rfl
                      rotate_left
                      ·simp only [Act.put, List.setIfInBounds_toArray, List.set_cons_zero, List.set_cons_succ, i64_w, i32_w]
                       rfl
                      refine pure_ (i := 18) (N := some 148) (v := ?_) (a' := ?_) #[true, true, true, true, true, true, true, true, true, true, true, true, true, true, true, true, true, true, true, false, false, false, false, false, false] rfl rfl (any_of HT_.out (by as_aux_lemma => kernel_rfl)) (fun _ _ _ h => h) (Or.inl ⟨by rfl, ?_⟩) ?_ ?_
                      rotate_left
                      ·intro w'
                       go_simp
                       with_reducible rfl
                      rotate_left
                      ·simp only [Act.put, List.setIfInBounds_toArray, List.set_cons_zero, List.set_cons_succ, i64_w, i32_w]
                       rfl
                      refine pure_ (i := 19) (N := some 149) (v := ?_) (a' := ?_) #[true, true, true, true, true, true, true, true, true, true, true, true, true, true, true, true, true, true, true, true, false, false, false, false, false] rfl rfl (any_of HT_.out (by as_aux_lemma => kernel_rfl)) (fun _ _ _ h => h) (Or.inl ⟨by rfl, ?_⟩) ?_ ?_
                      rotate_left
                      ·intro w'
                       go_simp
                       with_reducible rfl
                      rotate_left
                      ·simp only [Act.put, List.setIfInBounds_toArray, List.set_cons_zero, List.set_cons_succ, i64_w, i32_w]
                       rfl
                      refine take_ (i := 20) (N := some 150) (v := ?_) (a' := ?_) #[true, true, true, true, true, true, true, true, true, true, true, true, true, true, true, true, true, true, true, true, true, false, false, false, false] rfl rfl (take_ofW HT_.out HW_.out (by as_aux_lemma => kernel_rfl)) (fun _ _ _ h => h) (Or.inl ⟨by rfl, ?_⟩) hHeld ?_ ?_
                      rotate_left
                      ·rintro w' ⟨s0, s1, s2, s3, s4, s5, s6, s7, s8, s9, s10, s11, s12, s13, s14, s15, s16⟩
                       go_simp
                       with_reducible rfl
                      rotate_left
                      ·simp only [Act.put, List.setIfInBounds_toArray, List.set_cons_zero, List.set_cons_succ, i64_w, i32_w]
                       rfl
                      refine pure_ (i := 21) (N := some 151) (v := ?_) (a' := ?_) #[true, true, true, true, true, true, true, true, true, true, true, true, true, true, true, true, true, true, true, true, true, true, false, false, false] rfl rfl (any_of HT_.out (by as_aux_lemma => kernel_rfl)) (fun _ _ _ h => h) (Or.inl ⟨by rfl, ?_⟩) ?_ ?_
                      rotate_left
                      ·intro w'
                       go_simp
                       with_reducible rfl
                      rotate_left
                      ·simp only [Act.put, List.setIfInBounds_toArray, List.set_cons_zero, List.set_cons_succ, i64_w, i32_w]
                       rfl
                      refine pure_ (i := 22) (N := some 152) (v := ?_) (a' := ?_) #[true, true, true, true, true, true, true, true, true, true, true, true, true, true, true, true, true, true, true, true, true, true, true, false, false] rfl rfl (any_of HT_.out (by as_aux_lemma => kernel_rfl)) (fun _ _ _ h => h) (Or.inl ⟨by rfl, ?_⟩) ?_ ?_
                      rotate_left
                      ·intro w'
                       go_simp
                       with_reducible rfl
                      rotate_left
                      ·simp only [Act.put, List.setIfInBounds_toArray, List.set_cons_zero, List.set_cons_succ, i64_w, i32_w]
                       rfl
                      refine pure_ (i := 23) (N := some 153) (v := ?_) (a' := ?_) #[true, true, true, true, true, true, true, true, true, true, true, true, true, true, true, true, true, true, true, true, true, true, true, true, false] rfl rfl (any_of HT_.out (by as_aux_lemma => kernel_rfl)) (fun _ _ _ h => h) (Or.inl ⟨by rfl, ?_⟩) ?_ ?_
                      rotate_left
                      ·intro w'
                       go_simp
                       with_reducible rfl
                      rotate_left
                      ·simp only [Act.put, List.setIfInBounds_toArray, List.set_cons_zero, List.set_cons_succ, i64_w, i32_w]
                       rfl
                      refine pure_ (i := 24) (N := some 14) (v := ?_) (a' := ?_) #[true, true, true, true, true, true, true, true, true, true, true, true, true, true, true, true, true, true, true, true, true, true, true, true, true] rfl rfl (any_of HT_.out (by as_aux_lemma => kernel_rfl)) (fun _ _ _ h => h) (Or.inl ⟨by rfl, ?_⟩) ?_ ?_
                      rotate_left
                      ·intro w'
                       go_simp
                       with_reducible rfl
                      rotate_left
                      ·simp only [Act.put, List.setIfInBounds_toArray, List.set_cons_zero, List.set_cons_succ, i64_w, i32_w]
                       rfl
                      refine done_ (done_of HT_.out (by as_aux_lemma => kernel_rfl)) ?_
                      try go_wp2
                      go_roundg k5
                      case measure => have := HJ3.out; have := HK2.out; have := HK3.out; have := HK4.out; have := HK5.out; omega
                      case rel => as_aux_lemma => exact ⟨(((rd_T32 t544 x12_4).f2)), (wrap64 (x15_5 + 1)), zS, zS, H', ⟨by have := HJ3.out; have := HK2.out; have := HK3.out; have := HK4.out; have := HK5.out; omega⟩, ⟨by (with_reducible repeat (first | apply Kd.V_alloc | apply Kd.V_drewN | apply Kd.V_drew)); exact HO_537001.out⟩, ⟨by (with_reducible repeat (first | apply Kd.V_alloc | apply Kd.V_drewN | apply Kd.V_drew)); exact HO_537002.out⟩, ⟨zK BK536.out⟩, ⟨zK BK554.out⟩, ⟨zL HB.out⟩⟩
                    ·rw [if_neg c99] at H
                     have c99b0 : (((rd_T34 t541 x15_5).f1).toList == ((rd_T32 t544 x12_4).f1).toList) = false := beq_eq_false_iff_ne.mpr c99
                     have c99b1 : (((rd_T34 t541 x15_5).f1).toList != ((rd_T32 t544 x12_4).f1).toList) = true := bne_iff_ne.mpr c99
                     have H' := Aside0.mk H
                     clear H
                     have hnb108 := NB536_554.out
                     have hnc108 := NB554_536.out
                     obtain ⟨hcz109_0, hcz109_1, hcz109_2, hfz109_0, hfz109_1, hfz109_2⟩ := zC3 BK536.out
                     try go_wp2
                     have n0_ := Aside0.mk (Kd.V_drew HO_537001.out)
                     have n1_ := Aside0.mk (Kd.V_drew HO_537002.out)
                     have n2_ := Aside0.mk (blk_drew BK536.out)
                     have n3_ := Aside0.mk (blk_drew BK554.out)
                     have n4_ := Aside0.mk (below_drew1 HB.out)
                     clear HO_537001
                     clear HO_537002
                     clear BK536
                     clear BK554
                     clear HB
                     have HO_537001 := n0_
                     have HO_537002 := n1_
                     have BK536 := n2_
                     have BK554 := n3_
                     have HB := n4_
                     clear n0_ n1_ n2_ n3_ n4_
                     have p555 : 0 ≤ (x15_5 : Int) := zD
                     have q555 : x15_5 < (t541.length : Int) := zD
                     obtain ⟨ad555, e555, hx555_0, hx555_1, hx555_2, hx555_3, hx555_4⟩ := at_T34 (Kd.V_reads' HO_537001.out).2.2 x15_5 p555 q555
                     cases e555
                     replace p555 := eq_true p555
                     replace q555 := eq_true q555
                     refine start_ (n := 25) (S := fun w' => w'.cell? ⟨gb536, 0, none⟩ = some (.int .i64 t540) ∧ w'.cell? ⟨gb536, 1, none⟩ = some (.slice (some ad555) t541.length co19) ∧ w'.cell? ⟨gb536, 2, none⟩ = some (.slice (some ad553) t544.length co21) ∧ w'.cell? ⟨gb554, 0, none⟩ = some (.int .i64 ((rd_T32 t544 x12_4).f0)) ∧ w'.cell? ⟨gb554, 1, none⟩ = some (.string ((rd_T32 t544 x12_4).f1)) ∧ w'.cell? ⟨gb554, 2, none⟩ = some (.bool ((rd_T32 t544 x12_4).f2)) ∧ w'.cell? ⟨gb554, 3, none⟩ = some (.int .i64 ((rd_T32 t544 x12_4).f3)) ∧ w'.cell? (ad555.add ((x15_5).toNat * 5)) = some (.int .i64 ((rd_T34 t541 x15_5).f0)) ∧ w'.cell? ⟨(ad555.add ((x15_5).toNat * 5)).block, (ad555.add ((x15_5).toNat * 5)).off + 1, none⟩ = some (.string ((rd_T34 t541 x15_5).f1)) ∧ w'.cell? ⟨(ad555.add ((x15_5).toNat * 5)).block, (ad555.add ((x15_5).toNat * 5)).off + 2, none⟩ = some (.bool ((rd_T34 t541 x15_5).f2)) ∧ w'.cell? ⟨(ad555.add ((x15_5).toNat * 5)).block, (ad555.add ((x15_5).toNat * 5)).off + 3, none⟩ = some (.int .i64 ((rd_T34 t541 x15_5).f3)) ∧ w'.cell? ⟨(ad555.add ((x15_5).toNat * 5)).block, (ad555.add ((x15_5).toNat * 5)).off + 4, none⟩ = some (.int .i64 ((rd_T34 t541 x15_5).f4))) (ds := []) #[false, false, false, false, false, false, false, false, false, false, false, false, false, false, false, false, false, false, false, false, false, false, false, false, false] (by as_aux_lemma => kernel_rfl) rfl rfl ⟨(blk_cell BK536.out 0).trans rfl, (blk_cell BK536.out 1).trans rfl, (blk_cell BK536.out 2).trans rfl, (blk_cell BK554.out 0).trans rfl, (blk_cell BK554.out 1).trans rfl, (blk_cell BK554.out 2).trans rfl, (blk_cell BK554.out 3).trans rfl, hx555_0, hx555_1, hx555_2, hx555_3, hx555_4⟩ (fun hHeld => ?_); refine with_tabW cooperagelaw16_LeaseOne.tab30 cooperagelaw16_LeaseOne.bits30 (fun HT_ HW_ => ?_)
                     generalize wr.drew = w110 at HO_537001 HO_537002 BK536 BK554 HB hx555_0 hx555_1 hx555_2 hx555_3 hx555_4 hHeld ⊢
                     refine pure_ (i := 0) (N := some 130) (v := ?_) (a' := ?_) #[true, false, false, false, false, false, false, false, false, false, false, false, false, false, false, false, false, false, false, false, false, false, false, false, false] rfl rfl (any_of HT_.out (by as_aux_lemma => kernel_rfl)) (fun _ _ _ h => h) (Or.inl ⟨by rfl, ?_⟩) ?_ ?_
                     rotate_left
                     ·intro w'
                      go_simp
                      with_reducible rfl
                     rotate_left
                     ·simp only [Act.put, List.setIfInBounds_toArray, List.set_cons_zero, List.set_cons_succ, i64_w, i32_w]
                      rfl
                     refine pure_ (i := 1) (N := some 131) (v := ?_) (a' := ?_) #[true, true, false, false, false, false, false, false, false, false, false, false, false, false, false, false, false, false, false, false, false, false, false, false, false] rfl rfl (any_of HT_.out (by as_aux_lemma => kernel_rfl)) (fun _ _ _ h => h) (Or.inl ⟨by rfl, ?_⟩) ?_ ?_
                     rotate_left
                     ·intro w'
                      go_simp
                      with_reducible rfl
                     rotate_left
                     ·simp only [Act.put, List.setIfInBounds_toArray, List.set_cons_zero, List.set_cons_succ, i64_w, i32_w]
                      rfl
                     refine pure_ (i := 2) (N := some 132) (v := ?_) (a' := ?_) #[true, true, true, false, false, false, false, false, false, false, false, false, false, false, false, false, false, false, false, false, false, false, false, false, false] rfl rfl (any_of HT_.out (by as_aux_lemma => kernel_rfl)) (fun _ _ _ h => h) (Or.inl ⟨by rfl, ?_⟩) ?_ ?_
                     rotate_left
                     ·intro w'
                      go_simp
                      with_reducible rfl
                     rotate_left
                     ·simp only [Act.put, List.setIfInBounds_toArray, List.set_cons_zero, List.set_cons_succ, i64_w, i32_w]
                      rfl
                     refine pure_ (i := 4) (N := some 134) (v := ?_) (a' := ?_) #[true, true, true, false, true, false, false, false, false, false, false, false, false, false, false, false, false, false, false, false, false, false, false, false, false] rfl rfl (any_of HT_.out (by as_aux_lemma => kernel_rfl)) (fun _ _ _ h => h) (Or.inl ⟨by rfl, ?_⟩) ?_ ?_
                     rotate_left
                     ·intro w'
                      go_simp
                      with_reducible rfl
                     rotate_left
                     ·simp only [Act.put, List.setIfInBounds_toArray, List.set_cons_zero, List.set_cons_succ, i64_w, i32_w]
                      rfl
                     refine pure_ (i := 8) (N := some 138) (v := ?_) (a' := ?_) #[true, true, true, false, true, false, false, false, true, false, false, false, false, false, false, false, false, false, false, false, false, false, false, false, false] rfl rfl (any_of HT_.out (by as_aux_lemma => kernel_rfl)) (fun _ _ _ h => h) (Or.inl ⟨by rfl, ?_⟩) ?_ ?_
                     rotate_left
                     ·intro w'
                      go_simp
                      with_reducible rfl
                     rotate_left
                     ·simp only [Act.put, List.setIfInBounds_toArray, List.set_cons_zero, List.set_cons_succ, i64_w, i32_w]
                      rfl
                     refine take_ (i := 3) (N := some 133) (v := ?_) (a' := ?_) #[true, true, true, true, true, false, false, false, true, false, false, false, false, false, false, false, false, false, false, false, false, false, false, false, false] rfl rfl (take_ofW HT_.out HW_.out (by as_aux_lemma => kernel_rfl)) (fun _ _ _ h => h) (Or.inl ⟨by rfl, ?_⟩) hHeld ?_ ?_
                     rotate_left
                     ·rintro w' ⟨s0, s1, s2, s3, s4, s5, s6, s7, s8, s9, s10, s11⟩
                      go_simp
                      with_reducible rfl
                     rotate_left
                     ·simp only [Act.put, List.setIfInBounds_toArray, List.set_cons_zero, List.set_cons_succ, i64_w, i32_w]
                      rfl
                     refine pure_ (i := 5) (N := some 135) (v := ?_) (a' := ?_) #[true, true, true, true, true, true, false, false, true, false, false, false, false, false, false, false, false, false, false, false, false, false, false, false, false] rfl rfl (any_of HT_.out (by as_aux_lemma => kernel_rfl)) (fun _ _ _ h => h) (Or.inl ⟨by rfl, ?_⟩) ?_ ?_
                     rotate_left
                     ·intro w'
                      go_simp
                      with_reducible rfl
                     rotate_left
                     ·simp only [Act.put, List.setIfInBounds_toArray, List.set_cons_zero, List.set_cons_succ, i64_w, i32_w]
                      rfl
                     refine pure_ (i := 6) (N := some 136) (v := ?_) (a' := ?_) #[true, true, true, true, true, true, true, false, true, false, false, false, false, false, false, false, false, false, false, false, false, false, false, false, false] rfl rfl (any_of HT_.out (by as_aux_lemma => kernel_rfl)) (fun _ _ _ h => h) (Or.inl ⟨by rfl, ?_⟩) ?_ ?_
                     rotate_left
                     ·intro w'
                      go_simp
                      with_reducible rfl
                     rotate_left
                     ·simp only [Act.put, List.setIfInBounds_toArray, List.set_cons_zero, List.set_cons_succ, i64_w, i32_w]
                      rfl
                     refine take_ (i := 7) (N := some 137) (v := ?_) (a' := ?_) #[true, true, true, true, true, true, true, true, true, false, false, false, false, false, false, false, false, false, false, false, false, false, false, false, false] rfl rfl (take_ofW HT_.out HW_.out (by as_aux_lemma => kernel_rfl)) (fun _ _ _ h => h) (Or.inl ⟨by rfl, ?_⟩) hHeld ?_ ?_
                     rotate_left
                     ·rintro w' ⟨s0, s1, s2, s3, s4, s5, s6, s7, s8, s9, s10, s11⟩
                      go_simp
                      with_reducible rfl
                     rotate_left
                     ·simp only [Act.put, List.setIfInBounds_toArray, List.set_cons_zero, List.set_cons_succ, i64_w, i32_w]
                      rfl
                     refine take_ (i := 9) (N := some 139) (v := ?_) (a' := ?_) #[true, true, true, true, true, true, true, true, true, true, false, false, false, false, false, false, false, false, false, false, false, false, false, false, false] rfl rfl (take_ofW HT_.out HW_.out (by as_aux_lemma => kernel_rfl)) (fun _ _ _ h => h) (Or.inl ⟨by rfl, ?_⟩) hHeld ?_ ?_
                     rotate_left
                     ·rintro w' ⟨s0, s1, s2, s3, s4, s5, s6, s7, s8, s9, s10, s11⟩
                      go_simp
                      with_reducible rfl
                     rotate_left
                     ·simp only [Act.put, List.setIfInBounds_toArray, List.set_cons_zero, List.set_cons_succ, i64_w, i32_w]
                      rfl
                     refine pure_ (i := 10) (N := some 140) (v := ?_) (a' := ?_) #[true, true, true, true, true, true, true, true, true, true, true, false, false, false, false, false, false, false, false, false, false, false, false, false, false] rfl rfl (any_of HT_.out (by as_aux_lemma => kernel_rfl)) (fun _ _ _ h => h) (Or.inl ⟨by rfl, ?_⟩) ?_ ?_
                     rotate_left
                     ·intro w'
                      go_simp
                      with_reducible rfl
                     rotate_left
                     ·simp only [Act.put, List.setIfInBounds_toArray, List.set_cons_zero, List.set_cons_succ, i64_w, i32_w]
                      rfl
                     refine pure_ (i := 11) (N := some 141) (v := ?_) (a' := ?_) #[true, true, true, true, true, true, true, true, true, true, true, true, false, false, false, false, false, false, false, false, false, false, false, false, false] rfl rfl (any_of HT_.out (by as_aux_lemma => kernel_rfl)) (fun _ _ _ h => h) (Or.inl ⟨by rfl, ?_⟩) ?_ ?_
                     rotate_left
                     ·intro w'
                      go_simp
                      with_reducible rfl
                     rotate_left
                     ·simp only [Act.put, List.setIfInBounds_toArray, List.set_cons_zero, List.set_cons_succ, i64_w, i32_w]
                      rfl
                     refine pure_ (i := 12) (N := some 142) (v := undef) (a' := ?_) #[true, true, true, true, true, true, true, true, true, true, true, true, true, false, false, false, false, false, false, false, false, false, false, false, false] rfl rfl (any_of HT_.out (by as_aux_lemma => kernel_rfl)) (fun _ _ _ h => h) (Or.inr ⟨by rfl, rfl⟩) ?_ ?_
                     rotate_left
                     ·simp only [Act.put, List.setIfInBounds_toArray, List.set_cons_zero, List.set_cons_succ, i64_w, i32_w]
                      rfl
                     refine pure_ (i := 13) (N := some 143) (v := undef) (a' := ?_) #[true, true, true, true, true, true, true, true, true, true, true, true, true, true, false, false, false, false, false, false, false, false, false, false, false] rfl rfl (any_of HT_.out (by as_aux_lemma => kernel_rfl)) (fun _ _ _ h => h) (Or.inr ⟨by rfl, rfl⟩) ?_ ?_
                     rotate_left
                     ·simp only [Act.put, List.setIfInBounds_toArray, List.set_cons_zero, List.set_cons_succ, i64_w, i32_w]
                      rfl
                     refine pure_ (i := 14) (N := some 144) (v := undef) (a' := ?_) #[true, true, true, true, true, true, true, true, true, true, true, true, true, true, true, false, false, false, false, false, false, false, false, false, false] rfl rfl (any_of HT_.out (by as_aux_lemma => kernel_rfl)) (fun _ _ _ h => h) (Or.inr ⟨by rfl, rfl⟩) ?_ ?_
                     rotate_left
                     ·simp only [Act.put, List.setIfInBounds_toArray, List.set_cons_zero, List.set_cons_succ, i64_w, i32_w]
                      rfl
                     refine pure_ (i := 15) (N := some 145) (v := undef) (a' := ?_) #[true, true, true, true, true, true, true, true, true, true, true, true, true, true, true, true, false, false, false, false, false, false, false, false, false] rfl rfl (any_of HT_.out (by as_aux_lemma => kernel_rfl)) (fun _ _ _ h => h) (Or.inr ⟨by rfl, rfl⟩) ?_ ?_
                     rotate_left
                     ·simp only [Act.put, List.setIfInBounds_toArray, List.set_cons_zero, List.set_cons_succ, i64_w, i32_w]
                      rfl
                     refine pure_ (i := 16) (N := some 146) (v := undef) (a' := ?_) #[true, true, true, true, true, true, true, true, true, true, true, true, true, true, true, true, true, false, false, false, false, false, false, false, false] rfl rfl (any_of HT_.out (by as_aux_lemma => kernel_rfl)) (fun _ _ _ h => h) (Or.inr ⟨by rfl, rfl⟩) ?_ ?_
                     rotate_left
                     ·simp only [Act.put, List.setIfInBounds_toArray, List.set_cons_zero, List.set_cons_succ, i64_w, i32_w]
                      rfl
                     refine pure_ (i := 17) (N := some 147) (v := undef) (a' := ?_) #[true, true, true, true, true, true, true, true, true, true, true, true, true, true, true, true, true, true, false, false, false, false, false, false, false] rfl rfl (any_of HT_.out (by as_aux_lemma => kernel_rfl)) (fun _ _ _ h => h) (Or.inr ⟨by rfl, rfl⟩) ?_ ?_
                     rotate_left
                     ·simp only [Act.put, List.setIfInBounds_toArray, List.set_cons_zero, List.set_cons_succ, i64_w, i32_w]
                      rfl
                     refine pure_ (i := 18) (N := some 148) (v := undef) (a' := ?_) #[true, true, true, true, true, true, true, true, true, true, true, true, true, true, true, true, true, true, true, false, false, false, false, false, false] rfl rfl (any_of HT_.out (by as_aux_lemma => kernel_rfl)) (fun _ _ _ h => h) (Or.inr ⟨by rfl, rfl⟩) ?_ ?_
                     rotate_left
                     ·simp only [Act.put, List.setIfInBounds_toArray, List.set_cons_zero, List.set_cons_succ, i64_w, i32_w]
                      rfl
                     refine pure_ (i := 19) (N := some 149) (v := undef) (a' := ?_) #[true, true, true, true, true, true, true, true, true, true, true, true, true, true, true, true, true, true, true, true, false, false, false, false, false] rfl rfl (any_of HT_.out (by as_aux_lemma => kernel_rfl)) (fun _ _ _ h => h) (Or.inr ⟨by rfl, rfl⟩) ?_ ?_
                     rotate_left
                     ·simp only [Act.put, List.setIfInBounds_toArray, List.set_cons_zero, List.set_cons_succ, i64_w, i32_w]
                      rfl
                     refine pure_ (i := 20) (N := some 150) (v := undef) (a' := ?_) #[true, true, true, true, true, true, true, true, true, true, true, true, true, true, true, true, true, true, true, true, true, false, false, false, false] rfl rfl (any_of HT_.out (by as_aux_lemma => kernel_rfl)) (fun _ _ _ h => h) (Or.inr ⟨by rfl, rfl⟩) ?_ ?_
                     rotate_left
                     ·simp only [Act.put, List.setIfInBounds_toArray, List.set_cons_zero, List.set_cons_succ, i64_w, i32_w]
                      rfl
                     refine pure_ (i := 21) (N := some 151) (v := undef) (a' := ?_) #[true, true, true, true, true, true, true, true, true, true, true, true, true, true, true, true, true, true, true, true, true, true, false, false, false] rfl rfl (any_of HT_.out (by as_aux_lemma => kernel_rfl)) (fun _ _ _ h => h) (Or.inr ⟨by rfl, rfl⟩) ?_ ?_
                     rotate_left
                     ·simp only [Act.put, List.setIfInBounds_toArray, List.set_cons_zero, List.set_cons_succ, i64_w, i32_w]
                      rfl
                     refine pure_ (i := 22) (N := some 152) (v := ?_) (a' := ?_) #[true, true, true, true, true, true, true, true, true, true, true, true, true, true, true, true, true, true, true, true, true, true, true, false, false] rfl rfl (any_of HT_.out (by as_aux_lemma => kernel_rfl)) (fun _ _ _ h => h) (Or.inl ⟨by rfl, ?_⟩) ?_ ?_
                     rotate_left
                     ·intro w'
                      go_simp
                      with_reducible rfl
                     rotate_left
                     ·simp only [Act.put, List.setIfInBounds_toArray, List.set_cons_zero, List.set_cons_succ, i64_w, i32_w]
                      rfl
                     refine pure_ (i := 23) (N := some 153) (v := ?_) (a' := ?_) #[true, true, true, true, true, true, true, true, true, true, true, true, true, true, true, true, true, true, true, true, true, true, true, true, false] rfl rfl (any_of HT_.out (by as_aux_lemma => kernel_rfl)) (fun _ _ _ h => h) (Or.inl ⟨by rfl, ?_⟩) ?_ ?_
                     rotate_left
                     ·intro w'
                      go_simp
                      with_reducible rfl
                     rotate_left
                     ·simp only [Act.put, List.setIfInBounds_toArray, List.set_cons_zero, List.set_cons_succ, i64_w, i32_w]
                      rfl
                     refine pure_ (i := 24) (N := some 14) (v := ?_) (a' := ?_) #[true, true, true, true, true, true, true, true, true, true, true, true, true, true, true, true, true, true, true, true, true, true, true, true, true] rfl rfl (any_of HT_.out (by as_aux_lemma => kernel_rfl)) (fun _ _ _ h => h) (Or.inl ⟨by rfl, ?_⟩) ?_ ?_
                     rotate_left
                     ·intro w'
                      go_simp
                      with_reducible rfl
                     rotate_left
                     ·simp only [Act.put, List.setIfInBounds_toArray, List.set_cons_zero, List.set_cons_succ, i64_w, i32_w]
                      rfl
                     refine done_ (done_of HT_.out (by as_aux_lemma => kernel_rfl)) ?_
                     try go_wp2
                     go_roundg k5
                     case measure => have := HJ3.out; have := HK2.out; have := HK3.out; have := HK4.out; have := HK5.out; omega
                     case rel => as_aux_lemma => exact ⟨(false), (wrap64 (x15_5 + 1)), zS, zS, H', ⟨by have := HJ3.out; have := HK2.out; have := HK3.out; have := HK4.out; have := HK5.out; omega⟩, ⟨by (with_reducible repeat (first | apply Kd.V_alloc | apply Kd.V_drewN | apply Kd.V_drew)); exact HO_537001.out⟩, ⟨by (with_reducible repeat (first | apply Kd.V_alloc | apply Kd.V_drewN | apply Kd.V_drew)); exact HO_537002.out⟩, ⟨zK BK536.out⟩, ⟨zK BK554.out⟩, ⟨zL HB.out⟩⟩
                   ·rw [if_neg c98] at H
                    exact absurd H (by simp)
                 ·rw [if_neg c93] at H
                  have c93b0 : decide (x15_5 < (t541.length : Int)) = false := decide_eq_false c93
                  clear c93
                  have H' := Aside0.mk H
                  clear H
                  have hnb111 := NB536_554.out
                  have hnc111 := NB554_536.out
                  obtain ⟨hcz112_0, hcz112_1, hcz112_2, hfz112_0, hfz112_1, hfz112_2⟩ := zC3 BK536.out
                  go_wp2
                  go_loopg [14, 16] k5 (fun kq v14 v16 w' => ∃ (x14_6 : Bool) (x16_6 : Int), v14 = .bool x14_6 ∧ v16 = .int .i64 x16_6 ∧ Aside0 (cooperagelaw16_LeaseOne.l5 kq l0 (wrap64 (x6_2 + t538)) x7_2 x12_4 x14_6 x16_6 t540 t541 t544 ((rd_T32 t544 x12_4).f0) ((rd_T32 t544 x12_4).f1) ((rd_T32 t544 x12_4).f2) ((rd_T32 t544 x12_4).f3) = some r) ∧ Aside0 (kq ≤ k5) ∧ Aside0 (Kd.V k34 34 w' w.heap.size (fun k_ => k_ ≠ gb536 ∧ k_ ≠ gb554) (.slice Ao19 t541.length co19) t541) ∧ Aside0 (Kd.V k32 32 w' w.heap.size (fun k_ => k_ ≠ gb536 ∧ k_ ≠ gb554) (.slice (some ad553) t544.length co21) t544) ∧ Aside0 (w'.heap[gb536]? = some (.cells #[.int .i64 t540, (.slice Ao19 t541.length co19), (.slice (some ad553) t544.length co21)] 27 (0, 0))) ∧ Aside0 (w'.heap[gb554]? = some (.cells #[.int .i64 ((rd_T32 t544 x12_4).f0), .string ((rd_T32 t544 x12_4).f1), .bool ((rd_T32 t544 x12_4).f2), .int .i64 ((rd_T32 t544 x12_4).f3)] 32 (0, 0))) ∧ Aside0 (Below w.heap.size w w'))
                  case atStart => as_aux_lemma => exact ⟨(x14_5), (0), zS, zS, H', ⟨Nat.le_refl _⟩, ⟨by (with_reducible repeat (first | apply Kd.V_alloc | apply Kd.V_drewN | apply Kd.V_drew)); exact HO_537001.out⟩, ⟨by (with_reducible repeat (first | apply Kd.V_alloc | apply Kd.V_drewN | apply Kd.V_drew)); exact HO_537002.out⟩, ⟨zK BK536.out⟩, ⟨zK BK554.out⟩, ⟨zL HB.out⟩⟩
                  case round => as_aux_lemma =>
                   clear H'
                   try clear c1
                   try clear q1
                   try clear p2
                   try clear p5
                   try clear q5
                   try clear hx5
                   try clear p6
                   try clear c9
                   try clear c10
                   try clear q10
                   try clear c11
                   try clear p55
                   try clear q55
                   try clear hx55
                   try clear p64
                   try clear c93
                   try clear c93b0
                   try clear c98
                   try clear c99
                   try clear c99b0
                   try clear c99b1
                   try clear q100
                   try clear c101
                   try clear c105
                   try clear c108
                   try clear c111
                   try clear hcz106_0
                   try clear hcz106_1
                   try clear hcz106_2
                   try clear hcz109_0
                   try clear hcz109_1
                   try clear hcz109_2
                   try clear hcz112_0
                   try clear hcz112_1
                   try clear hcz112_2
                   try clear hfz106_0
                   try clear hfz106_1
                   try clear hfz106_2
                   try clear hfz109_0
                   try clear hfz109_1
                   try clear hfz109_2
                   try clear hfz112_0
                   try clear hfz112_1
                   try clear hfz112_2
                   try clear hx555_0
                   try clear hx555_1
                   try clear hx555_2
                   try clear hx555_3
                   try clear hx555_4
                   try clear hx556_0
                   try clear hx556_1
                   try clear hx556_2
                   try clear hx556_3
                   try clear hx556_4
                   try clear p555
                   try clear p556
                   try clear q555
                   try clear q556
                   obtain ⟨x14_6, x16_6, rfl, rfl, HA, HK6, HO_537001, HO_537002, BK536, BK554, HB⟩ := hrel
                   cases gk with
                   | zero => exact absurd HA.out (by simp [cooperagelaw16_LeaseOne.l5])
                   | succ k6 =>
                    have H := HA.out
                    clear HA
                    simp only [cooperagelaw16_LeaseOne.l5] at H
                    by_cases c113 : x16_6 < x12_4
                    ·rw [if_pos c113] at H
                     have c113b0 : decide (x16_6 < x12_4) = true := decide_eq_true c113
                     clear c113
                     have HC114 := Aside0.mk H
                     clear H
                     go_upto_region 34 with (fail)
                     go_cut [14] (fun v14 wc => ∃ (kq : Nat) (x14_113 : Bool), v14 = .bool x14_113 ∧ Aside0 (cooperagelaw16_LeaseOne.j8 kq l0 (wrap64 (x6_2 + t538)) x7_2 x12_4 x14_113 x16_6 t540 t541 t544 ((rd_T32 t544 x12_4).f0) ((rd_T32 t544 x12_4).f1) ((rd_T32 t544 x12_4).f2) ((rd_T32 t544 x12_4).f3) = some r) ∧ Aside0 (kq ≤ k6) ∧ Aside0 (Kd.V k34 34 wc w.heap.size (fun k_ => k_ ≠ gb536 ∧ k_ ≠ gb554) (.slice Ao19 t541.length co19) t541) ∧ Aside0 (Kd.V k32 32 wc w.heap.size (fun k_ => k_ ≠ gb536 ∧ k_ ≠ gb554) (.slice (some ad553) t544.length co21) t544) ∧ Aside0 (wc.heap[gb536]? = some (.cells #[.int .i64 t540, (.slice Ao19 t541.length co19), (.slice (some ad553) t544.length co21)] 27 (0, 0))) ∧ Aside0 (wc.heap[gb554]? = some (.cells #[.int .i64 ((rd_T32 t544 x12_4).f0), .string ((rd_T32 t544 x12_4).f1), .bool ((rd_T32 t544 x12_4).f2), .int .i64 ((rd_T32 t544 x12_4).f3)] 32 (0, 0))) ∧ Aside0 (Below w.heap.size w wc))
                     case first =>
                      have H := HC114.out
                      clear HC114
                      by_cases c115 : x14_6 = true
                      ·subst c115
                       have H1 : (cooperagelaw16_LeaseOne.j8 k6 l0 (wrap64 (x6_2 + t538)) x7_2 x12_4 true x16_6 t540 t541 t544 ((rd_T32 t544 x12_4).f0) ((rd_T32 t544 x12_4).f1) ((rd_T32 t544 x12_4).f2) ((rd_T32 t544 x12_4).f3)) = some r := by rw [if_pos rfl] at H; exact H
                       clear H
                       have H := H1
                       clear H1
                       have H' := Aside0.mk H
                       clear H
                       try go_wp2
                       have n0_ := Aside0.mk (Kd.V_drew HO_537001.out)
                       have n1_ := Aside0.mk (Kd.V_drew HO_537002.out)
                       have n2_ := Aside0.mk (blk_drew BK536.out)
                       have n3_ := Aside0.mk (blk_drew BK554.out)
                       have n4_ := Aside0.mk (below_drew1 HB.out)
                       clear HO_537001
                       clear HO_537002
                       clear BK536
                       clear BK554
                       clear HB
                       have HO_537001 := n0_
                       have HO_537002 := n1_
                       have BK536 := n2_
                       have BK554 := n3_
                       have HB := n4_
                       clear n0_ n1_ n2_ n3_ n4_
                       refine start_ (n := 13) (S := fun w' => True) (ds := []) #[false, false, false, false, false, false, false, false, false, false, false, false, false] (by as_aux_lemma => kernel_rfl) rfl rfl trivial (fun hHeld => ?_); refine with_tabW cooperagelaw16_LeaseOne.tab34 cooperagelaw16_LeaseOne.bits34 (fun HT_ HW_ => ?_)
                       generalize wr.drew = w116 at HO_537001 HO_537002 BK536 BK554 HB hHeld ⊢
                       refine pure_ (i := 0) (N := some 159) (v := ?_) (a' := ?_) #[true, false, false, false, false, false, false, false, false, false, false, false, false] rfl rfl (any_of HT_.out (by as_aux_lemma => kernel_rfl)) (fun _ _ _ h => h) (Or.inl ⟨by rfl, ?_⟩) ?_ ?_
                       rotate_left
                       ·intro w'
                        go_simp
                        with_reducible rfl
                       rotate_left
                       ·simp only [Act.put, List.setIfInBounds_toArray, List.set_cons_zero, List.set_cons_succ, i64_w, i32_w]
                        rfl
                       refine pure_ (i := 1) (N := some 160) (v := ?_) (a' := ?_) #[true, true, false, false, false, false, false, false, false, false, false, false, false] rfl rfl (any_of HT_.out (by as_aux_lemma => kernel_rfl)) (fun _ _ _ h => h) (Or.inl ⟨by rfl, ?_⟩) ?_ ?_
                       rotate_left
                       ·intro w'
                        go_simp
                        with_reducible rfl
                       rotate_left
                       ·simp only [Act.put, List.setIfInBounds_toArray, List.set_cons_zero, List.set_cons_succ, i64_w, i32_w]
                        rfl
                       refine pure_ (i := 2) (N := some 161) (v := undef) (a' := ?_) #[true, true, true, false, false, false, false, false, false, false, false, false, false] rfl rfl (any_of HT_.out (by as_aux_lemma => kernel_rfl)) (fun _ _ _ h => h) (Or.inr ⟨by rfl, rfl⟩) ?_ ?_
                       rotate_left
                       ·simp only [Act.put, List.setIfInBounds_toArray, List.set_cons_zero, List.set_cons_succ, i64_w, i32_w]
                        rfl
                       refine pure_ (i := 3) (N := some 162) (v := undef) (a' := ?_) #[true, true, true, true, false, false, false, false, false, false, false, false, false] rfl rfl (any_of HT_.out (by as_aux_lemma => kernel_rfl)) (fun _ _ _ h => h) (Or.inr ⟨by rfl, rfl⟩) ?_ ?_
                       rotate_left
                       ·simp only [Act.put, List.setIfInBounds_toArray, List.set_cons_zero, List.set_cons_succ, i64_w, i32_w]
                        rfl
                       refine pure_ (i := 4) (N := some 163) (v := undef) (a' := ?_) #[true, true, true, true, true, false, false, false, false, false, false, false, false] rfl rfl (any_of HT_.out (by as_aux_lemma => kernel_rfl)) (fun _ _ _ h => h) (Or.inr ⟨by rfl, rfl⟩) ?_ ?_
                       rotate_left
                       ·simp only [Act.put, List.setIfInBounds_toArray, List.set_cons_zero, List.set_cons_succ, i64_w, i32_w]
                        rfl
                       refine pure_ (i := 5) (N := some 164) (v := undef) (a' := ?_) #[true, true, true, true, true, true, false, false, false, false, false, false, false] rfl rfl (any_of HT_.out (by as_aux_lemma => kernel_rfl)) (fun _ _ _ h => h) (Or.inr ⟨by rfl, rfl⟩) ?_ ?_
                       rotate_left
                       ·simp only [Act.put, List.setIfInBounds_toArray, List.set_cons_zero, List.set_cons_succ, i64_w, i32_w]
                        rfl
                       refine pure_ (i := 6) (N := some 165) (v := undef) (a' := ?_) #[true, true, true, true, true, true, true, false, false, false, false, false, false] rfl rfl (any_of HT_.out (by as_aux_lemma => kernel_rfl)) (fun _ _ _ h => h) (Or.inr ⟨by rfl, rfl⟩) ?_ ?_
                       rotate_left
                       ·simp only [Act.put, List.setIfInBounds_toArray, List.set_cons_zero, List.set_cons_succ, i64_w, i32_w]
                        rfl
                       refine pure_ (i := 7) (N := some 166) (v := undef) (a' := ?_) #[true, true, true, true, true, true, true, true, false, false, false, false, false] rfl rfl (any_of HT_.out (by as_aux_lemma => kernel_rfl)) (fun _ _ _ h => h) (Or.inr ⟨by rfl, rfl⟩) ?_ ?_
                       rotate_left
                       ·simp only [Act.put, List.setIfInBounds_toArray, List.set_cons_zero, List.set_cons_succ, i64_w, i32_w]
                        rfl
                       refine pure_ (i := 8) (N := some 167) (v := undef) (a' := ?_) #[true, true, true, true, true, true, true, true, true, false, false, false, false] rfl rfl (any_of HT_.out (by as_aux_lemma => kernel_rfl)) (fun _ _ _ h => h) (Or.inr ⟨by rfl, rfl⟩) ?_ ?_
                       rotate_left
                       ·simp only [Act.put, List.setIfInBounds_toArray, List.set_cons_zero, List.set_cons_succ, i64_w, i32_w]
                        rfl
                       refine pure_ (i := 9) (N := some 168) (v := undef) (a' := ?_) #[true, true, true, true, true, true, true, true, true, true, false, false, false] rfl rfl (any_of HT_.out (by as_aux_lemma => kernel_rfl)) (fun _ _ _ h => h) (Or.inr ⟨by rfl, rfl⟩) ?_ ?_
                       rotate_left
                       ·simp only [Act.put, List.setIfInBounds_toArray, List.set_cons_zero, List.set_cons_succ, i64_w, i32_w]
                        rfl
                       refine pure_ (i := 10) (N := some 169) (v := undef) (a' := ?_) #[true, true, true, true, true, true, true, true, true, true, true, false, false] rfl rfl (any_of HT_.out (by as_aux_lemma => kernel_rfl)) (fun _ _ _ h => h) (Or.inr ⟨by rfl, rfl⟩) ?_ ?_
                       rotate_left
                       ·simp only [Act.put, List.setIfInBounds_toArray, List.set_cons_zero, List.set_cons_succ, i64_w, i32_w]
                        rfl
                       refine pure_ (i := 11) (N := some 170) (v := ?_) (a' := ?_) #[true, true, true, true, true, true, true, true, true, true, true, true, false] rfl rfl (any_of HT_.out (by as_aux_lemma => kernel_rfl)) (fun _ _ _ h => h) (Or.inl ⟨by rfl, ?_⟩) ?_ ?_
                       rotate_left
                       ·intro w'
                        go_simp
                        with_reducible rfl
                       rotate_left
                       ·simp only [Act.put, List.setIfInBounds_toArray, List.set_cons_zero, List.set_cons_succ, i64_w, i32_w]
                        rfl
                       refine pure_ (i := 12) (N := some 14) (v := ?_) (a' := ?_) #[true, true, true, true, true, true, true, true, true, true, true, true, true] rfl rfl (any_of HT_.out (by as_aux_lemma => kernel_rfl)) (fun _ _ _ h => h) (Or.inl ⟨by rfl, ?_⟩) ?_ ?_
                       rotate_left
                       ·intro w'
                        go_simp
                        with_reducible rfl
                       rotate_left
                       ·simp only [Act.put, List.setIfInBounds_toArray, List.set_cons_zero, List.set_cons_succ, i64_w, i32_w]
                        rfl
                       refine done_ (done_of HT_.out (by as_aux_lemma => kernel_rfl)) ?_
                       try go_wp2
                       go_meet
                       case rel => as_aux_lemma => exact ⟨_, (true), zS, H', ⟨by have := HJ3.out; have := HK2.out; have := HK3.out; have := HK4.out; have := HK5.out; have := HK6.out; first | omega | exact Nat.le_refl _⟩, ⟨by (with_reducible repeat (first | apply Kd.V_alloc | apply Kd.V_drewN | apply Kd.V_drew)); exact HO_537001.out⟩, ⟨by (with_reducible repeat (first | apply Kd.V_alloc | apply Kd.V_drewN | apply Kd.V_drew)); exact HO_537002.out⟩, ⟨zK BK536.out⟩, ⟨zK BK554.out⟩, ⟨zL HB.out⟩⟩
                      ·replace c115 := Bool.eq_false_iff.mpr c115
                       subst c115
                       have H1 : (if 0 ≤ x16_6 then (if x16_6 < (t544.length : Int) then (cooperagelaw16_LeaseOne.j8 k6 l0 (wrap64 (x6_2 + t538)) x7_2 x12_4 (((rd_T32 t544 x16_6).f1).toList == ((rd_T32 t544 x12_4).f1).toList) x16_6 t540 t541 t544 ((rd_T32 t544 x12_4).f0) ((rd_T32 t544 x12_4).f1) ((rd_T32 t544 x12_4).f2) ((rd_T32 t544 x12_4).f3)) else (none)) else (none)) = some r := by rw [if_neg (show ¬ (false = true) by decide)] at H; exact H
                       clear H
                       have H := H1
                       clear H1
                       by_cases c117 : 0 ≤ x16_6
                       ·rw [if_pos c117] at H
                        have c117b0 : decide (0 ≤ x16_6) = true := decide_eq_true c117
                        clear c117
                        (first | rw [c117b0] | (simp only [i64_w, i32_w]; rw [c117b0]) | skip)
                        by_cases c118 : x16_6 < (t544.length : Int)
                        ·rw [if_pos c118] at H
                         have c118b0 : decide (x16_6 < (t544.length : Int)) = true := decide_eq_true c118
                         clear c118
                         have H' := Aside0.mk H
                         clear H
                         try go_wp2
                         have n0_ := Aside0.mk (Kd.V_drew HO_537001.out)
                         have n1_ := Aside0.mk (Kd.V_drew HO_537002.out)
                         have n2_ := Aside0.mk (blk_drew BK536.out)
                         have n3_ := Aside0.mk (blk_drew BK554.out)
                         have n4_ := Aside0.mk (below_drew1 HB.out)
                         clear HO_537001
                         clear HO_537002
                         clear BK536
                         clear BK554
                         clear HB
                         have HO_537001 := n0_
                         have HO_537002 := n1_
                         have BK536 := n2_
                         have BK554 := n3_
                         have HB := n4_
                         clear n0_ n1_ n2_ n3_ n4_
                         have p557 : 0 ≤ (x16_6 : Int) := zD
                         have q557 : x16_6 < (t544.length : Int) := zD
                         obtain ⟨ad557, e557, hx557_0, hx557_1, hx557_2, hx557_3⟩ := at_T32 (Kd.V_reads' HO_537002.out).2.2 x16_6 p557 q557
                         obtain rfl : ad553 = ad557 := (by injection e557)
                         replace p557 := eq_true p557
                         replace q557 := eq_true q557
                         refine start_ (n := 13) (S := fun w' => w'.cell? ⟨gb536, 0, none⟩ = some (.int .i64 t540) ∧ w'.cell? ⟨gb536, 1, none⟩ = some (.slice Ao19 t541.length co19) ∧ w'.cell? ⟨gb536, 2, none⟩ = some (.slice (some ad553) t544.length co21) ∧ w'.cell? ⟨gb554, 0, none⟩ = some (.int .i64 ((rd_T32 t544 x12_4).f0)) ∧ w'.cell? ⟨gb554, 1, none⟩ = some (.string ((rd_T32 t544 x12_4).f1)) ∧ w'.cell? ⟨gb554, 2, none⟩ = some (.bool ((rd_T32 t544 x12_4).f2)) ∧ w'.cell? ⟨gb554, 3, none⟩ = some (.int .i64 ((rd_T32 t544 x12_4).f3)) ∧ w'.cell? (ad553.add ((x16_6).toNat * 4)) = some (.int .i64 ((rd_T32 t544 x16_6).f0)) ∧ w'.cell? ⟨(ad553.add ((x16_6).toNat * 4)).block, (ad553.add ((x16_6).toNat * 4)).off + 1, none⟩ = some (.string ((rd_T32 t544 x16_6).f1)) ∧ w'.cell? ⟨(ad553.add ((x16_6).toNat * 4)).block, (ad553.add ((x16_6).toNat * 4)).off + 2, none⟩ = some (.bool ((rd_T32 t544 x16_6).f2)) ∧ w'.cell? ⟨(ad553.add ((x16_6).toNat * 4)).block, (ad553.add ((x16_6).toNat * 4)).off + 3, none⟩ = some (.int .i64 ((rd_T32 t544 x16_6).f3))) (ds := []) #[false, false, false, false, false, false, false, false, false, false, false, false, false] (by as_aux_lemma => kernel_rfl) rfl rfl ⟨(blk_cell BK536.out 0).trans rfl, (blk_cell BK536.out 1).trans rfl, (blk_cell BK536.out 2).trans rfl, (blk_cell BK554.out 0).trans rfl, (blk_cell BK554.out 1).trans rfl, (blk_cell BK554.out 2).trans rfl, (blk_cell BK554.out 3).trans rfl, hx557_0, hx557_1, hx557_2, hx557_3⟩ (fun hHeld => ?_); refine with_tabW cooperagelaw16_LeaseOne.tab34 cooperagelaw16_LeaseOne.bits34 (fun HT_ HW_ => ?_)
                         generalize wr.drew = w119 at HO_537001 HO_537002 BK536 BK554 HB hx557_0 hx557_1 hx557_2 hx557_3 hHeld ⊢
                         refine pure_ (i := 0) (N := some 159) (v := ?_) (a' := ?_) #[true, false, false, false, false, false, false, false, false, false, false, false, false] rfl rfl (any_of HT_.out (by as_aux_lemma => kernel_rfl)) (fun _ _ _ h => h) (Or.inl ⟨by rfl, ?_⟩) ?_ ?_
                         rotate_left
                         ·intro w'
                          go_simp
                          with_reducible rfl
                         rotate_left
                         ·simp only [Act.put, List.setIfInBounds_toArray, List.set_cons_zero, List.set_cons_succ, i64_w, i32_w]
                          rfl
                         refine pure_ (i := 1) (N := some 160) (v := ?_) (a' := ?_) #[true, true, false, false, false, false, false, false, false, false, false, false, false] rfl rfl (any_of HT_.out (by as_aux_lemma => kernel_rfl)) (fun _ _ _ h => h) (Or.inl ⟨by rfl, ?_⟩) ?_ ?_
                         rotate_left
                         ·intro w'
                          go_simp
                          with_reducible rfl
                         rotate_left
                         ·simp only [Act.put, List.setIfInBounds_toArray, List.set_cons_zero, List.set_cons_succ, i64_w, i32_w]
                          rfl
                         refine pure_ (i := 2) (N := some 161) (v := ?_) (a' := ?_) #[true, true, true, false, false, false, false, false, false, false, false, false, false] rfl rfl (any_of HT_.out (by as_aux_lemma => kernel_rfl)) (fun _ _ _ h => h) (Or.inl ⟨by rfl, ?_⟩) ?_ ?_
                         rotate_left
                         ·intro w'
                          go_simp
                          with_reducible rfl
                         rotate_left
                         ·simp only [Act.put, List.setIfInBounds_toArray, List.set_cons_zero, List.set_cons_succ, i64_w, i32_w]
                          rfl
                         refine pure_ (i := 4) (N := some 163) (v := ?_) (a' := ?_) #[true, true, true, false, true, false, false, false, false, false, false, false, false] rfl rfl (any_of HT_.out (by as_aux_lemma => kernel_rfl)) (fun _ _ _ h => h) (Or.inl ⟨by rfl, ?_⟩) ?_ ?_
                         rotate_left
                         ·intro w'
                          go_simp
                          with_reducible rfl
                         rotate_left
                         ·simp only [Act.put, List.setIfInBounds_toArray, List.set_cons_zero, List.set_cons_succ, i64_w, i32_w]
                          rfl
                         refine pure_ (i := 8) (N := some 167) (v := ?_) (a' := ?_) #[true, true, true, false, true, false, false, false, true, false, false, false, false] rfl rfl (any_of HT_.out (by as_aux_lemma => kernel_rfl)) (fun _ _ _ h => h) (Or.inl ⟨by rfl, ?_⟩) ?_ ?_
                         rotate_left
                         ·intro w'
                          go_simp
                          with_reducible rfl
                         rotate_left
                         ·simp only [Act.put, List.setIfInBounds_toArray, List.set_cons_zero, List.set_cons_succ, i64_w, i32_w]
                          rfl
                         refine take_ (i := 3) (N := some 162) (v := ?_) (a' := ?_) #[true, true, true, true, true, false, false, false, true, false, false, false, false] rfl rfl (take_ofW HT_.out HW_.out (by as_aux_lemma => kernel_rfl)) (fun _ _ _ h => h) (Or.inl ⟨by rfl, ?_⟩) hHeld ?_ ?_
                         rotate_left
                         ·rintro w' ⟨s0, s1, s2, s3, s4, s5, s6, s7, s8, s9, s10⟩
                          go_simp
                          with_reducible rfl
                         rotate_left
                         ·simp only [Act.put, List.setIfInBounds_toArray, List.set_cons_zero, List.set_cons_succ, i64_w, i32_w]
                          rfl
                         refine pure_ (i := 5) (N := some 164) (v := ?_) (a' := ?_) #[true, true, true, true, true, true, false, false, true, false, false, false, false] rfl rfl (any_of HT_.out (by as_aux_lemma => kernel_rfl)) (fun _ _ _ h => h) (Or.inl ⟨by rfl, ?_⟩) ?_ ?_
                         rotate_left
                         ·intro w'
                          go_simp
                          with_reducible rfl
                         rotate_left
                         ·simp only [Act.put, List.setIfInBounds_toArray, List.set_cons_zero, List.set_cons_succ, i64_w, i32_w]
                          rfl
                         refine pure_ (i := 6) (N := some 165) (v := ?_) (a' := ?_) #[true, true, true, true, true, true, true, false, true, false, false, false, false] rfl rfl (any_of HT_.out (by as_aux_lemma => kernel_rfl)) (fun _ _ _ h => h) (Or.inl ⟨by rfl, ?_⟩) ?_ ?_
                         rotate_left
                         ·intro w'
                          go_simp
                          with_reducible rfl
                         rotate_left
                         ·simp only [Act.put, List.setIfInBounds_toArray, List.set_cons_zero, List.set_cons_succ, i64_w, i32_w]
                          rfl
                         refine take_ (i := 7) (N := some 166) (v := ?_) (a' := ?_) #[true, true, true, true, true, true, true, true, true, false, false, false, false] rfl rfl (take_ofW HT_.out HW_.out (by as_aux_lemma => kernel_rfl)) (fun _ _ _ h => h) (Or.inl ⟨by rfl, ?_⟩) hHeld ?_ ?_
                         rotate_left
                         ·rintro w' ⟨s0, s1, s2, s3, s4, s5, s6, s7, s8, s9, s10⟩
                          go_simp
                          with_reducible rfl
                         rotate_left
                         ·simp only [Act.put, List.setIfInBounds_toArray, List.set_cons_zero, List.set_cons_succ, i64_w, i32_w]
                          rfl
                         refine take_ (i := 9) (N := some 168) (v := ?_) (a' := ?_) #[true, true, true, true, true, true, true, true, true, true, false, false, false] rfl rfl (take_ofW HT_.out HW_.out (by as_aux_lemma => kernel_rfl)) (fun _ _ _ h => h) (Or.inl ⟨by rfl, ?_⟩) hHeld ?_ ?_
                         rotate_left
                         ·rintro w' ⟨s0, s1, s2, s3, s4, s5, s6, s7, s8, s9, s10⟩
                          go_simp
                          with_reducible rfl
                         rotate_left
                         ·simp only [Act.put, List.setIfInBounds_toArray, List.set_cons_zero, List.set_cons_succ, i64_w, i32_w]
                          rfl
                         refine pure_ (i := 10) (N := some 169) (v := ?_) (a' := ?_) #[true, true, true, true, true, true, true, true, true, true, true, false, false] rfl rfl (any_of HT_.out (by as_aux_lemma => kernel_rfl)) (fun _ _ _ h => h) (Or.inl ⟨by rfl, ?_⟩) ?_ ?_
                         rotate_left
                         ·intro w'
                          go_simp
                          with_reducible rfl
                         rotate_left
                         ·simp only [Act.put, List.setIfInBounds_toArray, List.set_cons_zero, List.set_cons_succ, i64_w, i32_w]
                          rfl
                         refine pure_ (i := 11) (N := some 170) (v := ?_) (a' := ?_) #[true, true, true, true, true, true, true, true, true, true, true, true, false] rfl rfl (any_of HT_.out (by as_aux_lemma => kernel_rfl)) (fun _ _ _ h => h) (Or.inl ⟨by rfl, ?_⟩) ?_ ?_
                         rotate_left
                         ·intro w'
                          go_simp
                          with_reducible rfl
                         rotate_left
                         ·simp only [Act.put, List.setIfInBounds_toArray, List.set_cons_zero, List.set_cons_succ, i64_w, i32_w]
                          rfl
                         refine pure_ (i := 12) (N := some 14) (v := ?_) (a' := ?_) #[true, true, true, true, true, true, true, true, true, true, true, true, true] rfl rfl (any_of HT_.out (by as_aux_lemma => kernel_rfl)) (fun _ _ _ h => h) (Or.inl ⟨by rfl, ?_⟩) ?_ ?_
                         rotate_left
                         ·intro w'
                          go_simp
                          with_reducible rfl
                         rotate_left
                         ·simp only [Act.put, List.setIfInBounds_toArray, List.set_cons_zero, List.set_cons_succ, i64_w, i32_w]
                          rfl
                         refine done_ (done_of HT_.out (by as_aux_lemma => kernel_rfl)) ?_
                         try go_wp2
                         go_meet
                         case rel => as_aux_lemma => exact ⟨_, ((((rd_T32 t544 x16_6).f1).toList == ((rd_T32 t544 x12_4).f1).toList)), zS, H', ⟨by have := HJ3.out; have := HK2.out; have := HK3.out; have := HK4.out; have := HK5.out; have := HK6.out; first | omega | exact Nat.le_refl _⟩, ⟨by (with_reducible repeat (first | apply Kd.V_alloc | apply Kd.V_drewN | apply Kd.V_drew)); exact HO_537001.out⟩, ⟨by (with_reducible repeat (first | apply Kd.V_alloc | apply Kd.V_drewN | apply Kd.V_drew)); exact HO_537002.out⟩, ⟨zK BK536.out⟩, ⟨zK BK554.out⟩, ⟨zL HB.out⟩⟩
                        ·rw [if_neg c118] at H
                         exact absurd H (by simp)
                       ·rw [if_neg c117] at H
                        exact absurd H (by simp)
                     case rest =>
                      clear HC114
                      try clear c1
                      try clear q1
                      try clear p2
                      try clear p5
                      try clear q5
                      try clear hx5
                      try clear p6
                      try clear c9
                      try clear c10
                      try clear q10
                      try clear c11
                      try clear p55
                      try clear q55
                      try clear hx55
                      try clear p64
                      try clear c93
                      try clear c93b0
                      try clear c98
                      try clear c99
                      try clear c99b0
                      try clear c99b1
                      try clear q100
                      try clear c101
                      try clear c105
                      try clear c108
                      try clear c111
                      try clear c113
                      try clear c113b0
                      try clear c115
                      try clear c117
                      try clear c117b0
                      try clear c118
                      try clear c118b0
                      try clear hcz106_0
                      try clear hcz106_1
                      try clear hcz106_2
                      try clear hcz109_0
                      try clear hcz109_1
                      try clear hcz109_2
                      try clear hcz112_0
                      try clear hcz112_1
                      try clear hcz112_2
                      try clear hfz106_0
                      try clear hfz106_1
                      try clear hfz106_2
                      try clear hfz109_0
                      try clear hfz109_1
                      try clear hfz109_2
                      try clear hfz112_0
                      try clear hfz112_1
                      try clear hfz112_2
                      try clear hx555_0
                      try clear hx555_1
                      try clear hx555_2
                      try clear hx555_3
                      try clear hx555_4
                      try clear hx556_0
                      try clear hx556_1
                      try clear hx556_2
                      try clear hx556_3
                      try clear hx556_4
                      try clear hx557_0
                      try clear hx557_1
                      try clear hx557_2
                      try clear hx557_3
                      try clear p2
                      try clear p5
                      try clear p55
                      try clear p555
                      try clear p556
                      try clear p557
                      try clear p6
                      try clear p64
                      try clear q1
                      try clear q10
                      try clear q100
                      try clear q5
                      try clear q55
                      try clear q555
                      try clear q556
                      try clear q557
                      obtain ⟨kq, x14_113, rfl, HA, HJ113, HO_537001, HO_537002, BK536, BK554, HB⟩ := hcut
                      cases kq with
                      | zero => exact absurd HA.out (by simp [cooperagelaw16_LeaseOne.j8])
                      | succ kj113 =>
                       have H := HA.out
                       clear HA
                       simp only [cooperagelaw16_LeaseOne.j8] at H
                       by_cases c120 : 0 ≤ x16_6
                       ·rw [if_pos c120] at H
                        have c120b0 : decide (0 ≤ x16_6) = true := decide_eq_true c120
                        clear c120
                        by_cases c121 : x16_6 < (t544.length : Int)
                        ·rw [if_pos c121] at H
                         have c121b0 : decide (x16_6 < (t544.length : Int)) = true := decide_eq_true c121
                         clear c121
                         by_cases c122 : ((rd_T32 t544 x16_6).f0) = ((rd_T32 t544 x12_4).f0)
                         ·rw [if_pos c122] at H
                          have c122b0 : (((rd_T32 t544 x16_6).f0) == ((rd_T32 t544 x12_4).f0)) = true := beq_iff_eq.mpr c122
                          have c122b1 : (((rd_T32 t544 x16_6).f0) != ((rd_T32 t544 x12_4).f0)) = false := bne_eq_false_iff_eq.mpr c122
                          clear c122
                          obtain rfl := Option.some.inj H
                          try go_wp2
                          have n0_ := Aside0.mk (Kd.V_drew HO_537001.out)
                          have n1_ := Aside0.mk (Kd.V_drew HO_537002.out)
                          have n2_ := Aside0.mk (blk_drew BK536.out)
                          have n3_ := Aside0.mk (blk_drew BK554.out)
                          have n4_ := Aside0.mk (below_drew1 HB.out)
                          clear HO_537001
                          clear HO_537002
                          clear BK536
                          clear BK554
                          clear HB
                          have HO_537001 := n0_
                          have HO_537002 := n1_
                          have BK536 := n2_
                          have BK554 := n3_
                          have HB := n4_
                          clear n0_ n1_ n2_ n3_ n4_
                          have p558 : 0 ≤ (x16_6 : Int) := zD
                          have q558 : x16_6 < (t544.length : Int) := zD
                          obtain ⟨ad558, e558, hx558_0, hx558_1, hx558_2, hx558_3⟩ := at_T32 (Kd.V_reads' HO_537002.out).2.2 x16_6 p558 q558
                          obtain rfl : ad553 = ad558 := (by injection e558)
                          replace p558 := eq_true p558
                          replace q558 := eq_true q558
                          refine start_ (n := 9) (S := fun w' => w'.cell? ⟨gb536, 0, none⟩ = some (.int .i64 t540) ∧ w'.cell? ⟨gb536, 1, none⟩ = some (.slice Ao19 t541.length co19) ∧ w'.cell? ⟨gb536, 2, none⟩ = some (.slice (some ad553) t544.length co21) ∧ w'.cell? ⟨gb554, 0, none⟩ = some (.int .i64 ((rd_T32 t544 x12_4).f0)) ∧ w'.cell? ⟨gb554, 1, none⟩ = some (.string ((rd_T32 t544 x12_4).f1)) ∧ w'.cell? ⟨gb554, 2, none⟩ = some (.bool ((rd_T32 t544 x12_4).f2)) ∧ w'.cell? ⟨gb554, 3, none⟩ = some (.int .i64 ((rd_T32 t544 x12_4).f3)) ∧ w'.cell? (ad553.add ((x16_6).toNat * 4)) = some (.int .i64 ((rd_T32 t544 x16_6).f0)) ∧ w'.cell? ⟨(ad553.add ((x16_6).toNat * 4)).block, (ad553.add ((x16_6).toNat * 4)).off + 1, none⟩ = some (.string ((rd_T32 t544 x16_6).f1)) ∧ w'.cell? ⟨(ad553.add ((x16_6).toNat * 4)).block, (ad553.add ((x16_6).toNat * 4)).off + 2, none⟩ = some (.bool ((rd_T32 t544 x16_6).f2)) ∧ w'.cell? ⟨(ad553.add ((x16_6).toNat * 4)).block, (ad553.add ((x16_6).toNat * 4)).off + 3, none⟩ = some (.int .i64 ((rd_T32 t544 x16_6).f3))) (ds := []) #[false, false, false, false, false, false, false, false, false] (by as_aux_lemma => kernel_rfl) rfl rfl ⟨(blk_cell BK536.out 0).trans rfl, (blk_cell BK536.out 1).trans rfl, (blk_cell BK536.out 2).trans rfl, (blk_cell BK554.out 0).trans rfl, (blk_cell BK554.out 1).trans rfl, (blk_cell BK554.out 2).trans rfl, (blk_cell BK554.out 3).trans rfl, hx558_0, hx558_1, hx558_2, hx558_3⟩ (fun hHeld => ?_); refine with_tabW cooperagelaw16_LeaseOne.tab35 cooperagelaw16_LeaseOne.bits35 (fun HT_ HW_ => ?_)
                          generalize wc.drew = w123 at HO_537001 HO_537002 BK536 BK554 HB hx558_0 hx558_1 hx558_2 hx558_3 hHeld ⊢
                          refine pure_ (i := 0) (N := some 171) (v := ?_) (a' := ?_) #[true, false, false, false, false, false, false, false, false] rfl rfl (any_of HT_.out (by as_aux_lemma => kernel_rfl)) (fun _ _ _ h => h) (Or.inl ⟨by rfl, ?_⟩) ?_ ?_
                          rotate_left
                          ·intro w'
                           go_simp
                           with_reducible rfl
                          rotate_left
                          ·simp only [Act.put, List.setIfInBounds_toArray, List.set_cons_zero, List.set_cons_succ, i64_w, i32_w]
                           rfl
                          refine pure_ (i := 2) (N := some 173) (v := ?_) (a' := ?_) #[true, false, true, false, false, false, false, false, false] rfl rfl (any_of HT_.out (by as_aux_lemma => kernel_rfl)) (fun _ _ _ h => h) (Or.inl ⟨by rfl, ?_⟩) ?_ ?_
                          rotate_left
                          ·intro w'
                           go_simp
                           with_reducible rfl
                          rotate_left
                          ·simp only [Act.put, List.setIfInBounds_toArray, List.set_cons_zero, List.set_cons_succ, i64_w, i32_w]
                           rfl
                          refine pure_ (i := 6) (N := some 177) (v := ?_) (a' := ?_) #[true, false, true, false, false, false, true, false, false] rfl rfl (any_of HT_.out (by as_aux_lemma => kernel_rfl)) (fun _ _ _ h => h) (Or.inl ⟨by rfl, ?_⟩) ?_ ?_
                          rotate_left
                          ·intro w'
                           go_simp
                           with_reducible rfl
                          rotate_left
                          ·simp only [Act.put, List.setIfInBounds_toArray, List.set_cons_zero, List.set_cons_succ, i64_w, i32_w]
                           rfl
                          refine take_ (i := 1) (N := some 172) (v := ?_) (a' := ?_) #[true, true, true, false, false, false, true, false, false] rfl rfl (take_ofW HT_.out HW_.out (by as_aux_lemma => kernel_rfl)) (fun _ _ _ h => h) (Or.inl ⟨by rfl, ?_⟩) hHeld ?_ ?_
                          rotate_left
                          ·rintro w' ⟨s0, s1, s2, s3, s4, s5, s6, s7, s8, s9, s10⟩
                           go_simp
                           with_reducible rfl
                          rotate_left
                          ·simp only [Act.put, List.setIfInBounds_toArray, List.set_cons_zero, List.set_cons_succ, i64_w, i32_w]
                           rfl
                          refine pure_ (i := 3) (N := some 174) (v := ?_) (a' := ?_) #[true, true, true, true, false, false, true, false, false] rfl rfl (any_of HT_.out (by as_aux_lemma => kernel_rfl)) (fun _ _ _ h => h) (Or.inl ⟨by rfl, ?_⟩) ?_ ?_
                          rotate_left
                          ·intro w'
                           go_simp
                           with_reducible rfl
                          rotate_left
                          ·simp only [Act.put, List.setIfInBounds_toArray, List.set_cons_zero, List.set_cons_succ, i64_w, i32_w]
                           rfl
                          refine pure_ (i := 4) (N := some 175) (v := ?_) (a' := ?_) #[true, true, true, true, true, false, true, false, false] rfl rfl (any_of HT_.out (by as_aux_lemma => kernel_rfl)) (fun _ _ _ h => h) (Or.inl ⟨by rfl, ?_⟩) ?_ ?_
                          rotate_left
                          ·intro w'
                           go_simp
                           with_reducible rfl
                          rotate_left
                          ·simp only [Act.put, List.setIfInBounds_toArray, List.set_cons_zero, List.set_cons_succ, i64_w, i32_w]
                           rfl
                          refine take_ (i := 5) (N := some 176) (v := ?_) (a' := ?_) #[true, true, true, true, true, true, true, false, false] rfl rfl (take_ofW HT_.out HW_.out (by as_aux_lemma => kernel_rfl)) (fun _ _ _ h => h) (Or.inl ⟨by rfl, ?_⟩) hHeld ?_ ?_
                          rotate_left
                          ·rintro w' ⟨s0, s1, s2, s3, s4, s5, s6, s7, s8, s9, s10⟩
                           go_simp
                           with_reducible rfl
                          rotate_left
                          ·simp only [Act.put, List.setIfInBounds_toArray, List.set_cons_zero, List.set_cons_succ, i64_w, i32_w]
                           rfl
                          refine take_ (i := 7) (N := some 178) (v := ?_) (a' := ?_) #[true, true, true, true, true, true, true, true, false] rfl rfl (take_ofW HT_.out HW_.out (by as_aux_lemma => kernel_rfl)) (fun _ _ _ h => h) (Or.inl ⟨by rfl, ?_⟩) hHeld ?_ ?_
                          rotate_left
                          ·rintro w' ⟨s0, s1, s2, s3, s4, s5, s6, s7, s8, s9, s10⟩
                           go_simp
                           with_reducible rfl
                          rotate_left
                          ·simp only [Act.put, List.setIfInBounds_toArray, List.set_cons_zero, List.set_cons_succ, i64_w, i32_w]
                           rfl
                          refine pure_ (i := 8) (N := some 179) (v := ?_) (a' := ?_) #[true, true, true, true, true, true, true, true, true] rfl rfl (any_of HT_.out (by as_aux_lemma => kernel_rfl)) (fun _ _ _ h => h) (Or.inl ⟨by rfl, ?_⟩) ?_ ?_
                          rotate_left
                          ·intro w'
                           go_simp
                           with_reducible rfl
                          rotate_left
                          ·simp only [Act.put, List.setIfInBounds_toArray, List.set_cons_zero, List.set_cons_succ, i64_w, i32_w]
                           rfl
                          refine done_ (done_of HT_.out (by as_aux_lemma => kernel_rfl)) ?_
                          try go_wp2
                          go_ret
                          exact ⟨zE, zL HB.out⟩
                         ·rw [if_neg c122] at H
                          have c122b0 : (((rd_T32 t544 x16_6).f0) == ((rd_T32 t544 x12_4).f0)) = false := beq_eq_false_iff_ne.mpr c122
                          have c122b1 : (((rd_T32 t544 x16_6).f0) != ((rd_T32 t544 x12_4).f0)) = true := bne_iff_ne.mpr c122
                          have H' := Aside0.mk H
                          clear H
                          try go_wp2
                          have n0_ := Aside0.mk (Kd.V_drew HO_537001.out)
                          have n1_ := Aside0.mk (Kd.V_drew HO_537002.out)
                          have n2_ := Aside0.mk (blk_drew BK536.out)
                          have n3_ := Aside0.mk (blk_drew BK554.out)
                          have n4_ := Aside0.mk (below_drew1 HB.out)
                          clear HO_537001
                          clear HO_537002
                          clear BK536
                          clear BK554
                          clear HB
                          have HO_537001 := n0_
                          have HO_537002 := n1_
                          have BK536 := n2_
                          have BK554 := n3_
                          have HB := n4_
                          clear n0_ n1_ n2_ n3_ n4_
                          have p558 : 0 ≤ (x16_6 : Int) := zD
                          have q558 : x16_6 < (t544.length : Int) := zD
                          obtain ⟨ad558, e558, hx558_0, hx558_1, hx558_2, hx558_3⟩ := at_T32 (Kd.V_reads' HO_537002.out).2.2 x16_6 p558 q558
                          obtain rfl : ad553 = ad558 := (by injection e558)
                          replace p558 := eq_true p558
                          replace q558 := eq_true q558
                          refine start_ (n := 9) (S := fun w' => w'.cell? ⟨gb536, 0, none⟩ = some (.int .i64 t540) ∧ w'.cell? ⟨gb536, 1, none⟩ = some (.slice Ao19 t541.length co19) ∧ w'.cell? ⟨gb536, 2, none⟩ = some (.slice (some ad553) t544.length co21) ∧ w'.cell? ⟨gb554, 0, none⟩ = some (.int .i64 ((rd_T32 t544 x12_4).f0)) ∧ w'.cell? ⟨gb554, 1, none⟩ = some (.string ((rd_T32 t544 x12_4).f1)) ∧ w'.cell? ⟨gb554, 2, none⟩ = some (.bool ((rd_T32 t544 x12_4).f2)) ∧ w'.cell? ⟨gb554, 3, none⟩ = some (.int .i64 ((rd_T32 t544 x12_4).f3)) ∧ w'.cell? (ad553.add ((x16_6).toNat * 4)) = some (.int .i64 ((rd_T32 t544 x16_6).f0)) ∧ w'.cell? ⟨(ad553.add ((x16_6).toNat * 4)).block, (ad553.add ((x16_6).toNat * 4)).off + 1, none⟩ = some (.string ((rd_T32 t544 x16_6).f1)) ∧ w'.cell? ⟨(ad553.add ((x16_6).toNat * 4)).block, (ad553.add ((x16_6).toNat * 4)).off + 2, none⟩ = some (.bool ((rd_T32 t544 x16_6).f2)) ∧ w'.cell? ⟨(ad553.add ((x16_6).toNat * 4)).block, (ad553.add ((x16_6).toNat * 4)).off + 3, none⟩ = some (.int .i64 ((rd_T32 t544 x16_6).f3))) (ds := []) #[false, false, false, false, false, false, false, false, false] (by as_aux_lemma => kernel_rfl) rfl rfl ⟨(blk_cell BK536.out 0).trans rfl, (blk_cell BK536.out 1).trans rfl, (blk_cell BK536.out 2).trans rfl, (blk_cell BK554.out 0).trans rfl, (blk_cell BK554.out 1).trans rfl, (blk_cell BK554.out 2).trans rfl, (blk_cell BK554.out 3).trans rfl, hx558_0, hx558_1, hx558_2, hx558_3⟩ (fun hHeld => ?_); refine with_tabW cooperagelaw16_LeaseOne.tab35 cooperagelaw16_LeaseOne.bits35 (fun HT_ HW_ => ?_)
                          generalize wc.drew = w124 at HO_537001 HO_537002 BK536 BK554 HB hx558_0 hx558_1 hx558_2 hx558_3 hHeld ⊢
                          refine pure_ (i := 0) (N := some 171) (v := ?_) (a' := ?_) #[true, false, false, false, false, false, false, false, false] rfl rfl (any_of HT_.out (by as_aux_lemma => kernel_rfl)) (fun _ _ _ h => h) (Or.inl ⟨by rfl, ?_⟩) ?_ ?_
                          rotate_left
                          ·intro w'
                           go_simp
                           with_reducible rfl
                          rotate_left
                          ·simp only [Act.put, List.setIfInBounds_toArray, List.set_cons_zero, List.set_cons_succ, i64_w, i32_w]
                           rfl
                          refine pure_ (i := 2) (N := some 173) (v := ?_) (a' := ?_) #[true, false, true, false, false, false, false, false, false] rfl rfl (any_of HT_.out (by as_aux_lemma => kernel_rfl)) (fun _ _ _ h => h) (Or.inl ⟨by rfl, ?_⟩) ?_ ?_
                          rotate_left
                          ·intro w'
                           go_simp
                           with_reducible rfl
                          rotate_left
                          ·simp only [Act.put, List.setIfInBounds_toArray, List.set_cons_zero, List.set_cons_succ, i64_w, i32_w]
                           rfl
                          refine pure_ (i := 6) (N := some 177) (v := ?_) (a' := ?_) #[true, false, true, false, false, false, true, false, false] rfl rfl (any_of HT_.out (by as_aux_lemma => kernel_rfl)) (fun _ _ _ h => h) (Or.inl ⟨by rfl, ?_⟩) ?_ ?_
                          rotate_left
                          ·intro w'
                           go_simp
                           with_reducible rfl
                          rotate_left
                          ·simp only [Act.put, List.setIfInBounds_toArray, List.set_cons_zero, List.set_cons_succ, i64_w, i32_w]
                           rfl
                          refine take_ (i := 1) (N := some 172) (v := ?_) (a' := ?_) #[true, true, true, false, false, false, true, false, false] rfl rfl (take_ofW HT_.out HW_.out (by as_aux_lemma => kernel_rfl)) (fun _ _ _ h => h) (Or.inl ⟨by rfl, ?_⟩) hHeld ?_ ?_
                          rotate_left
                          ·rintro w' ⟨s0, s1, s2, s3, s4, s5, s6, s7, s8, s9, s10⟩
                           go_simp
                           with_reducible rfl
                          rotate_left
                          ·simp only [Act.put, List.setIfInBounds_toArray, List.set_cons_zero, List.set_cons_succ, i64_w, i32_w]
                           rfl
                          refine pure_ (i := 3) (N := some 174) (v := ?_) (a' := ?_) #[true, true, true, true, false, false, true, false, false] rfl rfl (any_of HT_.out (by as_aux_lemma => kernel_rfl)) (fun _ _ _ h => h) (Or.inl ⟨by rfl, ?_⟩) ?_ ?_
                          rotate_left
                          ·intro w'
                           go_simp
                           with_reducible rfl
                          rotate_left
                          ·simp only [Act.put, List.setIfInBounds_toArray, List.set_cons_zero, List.set_cons_succ, i64_w, i32_w]
                           rfl
                          refine pure_ (i := 4) (N := some 175) (v := ?_) (a' := ?_) #[true, true, true, true, true, false, true, false, false] rfl rfl (any_of HT_.out (by as_aux_lemma => kernel_rfl)) (fun _ _ _ h => h) (Or.inl ⟨by rfl, ?_⟩) ?_ ?_
                          rotate_left
                          ·intro w'
                           go_simp
                           with_reducible rfl
                          rotate_left
                          ·simp only [Act.put, List.setIfInBounds_toArray, List.set_cons_zero, List.set_cons_succ, i64_w, i32_w]
                           rfl
                          refine take_ (i := 5) (N := some 176) (v := ?_) (a' := ?_) #[true, true, true, true, true, true, true, false, false] rfl rfl (take_ofW HT_.out HW_.out (by as_aux_lemma => kernel_rfl)) (fun _ _ _ h => h) (Or.inl ⟨by rfl, ?_⟩) hHeld ?_ ?_
                          rotate_left
                          ·rintro w' ⟨s0, s1, s2, s3, s4, s5, s6, s7, s8, s9, s10⟩
                           go_simp
                           with_reducible rfl
                          rotate_left
                          ·simp only [Act.put, List.setIfInBounds_toArray, List.set_cons_zero, List.set_cons_succ, i64_w, i32_w]
                           rfl
                          refine take_ (i := 7) (N := some 178) (v := ?_) (a' := ?_) #[true, true, true, true, true, true, true, true, false] rfl rfl (take_ofW HT_.out HW_.out (by as_aux_lemma => kernel_rfl)) (fun _ _ _ h => h) (Or.inl ⟨by rfl, ?_⟩) hHeld ?_ ?_
                          rotate_left
                          ·rintro w' ⟨s0, s1, s2, s3, s4, s5, s6, s7, s8, s9, s10⟩
                           go_simp
                           with_reducible rfl
                          rotate_left
                          ·simp only [Act.put, List.setIfInBounds_toArray, List.set_cons_zero, List.set_cons_succ, i64_w, i32_w]
                           rfl
                          refine pure_ (i := 8) (N := some 179) (v := ?_) (a' := ?_) #[true, true, true, true, true, true, true, true, true] rfl rfl (any_of HT_.out (by as_aux_lemma => kernel_rfl)) (fun _ _ _ h => h) (Or.inl ⟨by rfl, ?_⟩) ?_ ?_
                          rotate_left
                          ·intro w'
                           go_simp
                           with_reducible rfl
                          rotate_left
                          ·simp only [Act.put, List.setIfInBounds_toArray, List.set_cons_zero, List.set_cons_succ, i64_w, i32_w]
                           rfl
                          refine done_ (done_of HT_.out (by as_aux_lemma => kernel_rfl)) ?_
                          try go_wp2
                          go_roundg kj113
                          case measure => have := HJ3.out; have := HK2.out; have := HK3.out; have := HK4.out; have := HK5.out; have := HK6.out; have := HJ113.out; omega
                          case rel => as_aux_lemma => exact ⟨(x14_113), (wrap64 (x16_6 + 1)), zS, zS, H', ⟨by have := HJ3.out; have := HK2.out; have := HK3.out; have := HK4.out; have := HK5.out; have := HK6.out; have := HJ113.out; omega⟩, ⟨by (with_reducible repeat (first | apply Kd.V_alloc | apply Kd.V_drewN | apply Kd.V_drew)); exact HO_537001.out⟩, ⟨by (with_reducible repeat (first | apply Kd.V_alloc | apply Kd.V_drewN | apply Kd.V_drew)); exact HO_537002.out⟩, ⟨zK BK536.out⟩, ⟨zK BK554.out⟩, ⟨zL HB.out⟩⟩
                        ·rw [if_neg c121] at H
                         exact absurd H (by simp)
                       ·rw [if_neg c120] at H
                        exact absurd H (by simp)
                    ·rw [if_neg c113] at H
                     have c113b0 : decide (x16_6 < x12_4) = false := decide_eq_false c113
                     clear c113
                     replace H := Option.bind_eq_some_iff.mp H
                     obtain ⟨⟨t559, t560, t561, t562, t563, t564⟩, A1250, H⟩ := H
                     replace H : (if x14_6 = true then (cooperagelaw16_LeaseOne.j9 k6 l0 (wrap64 (x6_2 + t538)) x7_2 x12_4 t564 t540 t541 t544) else (cooperagelaw16_LeaseOne.j9 k6 l0 (wrap64 (x6_2 + t538)) x7_2 x12_4 true t540 t541 t544)) = some r := H
                     have A125 := Aside0.mk A1250
                     clear A1250
                     have HC126 := Aside0.mk H
                     clear H
                     have hnb127 := NB536_554.out
                     have hnc127 := NB554_536.out
                     obtain ⟨hcz128_0, hcz128_1, hcz128_2, hfz128_0, hfz128_1, hfz128_2⟩ := zC3 BK536.out
                     obtain ⟨hcz129_0, hcz129_1, hcz129_2, hcz129_3, hfz129_0, hfz129_1, hfz129_2, hfz129_3⟩ := zC4 BK554.out
                     go_upto_region 38 with (first | ((with_reducible refine gate_callee (f := 14) rfl ?_); refine goesL_ (some 186) rfl rfl Tryd.func14 (by as_aux_lemma => kernel_rfl) rfl #[.agg #[.int .i64 t540, .slice Ao19 t541.length co19, .slice (some ad553) t544.length co21], .int .i64 ((rd_T32 t544 x12_4).f0), .string ((rd_T32 t544 x12_4).f1)] rfl zA ?_; (with_reducible refine (lease_Held.calls k6 t540 _ _ t541 _ _ t544 ((rd_T32 t544 x12_4).f0) ((rd_T32 t544 x12_4).f1) t559 t560 t561 t562 t563 t564 _ ?side1 ?side2 ?side3 ?side4 A125.out).mono ?_); (case side1 => repeat (first | exact (Kd.V_reads' HO_537001.out).2.2 | (with_reducible refine Kd.C_alloc ?_ _) | (with_reducible refine Kd.C_drewN ?_ _) | (with_reducible refine Kd.C_drew ?_))); (case side2 => exact (Kd.V_reads' HO_537001.out).2.1); (case side3 => repeat (first | exact (Kd.V_reads' HO_537002.out).2.2 | (with_reducible refine Kd.C_alloc ?_ _) | (with_reducible refine Kd.C_drewN ?_ _) | (with_reducible refine Kd.C_drew ?_))); (case side4 => exact (Kd.V_reads' HO_537002.out).2.1); rintro e w130 ⟨rfl, hb⟩; refine ⟨_, rfl, ?_⟩; have n0_ := Aside0.mk (Kd.V_below (zV HO_537001.out) hb); have n1_ := Aside0.mk (Kd.V_below (zV HO_537002.out) hb); have n2_ := Aside0.mk (blk_below (g := gb536) (o := .cells #[.int .i64 t540, .slice Ao19 t541.length co19, .slice (some ad553) t544.length co21] 27 (0, 0)) (zK BK536.out) hb); have n3_ := Aside0.mk (blk_below (g := gb554) (o := .cells #[.int .i64 ((rd_T32 t544 x12_4).f0), .string ((rd_T32 t544 x12_4).f1), .bool ((rd_T32 t544 x12_4).f2), .int .i64 ((rd_T32 t544 x12_4).f3)] 32 (0, 0)) (zK BK554.out) hb); have n4_ := Aside0.mk (below_step (zL HB.out) hb); revert n0_ n1_ n2_ n3_ n4_; clear HO_537001 HO_537002 BK536 BK554 HB; intro HO_537001 HO_537002 BK536 BK554 HB; (try clear hb); (try clear hb2); (try clear hk); (try clear hi)) | ((with_reducible refine gate_dst (N := 17) rfl ?_); refine box_event ?hg (N := 17) ?hd (cs := #[.int .i64 0, .string (⟨#[]⟩ : ByteArray), .bool false, .int .i64 0, .int .i64 0]) (t := 34) ?hr ?_; (case hd => rfl); (case hg => rfl); (case hr => first | (go_simp; done) | (go_simp; rfl)); intro gb565 hg w131 hbox hb; have n0_ := Aside0.mk (Kd.V_below (Kd.V_elderB (zV HO_537001.out) gb565 (Nat.le_of_eq hg.symm)) hb); have n1_ := Aside0.mk (Kd.V_below (Kd.V_elderB (zV HO_537002.out) gb565 (Nat.le_of_eq hg.symm)) hb); have n2_ := Aside0.mk (blk_below (g := gb536) (o := .cells #[.int .i64 t540, .slice Ao19 t541.length co19, .slice (some ad553) t544.length co21] 27 (0, 0)) (zK BK536.out) hb); have n3_ := Aside0.mk (blk_below (g := gb554) (o := .cells #[.int .i64 ((rd_T32 t544 x12_4).f0), .string ((rd_T32 t544 x12_4).f1), .bool ((rd_T32 t544 x12_4).f2), .int .i64 ((rd_T32 t544 x12_4).f3)] 32 (0, 0)) (zK BK554.out) hb); have n4_ := Aside0.mk (below_step (zL HB.out) hb); have n5_ := Aside0.mk (hbox); have n6_ := Aside0.mk (zG hg (zL HB.out)); have n7_ := Aside0.mk (zG hg (zL HB.out)); have n8_ := Aside0.mk (zN (g := gb536) (o := .cells #[.int .i64 t540, .slice Ao19 t541.length co19, .slice (some ad553) t544.length co21] 27 (0, 0)) hg (zK BK536.out)); have n9_ := Aside0.mk (zO (g := gb536) (o := .cells #[.int .i64 t540, .slice Ao19 t541.length co19, .slice (some ad553) t544.length co21] 27 (0, 0)) hg (zK BK536.out)); have n10_ := Aside0.mk (zN (g := gb554) (o := .cells #[.int .i64 ((rd_T32 t544 x12_4).f0), .string ((rd_T32 t544 x12_4).f1), .bool ((rd_T32 t544 x12_4).f2), .int .i64 ((rd_T32 t544 x12_4).f3)] 32 (0, 0)) hg (zK BK554.out)); have n11_ := Aside0.mk (zO (g := gb554) (o := .cells #[.int .i64 ((rd_T32 t544 x12_4).f0), .string ((rd_T32 t544 x12_4).f1), .bool ((rd_T32 t544 x12_4).f2), .int .i64 ((rd_T32 t544 x12_4).f3)] 32 (0, 0)) hg (zK BK554.out)); revert n0_ n1_ n2_ n3_ n4_ n5_ n6_ n7_ n8_ n9_ n10_ n11_; clear HO_537001 HO_537002 BK536 BK554 HB; intro HO_537001 HO_537002 BK536 BK554 HB BK565 GW565 GE565 NB536_565 NB565_536 NB554_565 NB565_554; clear hb hbox hg; have hnb132 := NB565_536.out; have hnc132 := NB536_565.out; have hnb133 := NB565_554.out; have hnc133 := NB554_565.out; obtain ⟨hcz134_0, hcz134_1, hcz134_2, hcz134_3, hcz134_4, hfz134_0, hfz134_1, hfz134_2, hfz134_3, hfz134_4⟩ := zC5 BK565.out))
                     (try simp only [Act.put, List.setIfInBounds_toArray, List.set_cons_zero, List.set_cons_succ])
                     go_cut [193] (fun v193 wc => ∃ (kq : Nat) (x193_125 : Bool), v193 = .bool x193_125 ∧ Aside0 (cooperagelaw16_LeaseOne.j9 kq l0 (wrap64 (x6_2 + t538)) x7_2 x12_4 x193_125 t540 t541 t544 = some r) ∧ Aside0 (kq ≤ k6) ∧ Aside0 (Kd.V k34 34 wc w.heap.size (fun k_ => k_ ≠ gb536 ∧ k_ ≠ gb554 ∧ k_ ≠ gb565) (.slice Ao19 t541.length co19) t541) ∧ Aside0 (Kd.V k32 32 wc w.heap.size (fun k_ => k_ ≠ gb536 ∧ k_ ≠ gb554 ∧ k_ ≠ gb565) (.slice (some ad553) t544.length co21) t544) ∧ Aside0 (wc.heap[gb536]? = some (.cells #[.int .i64 t540, (.slice Ao19 t541.length co19), (.slice (some ad553) t544.length co21)] 27 (0, 0))) ∧ Aside0 (wc.heap[gb554]? = some (.cells #[.int .i64 ((rd_T32 t544 x12_4).f0), .string ((rd_T32 t544 x12_4).f1), .bool ((rd_T32 t544 x12_4).f2), .int .i64 ((rd_T32 t544 x12_4).f3)] 32 (0, 0))) ∧ Aside0 (wc.heap[gb565]? = some (.cells #[.int .i64 t559, .string t560, .bool t561, .int .i64 t562, .int .i64 t563] 34 (0, 0))) ∧ Aside0 (Below w.heap.size w wc))
                     case first =>
                      have H := HC126.out
                      clear HC126
                      by_cases c135 : x14_6 = true
                      ·subst c135
                       have H1 : (cooperagelaw16_LeaseOne.j9 k6 l0 (wrap64 (x6_2 + t538)) x7_2 x12_4 t564 t540 t541 t544) = some r := by rw [if_pos rfl] at H; exact H
                       clear H
                       have H := H1
                       clear H1
                       have H' := Aside0.mk H
                       clear H
                       go_wp2
                       go_meet
                       case rel => as_aux_lemma => exact ⟨_, (t564), zS, H', ⟨by have := HJ3.out; have := HK2.out; have := HK3.out; have := HK4.out; have := HK5.out; have := HK6.out; first | omega | exact Nat.le_refl _⟩, ⟨by (with_reducible repeat (first | apply Kd.V_alloc | apply Kd.V_drewN | apply Kd.V_drew)); exact Kd.V_mono (zNV HO_537001.out (g := gb565) (fun _ hk => hk.2)) (fun _ hk => ⟨hk.1.1.1, ⟨hk.1.1.2, hk.1.2⟩⟩)⟩, ⟨by (with_reducible repeat (first | apply Kd.V_alloc | apply Kd.V_drewN | apply Kd.V_drew)); exact Kd.V_mono (zNV HO_537002.out (g := gb565) (fun _ hk => hk.2)) (fun _ hk => ⟨hk.1.1.1, ⟨hk.1.1.2, hk.1.2⟩⟩)⟩, ⟨zK BK536.out⟩, ⟨zK BK554.out⟩, ⟨zP5 BK565.out⟩, ⟨zL HB.out⟩⟩
                      ·replace c135 := Bool.eq_false_iff.mpr c135
                       subst c135
                       have H1 : (cooperagelaw16_LeaseOne.j9 k6 l0 (wrap64 (x6_2 + t538)) x7_2 x12_4 true t540 t541 t544) = some r := by rw [if_neg (show ¬ (false = true) by decide)] at H; exact H
                       clear H
                       have H := H1
                       clear H1
                       have H' := Aside0.mk H
                       clear H
                       go_wp2
                       go_meet
                       case rel => as_aux_lemma => exact ⟨_, (true), zS, H', ⟨by have := HJ3.out; have := HK2.out; have := HK3.out; have := HK4.out; have := HK5.out; have := HK6.out; first | omega | exact Nat.le_refl _⟩, ⟨by (with_reducible repeat (first | apply Kd.V_alloc | apply Kd.V_drewN | apply Kd.V_drew)); exact Kd.V_mono (zNV HO_537001.out (g := gb565) (fun _ hk => hk.2)) (fun _ hk => ⟨hk.1.1.1, ⟨hk.1.1.2, hk.1.2⟩⟩)⟩, ⟨by (with_reducible repeat (first | apply Kd.V_alloc | apply Kd.V_drewN | apply Kd.V_drew)); exact Kd.V_mono (zNV HO_537002.out (g := gb565) (fun _ hk => hk.2)) (fun _ hk => ⟨hk.1.1.1, ⟨hk.1.1.2, hk.1.2⟩⟩)⟩, ⟨zK BK536.out⟩, ⟨zK BK554.out⟩, ⟨zP5 BK565.out⟩, ⟨zL HB.out⟩⟩
                     case rest =>
                      clear HC126
                      try clear c1
                      try clear q1
                      try clear p2
                      try clear p5
                      try clear q5
                      try clear hx5
                      try clear p6
                      try clear c9
                      try clear c10
                      try clear q10
                      try clear c11
                      try clear c12
                      try clear c13
                      try clear c14
                      try clear p55
                      try clear q55
                      try clear hx55
                      try clear p64
                      try clear c93
                      try clear c93b0
                      try clear c98
                      try clear c99
                      try clear c99b0
                      try clear c99b1
                      try clear q100
                      try clear c101
                      try clear c105
                      try clear c108
                      try clear c111
                      try clear c113
                      try clear c113b0
                      try clear c115
                      try clear c117
                      try clear c117b0
                      try clear c118
                      try clear c118b0
                      try clear c120
                      try clear c120b0
                      try clear c121
                      try clear c121b0
                      try clear c122
                      try clear c122b0
                      try clear c122b1
                      try clear c127
                      try clear c132
                      try clear c133
                      try clear c135
                      try clear hcz106_0
                      try clear hcz106_1
                      try clear hcz106_2
                      try clear hcz109_0
                      try clear hcz109_1
                      try clear hcz109_2
                      try clear hcz112_0
                      try clear hcz112_1
                      try clear hcz112_2
                      try clear hcz128_0
                      try clear hcz128_1
                      try clear hcz128_2
                      try clear hcz129_0
                      try clear hcz129_1
                      try clear hcz129_2
                      try clear hcz129_3
                      try clear hcz134_0
                      try clear hcz134_1
                      try clear hcz134_2
                      try clear hcz134_3
                      try clear hcz134_4
                      try clear hfz106_0
                      try clear hfz106_1
                      try clear hfz106_2
                      try clear hfz109_0
                      try clear hfz109_1
                      try clear hfz109_2
                      try clear hfz112_0
                      try clear hfz112_1
                      try clear hfz112_2
                      try clear hfz128_0
                      try clear hfz128_1
                      try clear hfz128_2
                      try clear hfz129_0
                      try clear hfz129_1
                      try clear hfz129_2
                      try clear hfz129_3
                      try clear hfz134_0
                      try clear hfz134_1
                      try clear hfz134_2
                      try clear hfz134_3
                      try clear hfz134_4
                      try clear hx555_0
                      try clear hx555_1
                      try clear hx555_2
                      try clear hx555_3
                      try clear hx555_4
                      try clear hx556_0
                      try clear hx556_1
                      try clear hx556_2
                      try clear hx556_3
                      try clear hx556_4
                      try clear hx557_0
                      try clear hx557_1
                      try clear hx557_2
                      try clear hx557_3
                      try clear hx558_0
                      try clear hx558_1
                      try clear hx558_2
                      try clear hx558_3
                      try clear p2
                      try clear p5
                      try clear p55
                      try clear p555
                      try clear p556
                      try clear p557
                      try clear p558
                      try clear p6
                      try clear p64
                      try clear q1
                      try clear q10
                      try clear q100
                      try clear q5
                      try clear q55
                      try clear q555
                      try clear q556
                      try clear q557
                      try clear q558
                      obtain ⟨kq, x193_125, rfl, HA, HJ125, HO_537001, HO_537002, BK536, BK554, BK565, HB⟩ := hcut
                      cases kq with
                      | zero => exact absurd HA.out (by simp [cooperagelaw16_LeaseOne.j9])
                      | succ kj125 =>
                       have H := HA.out
                       clear HA
                       simp only [cooperagelaw16_LeaseOne.j9] at H
                       by_cases c136 : x193_125 = true
                       ·subst c136
                        have H1 : (some false) = some r := by rw [if_pos rfl] at H; exact H
                        clear H
                        have H := H1
                        clear H1
                        obtain rfl := Option.some.inj H
                        go_wp2
                        go_ret
                        exact ⟨zE, zL HB.out⟩
                       ·replace c136 := Bool.eq_false_iff.mpr c136
                        subst c136
                        have H1 : (cooperagelaw16_LeaseOne.l3 kj125 l0 (wrap64 (x6_2 + t538)) x7_2 (wrap64 (x12_4 + 1)) t540 t541 t544) = some r := by rw [if_neg (show ¬ (false = true) by decide)] at H; exact H
                        clear H
                        have H := H1
                        clear H1
                        have H' := Aside0.mk H
                        clear H
                        go_wp2
                        go_roundg kj125
                        case measure => have := HJ3.out; have := HK2.out; have := HK3.out; have := HK4.out; have := HK5.out; have := HK6.out; have := HJ125.out; omega
                        case rel => as_aux_lemma => exact ⟨(wrap64 (x12_4 + 1)), zS, H', ⟨by have := HJ3.out; have := HK2.out; have := HK3.out; have := HK4.out; have := HK5.out; have := HK6.out; have := HJ125.out; omega⟩, ⟨by (with_reducible repeat (first | apply Kd.V_alloc | apply Kd.V_drewN | apply Kd.V_drew)); exact Kd.V_mono HO_537001.out (fun _ hk => hk.1)⟩, ⟨by (with_reducible repeat (first | apply Kd.V_alloc | apply Kd.V_drewN | apply Kd.V_drew)); exact Kd.V_mono HO_537002.out (fun _ hk => hk.1)⟩, ⟨zK BK536.out⟩, ⟨zL HB.out⟩⟩
              ·rw [if_neg c88] at H
               exact absurd H (by simp)
             ·rw [if_neg c87] at H
              have c87b0 : decide (x12_4 < (t544.length : Int)) = false := decide_eq_false c87
              clear c87
              have H' := Aside0.mk H
              clear H
              obtain ⟨hcz137_0, hcz137_1, hcz137_2, hfz137_0, hfz137_1, hfz137_2⟩ := zC3 BK536.out
              go_wp2
              go_roundg k4
              case measure => have := HJ3.out; have := HK2.out; have := HK3.out; have := HK4.out; omega
              case rel => as_aux_lemma => exact ⟨((wrap64 (x6_2 + t538))), (wrap64 (x7_2 + 1)), (t540), (t541), (t544), (.slice Ao19 t541.length co19), (.slice Ao21 t544.length co21), zS, zS, H', ⟨by have := HJ3.out; have := HK2.out; have := HK3.out; have := HK4.out; omega⟩, ⟨by (with_reducible repeat (first | apply Kd.V_alloc | apply Kd.V_drewN | apply Kd.V_drew)); exact HO_537001.out⟩, ⟨by (with_reducible repeat (first | apply Kd.V_alloc | apply Kd.V_drewN | apply Kd.V_drew)); exact HO_537002.out⟩, ⟨zK BK536.out⟩, ⟨zL HB.out⟩⟩
       ·rw [if_neg c11] at H
        exact absurd H (by simp)
      ·rw [if_neg c10] at H
       have c10b0 : decide (x7_2 < (l0.length : Int)) = false := decide_eq_false c10
       clear c10
       obtain rfl := Option.some.inj H
       go_wp2
       go_ret
       exact ⟨zE, zL HB.out⟩

/-- THE ONE PURE STATEMENT of cooperagelaw16_LeaseOne. -/
def cooperagelaw16_LeaseOne.Pure : Prop := ∀ (l0 : List (S52)), l0.length ≤ 9223372036854775807 → l0.length * 64 ≤ 140737488351232 → (∀ x ∈ l0, (Lit.int .i64 x.f0).wf = true ∧ (Lit.int .i64 x.f1).wf = true ∧ (Lit.int .i64 x.f2).wf = true ∧ (Lit.int .i64 x.f3).wf = true ∧ (Lit.int .i64 x.f4).wf = true ∧ x.f5.size ≤ 9223372036854775807) → ∃ k, cooperagelaw16_LeaseOne.f k l0 = some true
theorem cooperagelaw16_LeaseOne.walk (P : cooperagelaw16_LeaseOne.Pure) (A0 : Option Addr) (c0 : Nat) (l0 : List (S52)) (w : World) (r0 : Kd.C k52 w A0 l0.length l0) (q0 : l0.length ≤ c0) (m0 : l0.length ≤ 9223372036854775807) (y0 : l0.length * 64 ≤ 140737488351232) (e0 : ∀ x ∈ l0, (Lit.int .i64 x.f0).wf = true ∧ (Lit.int .i64 x.f1).wf = true ∧ (Lit.int .i64 x.f2).wf = true ∧ (Lit.int .i64 x.f3).wf = true ∧ (Lit.int .i64 x.f4).wf = true ∧ x.f5.size ≤ 9223372036854775807) :
  Calls Tryd.prog 6 #[.slice A0 l0.length c0] w fun e w' => e = .returned (.bool true) ∧ Below w.heap.size w w' := by
 obtain ⟨k, h⟩ := P l0 m0 y0 e0
 refine (cooperagelaw16_LeaseOne.calls k _ _ l0 true w r0 q0 h).mono ?_
 rintro e w' ⟨rfl, hd⟩
 exact ⟨rfl, hd⟩

end Go.Proofs.YtgcghjkaomgloaaDoor.PLease
