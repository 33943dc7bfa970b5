-- Written by a program of this session (wip/tools/ext.py, over the kit's printer); not trusted: Lean checks it.
import Derived.Test.YtjdadmjomjhpcaaDoorPLeasex10
namespace Go.Proofs.YtjdadmjomjhpcaaDoor.PLease
open Go.RowKit Go.Proofs.YtjdadmjomjhpcaaDoorW.PrintWords Go.Proofs.YtjdadmjomjhpcaaDoorW.PrintLast Go.Proofs.YtjdadmjomjhpcaaDoorW.PrintMore
attribute [local go_sem] max2_int min2_int max_two min_two max_three min_three max_four min_four
set_option linter.unusedVariables false
set_option linter.unusedSimpArgs false
set_option maxHeartbeats 8000000
set_option maxRecDepth 100000

/-! ### cooperageref16_Leave: function 23 -/
mutual
def cooperageref16_Leave.l0 : Nat → Int → Int → Int → Int → List (S45) → List (S52) → Int → List (S45) → Option (Int × (List (S45)) × (List (S52)))
 | 0, _, _, _, _, _, _, _, _ => none
 | k + 1, x1, x2, x8, x595000, x595001, x595002, x598000, x598001 => if x8 < (x595001.length : Int) then (if 0 ≤ x8 then (if ((rd_T45 x595001 x8).f0) = x1 then (cooperageref16_Leave.l0 k x1 x2 (wrap64 (x8 + 1)) x595000 x595001 x595002 x598000 x598001) else (if x598001.length < 2932031007402 then (cooperageref16_Leave.l0 k x1 x2 (wrap64 (x8 + 1)) x595000 x595001 x595002 x598000 (x598001 ++ [(⟨(rd_T45 x595001 x8).f0, (rd_T45 x595001 x8).f1, (rd_T45 x595001 x8).f2, (rd_T45 x595001 x8).f3, (rd_T45 x595001 x8).f4⟩ : S45)])) else (none))) else (none)) else (cooperageref16_Leave.l1 k x1 x2 0 x595000 x595001 x595002 x598000 x598001 ([] : List (S52)))
def cooperageref16_Leave.l1 : Nat → Int → Int → Int → Int → List (S45) → List (S52) → Int → List (S45) → List (S52) → Option (Int × (List (S45)) × (List (S52)))
 | 0, _, _, _, _, _, _, _, _, _ => none
 | k + 1, x1, x2, x9, x595000, x595001, x595002, x598000, x598001, x598002 => if x9 < (x595002.length : Int) then (if 0 ≤ x9 then (if ((rd_T52 x595002 x9).f0) = x1 then (cooperageref16_Leave.l1 k x1 x2 (wrap64 (x9 + 1)) x595000 x595001 x595002 x598000 x598001 x598002) else (if x598002.length < 3518437208883 then (cooperageref16_Leave.l1 k x1 x2 (wrap64 (x9 + 1)) x595000 x595001 x595002 x598000 x598001 (x598002 ++ [(⟨(rd_T52 x595002 x9).f0, (rd_T52 x595002 x9).f1, (rd_T52 x595002 x9).f2, (rd_T52 x595002 x9).f3⟩ : S52)])) else (none))) else (none)) else ((cooperageref16_settle.f k x598000 x598001 x598002 x2).bind fun bt608 => (some (bt608.1, bt608.2.1, bt608.2.2)))
end
def cooperageref16_Leave.f (k : Nat) (a0_0 : Int) (l0_1 : List (S45)) (l0_2 : List (S52)) (a1 : Int) (a2 : Int) : Option (Int × (List (S45)) × (List (S52))) := (cooperageref16_time.f a2).bind fun t596 => (if t596 = true then (cooperageref16_Leave.l0 k a1 a2 0 a0_0 l0_1 l0_2 a0_0 ([] : List (S45))) else (some (a0_0, l0_1, l0_2)))
theorem cooperageref16_Leave.mono_l : ∀ k, (∀ y0 y1 y2 y3 y4 y5 y6 y7, LeO (cooperageref16_Leave.l0 k y0 y1 y2 y3 y4 y5 y6 y7) (cooperageref16_Leave.l0 (k + 1) y0 y1 y2 y3 y4 y5 y6 y7)) ∧ (∀ y0 y1 y2 y3 y4 y5 y6 y7 y8, LeO (cooperageref16_Leave.l1 k y0 y1 y2 y3 y4 y5 y6 y7 y8) (cooperageref16_Leave.l1 (k + 1) y0 y1 y2 y3 y4 y5 y6 y7 y8))
 | 0 => ⟨fun _ _ _ _ _ _ _ _ r h => by simp [cooperageref16_Leave.l0] at h, fun _ _ _ _ _ _ _ _ _ r h => by simp [cooperageref16_Leave.l1] at h⟩
 | k + 1 => by
  obtain ⟨ih0, ih1⟩ := cooperageref16_Leave.mono_l k
  have m0 := @cooperageref16_settle.mono
  refine ⟨?_, ?_⟩
  ·intros
   unfold cooperageref16_Leave.l0
   exact zLe
  ·intros
   unfold cooperageref16_Leave.l1
   exact zLe
theorem cooperageref16_Leave.mono : ∀ a0 a1 a2 a3 a4 k, LeO (cooperageref16_Leave.f k a0 a1 a2 a3 a4) (cooperageref16_Leave.f (k + 1) a0 a1 a2 a3 a4) := by
 intro a0 a1 a2 a3 a4 k
 obtain ⟨ih0, ih1⟩ := cooperageref16_Leave.mono_l k
 unfold cooperageref16_Leave.f
 have m0 := @cooperageref16_settle.mono
 exact zLe
def cooperageref16_Leave.T8 : Bool × List (List Nat × List Nat) := (true, [([], []), ([0], [0]), ([], []), ([2], [2]), ([], []), ([3, 4], [3, 4]), ([5], [5]), ([6], [6]), ([1, 7], [1, 7]), ([0, 1, 2, 3, 4, 5, 6, 7, 8], []), ([9, 8, 8, 0, 1, 2, 3, 4, 5, 6, 7, 8], [8, 9])])
def cooperageref16_Leave.B8 : List Nat := [0, 1, 0, 4, 0, 28, 60, 124, 255, 511, 1023]
theorem cooperageref16_Leave.tab8 : rtab .any (opsOf Tryd.f23 8) = cooperageref16_Leave.T8 := by kernel_rfl
theorem cooperageref16_Leave.bits8 : waitsOk cooperageref16_Leave.T8.2 cooperageref16_Leave.B8 = true := by kernel_rfl
def cooperageref16_Leave.T13 : Bool × List (List Nat × List Nat) := (true, [([], []), ([0], [0]), ([], []), ([2], [2]), ([], []), ([3, 4], [3, 4]), ([5], [5]), ([6], [6]), ([1, 7], [1, 7]), ([0, 1, 2, 3, 4, 5, 6, 7, 8], []), ([9, 8, 8, 0, 1, 2, 3, 4, 5, 6, 7, 8], [8, 9])])
def cooperageref16_Leave.B13 : List Nat := [0, 1, 0, 4, 0, 28, 60, 124, 255, 511, 1023]
theorem cooperageref16_Leave.tab13 : rtab .any (opsOf Tryd.f23 13) = cooperageref16_Leave.T13 := by kernel_rfl
theorem cooperageref16_Leave.bits13 : waitsOk cooperageref16_Leave.T13.2 cooperageref16_Leave.B13 = true := by kernel_rfl
theorem cooperageref16_Leave.calls (k : Nat) (a0_0 : Int) (P0_1_ : Nat → Prop) (A0_1 : Option Addr) (c0_1 : Nat) (l0_1 : List (S45)) (P0_2_ : Nat → Prop) (A0_2 : Option Addr) (c0_2 : Nat) (l0_2 : List (S52)) (a1 : Int) (a2 : Int) (r1 : Int) (r2 : List (S45)) (r3 : List (S52)) (w : World) (hs0_1 : Kd.V k45 45 w w.heap.size (fun k_ => P0_1_ k_) (.slice A0_1 l0_1.length c0_1) l0_1) (hs0_2 : Kd.V k52 52 w w.heap.size (fun k_ => P0_2_ k_) (.slice A0_2 l0_2.length c0_2) l0_2) (h : cooperageref16_Leave.f k a0_0 l0_1 l0_2 a1 a2 = some (r1, r2, r3)) :
  Calls Tryd.prog 23 #[.agg #[.int .i64 a0_0, .slice A0_1 l0_1.length c0_1, .slice A0_2 l0_2.length c0_2], .int .i64 a1, .int .i64 a2] w fun e w' => ∃ v1_ v2_ : Value, e = .returned (.agg #[.int .i64 r1, v1_, v2_]) ∧ Kd.V k45 45 w' w.heap.size (fun k_ => ((P0_1_ k_ ∨ P0_2_ k_) ∨ w.heap.size ≤ k_)) v1_ r2 ∧ Kd.V k52 52 w' w.heap.size (fun k_ => ((P0_1_ k_ ∨ P0_2_ k_) ∨ w.heap.size ≤ k_)) v2_ r3 ∧ Below w.heap.size w w' := by
 have hu32 := Tryd.underlying32
 have hu45 := Tryd.underlying45
 have hu52 := Tryd.underlying52
 have HO0_1 := ka (show Kd.V k45 45 w w.heap.size (fun k_ => ((P0_1_ k_ ∨ P0_2_ k_) ∨ w.heap.size ≤ k_)) (.slice A0_1 l0_1.length c0_1) l0_1 from Kd.V_mono hs0_1 (fun k_ hk => .inl (.inl hk)))
 have HO0_2 := ka (show Kd.V k52 52 w w.heap.size (fun k_ => ((P0_1_ k_ ∨ P0_2_ k_) ∨ w.heap.size ≤ k_)) (.slice A0_2 l0_2.length c0_2) l0_2 from Kd.V_mono hs0_2 (fun k_ hk => .inl (.inr hk)))
 have HB := ka (Below.refl w.heap.size w)
 have H : ((cooperageref16_time.f a2).bind fun t596 => (if t596 = true then (cooperageref16_Leave.l0 k a1 a2 0 a0_0 l0_1 l0_2 a0_0 ([] : List (S45))) else (some (a0_0, l0_1, l0_2)))) = some (r1, r2, r3) := h
 clear h
 replace H := Option.bind_eq_some_iff.mp H
 obtain ⟨t596, A40, H⟩ := H
 try dsimp only at H
 have A4 := ka A40
 clear A40
 by_cases c5 : t596 = true
 ·subst c5
  rw [if_pos rfl] at H
  have H' := ka H
  clear H
  go_enter Tryd.func23, Tryd.ntmps23
  go_wp2_with (first | ((with_reducible refine gate_dst (N := 3) rfl ?_); refine box_event ?hg (N := 3) ?hd (cs := #[.int .i64 a0_0, .slice A0_1 l0_1.length c0_1, .slice A0_2 l0_2.length c0_2]) (t := 32) ?hr ?_; (case hd => rfl); (case hg => rfl); (case hr => (go_simp; try rfl)); intro gb594 hg w6 hbox hb; replace HO0_1 := ka (Kd.V_below (Kd.V_elderB (zV HO0_1.out) gb594 (Nat.le_of_eq hg.symm)) hb); replace HO0_2 := ka (Kd.V_below (Kd.V_elderB (zV HO0_2.out) gb594 (Nat.le_of_eq hg.symm)) hb); have BK594 := ka (hbox); have GW594 := ka (zG hg (zL HB.out)); replace HB := ka (below_step (zL HB.out) hb); clear hb hbox hg) | ((with_reducible refine gate_dst (N := 6) rfl ?_); refine box_event ?hg (N := 6) ?hd (cs := #[.int .i64 0, .slice none 0 0, .slice none 0 0]) (t := 32) ?hr ?_; (case hd => rfl); (case hg => rfl); (case hr => (go_simp; try rfl)); intro gb595 hg w7 hbox hb; replace HO0_1 := ka (Kd.V_below (Kd.V_elderB (zV HO0_1.out) gb595 (Nat.le_of_eq hg.symm)) hb); replace HO0_2 := ka (Kd.V_below (Kd.V_elderB (zV HO0_2.out) gb595 (Nat.le_of_eq hg.symm)) hb); have BK595 := ka (hbox); have GW595 := ka (zG hg (zL HB.out)); replace HB := ka (below_step (zL HB.out) hb); have NB594_595 := ka (zNK hg BK594.out); have NB595_594 := ka (zOK hg BK594.out); replace BK594 := ka (zB BK594.out hb); clear hb hbox hg) | ((with_reducible refine gate_callee (f := 42) rfl ?_); refine goesL_ (some 11) rfl rfl Tryd.func42 (by kernel_rfl) rfl #[.int .i64 a2] rfl zA ?_; (with_reducible refine (cooperageref16_time.calls a2 true _ A4.out).mono ?_); rintro e w' ⟨rfl, ⟨nd, rfl⟩⟩; refine ⟨_, rfl, ?_⟩; (try (rw [drewN_self w7]; generalize hq_ : World.drewN w7 _ = w7; have n0_ : Aside0 (Kd.V k45 45 w7 w.heap.size (fun k_ => ((P0_1_ k_ ∨ P0_2_ k_) ∨ w.heap.size ≤ k_) ∧ k_ ≠ gb594 ∧ k_ ≠ gb595) (.slice A0_1 l0_1.length c0_1) l0_1) := ⟨by rw [← hq_]; exact (by (with_reducible repeat (first | apply Kd.V_alloc | apply Kd.V_drewN | apply Kd.V_drew)); exact Kd.V_mono HO0_1.out (fun _ hk => ⟨hk.1.1, ⟨hk.1.2, hk.2⟩⟩))⟩; have n1_ : Aside0 (Kd.V k52 52 w7 w.heap.size (fun k_ => ((P0_1_ k_ ∨ P0_2_ k_) ∨ w.heap.size ≤ k_) ∧ k_ ≠ gb594 ∧ k_ ≠ gb595) (.slice A0_2 l0_2.length c0_2) l0_2) := ⟨by rw [← hq_]; exact (by (with_reducible repeat (first | apply Kd.V_alloc | apply Kd.V_drewN | apply Kd.V_drew)); exact Kd.V_mono HO0_2.out (fun _ hk => ⟨hk.1.1, ⟨hk.1.2, hk.2⟩⟩))⟩; have n2_ : Aside0 (w7.heap[gb594]? = some (.cells #[.int .i64 a0_0, .slice A0_1 l0_1.length c0_1, .slice A0_2 l0_2.length c0_2] 32 (0, 0))) := ⟨by rw [← hq_]; exact (zK BK594.out)⟩; have n3_ : Aside0 (w7.heap[gb595]? = some (.cells #[.int .i64 0, .slice none 0 0, .slice none 0 0] 32 (0, 0))) := ⟨by rw [← hq_]; exact (zK BK595.out)⟩; have n4_ : Aside0 (Below w.heap.size w w7) := ⟨by rw [← hq_]; exact (zL HB.out)⟩; clear HO0_1 HO0_2 BK594 BK595 HB hq_; have HO0_1 := n0_; have HO0_2 := n1_; have BK594 := n2_; have BK595 := n3_; have HB := n4_; clear n0_ n1_ n2_ n3_ n4_)); have hnb8 := NB594_595.out; have hnc8 := NB595_594.out; obtain ⟨z9_0, z9_1, z9_2, y9_0, y9_1, y9_2⟩ := zC3 BK594.out) | ((with_reducible refine gate_dst (N := 7) rfl ?_); refine box_event ?hg (N := 7) ?hd (cs := #[.int .i64 0, .slice none 0 0, .slice none 0 0]) (t := 32) ?hr ?_; (case hd => rfl); (case hg => rfl); (case hr => (go_simp; try rfl)); intro gb597 hg w10 hbox hb; replace HO0_1 := ka (Kd.V_below (Kd.V_elderB (zV HO0_1.out) gb597 (Nat.le_of_eq hg.symm)) hb); replace HO0_2 := ka (Kd.V_below (Kd.V_elderB (zV HO0_2.out) gb597 (Nat.le_of_eq hg.symm)) hb); have BK597 := ka (hbox); have GW597 := ka (zG hg (zL HB.out)); replace HB := ka (below_step (zL HB.out) hb); have NB594_597 := ka (zNK hg BK594.out); have NB597_594 := ka (zOK hg BK594.out); replace BK594 := ka (zB BK594.out hb); have NB595_597 := ka (zNK hg BK595.out); have NB597_595 := ka (zOK hg BK595.out); replace BK595 := ka (zB BK595.out hb); clear hb hbox hg; have hnb11 := NB597_594.out; have hnc11 := NB594_597.out; have hnb12 := NB597_595.out; have hnc12 := NB595_597.out; obtain ⟨z13_0, z13_1, z13_2, y13_0, y13_1, y13_2⟩ := zC3 BK597.out))
  go_loopg [8] k (fun kq v8 w' => ∃ (x8_1 : Int) (x598001_1 : List (S45)) (u598001 : Value), v8 = .int .i64 x8_1 ∧ Aside0 (cooperageref16_Leave.l0 kq a1 a2 x8_1 a0_0 l0_1 l0_2 a0_0 x598001_1 = some (r1, r2, r3)) ∧ Aside0 (kq ≤ k) ∧ Aside0 (Kd.V k45 45 w' w.heap.size (fun k_ => ((P0_1_ k_ ∨ P0_2_ k_) ∨ w.heap.size ≤ k_) ∧ some k_ ≠ (u598001 : Value).ownBlock ∧ k_ ≠ gb594 ∧ k_ ≠ gb595 ∧ k_ ≠ gb597) (.slice A0_1 l0_1.length c0_1) l0_1) ∧ Aside0 (Kd.V k52 52 w' w.heap.size (fun k_ => ((P0_1_ k_ ∨ P0_2_ k_) ∨ w.heap.size ≤ k_) ∧ some k_ ≠ (u598001 : Value).ownBlock ∧ k_ ≠ gb594 ∧ k_ ≠ gb595 ∧ k_ ≠ gb597) (.slice A0_2 l0_2.length c0_2) l0_2) ∧ Aside0 (Kd.R k45 45 w' w.heap.size (fun k_ => (w.heap.size ≤ k_)) u598001 x598001_1) ∧ Aside0 (w'.heap[gb594]? = some (.cells #[.int .i64 a0_0, (.slice A0_1 l0_1.length c0_1), (.slice A0_2 l0_2.length c0_2)] 32 (0, 0))) ∧ Aside0 (w'.heap[gb595]? = some (.cells #[.int .i64 0, (.slice none 0 0), (.slice none 0 0)] 32 (0, 0))) ∧ Aside0 (w'.heap[gb597]? = some (.cells #[.int .i64 a0_0, u598001, (.slice none 0 0)] 32 (0, 0))) ∧ Aside0 (Below w.heap.size w w'))
  case atStart => exact ⟨(0), (([] : List (S45))), (.slice none 0 0), zS, H', ⟨Nat.le_refl _⟩, ⟨by (with_reducible repeat (first | apply Kd.V_alloc | apply Kd.V_drewN | apply Kd.V_drew)); exact Kd.V_mono (zNV HO0_1.out (g := gb597) (fun _ hk => hk.2)) (fun _ hk => ⟨hk.1.1.1, ⟨(by simp [Value.ownBlock]), ⟨hk.1.1.2.1, ⟨hk.1.1.2.2, hk.1.2⟩⟩⟩⟩)⟩, ⟨by (with_reducible repeat (first | apply Kd.V_alloc | apply Kd.V_drewN | apply Kd.V_drew)); exact Kd.V_mono (zNV HO0_2.out (g := gb597) (fun _ hk => hk.2)) (fun _ hk => ⟨hk.1.1.1, ⟨(by simp [Value.ownBlock]), ⟨hk.1.1.2.1, ⟨hk.1.1.2.2, hk.1.2⟩⟩⟩⟩)⟩, ⟨zNl⟩, ⟨zK BK594.out⟩, ⟨zK BK595.out⟩, ⟨zP3 BK597.out⟩, ⟨zL HB.out⟩⟩
  case round =>
   clear H'
   try clear c5
   try clear z13_0 z13_1 z13_2
   try clear z9_0 z9_1 z9_2
   try clear y13_0 y13_1 y13_2
   try clear y9_0 y9_1 y9_2
   obtain ⟨x8_1, x598001_1, u598001, rfl, HA, HK1, HO_595001, HO_595002, HO_598001, BK594, BK595, BK597, HB⟩ := hrel
   cases gk with
   | zero => exact absurd HA.out (by simp [cooperageref16_Leave.l0])
   | succ k1 =>
    have H := HA.out
    clear HA
    simp only [cooperageref16_Leave.l0] at H
    by_cases c14 : x8_1 < (l0_1.length : Int)
    ·rw [if_pos c14] at H
     have c14b0 := zdt c14
     clear c14
     replace H := zif H
     obtain ⟨c15, H⟩ := H
     have c15b0 := zdt c15
     clear c15
     by_cases c16 : ((rd_T45 l0_1 x8_1).f0) = a1
     ·rw [if_pos c16] at H
      have c16b0 := zb0 c16
      have c16b1 := zb1 c16
      clear c16
      have H' := ka H
      clear H
      have hnb17 := NB594_595.out
      have hnc17 := NB595_594.out
      have hnb18 := NB594_597.out
      have hnc18 := NB597_594.out
      obtain ⟨z19_0, z19_1, z19_2, y19_0, y19_1, y19_2⟩ := zC3 BK594.out
      have p598 : 0 ≤ (x8_1 : Int) := zD
      have q598 : x8_1 < (l0_1.length : Int) := zD
      obtain ⟨ad598, e598, hx598_0, hx598_1, hx598_2, hx598_3, hx598_4⟩ := at_T45 (Kd.V_reads' HO_595001.out).2.2 x8_1 p598 q598
      cases e598
      replace p598 := eq_true p598
      replace q598 := eq_true q598
      go_wp2
      go_roundg k1
      case measure => have := HK1.out; omega
      case rel => exact ⟨(wrap64 (x8_1 + 1)), (x598001_1), (u598001), zS, H', ⟨by have := HK1.out; omega⟩, ⟨zV HO_595001.out⟩, ⟨zV HO_595002.out⟩, ⟨zR HO_598001.out⟩, ⟨zK BK594.out⟩, ⟨zK BK595.out⟩, ⟨zK BK597.out⟩, ⟨zL HB.out⟩⟩
     rw [if_neg c16] at H
     have c16b0 := zn0 c16
     have c16b1 := zn1 c16
     replace H := zif H
     obtain ⟨c20, H⟩ := H
     have LMc20 := ka c20
     clear c20
     obtain ⟨y600, hy600⟩ : ∃ y_ : List (S45), y_ = (x598001_1 ++ [(⟨(rd_T45 l0_1 x8_1).f0, (rd_T45 l0_1 x8_1).f1, (rd_T45 l0_1 x8_1).f2, (rd_T45 l0_1 x8_1).f3, (rd_T45 l0_1 x8_1).f4⟩ : S45)]) := ⟨_, rfl⟩
     replace H : (cooperageref16_Leave.l0 k1 a1 a2 (wrap64 (x8_1 + 1)) a0_0 l0_1 l0_2 a0_0 y600) = some (r1, r2, r3) := zH hy600 H
     have Ny600 := ka hy600
     clear hy600
     have H' := ka H
     clear H
     have hnb21 := NB594_595.out
     have hnc21 := NB595_594.out
     have hnb22 := NB594_597.out
     have hnc22 := NB597_594.out
     obtain ⟨z23_0, z23_1, z23_2, y23_0, y23_1, y23_2⟩ := zC3 BK594.out
     have p598 : 0 ≤ (x8_1 : Int) := zD
     have q598 : x8_1 < (l0_1.length : Int) := zD
     obtain ⟨ad598, e598, hx598_0, hx598_1, hx598_2, hx598_3, hx598_4⟩ := at_T45 (Kd.V_reads' HO_595001.out).2.2 x8_1 p598 q598
     cases e598
     replace p598 := eq_true p598
     replace q598 := eq_true q598
     try go_wp2
     replace HO_595001 := ka (Kd.V_drew HO_595001.out)
     replace HO_595002 := ka (Kd.V_drew HO_595002.out)
     replace HO_598001 := ka (Kd.R_drew HO_598001.out)
     replace BK594 := ka (blk_drew BK594.out)
     replace BK595 := ka (blk_drew BK595.out)
     replace BK597 := ka (blk_drew BK597.out)
     replace HB := ka (below_drew1 HB.out)
     have p599 : 0 ≤ (x8_1 : Int) := zD
     have q599 : x8_1 < (l0_1.length : Int) := zD
     obtain ⟨ad599, e599, hx599_0, hx599_1, hx599_2, hx599_3, hx599_4⟩ := at_T45 (Kd.V_reads' HO_595001.out).2.2 x8_1 p599 q599
     obtain rfl : ad598 = ad599 := (by injection e599)
     replace p599 := eq_true p599
     replace q599 := eq_true q599
     refine start_ (n := 11) (S := fun w' => w'.cell? ⟨gb597, 0, none⟩ = some (.int .i64 a0_0) ∧ w'.cell? ⟨gb597, 1, none⟩ = some (u598001) ∧ w'.cell? ⟨gb597, 2, none⟩ = some (.slice none 0 0) ∧ w'.cell? ⟨gb594, 0, none⟩ = some (.int .i64 a0_0) ∧ w'.cell? ⟨gb594, 1, none⟩ = some (.slice (some ad598) l0_1.length c0_1) ∧ w'.cell? ⟨gb594, 2, none⟩ = some (.slice A0_2 l0_2.length c0_2) ∧ w'.cell? (ad598.add ((x8_1).toNat * 5)) = some (.int .i64 ((rd_T45 l0_1 x8_1).f0)) ∧ w'.cell? ⟨(ad598.add ((x8_1).toNat * 5)).block, (ad598.add ((x8_1).toNat * 5)).off + 1, none⟩ = some (.string ((rd_T45 l0_1 x8_1).f1)) ∧ w'.cell? ⟨(ad598.add ((x8_1).toNat * 5)).block, (ad598.add ((x8_1).toNat * 5)).off + 2, none⟩ = some (.bool ((rd_T45 l0_1 x8_1).f2)) ∧ w'.cell? ⟨(ad598.add ((x8_1).toNat * 5)).block, (ad598.add ((x8_1).toNat * 5)).off + 3, none⟩ = some (.int .i64 ((rd_T45 l0_1 x8_1).f3)) ∧ w'.cell? ⟨(ad598.add ((x8_1).toNat * 5)).block, (ad598.add ((x8_1).toNat * 5)).off + 4, none⟩ = some (.int .i64 ((rd_T45 l0_1 x8_1).f4))) (ds := [8, 10]) #[false, false, false, false, false, false, false, false, false, false, false] (by kernel_rfl) rfl rfl ⟨zc BK597.out 0, zc BK597.out 1, zc BK597.out 2, zc BK594.out 0, zc BK594.out 1, zc BK594.out 2, hx599_0, hx599_1, hx599_2, hx599_3, hx599_4⟩ (fun hHeld => ?_); refine with_tabW cooperageref16_Leave.tab8 cooperageref16_Leave.bits8 (fun HT_ HW_ => ?_)
     generalize wr.drew = w24 at HO_595001 HO_595002 HO_598001 BK594 BK595 BK597 HB hx599_0 hx599_1 hx599_2 hx599_3 hx599_4 hHeld ⊢
     refine zpp 0 (N := some 32) HT_ (h := ?_)
     refine zpp 2 (N := some 34) HT_ (h := ?_)
     refine zpp 4 (N := some 36) HT_ (h := ?_)
     refine zpt 1 (N := some 33) HT_ HW_ hHeld (h := ?_)
     refine zpt 3 (N := some 35) HT_ HW_ hHeld (h := ?_)
     refine zpp 5 (N := some 37) HT_ (h := ?_)
     refine zpt 6 (N := some 38) HT_ HW_ hHeld (h := ?_)
     refine one_ (i := 7) (N := some 39) #[true, true, true, true, true, true, true, true, false, false, false] rfl rfl (one_of HT_.out (by kernel_rfl)) (by decide) (fun K hK => ?_)
     refine value_ (w1 := ?_) (v := ?_) (by rfl) rfl ?_ ?_
     rotate_left 2
     ·go_simp
      constructor
      ·rfl
      ·rfl
     refine hK.out _ _ ⟨(blk_cell (blk_alloc BK597.out _) 0).trans rfl, (blk_cell (blk_alloc BK597.out _) 1).trans rfl, (blk_cell (blk_alloc BK597.out _) 2).trans rfl, (blk_cell (blk_alloc BK594.out _) 0).trans rfl, (blk_cell (blk_alloc BK594.out _) 1).trans rfl, (blk_cell (blk_alloc BK594.out _) 2).trans rfl, (World.cell?_alloc_lt _ _ _ (World.block_lt_of_cell? _ _ (hHeld.2.2.2.2.2.2.1))).trans (hHeld.2.2.2.2.2.2.1), (World.cell?_alloc_lt _ _ _ (World.block_lt_of_cell? _ _ (hHeld.2.2.2.2.2.2.2.1))).trans (hHeld.2.2.2.2.2.2.2.1), (World.cell?_alloc_lt _ _ _ (World.block_lt_of_cell? _ _ (hHeld.2.2.2.2.2.2.2.2.1))).trans (hHeld.2.2.2.2.2.2.2.2.1), (World.cell?_alloc_lt _ _ _ (World.block_lt_of_cell? _ _ (hHeld.2.2.2.2.2.2.2.2.2.1))).trans (hHeld.2.2.2.2.2.2.2.2.2.1), (World.cell?_alloc_lt _ _ _ (World.block_lt_of_cell? _ _ (hHeld.2.2.2.2.2.2.2.2.2.2))).trans (hHeld.2.2.2.2.2.2.2.2.2.2)⟩ (fun hHeld => ?_)
     clear hK K
     refine znm (N := some 39) (h := ?_)
     refine last_ (i := 8) (N := some 40) #[true, true, true, true, true, true, true, true, true, false, false] rfl rfl (one_of HT_.out (by kernel_rfl)) (by decide) (fun K hK => ?_)
     refine Kd.R_append_step k45 (w0 := w) w.heap.size (by rfl) (.tmp 33) (.tmp 39) 29 45 (.agg #[(.int .i64 0), (.string ⟨#[]⟩), (.bool false), (.int .i64 0), (.int .i64 0)]) 48 rfl Tryd.underlying29 info45 rfl (by decide) (by omega) u598001 x598001_1 (⟨(rd_T45 l0_1 x8_1).f0, (rd_T45 l0_1 x8_1).f1, (rd_T45 l0_1 x8_1).f2, (rd_T45 l0_1 x8_1).f3, (rd_T45 l0_1 x8_1).f4⟩ : S45) [.int .i64 ((rd_T45 l0_1 x8_1).f0), .string ((rd_T45 l0_1 x8_1).f1), .bool ((rd_T45 l0_1 x8_1).f2), .int .i64 ((rd_T45 l0_1 x8_1).f3), .int .i64 ((rd_T45 l0_1 x8_1).f4)] (fun k_ => (w.heap.size ≤ k_)) (fun _ => False) rfl rfl ?aP (fun _ hk => hk.elim) ?aF ?aO ?aB ?aS ?aL ?_
     (case aP => exact k45_mkM _ _ _ (⟨(rd_T45 l0_1 x8_1).f0, (rd_T45 l0_1 x8_1).f1, (rd_T45 l0_1 x8_1).f2, (rd_T45 l0_1 x8_1).f3, (rd_T45 l0_1 x8_1).f4⟩ : S45))
     (case aB => exact (zL HB.out))
     (case aF => exact (fun k_ hk => (Nat.le_trans (below_size (zL HB.out)) hk)))
     (case aO => exact (zR HO_598001.out))
     (case aS => exact (below_size (zL HB.out)))
     (case aL => have := LMc20.out; omega)
     intro v601 w25 ho hb hg hat
     rw [← Ny600.out] at ho
     replace HO_595001 := ka (Kd.V_afterv (ok := (fun k_ => ((P0_1_ k_ ∨ P0_2_ k_) ∨ w.heap.size ≤ k_) ∧ k_ ≠ gb594 ∧ k_ ≠ gb595 ∧ k_ ≠ gb597)) (by (with_reducible repeat (first | apply Kd.V_alloc | apply Kd.V_drewN | apply Kd.V_drew)); exact Kd.V_mono HO_595001.out (fun _ hk => ⟨⟨hk.1, ⟨hk.2.2.1, ⟨hk.2.2.2.1, hk.2.2.2.2⟩⟩⟩, hk.2.1⟩)) hg hat)
     replace HO_595002 := ka (Kd.V_afterv (ok := (fun k_ => ((P0_1_ k_ ∨ P0_2_ k_) ∨ w.heap.size ≤ k_) ∧ k_ ≠ gb594 ∧ k_ ≠ gb595 ∧ k_ ≠ gb597)) (by (with_reducible repeat (first | apply Kd.V_alloc | apply Kd.V_drewN | apply Kd.V_drew)); exact Kd.V_mono HO_595002.out (fun _ hk => ⟨⟨hk.1, ⟨hk.2.2.1, ⟨hk.2.2.2.1, hk.2.2.2.2⟩⟩⟩, hk.2.1⟩)) hg hat)
     replace BK594 := ka (blk_grown (g := gb594) (o := .cells #[.int .i64 a0_0, .slice (some ad598) l0_1.length c0_1, .slice A0_2 l0_2.length c0_2] 32 (0, 0)) (zK BK594.out) hg (Kd.R_ne HO_598001.out BK594.out (by decide)))
     replace BK595 := ka (blk_grown (g := gb595) (o := .cells #[.int .i64 0, .slice none 0 0, .slice none 0 0] 32 (0, 0)) (zK BK595.out) hg (Kd.R_ne HO_598001.out BK595.out (by decide)))
     replace BK597 := ka (blk_grown (g := gb597) (o := .cells #[.int .i64 a0_0, u598001, .slice none 0 0] 32 (0, 0)) (zK BK597.out) hg (Kd.R_ne HO_598001.out BK597.out (by decide)))
     replace HB := ka (hb)
     have HO602 := ka (ho)
     clear HO_598001
     clear ho hb hg hat
     obtain ⟨Ao26, co26, eo26⟩ := Kd.R_slice HO602.out
     (first | subst eo26 | (injection eo26 with f1_ f2_ f3_; have f4_ := f1_.symm; have f5_ := f3_.symm; clear f1_ f2_ f3_; subst f4_; subst f5_))
     refine hK.out _ _ ?_
     clear hK K
     refine znm (N := some 40) (h := ?_)
     refine zpp 9 (N := some 41) HT_ (h := ?_)
     refine last_ (i := 10) (N := none) #[true, true, true, true, true, true, true, true, true, true, true] rfl rfl (one_of HT_.out (by kernel_rfl)) (by decide) (fun K hK => ?_)
     have hs27 : w25.cell? ⟨gb597, 1, none⟩ = some (u598001) := zc BK597.out 1
     have hfs27 := blk_frozen BK597.out 1
     have hns27_0 := NB594_597.out
     have hns27_1 := NB595_597.out
     have hms27_0 := NB597_594.out
     have hms27_1 := NB597_595.out
     refine skip_ (w1 := ?_) (by rfl) rfl ?_ ?_
     rotate_left
     ·go_simp
      rfl
     refine hK.out _ _ ?_
     clear hK K
     refine done_ (done_of HT_.out (by kernel_rfl)) ?_
     try go_wp2
     go_roundg k1
     case measure => have := HK1.out; omega
     case rel => exact ⟨(wrap64 (x8_1 + 1)), (y600), (.slice Ao26 y600.length co26), zS, H', ⟨by have := HK1.out; omega⟩, ⟨by (with_reducible repeat (first | apply Kd.V_alloc | apply Kd.V_drewN | apply Kd.V_drew)); exact Kd.V_mono (zNV HO_595001.out (g := gb597) (fun _ hk => hk.1.2.2.2)) (fun _ hk => ⟨hk.1.1.1, ⟨hk.1.2, ⟨hk.1.1.2.1, ⟨hk.1.1.2.2.1, hk.1.1.2.2.2⟩⟩⟩⟩)⟩, ⟨by (with_reducible repeat (first | apply Kd.V_alloc | apply Kd.V_drewN | apply Kd.V_drew)); exact Kd.V_mono (zNV HO_595002.out (g := gb597) (fun _ hk => hk.1.2.2.2)) (fun _ hk => ⟨hk.1.1.1, ⟨hk.1.2, ⟨hk.1.1.2.1, ⟨hk.1.1.2.2.1, hk.1.1.2.2.2⟩⟩⟩⟩)⟩, ⟨by (with_reducible repeat (first | apply Kd.R_alloc | apply Kd.R_drewN | apply Kd.R_drew)); exact Kd.R_mono (zNT HO602.out BK597.out) (fun _ hk => hk.1)⟩, ⟨zK BK594.out⟩, ⟨zK BK595.out⟩, ⟨by (with_reducible repeat (first | refine blk_drewN ?_ _ | refine blk_drew ?_ | refine blk_alloc ?_ _)); refine blk_put (cs := #[.int .i64 a0_0, u598001, .slice none 0 0]) ?_ 1 _ rfl; (with_reducible repeat (first | refine blk_drewN ?_ _ | refine blk_drew ?_ | refine blk_alloc ?_ _)); exact BK597.out⟩, ⟨zL HB.out⟩⟩
    rw [if_neg c14] at H
    have c14b0 := zdf c14
    clear c14
    have H' := ka H
    clear H
    have hnb28 := NB594_595.out
    have hnc28 := NB595_594.out
    have hnb29 := NB594_597.out
    have hnc29 := NB597_594.out
    obtain ⟨z30_0, z30_1, z30_2, y30_0, y30_1, y30_2⟩ := zC3 BK594.out
    go_wp2
    go_loopg [9] k1 (fun kq v9 w' => ∃ (x9_2 : Int) (x598002_2 : List (S52)) (u598002 : Value), v9 = .int .i64 x9_2 ∧ Aside0 (cooperageref16_Leave.l1 kq a1 a2 x9_2 a0_0 l0_1 l0_2 a0_0 x598001_1 x598002_2 = some (r1, r2, r3)) ∧ Aside0 (kq ≤ k1) ∧ Aside0 (Kd.V k45 45 w' w.heap.size (fun k_ => ((P0_1_ k_ ∨ P0_2_ k_) ∨ w.heap.size ≤ k_) ∧ some k_ ≠ (u598001 : Value).ownBlock ∧ some k_ ≠ (u598002 : Value).ownBlock ∧ k_ ≠ gb594 ∧ k_ ≠ gb595 ∧ k_ ≠ gb597) (.slice A0_1 l0_1.length c0_1) l0_1) ∧ Aside0 (Kd.V k52 52 w' w.heap.size (fun k_ => ((P0_1_ k_ ∨ P0_2_ k_) ∨ w.heap.size ≤ k_) ∧ some k_ ≠ (u598001 : Value).ownBlock ∧ some k_ ≠ (u598002 : Value).ownBlock ∧ k_ ≠ gb594 ∧ k_ ≠ gb595 ∧ k_ ≠ gb597) (.slice A0_2 l0_2.length c0_2) l0_2) ∧ Aside0 (Kd.R k45 45 w' w.heap.size (fun k_ => (w.heap.size ≤ k_)) u598001 x598001_1) ∧ Aside0 (Kd.R k52 52 w' w.heap.size (fun k_ => (w.heap.size ≤ k_)) u598002 x598002_2) ∧ Aside0 (w'.heap[gb594]? = some (.cells #[.int .i64 a0_0, (.slice A0_1 l0_1.length c0_1), (.slice A0_2 l0_2.length c0_2)] 32 (0, 0))) ∧ Aside0 (w'.heap[gb595]? = some (.cells #[.int .i64 0, (.slice none 0 0), (.slice none 0 0)] 32 (0, 0))) ∧ Aside0 (w'.heap[gb597]? = some (.cells #[.int .i64 a0_0, u598001, u598002] 32 (0, 0))) ∧ Aside0 (Below w.heap.size w w'))
    case atStart => exact ⟨(0), (([] : List (S52))), (.slice none 0 0), zS, H', ⟨Nat.le_refl _⟩, ⟨by (with_reducible repeat (first | apply Kd.V_alloc | apply Kd.V_drewN | apply Kd.V_drew)); exact Kd.V_mono HO_595001.out (fun _ hk => ⟨hk.1, ⟨hk.2.1, ⟨(by simp [Value.ownBlock]), ⟨hk.2.2.1, ⟨hk.2.2.2.1, hk.2.2.2.2⟩⟩⟩⟩⟩)⟩, ⟨by (with_reducible repeat (first | apply Kd.V_alloc | apply Kd.V_drewN | apply Kd.V_drew)); exact Kd.V_mono HO_595002.out (fun _ hk => ⟨hk.1, ⟨hk.2.1, ⟨(by simp [Value.ownBlock]), ⟨hk.2.2.1, ⟨hk.2.2.2.1, hk.2.2.2.2⟩⟩⟩⟩⟩)⟩, ⟨zR HO_598001.out⟩, ⟨zNl⟩, ⟨zK BK594.out⟩, ⟨zK BK595.out⟩, ⟨zK BK597.out⟩, ⟨zL HB.out⟩⟩
    case round =>
     clear H'
     try clear c5
     try clear c14
     try clear c14b0
     try clear z13_0 z13_1 z13_2
     try clear z30_0 z30_1 z30_2
     try clear z9_0 z9_1 z9_2
     try clear y13_0 y13_1 y13_2
     try clear y30_0 y30_1 y30_2
     try clear y9_0 y9_1 y9_2
     obtain ⟨x9_2, x598002_2, u598002, rfl, HA, HK2, HO_595001, HO_595002, HO_598001, HO_598002, BK594, BK595, BK597, HB⟩ := hrel
     cases gk with
     | zero => exact absurd HA.out (by simp [cooperageref16_Leave.l1])
     | succ k2 =>
      have H := HA.out
      clear HA
      simp only [cooperageref16_Leave.l1] at H
      by_cases c31 : x9_2 < (l0_2.length : Int)
      ·rw [if_pos c31] at H
       have c31b0 := zdt c31
       clear c31
       replace H := zif H
       obtain ⟨c32, H⟩ := H
       have c32b0 := zdt c32
       clear c32
       by_cases c33 : ((rd_T52 l0_2 x9_2).f0) = a1
       ·rw [if_pos c33] at H
        have c33b0 := zb0 c33
        have c33b1 := zb1 c33
        clear c33
        have H' := ka H
        clear H
        have hnb34 := NB594_595.out
        have hnc34 := NB595_594.out
        have hnb35 := NB594_597.out
        have hnc35 := NB597_594.out
        obtain ⟨z36_0, z36_1, z36_2, y36_0, y36_1, y36_2⟩ := zC3 BK594.out
        have p603 : 0 ≤ (x9_2 : Int) := zD
        have q603 : x9_2 < (l0_2.length : Int) := zD
        obtain ⟨ad603, e603, hx603_0, hx603_1, hx603_2, hx603_3⟩ := at_T52 (Kd.V_reads' HO_595002.out).2.2 x9_2 p603 q603
        cases e603
        replace p603 := eq_true p603
        replace q603 := eq_true q603
        go_wp2
        go_roundg k2
        case measure => have := HK1.out; have := HK2.out; omega
        case rel => exact ⟨(wrap64 (x9_2 + 1)), (x598002_2), (u598002), zS, H', ⟨by have := HK1.out; have := HK2.out; omega⟩, ⟨zV HO_595001.out⟩, ⟨zV HO_595002.out⟩, ⟨zR HO_598001.out⟩, ⟨zR HO_598002.out⟩, ⟨zK BK594.out⟩, ⟨zK BK595.out⟩, ⟨zK BK597.out⟩, ⟨zL HB.out⟩⟩
       rw [if_neg c33] at H
       have c33b0 := zn0 c33
       have c33b1 := zn1 c33
       replace H := zif H
       obtain ⟨c37, H⟩ := H
       have LMc37 := ka c37
       clear c37
       obtain ⟨y605, hy605⟩ : ∃ y_ : List (S52), y_ = (x598002_2 ++ [(⟨(rd_T52 l0_2 x9_2).f0, (rd_T52 l0_2 x9_2).f1, (rd_T52 l0_2 x9_2).f2, (rd_T52 l0_2 x9_2).f3⟩ : S52)]) := ⟨_, rfl⟩
       replace H : (cooperageref16_Leave.l1 k2 a1 a2 (wrap64 (x9_2 + 1)) a0_0 l0_1 l0_2 a0_0 x598001_1 y605) = some (r1, r2, r3) := zH hy605 H
       have Ny605 := ka hy605
       clear hy605
       have H' := ka H
       clear H
       have hnb38 := NB594_595.out
       have hnc38 := NB595_594.out
       have hnb39 := NB594_597.out
       have hnc39 := NB597_594.out
       obtain ⟨z40_0, z40_1, z40_2, y40_0, y40_1, y40_2⟩ := zC3 BK594.out
       have p603 : 0 ≤ (x9_2 : Int) := zD
       have q603 : x9_2 < (l0_2.length : Int) := zD
       obtain ⟨ad603, e603, hx603_0, hx603_1, hx603_2, hx603_3⟩ := at_T52 (Kd.V_reads' HO_595002.out).2.2 x9_2 p603 q603
       cases e603
       replace p603 := eq_true p603
       replace q603 := eq_true q603
       try go_wp2
       replace HO_595001 := ka (Kd.V_drew HO_595001.out)
       replace HO_595002 := ka (Kd.V_drew HO_595002.out)
       replace HO_598001 := ka (Kd.R_drew HO_598001.out)
       replace HO_598002 := ka (Kd.R_drew HO_598002.out)
       replace BK594 := ka (blk_drew BK594.out)
       replace BK595 := ka (blk_drew BK595.out)
       replace BK597 := ka (blk_drew BK597.out)
       replace HB := ka (below_drew1 HB.out)
       have p604 : 0 ≤ (x9_2 : Int) := zD
       have q604 : x9_2 < (l0_2.length : Int) := zD
       obtain ⟨ad604, e604, hx604_0, hx604_1, hx604_2, hx604_3⟩ := at_T52 (Kd.V_reads' HO_595002.out).2.2 x9_2 p604 q604
       obtain rfl : ad603 = ad604 := (by injection e604)
       replace p604 := eq_true p604
       replace q604 := eq_true q604
       refine start_ (n := 11) (S := fun w' => w'.cell? ⟨gb597, 0, none⟩ = some (.int .i64 a0_0) ∧ w'.cell? ⟨gb597, 1, none⟩ = some (u598001) ∧ w'.cell? ⟨gb597, 2, none⟩ = some (u598002) ∧ w'.cell? ⟨gb594, 0, none⟩ = some (.int .i64 a0_0) ∧ w'.cell? ⟨gb594, 1, none⟩ = some (.slice A0_1 l0_1.length c0_1) ∧ w'.cell? ⟨gb594, 2, none⟩ = some (.slice (some ad603) l0_2.length c0_2) ∧ w'.cell? (ad603.add ((x9_2).toNat * 4)) = some (.int .i64 ((rd_T52 l0_2 x9_2).f0)) ∧ w'.cell? ⟨(ad603.add ((x9_2).toNat * 4)).block, (ad603.add ((x9_2).toNat * 4)).off + 1, none⟩ = some (.string ((rd_T52 l0_2 x9_2).f1)) ∧ w'.cell? ⟨(ad603.add ((x9_2).toNat * 4)).block, (ad603.add ((x9_2).toNat * 4)).off + 2, none⟩ = some (.bool ((rd_T52 l0_2 x9_2).f2)) ∧ w'.cell? ⟨(ad603.add ((x9_2).toNat * 4)).block, (ad603.add ((x9_2).toNat * 4)).off + 3, none⟩ = some (.int .i64 ((rd_T52 l0_2 x9_2).f3))) (ds := [8, 10]) #[false, false, false, false, false, false, false, false, false, false, false] (by kernel_rfl) rfl rfl ⟨zc BK597.out 0, zc BK597.out 1, zc BK597.out 2, zc BK594.out 0, zc BK594.out 1, zc BK594.out 2, hx604_0, hx604_1, hx604_2, hx604_3⟩ (fun hHeld => ?_); refine with_tabW cooperageref16_Leave.tab13 cooperageref16_Leave.bits13 (fun HT_ HW_ => ?_)
       generalize wr.drew = w41 at HO_595001 HO_595002 HO_598001 HO_598002 BK594 BK595 BK597 HB hx604_0 hx604_1 hx604_2 hx604_3 hHeld ⊢
       refine zpp 0 (N := some 57) HT_ (h := ?_)
       refine zpp 2 (N := some 59) HT_ (h := ?_)
       refine zpp 4 (N := some 61) HT_ (h := ?_)
       refine zpt 1 (N := some 58) HT_ HW_ hHeld (h := ?_)
       refine zpt 3 (N := some 60) HT_ HW_ hHeld (h := ?_)
       refine zpp 5 (N := some 62) HT_ (h := ?_)
       refine zpt 6 (N := some 63) HT_ HW_ hHeld (h := ?_)
       refine one_ (i := 7) (N := some 64) #[true, true, true, true, true, true, true, true, false, false, false] rfl rfl (one_of HT_.out (by kernel_rfl)) (by decide) (fun K hK => ?_)
       refine value_ (w1 := ?_) (v := ?_) (by rfl) rfl ?_ ?_
       rotate_left 2
       ·go_simp
        constructor
        ·rfl
        ·rfl
       refine hK.out _ _ ⟨(blk_cell (blk_alloc BK597.out _) 0).trans rfl, (blk_cell (blk_alloc BK597.out _) 1).trans rfl, (blk_cell (blk_alloc BK597.out _) 2).trans rfl, (blk_cell (blk_alloc BK594.out _) 0).trans rfl, (blk_cell (blk_alloc BK594.out _) 1).trans rfl, (blk_cell (blk_alloc BK594.out _) 2).trans rfl, (World.cell?_alloc_lt _ _ _ (World.block_lt_of_cell? _ _ (hHeld.2.2.2.2.2.2.1))).trans (hHeld.2.2.2.2.2.2.1), (World.cell?_alloc_lt _ _ _ (World.block_lt_of_cell? _ _ (hHeld.2.2.2.2.2.2.2.1))).trans (hHeld.2.2.2.2.2.2.2.1), (World.cell?_alloc_lt _ _ _ (World.block_lt_of_cell? _ _ (hHeld.2.2.2.2.2.2.2.2.1))).trans (hHeld.2.2.2.2.2.2.2.2.1), (World.cell?_alloc_lt _ _ _ (World.block_lt_of_cell? _ _ (hHeld.2.2.2.2.2.2.2.2.2))).trans (hHeld.2.2.2.2.2.2.2.2.2)⟩ (fun hHeld => ?_)
       clear hK K
       refine znm (N := some 64) (h := ?_)
       refine last_ (i := 8) (N := some 65) #[true, true, true, true, true, true, true, true, true, false, false] rfl rfl (one_of HT_.out (by kernel_rfl)) (by decide) (fun K hK => ?_)
       refine Kd.R_append_step k52 (w0 := w) w.heap.size (by rfl) (.tmp 58) (.tmp 64) 30 52 (.agg #[(.int .i64 0), (.string ⟨#[]⟩), (.bool false), (.int .i64 0)]) 40 rfl Tryd.underlying30 info52 rfl (by decide) (by omega) u598002 x598002_2 (⟨(rd_T52 l0_2 x9_2).f0, (rd_T52 l0_2 x9_2).f1, (rd_T52 l0_2 x9_2).f2, (rd_T52 l0_2 x9_2).f3⟩ : S52) [.int .i64 ((rd_T52 l0_2 x9_2).f0), .string ((rd_T52 l0_2 x9_2).f1), .bool ((rd_T52 l0_2 x9_2).f2), .int .i64 ((rd_T52 l0_2 x9_2).f3)] (fun k_ => (w.heap.size ≤ k_)) (fun _ => False) rfl rfl ?aP (fun _ hk => hk.elim) ?aF ?aO ?aB ?aS ?aL ?_
       (case aP => exact k52_mkM _ _ _ (⟨(rd_T52 l0_2 x9_2).f0, (rd_T52 l0_2 x9_2).f1, (rd_T52 l0_2 x9_2).f2, (rd_T52 l0_2 x9_2).f3⟩ : S52))
       (case aB => exact (zL HB.out))
       (case aF => exact (fun k_ hk => (Nat.le_trans (below_size (zL HB.out)) hk)))
       (case aO => exact (zR HO_598002.out))
       (case aS => exact (below_size (zL HB.out)))
       (case aL => have := LMc37.out; omega)
       intro v606 w42 ho hb hg hat
       rw [← Ny605.out] at ho
       replace HO_595001 := ka (Kd.V_afterv (ok := (fun k_ => ((P0_1_ k_ ∨ P0_2_ k_) ∨ w.heap.size ≤ k_) ∧ some k_ ≠ (u598001 : Value).ownBlock ∧ k_ ≠ gb594 ∧ k_ ≠ gb595 ∧ k_ ≠ gb597)) (by (with_reducible repeat (first | apply Kd.V_alloc | apply Kd.V_drewN | apply Kd.V_drew)); exact Kd.V_mono HO_595001.out (fun _ hk => ⟨⟨hk.1, ⟨hk.2.1, ⟨hk.2.2.2.1, ⟨hk.2.2.2.2.1, hk.2.2.2.2.2⟩⟩⟩⟩, hk.2.2.1⟩)) hg hat)
       replace HO_595002 := ka (Kd.V_afterv (ok := (fun k_ => ((P0_1_ k_ ∨ P0_2_ k_) ∨ w.heap.size ≤ k_) ∧ some k_ ≠ (u598001 : Value).ownBlock ∧ k_ ≠ gb594 ∧ k_ ≠ gb595 ∧ k_ ≠ gb597)) (by (with_reducible repeat (first | apply Kd.V_alloc | apply Kd.V_drewN | apply Kd.V_drew)); exact Kd.V_mono HO_595002.out (fun _ hk => ⟨⟨hk.1, ⟨hk.2.1, ⟨hk.2.2.2.1, ⟨hk.2.2.2.2.1, hk.2.2.2.2.2⟩⟩⟩⟩, hk.2.2.1⟩)) hg hat)
       replace HO_598001 := ka (Kd.R_over' (zR HO_598001.out) (Kd.R_typed (zR HO_598002.out)) (by decide) hg)
       replace BK594 := ka (blk_grown (g := gb594) (o := .cells #[.int .i64 a0_0, .slice A0_1 l0_1.length c0_1, .slice (some ad603) l0_2.length c0_2] 32 (0, 0)) (zK BK594.out) hg (Kd.R_ne HO_598002.out BK594.out (by decide)))
       replace BK595 := ka (blk_grown (g := gb595) (o := .cells #[.int .i64 0, .slice none 0 0, .slice none 0 0] 32 (0, 0)) (zK BK595.out) hg (Kd.R_ne HO_598002.out BK595.out (by decide)))
       replace BK597 := ka (blk_grown (g := gb597) (o := .cells #[.int .i64 a0_0, u598001, u598002] 32 (0, 0)) (zK BK597.out) hg (Kd.R_ne HO_598002.out BK597.out (by decide)))
       replace HB := ka (hb)
       have HO607 := ka (ho)
       clear HO_598002
       clear ho hb hg hat
       obtain ⟨Ao43, co43, eo43⟩ := Kd.R_slice HO607.out
       (first | subst eo43 | (injection eo43 with f1_ f2_ f3_; have f4_ := f1_.symm; have f5_ := f3_.symm; clear f1_ f2_ f3_; subst f4_; subst f5_))
       refine hK.out _ _ ?_
       clear hK K
       refine znm (N := some 65) (h := ?_)
       refine zpp 9 (N := some 66) HT_ (h := ?_)
       refine last_ (i := 10) (N := none) #[true, true, true, true, true, true, true, true, true, true, true] rfl rfl (one_of HT_.out (by kernel_rfl)) (by decide) (fun K hK => ?_)
       have hs44 : w42.cell? ⟨gb597, 2, none⟩ = some (u598002) := zc BK597.out 2
       have hfs44 := blk_frozen BK597.out 2
       have hns44_0 := NB594_597.out
       have hns44_1 := NB595_597.out
       have hms44_0 := NB597_594.out
       have hms44_1 := NB597_595.out
       refine skip_ (w1 := ?_) (by rfl) rfl ?_ ?_
       rotate_left
       ·go_simp
        rfl
       refine hK.out _ _ ?_
       clear hK K
       refine done_ (done_of HT_.out (by kernel_rfl)) ?_
       try go_wp2
       go_roundg k2
       case measure => have := HK1.out; have := HK2.out; omega
       case rel => exact ⟨(wrap64 (x9_2 + 1)), (y605), (.slice Ao43 y605.length co43), zS, H', ⟨by have := HK1.out; have := HK2.out; omega⟩, ⟨by (with_reducible repeat (first | apply Kd.V_alloc | apply Kd.V_drewN | apply Kd.V_drew)); exact Kd.V_mono (zNV HO_595001.out (g := gb597) (fun _ hk => hk.1.2.2.2.2)) (fun _ hk => ⟨hk.1.1.1, ⟨hk.1.1.2.1, ⟨hk.1.2, ⟨hk.1.1.2.2.1, ⟨hk.1.1.2.2.2.1, hk.1.1.2.2.2.2⟩⟩⟩⟩⟩)⟩, ⟨by (with_reducible repeat (first | apply Kd.V_alloc | apply Kd.V_drewN | apply Kd.V_drew)); exact Kd.V_mono (zNV HO_595002.out (g := gb597) (fun _ hk => hk.1.2.2.2.2)) (fun _ hk => ⟨hk.1.1.1, ⟨hk.1.1.2.1, ⟨hk.1.2, ⟨hk.1.1.2.2.1, ⟨hk.1.1.2.2.2.1, hk.1.1.2.2.2.2⟩⟩⟩⟩⟩)⟩, ⟨by (with_reducible repeat (first | apply Kd.R_alloc | apply Kd.R_drewN | apply Kd.R_drew)); exact Kd.R_mono (zNT HO_598001.out BK597.out) (fun _ hk => hk.1)⟩, ⟨by (with_reducible repeat (first | apply Kd.R_alloc | apply Kd.R_drewN | apply Kd.R_drew)); exact Kd.R_mono (zNT HO607.out BK597.out) (fun _ hk => hk.1)⟩, ⟨zK BK594.out⟩, ⟨zK BK595.out⟩, ⟨by (with_reducible repeat (first | refine blk_drewN ?_ _ | refine blk_drew ?_ | refine blk_alloc ?_ _)); refine blk_put (cs := #[.int .i64 a0_0, u598001, u598002]) ?_ 2 _ rfl; (with_reducible repeat (first | refine blk_drewN ?_ _ | refine blk_drew ?_ | refine blk_alloc ?_ _)); exact BK597.out⟩, ⟨zL HB.out⟩⟩
      rw [if_neg c31] at H
      have c31b0 := zdf c31
      clear c31
      replace H := Option.bind_eq_some_iff.mp H
      obtain ⟨⟨t608, t609, t612⟩, A450, H⟩ := H
      try dsimp only at H
      have A45 := ka A450
      clear A450
      replace H := zs3 H
      obtain ⟨rfl, rfl, rfl⟩ := H
      have hnb46 := NB594_595.out
      have hnc46 := NB595_594.out
      have hnb47 := NB594_597.out
      have hnc47 := NB597_594.out
      obtain ⟨z48_0, z48_1, z48_2, y48_0, y48_1, y48_2⟩ := zC3 BK594.out
      have hnb49 := NB597_595.out
      have hnc49 := NB595_597.out
      obtain ⟨z50_0, z50_1, z50_2, y50_0, y50_1, y50_2⟩ := zC3 BK597.out
      obtain ⟨Ao51, co51, eo51⟩ := Kd.R_slice HO_598001.out
      subst eo51
      obtain ⟨Ao52, co52, eo52⟩ := Kd.R_slice HO_598002.out
      subst eo52
      go_wp2_with (first | ((with_reducible refine gate_callee (f := 43) rfl ?_); refine goesL_ (some 69) rfl rfl Tryd.func43 (by kernel_rfl) rfl #[.agg #[.int .i64 a0_0, .slice Ao51 x598001_1.length co51, .slice Ao52 x598002_2.length co52], .int .i64 a2] rfl zA ?_; (with_reducible refine (cooperageref16_settle.calls k2 a0_0 _ _ x598001_1 _ _ x598002_2 a2 t608 t609 t612 _ ?side1 ?side2 ?side3 ?side4 A45.out).mono ?_); (case side1 => exact zCS (Kd.R_reads' HO_598001.out).2.2); (case side2 => exact (Kd.R_reads' HO_598001.out).2.1); (case side3 => exact zCS (Kd.R_reads' HO_598002.out).2.2); (case side4 => exact (Kd.R_reads' HO_598002.out).2.1); rintro e w53 ⟨v610, v613, rfl, ho0, ho1, hb⟩; refine ⟨_, rfl, ?_⟩; replace HO_595001 := ka (Kd.V_mono (Kd.V_told (Kd.V_told (Kd.V_old (zV HO_595001.out) hb) (Kd.R_base ho0)) (Kd.R_base ho1)) (fun _ h_ => h_.1)); replace HO_595002 := ka (Kd.V_mono (Kd.V_told (Kd.V_told (Kd.V_old (zV HO_595002.out) hb) (Kd.R_base ho0)) (Kd.R_base ho1)) (fun _ h_ => h_.1)); have HO611 := ka (Kd.R_lower (Kd.R_new' (Kd.R_newM (M := fun k_ => (w.heap.size ≤ k_)) ho0 (below_size (zL HB.out)) (fun k_ h_ => h_)) (Kd.R_lt (zR HO_598001.out))) (below_size (zL HB.out))); replace HO_598001 := ka (Kd.R_elder' (zR HO_598001.out) (Kd.R_base ho0) hb); have HO614 := ka (Kd.R_lower (Kd.R_new' (Kd.R_newM (M := fun k_ => (w.heap.size ≤ k_)) ho1 (below_size (zL HB.out)) (fun k_ h_ => h_)) (Kd.R_lt (zR HO_598002.out))) (below_size (zL HB.out))); replace HO_598002 := ka (Kd.R_elder' (zR HO_598002.out) (Kd.R_base ho1) hb); replace BK594 := ka (zB BK594.out hb); replace BK595 := ka (zB BK595.out hb); replace BK597 := ka (zB BK597.out hb); replace HB := ka (below_step (zL HB.out) hb); (try clear hb); (try clear hb2); (try clear hk); (try clear hi); (try clear ho0); (try clear ho1); obtain ⟨z54_0, z54_1, z54_2, y54_0, y54_1, y54_2⟩ := zC3 BK595.out; obtain ⟨Ao55, co55, eo55⟩ := Kd.R_slice HO611.out; subst eo55; obtain ⟨Ao56, co56, eo56⟩ := Kd.R_slice HO614.out; subst eo56))
      refine bodyPost_ret (results_cell_row rfl _ _ gb595 32 #[.int .i64 t608, .slice Ao55 t609.length co55, .slice Ao56 t612.length co56] (0, 0) _ rfl (zP3 BK595.out) Tryd.underlying32 rfl (by kernel_rfl)) rfl ?_
      exact ⟨_, _, zE, Kd.V_mono (Kd.R_V (by (with_reducible repeat (first | apply Kd.R_alloc | apply Kd.R_drewN | apply Kd.R_drew)); exact Kd.R_mono (zNT HO611.out BK595.out) (fun _ hk => hk.1.1.1))) (fun k_ hk => by first | exact ⟨(.inr (hk.1)), hk.2⟩ | exact (.inr (hk))), Kd.V_mono (Kd.R_V (by (with_reducible repeat (first | apply Kd.R_alloc | apply Kd.R_drewN | apply Kd.R_drew)); exact Kd.R_mono (zNT HO614.out BK595.out) (fun _ hk => hk.1.1.1))) (fun k_ hk => by first | exact ⟨(.inr (hk.1)), hk.2⟩ | exact (.inr (hk))), zL HB.out⟩
 replace c5 := Bool.eq_false_iff.mpr c5
 subst c5
 rw [if_neg (show ¬ (false = true) by decide)] at H
 replace H := zs3 H
 obtain ⟨rfl, rfl, rfl⟩ := H
 go_enter Tryd.func23, Tryd.ntmps23
 go_wp2_with (first | ((with_reducible refine gate_dst (N := 3) rfl ?_); refine box_event ?hg (N := 3) ?hd (cs := #[.int .i64 a0_0, .slice A0_1 l0_1.length c0_1, .slice A0_2 l0_2.length c0_2]) (t := 32) ?hr ?_; (case hd => rfl); (case hg => rfl); (case hr => (go_simp; try rfl)); intro gb594 hg w57 hbox hb; replace HO0_1 := ka (Kd.V_below (Kd.V_elderB (zV HO0_1.out) gb594 (Nat.le_of_eq hg.symm)) hb); replace HO0_2 := ka (Kd.V_below (Kd.V_elderB (zV HO0_2.out) gb594 (Nat.le_of_eq hg.symm)) hb); have BK594 := ka (hbox); have GW594 := ka (zG hg (zL HB.out)); replace HB := ka (below_step (zL HB.out) hb); clear hb hbox hg) | ((with_reducible refine gate_dst (N := 6) rfl ?_); refine box_event ?hg (N := 6) ?hd (cs := #[.int .i64 0, .slice none 0 0, .slice none 0 0]) (t := 32) ?hr ?_; (case hd => rfl); (case hg => rfl); (case hr => (go_simp; try rfl)); intro gb595 hg w58 hbox hb; replace HO0_1 := ka (Kd.V_below (Kd.V_elderB (zV HO0_1.out) gb595 (Nat.le_of_eq hg.symm)) hb); replace HO0_2 := ka (Kd.V_below (Kd.V_elderB (zV HO0_2.out) gb595 (Nat.le_of_eq hg.symm)) hb); have BK595 := ka (hbox); have GW595 := ka (zG hg (zL HB.out)); replace HB := ka (below_step (zL HB.out) hb); have NB594_595 := ka (zNK hg BK594.out); have NB595_594 := ka (zOK hg BK594.out); replace BK594 := ka (zB BK594.out hb); clear hb hbox hg) | ((with_reducible refine gate_callee (f := 42) rfl ?_); refine goesL_ (some 11) rfl rfl Tryd.func42 (by kernel_rfl) rfl #[.int .i64 a2] rfl zA ?_; (with_reducible refine (cooperageref16_time.calls a2 false _ A4.out).mono ?_); rintro e w' ⟨rfl, ⟨nd, rfl⟩⟩; refine ⟨_, rfl, ?_⟩; (try (rw [drewN_self w58]; generalize hq_ : World.drewN w58 _ = w58; have n0_ : Aside0 (Kd.V k45 45 w58 w.heap.size (fun k_ => ((P0_1_ k_ ∨ P0_2_ k_) ∨ w.heap.size ≤ k_) ∧ k_ ≠ gb594 ∧ k_ ≠ gb595) (.slice A0_1 l0_1.length c0_1) l0_1) := ⟨by rw [← hq_]; exact (by (with_reducible repeat (first | apply Kd.V_alloc | apply Kd.V_drewN | apply Kd.V_drew)); exact Kd.V_mono HO0_1.out (fun _ hk => ⟨hk.1.1, ⟨hk.1.2, hk.2⟩⟩))⟩; have n1_ : Aside0 (Kd.V k52 52 w58 w.heap.size (fun k_ => ((P0_1_ k_ ∨ P0_2_ k_) ∨ w.heap.size ≤ k_) ∧ k_ ≠ gb594 ∧ k_ ≠ gb595) (.slice A0_2 l0_2.length c0_2) l0_2) := ⟨by rw [← hq_]; exact (by (with_reducible repeat (first | apply Kd.V_alloc | apply Kd.V_drewN | apply Kd.V_drew)); exact Kd.V_mono HO0_2.out (fun _ hk => ⟨hk.1.1, ⟨hk.1.2, hk.2⟩⟩))⟩; have n2_ : Aside0 (w58.heap[gb594]? = some (.cells #[.int .i64 a0_0, .slice A0_1 l0_1.length c0_1, .slice A0_2 l0_2.length c0_2] 32 (0, 0))) := ⟨by rw [← hq_]; exact (zK BK594.out)⟩; have n3_ : Aside0 (w58.heap[gb595]? = some (.cells #[.int .i64 0, .slice none 0 0, .slice none 0 0] 32 (0, 0))) := ⟨by rw [← hq_]; exact (zK BK595.out)⟩; have n4_ : Aside0 (Below w.heap.size w w58) := ⟨by rw [← hq_]; exact (zL HB.out)⟩; clear HO0_1 HO0_2 BK594 BK595 HB hq_; have HO0_1 := n0_; have HO0_2 := n1_; have BK594 := n2_; have BK595 := n3_; have HB := n4_; clear n0_ n1_ n2_ n3_ n4_; (try (obtain ⟨z48_0, z48_1, z48_2, y48_0, y48_1, y48_2⟩ := zC3 BK594.out)); (try (obtain ⟨z54_0, z54_1, z54_2, y54_0, y54_1, y54_2⟩ := zC3 BK595.out)))); have hnb59 := NB594_595.out; have hnc59 := NB595_594.out; obtain ⟨z60_0, z60_1, z60_2, y60_0, y60_1, y60_2⟩ := zC3 BK594.out; obtain ⟨z61_0, z61_1, z61_2, y61_0, y61_1, y61_2⟩ := zC3 BK595.out))
 refine bodyPost_ret (results_cell_row rfl _ _ gb595 32 #[.int .i64 a0_0, .slice A0_1 l0_1.length c0_1, .slice A0_2 l0_2.length c0_2] (0, 0) _ rfl (zP3 BK595.out) Tryd.underlying32 rfl (by kernel_rfl)) rfl ?_
 exact ⟨_, _, zE, by (with_reducible repeat (first | apply Kd.V_alloc | apply Kd.V_drewN | apply Kd.V_drew)); exact Kd.V_mono (zNV HO0_1.out (g := gb595) (fun _ hk => hk.2.2)) (fun _ hk => hk.1.1), by (with_reducible repeat (first | apply Kd.V_alloc | apply Kd.V_drewN | apply Kd.V_drew)); exact Kd.V_mono (zNV HO0_2.out (g := gb595) (fun _ hk => hk.2.2)) (fun _ hk => hk.1.1), zL HB.out⟩

end Go.Proofs.YtjdadmjomjhpcaaDoor.PLease
