-- Written by a program of this session (wip/tools/ext.py, over the kit's printer); not trusted: Lean checks it.
import Derived.Test.YtjdadmjomjhpcaaDoorPLeasex10
namespace Go.Proofs.YtjdadmjomjhpcaaDoor.PLease
open Go.RowKit Go.Proofs.YtjdadmjomjhpcaaDoorW.PrintWords Go.Proofs.YtjdadmjomjhpcaaDoorW.PrintLast Go.Proofs.YtjdadmjomjhpcaaDoorW.PrintMore
attribute [local go_sem] max2_int min2_int max_two min_two max_three min_three max_four min_four
set_option linter.unusedVariables false
set_option linter.unusedSimpArgs false
set_option maxHeartbeats 8000000
set_option maxRecDepth 100000

/-! ### cooperageref16_Tick: function 24 -/
def cooperageref16_Tick.l0 : Nat → Int → Int → Int → List (S45) → List (S52) → Int → List (S45) → List (S52) → Option (Int × (List (S45)) × (List (S52)))
 | 0, _, _, _, _, _, _, _, _ => none
 | k + 1, x1, x6, x616000, x616001, x616002, x619000, x619001, x619002 => if x6 < (x616001.length : Int) then (if 0 ≤ x6 then (if ((rd_T45 x616001 x6).f4) > x1 then (if x619001.length < 2932031007402 then (cooperageref16_Tick.l0 k x1 (wrap64 (x6 + 1)) x616000 x616001 x616002 x619000 (x619001 ++ [(⟨(rd_T45 x616001 x6).f0, (rd_T45 x616001 x6).f1, (rd_T45 x616001 x6).f2, (rd_T45 x616001 x6).f3, (rd_T45 x616001 x6).f4⟩ : S45)]) x619002) else (none)) else (cooperageref16_Tick.l0 k x1 (wrap64 (x6 + 1)) x616000 x616001 x616002 x619000 x619001 x619002)) else (none)) else ((cooperageref16_settle.f k x619000 x619001 x619002 x1).bind fun bt624 => (some (bt624.1, bt624.2.1, bt624.2.2)))
def cooperageref16_Tick.f (k : Nat) (a0_0 : Int) (l0_1 : List (S45)) (l0_2 : List (S52)) (a1 : Int) : Option (Int × (List (S45)) × (List (S52))) := (cooperageref16_time.f a1).bind fun t617 => (if t617 = true then (cooperageref16_Tick.l0 k a1 0 a0_0 l0_1 l0_2 a0_0 ([] : List (S45)) l0_2) else (some (a0_0, l0_1, l0_2)))
theorem cooperageref16_Tick.mono_l : ∀ k, (∀ y0 y1 y2 y3 y4 y5 y6 y7, LeO (cooperageref16_Tick.l0 k y0 y1 y2 y3 y4 y5 y6 y7) (cooperageref16_Tick.l0 (k + 1) y0 y1 y2 y3 y4 y5 y6 y7))
 | 0 => fun _ _ _ _ _ _ _ _ r h => by simp [cooperageref16_Tick.l0] at h
 | k + 1 => by
  have ih0 := cooperageref16_Tick.mono_l k
  ·intro y0 y1 y2 y3 y4 y5 y6 y7
   unfold cooperageref16_Tick.l0
   have m0 := @cooperageref16_settle.mono
   exact zLe
theorem cooperageref16_Tick.mono : ∀ a0 a1 a2 a3 k, LeO (cooperageref16_Tick.f k a0 a1 a2 a3) (cooperageref16_Tick.f (k + 1) a0 a1 a2 a3) := by
 intro a0 a1 a2 a3 k
 have ih0 := cooperageref16_Tick.mono_l k
 unfold cooperageref16_Tick.f
 have m0 := @cooperageref16_settle.mono
 exact zLe
def cooperageref16_Tick.T8 : Bool × List (List Nat × List Nat) := (true, [([], []), ([0], [0]), ([], []), ([2], [2]), ([], []), ([3, 4], [3, 4]), ([5], [5]), ([6], [6]), ([1, 7], [1, 7]), ([0, 1, 2, 3, 4, 5, 6, 7, 8], []), ([9, 8, 8, 0, 1, 2, 3, 4, 5, 6, 7, 8], [8, 9])])
def cooperageref16_Tick.B8 : List Nat := [0, 1, 0, 4, 0, 28, 60, 124, 255, 511, 1023]
theorem cooperageref16_Tick.tab8 : rtab .any (opsOf Tryd.f24 8) = cooperageref16_Tick.T8 := by kernel_rfl
theorem cooperageref16_Tick.bits8 : waitsOk cooperageref16_Tick.T8.2 cooperageref16_Tick.B8 = true := by kernel_rfl
theorem cooperageref16_Tick.calls (k : Nat) (a0_0 : Int) (P0_1_ : Nat → Prop) (A0_1 : Option Addr) (c0_1 : Nat) (l0_1 : List (S45)) (P0_2_ : Nat → Prop) (A0_2 : Option Addr) (c0_2 : Nat) (l0_2 : List (S52)) (a1 : Int) (r1 : Int) (r2 : List (S45)) (r3 : List (S52)) (w : World) (hs0_1 : Kd.V k45 45 w w.heap.size (fun k_ => P0_1_ k_) (.slice A0_1 l0_1.length c0_1) l0_1) (hs0_2 : Kd.V k52 52 w w.heap.size (fun k_ => P0_2_ k_) (.slice A0_2 l0_2.length c0_2) l0_2) (h : cooperageref16_Tick.f k a0_0 l0_1 l0_2 a1 = some (r1, r2, r3)) :
  Calls Tryd.prog 24 #[.agg #[.int .i64 a0_0, .slice A0_1 l0_1.length c0_1, .slice A0_2 l0_2.length c0_2], .int .i64 a1] w fun e w' => ∃ v1_ v2_ : Value, e = .returned (.agg #[.int .i64 r1, v1_, v2_]) ∧ Kd.V k45 45 w' w.heap.size (fun k_ => ((P0_1_ k_ ∨ P0_2_ k_) ∨ w.heap.size ≤ k_)) v1_ r2 ∧ Kd.V k52 52 w' w.heap.size (fun k_ => ((P0_1_ k_ ∨ P0_2_ k_) ∨ w.heap.size ≤ k_)) v2_ r3 ∧ Below w.heap.size w w' := by
 have hu32 := Tryd.underlying32
 have hu45 := Tryd.underlying45
 have HO0_1 := ka (show Kd.V k45 45 w w.heap.size (fun k_ => ((P0_1_ k_ ∨ P0_2_ k_) ∨ w.heap.size ≤ k_)) (.slice A0_1 l0_1.length c0_1) l0_1 from Kd.V_mono hs0_1 (fun k_ hk => .inl (.inl hk)))
 have HO0_2 := ka (show Kd.V k52 52 w w.heap.size (fun k_ => ((P0_1_ k_ ∨ P0_2_ k_) ∨ w.heap.size ≤ k_)) (.slice A0_2 l0_2.length c0_2) l0_2 from Kd.V_mono hs0_2 (fun k_ hk => .inl (.inr hk)))
 have HB := ka (Below.refl w.heap.size w)
 have H : ((cooperageref16_time.f a1).bind fun t617 => (if t617 = true then (cooperageref16_Tick.l0 k a1 0 a0_0 l0_1 l0_2 a0_0 ([] : List (S45)) l0_2) else (some (a0_0, l0_1, l0_2)))) = some (r1, r2, r3) := h
 clear h
 replace H := Option.bind_eq_some_iff.mp H
 obtain ⟨t617, A30, H⟩ := H
 try dsimp only at H
 have A3 := ka A30
 clear A30
 by_cases c4 : t617 = true
 ·subst c4
  rw [if_pos rfl] at H
  have H' := ka H
  clear H
  go_enter Tryd.func24, Tryd.ntmps24
  go_wp2_with (first | ((with_reducible refine gate_dst (N := 2) rfl ?_); refine box_event ?hg (N := 2) ?hd (cs := #[.int .i64 a0_0, .slice A0_1 l0_1.length c0_1, .slice A0_2 l0_2.length c0_2]) (t := 32) ?hr ?_; (case hd => rfl); (case hg => rfl); (case hr => (go_simp; try rfl)); intro gb615 hg w5 hbox hb; replace HO0_1 := ka (Kd.V_below (Kd.V_elderB (zV HO0_1.out) gb615 (Nat.le_of_eq hg.symm)) hb); replace HO0_2 := ka (Kd.V_below (Kd.V_elderB (zV HO0_2.out) gb615 (Nat.le_of_eq hg.symm)) hb); have BK615 := ka (hbox); have GW615 := ka (zG hg (zL HB.out)); replace HB := ka (below_step (zL HB.out) hb); clear hb hbox hg) | ((with_reducible refine gate_dst (N := 4) rfl ?_); refine box_event ?hg (N := 4) ?hd (cs := #[.int .i64 0, .slice none 0 0, .slice none 0 0]) (t := 32) ?hr ?_; (case hd => rfl); (case hg => rfl); (case hr => (go_simp; try rfl)); intro gb616 hg w6 hbox hb; replace HO0_1 := ka (Kd.V_below (Kd.V_elderB (zV HO0_1.out) gb616 (Nat.le_of_eq hg.symm)) hb); replace HO0_2 := ka (Kd.V_below (Kd.V_elderB (zV HO0_2.out) gb616 (Nat.le_of_eq hg.symm)) hb); have BK616 := ka (hbox); have GW616 := ka (zG hg (zL HB.out)); replace HB := ka (below_step (zL HB.out) hb); have NB615_616 := ka (zNK hg BK615.out); have NB616_615 := ka (zOK hg BK615.out); replace BK615 := ka (zB BK615.out hb); clear hb hbox hg) | ((with_reducible refine gate_callee (f := 42) rfl ?_); refine goesL_ (some 8) rfl rfl Tryd.func42 (by kernel_rfl) rfl #[.int .i64 a1] rfl zA ?_; (with_reducible refine (cooperageref16_time.calls a1 true _ A3.out).mono ?_); rintro e w' ⟨rfl, ⟨nd, rfl⟩⟩; refine ⟨_, rfl, ?_⟩; (try (rw [drewN_self w6]; generalize hq_ : World.drewN w6 _ = w6; have n0_ : Aside0 (Kd.V k45 45 w6 w.heap.size (fun k_ => ((P0_1_ k_ ∨ P0_2_ k_) ∨ w.heap.size ≤ k_) ∧ k_ ≠ gb615 ∧ k_ ≠ gb616) (.slice A0_1 l0_1.length c0_1) l0_1) := ⟨by rw [← hq_]; exact (by (with_reducible repeat (first | apply Kd.V_alloc | apply Kd.V_drewN | apply Kd.V_drew)); exact Kd.V_mono HO0_1.out (fun _ hk => ⟨hk.1.1, ⟨hk.1.2, hk.2⟩⟩))⟩; have n1_ : Aside0 (Kd.V k52 52 w6 w.heap.size (fun k_ => ((P0_1_ k_ ∨ P0_2_ k_) ∨ w.heap.size ≤ k_) ∧ k_ ≠ gb615 ∧ k_ ≠ gb616) (.slice A0_2 l0_2.length c0_2) l0_2) := ⟨by rw [← hq_]; exact (by (with_reducible repeat (first | apply Kd.V_alloc | apply Kd.V_drewN | apply Kd.V_drew)); exact Kd.V_mono HO0_2.out (fun _ hk => ⟨hk.1.1, ⟨hk.1.2, hk.2⟩⟩))⟩; have n2_ : Aside0 (w6.heap[gb615]? = some (.cells #[.int .i64 a0_0, .slice A0_1 l0_1.length c0_1, .slice A0_2 l0_2.length c0_2] 32 (0, 0))) := ⟨by rw [← hq_]; exact (zK BK615.out)⟩; have n3_ : Aside0 (w6.heap[gb616]? = some (.cells #[.int .i64 0, .slice none 0 0, .slice none 0 0] 32 (0, 0))) := ⟨by rw [← hq_]; exact (zK BK616.out)⟩; have n4_ : Aside0 (Below w.heap.size w w6) := ⟨by rw [← hq_]; exact (zL HB.out)⟩; clear HO0_1 HO0_2 BK615 BK616 HB hq_; have HO0_1 := n0_; have HO0_2 := n1_; have BK615 := n2_; have BK616 := n3_; have HB := n4_; clear n0_ n1_ n2_ n3_ n4_)); have hnb7 := NB615_616.out; have hnc7 := NB616_615.out; obtain ⟨z8_0, z8_1, z8_2, y8_0, y8_1, y8_2⟩ := zC3 BK615.out) | ((with_reducible refine gate_dst (N := 5) rfl ?_); refine box_event ?hg (N := 5) ?hd (cs := #[.int .i64 0, .slice none 0 0, .slice none 0 0]) (t := 32) ?hr ?_; (case hd => rfl); (case hg => rfl); (case hr => (go_simp; try rfl)); intro gb618 hg w9 hbox hb; replace HO0_1 := ka (Kd.V_below (Kd.V_elderB (zV HO0_1.out) gb618 (Nat.le_of_eq hg.symm)) hb); replace HO0_2 := ka (Kd.V_below (Kd.V_elderB (zV HO0_2.out) gb618 (Nat.le_of_eq hg.symm)) hb); have BK618 := ka (hbox); have GW618 := ka (zG hg (zL HB.out)); replace HB := ka (below_step (zL HB.out) hb); have NB615_618 := ka (zNK hg BK615.out); have NB618_615 := ka (zOK hg BK615.out); replace BK615 := ka (zB BK615.out hb); have NB616_618 := ka (zNK hg BK616.out); have NB618_616 := ka (zOK hg BK616.out); replace BK616 := ka (zB BK616.out hb); clear hb hbox hg; have hnb10 := NB618_615.out; have hnc10 := NB615_618.out; have hnb11 := NB618_616.out; have hnc11 := NB616_618.out; obtain ⟨z12_0, z12_1, z12_2, y12_0, y12_1, y12_2⟩ := zC3 BK618.out))
  go_loopg [6] k (fun kq v6 w' => ∃ (x6_1 : Int) (x619001_1 : List (S45)) (u619001 : Value), v6 = .int .i64 x6_1 ∧ Aside0 (cooperageref16_Tick.l0 kq a1 x6_1 a0_0 l0_1 l0_2 a0_0 x619001_1 l0_2 = some (r1, r2, r3)) ∧ Aside0 (kq ≤ k) ∧ Aside0 (Kd.V k45 45 w' w.heap.size (fun k_ => ((P0_1_ k_ ∨ P0_2_ k_) ∨ w.heap.size ≤ k_) ∧ some k_ ≠ (u619001 : Value).ownBlock ∧ k_ ≠ gb615 ∧ k_ ≠ gb616 ∧ k_ ≠ gb618) (.slice A0_1 l0_1.length c0_1) l0_1) ∧ Aside0 (Kd.V k52 52 w' w.heap.size (fun k_ => ((P0_1_ k_ ∨ P0_2_ k_) ∨ w.heap.size ≤ k_) ∧ some k_ ≠ (u619001 : Value).ownBlock ∧ k_ ≠ gb615 ∧ k_ ≠ gb616 ∧ k_ ≠ gb618) (.slice A0_2 l0_2.length c0_2) l0_2) ∧ Aside0 (Kd.R k45 45 w' w.heap.size (fun k_ => (w.heap.size ≤ k_)) u619001 x619001_1) ∧ Aside0 (Kd.V k52 52 w' w.heap.size (fun k_ => ((P0_1_ k_ ∨ P0_2_ k_) ∨ w.heap.size ≤ k_) ∧ some k_ ≠ (u619001 : Value).ownBlock ∧ k_ ≠ gb615 ∧ k_ ≠ gb616 ∧ k_ ≠ gb618) (.slice A0_2 l0_2.length c0_2) l0_2) ∧ Aside0 (w'.heap[gb615]? = some (.cells #[.int .i64 a0_0, (.slice A0_1 l0_1.length c0_1), (.slice A0_2 l0_2.length c0_2)] 32 (0, 0))) ∧ Aside0 (w'.heap[gb616]? = some (.cells #[.int .i64 0, (.slice none 0 0), (.slice none 0 0)] 32 (0, 0))) ∧ Aside0 (w'.heap[gb618]? = some (.cells #[.int .i64 a0_0, u619001, (.slice A0_2 l0_2.length c0_2)] 32 (0, 0))) ∧ Aside0 (Below w.heap.size w w'))
  case atStart => exact ⟨(0), (([] : List (S45))), (.slice none 0 0), zS, H', ⟨Nat.le_refl _⟩, ⟨by (with_reducible repeat (first | apply Kd.V_alloc | apply Kd.V_drewN | apply Kd.V_drew)); exact Kd.V_mono (zNV HO0_1.out (g := gb618) (fun _ hk => hk.2)) (fun _ hk => ⟨hk.1.1.1, ⟨(by simp [Value.ownBlock]), ⟨hk.1.1.2.1, ⟨hk.1.1.2.2, hk.1.2⟩⟩⟩⟩)⟩, ⟨by (with_reducible repeat (first | apply Kd.V_alloc | apply Kd.V_drewN | apply Kd.V_drew)); exact Kd.V_mono (zNV HO0_2.out (g := gb618) (fun _ hk => hk.2)) (fun _ hk => ⟨hk.1.1.1, ⟨(by simp [Value.ownBlock]), ⟨hk.1.1.2.1, ⟨hk.1.1.2.2, hk.1.2⟩⟩⟩⟩)⟩, ⟨zNl⟩, ⟨by (with_reducible repeat (first | apply Kd.V_alloc | apply Kd.V_drewN | apply Kd.V_drew)); exact Kd.V_mono (zNV HO0_2.out (g := gb618) (fun _ hk => hk.2)) (fun _ hk => ⟨hk.1.1.1, ⟨(by simp [Value.ownBlock]), ⟨hk.1.1.2.1, ⟨hk.1.1.2.2, hk.1.2⟩⟩⟩⟩)⟩, ⟨zK BK615.out⟩, ⟨zK BK616.out⟩, ⟨zP3 BK618.out⟩, ⟨zL HB.out⟩⟩
  case round =>
   clear H'
   try clear c4
   try clear z12_0 z12_1 z12_2
   try clear z8_0 z8_1 z8_2
   try clear y12_0 y12_1 y12_2
   try clear y8_0 y8_1 y8_2
   obtain ⟨x6_1, x619001_1, u619001, rfl, HA, HK1, HO_616001, HO_616002, HO_619001, HO_619002, BK615, BK616, BK618, HB⟩ := hrel
   cases gk with
   | zero => exact absurd HA.out (by simp [cooperageref16_Tick.l0])
   | succ k1 =>
    have H := HA.out
    clear HA
    simp only [cooperageref16_Tick.l0] at H
    by_cases c13 : x6_1 < (l0_1.length : Int)
    ·rw [if_pos c13] at H
     have c13b0 := zdt c13
     clear c13
     replace H := zif H
     obtain ⟨c14, H⟩ := H
     have c14b0 := zdt c14
     clear c14
     by_cases c15 : ((rd_T45 l0_1 x6_1).f4) > a1
     ·rw [if_pos c15] at H
      have c15b0 : decide (a1 < ((rd_T45 l0_1 x6_1).f4)) = true := zdt c15
      clear c15
      replace H := zif H
      obtain ⟨c16, H⟩ := H
      have LMc16 := ka c16
      clear c16
      obtain ⟨y621, hy621⟩ : ∃ y_ : List (S45), y_ = (x619001_1 ++ [(⟨(rd_T45 l0_1 x6_1).f0, (rd_T45 l0_1 x6_1).f1, (rd_T45 l0_1 x6_1).f2, (rd_T45 l0_1 x6_1).f3, (rd_T45 l0_1 x6_1).f4⟩ : S45)]) := ⟨_, rfl⟩
      replace H : (cooperageref16_Tick.l0 k1 a1 (wrap64 (x6_1 + 1)) a0_0 l0_1 l0_2 a0_0 y621 l0_2) = some (r1, r2, r3) := zH hy621 H
      have Ny621 := ka hy621
      clear hy621
      have H' := ka H
      clear H
      have hnb17 := NB615_616.out
      have hnc17 := NB616_615.out
      have hnb18 := NB615_618.out
      have hnc18 := NB618_615.out
      obtain ⟨z19_0, z19_1, z19_2, y19_0, y19_1, y19_2⟩ := zC3 BK615.out
      have p619 : 0 ≤ (x6_1 : Int) := zD
      have q619 : x6_1 < (l0_1.length : Int) := zD
      obtain ⟨ad619, e619, hx619_0, hx619_1, hx619_2, hx619_3, hx619_4⟩ := at_T45 (Kd.V_reads' HO_616001.out).2.2 x6_1 p619 q619
      cases e619
      replace p619 := eq_true p619
      replace q619 := eq_true q619
      try go_wp2
      replace HO_616001 := ka (Kd.V_drew HO_616001.out)
      replace HO_616002 := ka (Kd.V_drew HO_616002.out)
      replace HO_619001 := ka (Kd.R_drew HO_619001.out)
      replace HO_619002 := ka (Kd.V_drew HO_619002.out)
      replace BK615 := ka (blk_drew BK615.out)
      replace BK616 := ka (blk_drew BK616.out)
      replace BK618 := ka (blk_drew BK618.out)
      replace HB := ka (below_drew1 HB.out)
      have p620 : 0 ≤ (x6_1 : Int) := zD
      have q620 : x6_1 < (l0_1.length : Int) := zD
      obtain ⟨ad620, e620, hx620_0, hx620_1, hx620_2, hx620_3, hx620_4⟩ := at_T45 (Kd.V_reads' HO_616001.out).2.2 x6_1 p620 q620
      obtain rfl : ad619 = ad620 := (by injection e620)
      replace p620 := eq_true p620
      replace q620 := eq_true q620
      refine start_ (n := 11) (S := fun w' => w'.cell? ⟨gb618, 0, none⟩ = some (.int .i64 a0_0) ∧ w'.cell? ⟨gb618, 1, none⟩ = some (u619001) ∧ w'.cell? ⟨gb618, 2, none⟩ = some (.slice A0_2 l0_2.length c0_2) ∧ w'.cell? ⟨gb615, 0, none⟩ = some (.int .i64 a0_0) ∧ w'.cell? ⟨gb615, 1, none⟩ = some (.slice (some ad619) l0_1.length c0_1) ∧ w'.cell? ⟨gb615, 2, none⟩ = some (.slice A0_2 l0_2.length c0_2) ∧ w'.cell? (ad619.add ((x6_1).toNat * 5)) = some (.int .i64 ((rd_T45 l0_1 x6_1).f0)) ∧ w'.cell? ⟨(ad619.add ((x6_1).toNat * 5)).block, (ad619.add ((x6_1).toNat * 5)).off + 1, none⟩ = some (.string ((rd_T45 l0_1 x6_1).f1)) ∧ w'.cell? ⟨(ad619.add ((x6_1).toNat * 5)).block, (ad619.add ((x6_1).toNat * 5)).off + 2, none⟩ = some (.bool ((rd_T45 l0_1 x6_1).f2)) ∧ w'.cell? ⟨(ad619.add ((x6_1).toNat * 5)).block, (ad619.add ((x6_1).toNat * 5)).off + 3, none⟩ = some (.int .i64 ((rd_T45 l0_1 x6_1).f3)) ∧ w'.cell? ⟨(ad619.add ((x6_1).toNat * 5)).block, (ad619.add ((x6_1).toNat * 5)).off + 4, none⟩ = some (.int .i64 ((rd_T45 l0_1 x6_1).f4))) (ds := [8, 10]) #[false, false, false, false, false, false, false, false, false, false, false] (by kernel_rfl) rfl rfl ⟨zc BK618.out 0, zc BK618.out 1, zc BK618.out 2, zc BK615.out 0, zc BK615.out 1, zc BK615.out 2, hx620_0, hx620_1, hx620_2, hx620_3, hx620_4⟩ (fun hHeld => ?_); refine with_tabW cooperageref16_Tick.tab8 cooperageref16_Tick.bits8 (fun HT_ HW_ => ?_)
      generalize wr.drew = w20 at HO_616001 HO_616002 HO_619001 HO_619002 BK615 BK616 BK618 HB hx620_0 hx620_1 hx620_2 hx620_3 hx620_4 hHeld ⊢
      refine zpp 0 (N := some 31) HT_ (h := ?_)
      refine zpp 2 (N := some 33) HT_ (h := ?_)
      refine zpp 4 (N := some 35) HT_ (h := ?_)
      refine zpt 1 (N := some 32) HT_ HW_ hHeld (h := ?_)
      refine zpt 3 (N := some 34) HT_ HW_ hHeld (h := ?_)
      refine zpp 5 (N := some 36) HT_ (h := ?_)
      refine zpt 6 (N := some 37) HT_ HW_ hHeld (h := ?_)
      refine one_ (i := 7) (N := some 38) #[true, true, true, true, true, true, true, true, false, false, false] rfl rfl (one_of HT_.out (by kernel_rfl)) (by decide) (fun K hK => ?_)
      refine value_ (w1 := ?_) (v := ?_) (by rfl) rfl ?_ ?_
      rotate_left 2
      ·go_simp
       constructor
       ·rfl
       ·rfl
      refine hK.out _ _ ⟨(blk_cell (blk_alloc BK618.out _) 0).trans rfl, (blk_cell (blk_alloc BK618.out _) 1).trans rfl, (blk_cell (blk_alloc BK618.out _) 2).trans rfl, (blk_cell (blk_alloc BK615.out _) 0).trans rfl, (blk_cell (blk_alloc BK615.out _) 1).trans rfl, (blk_cell (blk_alloc BK615.out _) 2).trans rfl, (World.cell?_alloc_lt _ _ _ (World.block_lt_of_cell? _ _ (hHeld.2.2.2.2.2.2.1))).trans (hHeld.2.2.2.2.2.2.1), (World.cell?_alloc_lt _ _ _ (World.block_lt_of_cell? _ _ (hHeld.2.2.2.2.2.2.2.1))).trans (hHeld.2.2.2.2.2.2.2.1), (World.cell?_alloc_lt _ _ _ (World.block_lt_of_cell? _ _ (hHeld.2.2.2.2.2.2.2.2.1))).trans (hHeld.2.2.2.2.2.2.2.2.1), (World.cell?_alloc_lt _ _ _ (World.block_lt_of_cell? _ _ (hHeld.2.2.2.2.2.2.2.2.2.1))).trans (hHeld.2.2.2.2.2.2.2.2.2.1), (World.cell?_alloc_lt _ _ _ (World.block_lt_of_cell? _ _ (hHeld.2.2.2.2.2.2.2.2.2.2))).trans (hHeld.2.2.2.2.2.2.2.2.2.2)⟩ (fun hHeld => ?_)
      clear hK K
      refine znm (N := some 38) (h := ?_)
      refine last_ (i := 8) (N := some 39) #[true, true, true, true, true, true, true, true, true, false, false] rfl rfl (one_of HT_.out (by kernel_rfl)) (by decide) (fun K hK => ?_)
      refine Kd.R_append_step k45 (w0 := w) w.heap.size (by rfl) (.tmp 32) (.tmp 38) 29 45 (.agg #[(.int .i64 0), (.string ⟨#[]⟩), (.bool false), (.int .i64 0), (.int .i64 0)]) 48 rfl Tryd.underlying29 info45 rfl (by decide) (by omega) u619001 x619001_1 (⟨(rd_T45 l0_1 x6_1).f0, (rd_T45 l0_1 x6_1).f1, (rd_T45 l0_1 x6_1).f2, (rd_T45 l0_1 x6_1).f3, (rd_T45 l0_1 x6_1).f4⟩ : S45) [.int .i64 ((rd_T45 l0_1 x6_1).f0), .string ((rd_T45 l0_1 x6_1).f1), .bool ((rd_T45 l0_1 x6_1).f2), .int .i64 ((rd_T45 l0_1 x6_1).f3), .int .i64 ((rd_T45 l0_1 x6_1).f4)] (fun k_ => (w.heap.size ≤ k_)) (fun _ => False) rfl rfl ?aP (fun _ hk => hk.elim) ?aF ?aO ?aB ?aS ?aL ?_
      (case aP => exact k45_mkM _ _ _ (⟨(rd_T45 l0_1 x6_1).f0, (rd_T45 l0_1 x6_1).f1, (rd_T45 l0_1 x6_1).f2, (rd_T45 l0_1 x6_1).f3, (rd_T45 l0_1 x6_1).f4⟩ : S45))
      (case aB => exact (zL HB.out))
      (case aF => exact (fun k_ hk => (Nat.le_trans (below_size (zL HB.out)) hk)))
      (case aO => exact (zR HO_619001.out))
      (case aS => exact (below_size (zL HB.out)))
      (case aL => have := LMc16.out; omega)
      intro v622 w21 ho hb hg hat
      rw [← Ny621.out] at ho
      replace HO_616001 := ka (Kd.V_afterv (ok := (fun k_ => ((P0_1_ k_ ∨ P0_2_ k_) ∨ w.heap.size ≤ k_) ∧ k_ ≠ gb615 ∧ k_ ≠ gb616 ∧ k_ ≠ gb618)) (by (with_reducible repeat (first | apply Kd.V_alloc | apply Kd.V_drewN | apply Kd.V_drew)); exact Kd.V_mono HO_616001.out (fun _ hk => ⟨⟨hk.1, ⟨hk.2.2.1, ⟨hk.2.2.2.1, hk.2.2.2.2⟩⟩⟩, hk.2.1⟩)) hg hat)
      replace HO_616002 := ka (Kd.V_afterv (ok := (fun k_ => ((P0_1_ k_ ∨ P0_2_ k_) ∨ w.heap.size ≤ k_) ∧ k_ ≠ gb615 ∧ k_ ≠ gb616 ∧ k_ ≠ gb618)) (by (with_reducible repeat (first | apply Kd.V_alloc | apply Kd.V_drewN | apply Kd.V_drew)); exact Kd.V_mono HO_616002.out (fun _ hk => ⟨⟨hk.1, ⟨hk.2.2.1, ⟨hk.2.2.2.1, hk.2.2.2.2⟩⟩⟩, hk.2.1⟩)) hg hat)
      replace HO_619002 := ka (Kd.V_afterv (ok := (fun k_ => ((P0_1_ k_ ∨ P0_2_ k_) ∨ w.heap.size ≤ k_) ∧ k_ ≠ gb615 ∧ k_ ≠ gb616 ∧ k_ ≠ gb618)) (by (with_reducible repeat (first | apply Kd.V_alloc | apply Kd.V_drewN | apply Kd.V_drew)); exact Kd.V_mono HO_619002.out (fun _ hk => ⟨⟨hk.1, ⟨hk.2.2.1, ⟨hk.2.2.2.1, hk.2.2.2.2⟩⟩⟩, hk.2.1⟩)) hg hat)
      replace BK615 := ka (blk_grown (g := gb615) (o := .cells #[.int .i64 a0_0, .slice (some ad619) l0_1.length c0_1, .slice A0_2 l0_2.length c0_2] 32 (0, 0)) (zK BK615.out) hg (Kd.R_ne HO_619001.out BK615.out (by decide)))
      replace BK616 := ka (blk_grown (g := gb616) (o := .cells #[.int .i64 0, .slice none 0 0, .slice none 0 0] 32 (0, 0)) (zK BK616.out) hg (Kd.R_ne HO_619001.out BK616.out (by decide)))
      replace BK618 := ka (blk_grown (g := gb618) (o := .cells #[.int .i64 a0_0, u619001, .slice A0_2 l0_2.length c0_2] 32 (0, 0)) (zK BK618.out) hg (Kd.R_ne HO_619001.out BK618.out (by decide)))
      replace HB := ka (hb)
      have HO623 := ka (ho)
      clear HO_619001
      clear ho hb hg hat
      obtain ⟨Ao22, co22, eo22⟩ := Kd.R_slice HO623.out
      (first | subst eo22 | (injection eo22 with f1_ f2_ f3_; have f4_ := f1_.symm; have f5_ := f3_.symm; clear f1_ f2_ f3_; subst f4_; subst f5_))
      refine hK.out _ _ ?_
      clear hK K
      refine znm (N := some 39) (h := ?_)
      refine zpp 9 (N := some 40) HT_ (h := ?_)
      refine last_ (i := 10) (N := none) #[true, true, true, true, true, true, true, true, true, true, true] rfl rfl (one_of HT_.out (by kernel_rfl)) (by decide) (fun K hK => ?_)
      have hs23 : w21.cell? ⟨gb618, 1, none⟩ = some (u619001) := zc BK618.out 1
      have hfs23 := blk_frozen BK618.out 1
      have hns23_0 := NB615_618.out
      have hns23_1 := NB616_618.out
      have hms23_0 := NB618_615.out
      have hms23_1 := NB618_616.out
      refine skip_ (w1 := ?_) (by rfl) rfl ?_ ?_
      rotate_left
      ·go_simp
       rfl
      refine hK.out _ _ ?_
      clear hK K
      refine done_ (done_of HT_.out (by kernel_rfl)) ?_
      try go_wp2
      go_roundg k1
      case measure => have := HK1.out; omega
      case rel => exact ⟨(wrap64 (x6_1 + 1)), (y621), (.slice Ao22 y621.length co22), zS, H', ⟨by have := HK1.out; omega⟩, ⟨by (with_reducible repeat (first | apply Kd.V_alloc | apply Kd.V_drewN | apply Kd.V_drew)); exact Kd.V_mono (zNV HO_616001.out (g := gb618) (fun _ hk => hk.1.2.2.2)) (fun _ hk => ⟨hk.1.1.1, ⟨hk.1.2, ⟨hk.1.1.2.1, ⟨hk.1.1.2.2.1, hk.1.1.2.2.2⟩⟩⟩⟩)⟩, ⟨by (with_reducible repeat (first | apply Kd.V_alloc | apply Kd.V_drewN | apply Kd.V_drew)); exact Kd.V_mono (zNV HO_616002.out (g := gb618) (fun _ hk => hk.1.2.2.2)) (fun _ hk => ⟨hk.1.1.1, ⟨hk.1.2, ⟨hk.1.1.2.1, ⟨hk.1.1.2.2.1, hk.1.1.2.2.2⟩⟩⟩⟩)⟩, ⟨by (with_reducible repeat (first | apply Kd.R_alloc | apply Kd.R_drewN | apply Kd.R_drew)); exact Kd.R_mono (zNT HO623.out BK618.out) (fun _ hk => hk.1)⟩, ⟨by (with_reducible repeat (first | apply Kd.V_alloc | apply Kd.V_drewN | apply Kd.V_drew)); exact Kd.V_mono (zNV HO_619002.out (g := gb618) (fun _ hk => hk.1.2.2.2)) (fun _ hk => ⟨hk.1.1.1, ⟨hk.1.2, ⟨hk.1.1.2.1, ⟨hk.1.1.2.2.1, hk.1.1.2.2.2⟩⟩⟩⟩)⟩, ⟨zK BK615.out⟩, ⟨zK BK616.out⟩, ⟨by (with_reducible repeat (first | refine blk_drewN ?_ _ | refine blk_drew ?_ | refine blk_alloc ?_ _)); refine blk_put (cs := #[.int .i64 a0_0, u619001, .slice A0_2 l0_2.length c0_2]) ?_ 1 _ rfl; (with_reducible repeat (first | refine blk_drewN ?_ _ | refine blk_drew ?_ | refine blk_alloc ?_ _)); exact BK618.out⟩, ⟨zL HB.out⟩⟩
     rw [if_neg c15] at H
     have c15b0 : decide (a1 < ((rd_T45 l0_1 x6_1).f4)) = false := zdf c15
     clear c15
     have H' := ka H
     clear H
     have hnb24 := NB615_616.out
     have hnc24 := NB616_615.out
     have hnb25 := NB615_618.out
     have hnc25 := NB618_615.out
     obtain ⟨z26_0, z26_1, z26_2, y26_0, y26_1, y26_2⟩ := zC3 BK615.out
     have p619 : 0 ≤ (x6_1 : Int) := zD
     have q619 : x6_1 < (l0_1.length : Int) := zD
     obtain ⟨ad619, e619, hx619_0, hx619_1, hx619_2, hx619_3, hx619_4⟩ := at_T45 (Kd.V_reads' HO_616001.out).2.2 x6_1 p619 q619
     cases e619
     replace p619 := eq_true p619
     replace q619 := eq_true q619
     go_wp2
     go_roundg k1
     case measure => have := HK1.out; omega
     case rel => exact ⟨(wrap64 (x6_1 + 1)), (x619001_1), (u619001), zS, H', ⟨by have := HK1.out; omega⟩, ⟨zV HO_616001.out⟩, ⟨zV HO_616002.out⟩, ⟨zR HO_619001.out⟩, ⟨zV HO_619002.out⟩, ⟨zK BK615.out⟩, ⟨zK BK616.out⟩, ⟨zK BK618.out⟩, ⟨zL HB.out⟩⟩
    rw [if_neg c13] at H
    have c13b0 := zdf c13
    clear c13
    replace H := Option.bind_eq_some_iff.mp H
    obtain ⟨⟨t624, t625, t628⟩, A270, H⟩ := H
    try dsimp only at H
    have A27 := ka A270
    clear A270
    replace H := zs3 H
    obtain ⟨rfl, rfl, rfl⟩ := H
    have hnb28 := NB615_616.out
    have hnc28 := NB616_615.out
    have hnb29 := NB615_618.out
    have hnc29 := NB618_615.out
    obtain ⟨z30_0, z30_1, z30_2, y30_0, y30_1, y30_2⟩ := zC3 BK615.out
    have hnb31 := NB618_616.out
    have hnc31 := NB616_618.out
    obtain ⟨z32_0, z32_1, z32_2, y32_0, y32_1, y32_2⟩ := zC3 BK618.out
    obtain ⟨Ao33, co33, eo33⟩ := Kd.R_slice HO_619001.out
    subst eo33
    go_wp2_with (first | ((with_reducible refine gate_callee (f := 43) rfl ?_); refine goesL_ (some 43) rfl rfl Tryd.func43 (by kernel_rfl) rfl #[.agg #[.int .i64 a0_0, .slice Ao33 x619001_1.length co33, .slice A0_2 l0_2.length c0_2], .int .i64 a1] rfl zA ?_; (with_reducible refine (cooperageref16_settle.calls k1 a0_0 _ _ x619001_1 _ _ l0_2 a1 t624 t625 t628 _ ?side1 ?side2 ?side3 ?side4 A27.out).mono ?_); (case side1 => exact zCS (Kd.R_reads' HO_619001.out).2.2); (case side2 => exact (Kd.R_reads' HO_619001.out).2.1); (case side3 => exact zCS (Kd.V_reads' HO_619002.out).2.2); (case side4 => exact (Kd.V_reads' HO_619002.out).2.1); rintro e w34 ⟨v626, v629, rfl, ho0, ho1, hb⟩; refine ⟨_, rfl, ?_⟩; replace HO_616001 := ka (Kd.V_mono (Kd.V_told (Kd.V_told (Kd.V_old (zV HO_616001.out) hb) (Kd.R_base ho0)) (Kd.R_base ho1)) (fun _ h_ => h_.1)); replace HO_616002 := ka (Kd.V_mono (Kd.V_told (Kd.V_told (Kd.V_old (zV HO_616002.out) hb) (Kd.R_base ho0)) (Kd.R_base ho1)) (fun _ h_ => h_.1)); replace HO_619002 := ka (Kd.V_mono (Kd.V_told (Kd.V_told (Kd.V_old (zV HO_619002.out) hb) (Kd.R_base ho0)) (Kd.R_base ho1)) (fun _ h_ => h_.1)); have HO627 := ka (Kd.R_lower (Kd.R_new' (Kd.R_newM (M := fun k_ => (w.heap.size ≤ k_)) ho0 (below_size (zL HB.out)) (fun k_ h_ => h_)) (Kd.R_lt (zR HO_619001.out))) (below_size (zL HB.out))); replace HO_619001 := ka (Kd.R_elder' (zR HO_619001.out) (Kd.R_base ho0) hb); have HO630 := ka (Kd.R_lower (Kd.R_newM (M := fun k_ => (w.heap.size ≤ k_)) ho1 (below_size (zL HB.out)) (fun k_ h_ => h_)) (below_size (zL HB.out))); replace BK615 := ka (zB BK615.out hb); replace BK616 := ka (zB BK616.out hb); replace BK618 := ka (zB BK618.out hb); replace HB := ka (below_step (zL HB.out) hb); (try clear hb); (try clear hb2); (try clear hk); (try clear hi); (try clear ho0); (try clear ho1); obtain ⟨z35_0, z35_1, z35_2, y35_0, y35_1, y35_2⟩ := zC3 BK616.out; obtain ⟨Ao36, co36, eo36⟩ := Kd.R_slice HO627.out; subst eo36; obtain ⟨Ao37, co37, eo37⟩ := Kd.R_slice HO630.out; subst eo37))
    refine bodyPost_ret (results_cell_row rfl _ _ gb616 32 #[.int .i64 t624, .slice Ao36 t625.length co36, .slice Ao37 t628.length co37] (0, 0) _ rfl (zP3 BK616.out) Tryd.underlying32 rfl (by kernel_rfl)) rfl ?_
    exact ⟨_, _, zE, Kd.V_mono (Kd.R_V (by (with_reducible repeat (first | apply Kd.R_alloc | apply Kd.R_drewN | apply Kd.R_drew)); exact Kd.R_mono (zNT HO627.out BK616.out) (fun _ hk => hk.1.1.1))) (fun k_ hk => by first | exact ⟨(.inr (hk.1)), hk.2⟩ | exact (.inr (hk))), Kd.V_mono (Kd.R_V (by (with_reducible repeat (first | apply Kd.R_alloc | apply Kd.R_drewN | apply Kd.R_drew)); exact Kd.R_mono (zNT HO630.out BK616.out) (fun _ hk => hk.1.1))) (fun k_ hk => by first | exact ⟨(.inr (hk.1)), hk.2⟩ | exact (.inr (hk))), zL HB.out⟩
 replace c4 := Bool.eq_false_iff.mpr c4
 subst c4
 rw [if_neg (show ¬ (false = true) by decide)] at H
 replace H := zs3 H
 obtain ⟨rfl, rfl, rfl⟩ := H
 go_enter Tryd.func24, Tryd.ntmps24
 go_wp2_with (first | ((with_reducible refine gate_dst (N := 2) rfl ?_); refine box_event ?hg (N := 2) ?hd (cs := #[.int .i64 a0_0, .slice A0_1 l0_1.length c0_1, .slice A0_2 l0_2.length c0_2]) (t := 32) ?hr ?_; (case hd => rfl); (case hg => rfl); (case hr => (go_simp; try rfl)); intro gb615 hg w38 hbox hb; replace HO0_1 := ka (Kd.V_below (Kd.V_elderB (zV HO0_1.out) gb615 (Nat.le_of_eq hg.symm)) hb); replace HO0_2 := ka (Kd.V_below (Kd.V_elderB (zV HO0_2.out) gb615 (Nat.le_of_eq hg.symm)) hb); have BK615 := ka (hbox); have GW615 := ka (zG hg (zL HB.out)); replace HB := ka (below_step (zL HB.out) hb); clear hb hbox hg) | ((with_reducible refine gate_dst (N := 4) rfl ?_); refine box_event ?hg (N := 4) ?hd (cs := #[.int .i64 0, .slice none 0 0, .slice none 0 0]) (t := 32) ?hr ?_; (case hd => rfl); (case hg => rfl); (case hr => (go_simp; try rfl)); intro gb616 hg w39 hbox hb; replace HO0_1 := ka (Kd.V_below (Kd.V_elderB (zV HO0_1.out) gb616 (Nat.le_of_eq hg.symm)) hb); replace HO0_2 := ka (Kd.V_below (Kd.V_elderB (zV HO0_2.out) gb616 (Nat.le_of_eq hg.symm)) hb); have BK616 := ka (hbox); have GW616 := ka (zG hg (zL HB.out)); replace HB := ka (below_step (zL HB.out) hb); have NB615_616 := ka (zNK hg BK615.out); have NB616_615 := ka (zOK hg BK615.out); replace BK615 := ka (zB BK615.out hb); clear hb hbox hg) | ((with_reducible refine gate_callee (f := 42) rfl ?_); refine goesL_ (some 8) rfl rfl Tryd.func42 (by kernel_rfl) rfl #[.int .i64 a1] rfl zA ?_; (with_reducible refine (cooperageref16_time.calls a1 false _ A3.out).mono ?_); rintro e w' ⟨rfl, ⟨nd, rfl⟩⟩; refine ⟨_, rfl, ?_⟩; (try (rw [drewN_self w39]; generalize hq_ : World.drewN w39 _ = w39; have n0_ : Aside0 (Kd.V k45 45 w39 w.heap.size (fun k_ => ((P0_1_ k_ ∨ P0_2_ k_) ∨ w.heap.size ≤ k_) ∧ k_ ≠ gb615 ∧ k_ ≠ gb616) (.slice A0_1 l0_1.length c0_1) l0_1) := ⟨by rw [← hq_]; exact (by (with_reducible repeat (first | apply Kd.V_alloc | apply Kd.V_drewN | apply Kd.V_drew)); exact Kd.V_mono HO0_1.out (fun _ hk => ⟨hk.1.1, ⟨hk.1.2, hk.2⟩⟩))⟩; have n1_ : Aside0 (Kd.V k52 52 w39 w.heap.size (fun k_ => ((P0_1_ k_ ∨ P0_2_ k_) ∨ w.heap.size ≤ k_) ∧ k_ ≠ gb615 ∧ k_ ≠ gb616) (.slice A0_2 l0_2.length c0_2) l0_2) := ⟨by rw [← hq_]; exact (by (with_reducible repeat (first | apply Kd.V_alloc | apply Kd.V_drewN | apply Kd.V_drew)); exact Kd.V_mono HO0_2.out (fun _ hk => ⟨hk.1.1, ⟨hk.1.2, hk.2⟩⟩))⟩; have n2_ : Aside0 (w39.heap[gb615]? = some (.cells #[.int .i64 a0_0, .slice A0_1 l0_1.length c0_1, .slice A0_2 l0_2.length c0_2] 32 (0, 0))) := ⟨by rw [← hq_]; exact (zK BK615.out)⟩; have n3_ : Aside0 (w39.heap[gb616]? = some (.cells #[.int .i64 0, .slice none 0 0, .slice none 0 0] 32 (0, 0))) := ⟨by rw [← hq_]; exact (zK BK616.out)⟩; have n4_ : Aside0 (Below w.heap.size w w39) := ⟨by rw [← hq_]; exact (zL HB.out)⟩; clear HO0_1 HO0_2 BK615 BK616 HB hq_; have HO0_1 := n0_; have HO0_2 := n1_; have BK615 := n2_; have BK616 := n3_; have HB := n4_; clear n0_ n1_ n2_ n3_ n4_; (try (obtain ⟨z30_0, z30_1, z30_2, y30_0, y30_1, y30_2⟩ := zC3 BK615.out)); (try (obtain ⟨z35_0, z35_1, z35_2, y35_0, y35_1, y35_2⟩ := zC3 BK616.out)))); have hnb40 := NB615_616.out; have hnc40 := NB616_615.out; obtain ⟨z41_0, z41_1, z41_2, y41_0, y41_1, y41_2⟩ := zC3 BK615.out; obtain ⟨z42_0, z42_1, z42_2, y42_0, y42_1, y42_2⟩ := zC3 BK616.out))
 refine bodyPost_ret (results_cell_row rfl _ _ gb616 32 #[.int .i64 a0_0, .slice A0_1 l0_1.length c0_1, .slice A0_2 l0_2.length c0_2] (0, 0) _ rfl (zP3 BK616.out) Tryd.underlying32 rfl (by kernel_rfl)) rfl ?_
 exact ⟨_, _, zE, by (with_reducible repeat (first | apply Kd.V_alloc | apply Kd.V_drewN | apply Kd.V_drew)); exact Kd.V_mono (zNV HO0_1.out (g := gb616) (fun _ hk => hk.2.2)) (fun _ hk => hk.1.1), by (with_reducible repeat (first | apply Kd.V_alloc | apply Kd.V_drewN | apply Kd.V_drew)); exact Kd.V_mono (zNV HO0_2.out (g := gb616) (fun _ hk => hk.2.2)) (fun _ hk => hk.1.1), zL HB.out⟩

/-! ### cooperageref16_Held: function 10 -/
def cooperageref16_Held.l0 : Nat → Int → ByteArray → Int → Int → List (S45) → List (S52) → Option (Int × ByteArray × Bool × Int × Int × Bool)
 | 0, _, _, _, _, _, _ => none
 | k + 1, x1, x2, x8, x632000, x632001, x632002 => if x8 < (x632001.length : Int) then (if 0 ≤ x8 then (if ((rd_T45 x632001 x8).f0) = x1 then (if ((rd_T45 x632001 x8).f1).toList = x2.toList then (some ((rd_T45 x632001 x8).f0, (rd_T45 x632001 x8).f1, (rd_T45 x632001 x8).f2, (rd_T45 x632001 x8).f3, (rd_T45 x632001 x8).f4, true)) else (cooperageref16_Held.l0 k x1 x2 (wrap64 (x8 + 1)) x632000 x632001 x632002)) else (cooperageref16_Held.l0 k x1 x2 (wrap64 (x8 + 1)) x632000 x632001 x632002)) else (none)) else (some (0, (⟨#[]⟩ : ByteArray), false, 0, 0, false))
def cooperageref16_Held.f (k : Nat) (a0_0 : Int) (l0_1 : List (S45)) (l0_2 : List (S52)) (a1 : Int) (a2 : ByteArray) : Option (Int × ByteArray × Bool × Int × Int × Bool) := cooperageref16_Held.l0 k a1 a2 0 a0_0 l0_1 l0_2
theorem cooperageref16_Held.mono_l : ∀ k, (∀ y0 y1 y2 y3 y4 y5, LeO (cooperageref16_Held.l0 k y0 y1 y2 y3 y4 y5) (cooperageref16_Held.l0 (k + 1) y0 y1 y2 y3 y4 y5))
 | 0 => fun _ _ _ _ _ _ r h => by simp [cooperageref16_Held.l0] at h
 | k + 1 => by
  have ih0 := cooperageref16_Held.mono_l k
  ·intro y0 y1 y2 y3 y4 y5
   unfold cooperageref16_Held.l0
   exact zLe
theorem cooperageref16_Held.mono : ∀ a0 a1 a2 a3 a4 k, LeO (cooperageref16_Held.f k a0 a1 a2 a3 a4) (cooperageref16_Held.f (k + 1) a0 a1 a2 a3 a4) := by
 intro a0 a1 a2 a3 a4 k
 have ih0 := cooperageref16_Held.mono_l k
 unfold cooperageref16_Held.f
 exact zLe
theorem cooperageref16_Held.calls (k : Nat) (a0_0 : Int) (A0_1 : Option Addr) (c0_1 : Nat) (l0_1 : List (S45)) (A0_2 : Option Addr) (c0_2 : Nat) (l0_2 : List (S52)) (a1 : Int) (a2 : ByteArray) (r1 : Int) (r2 : ByteArray) (r3 : Bool) (r4 : Int) (r5 : Int) (r6 : Bool) (w : World) (hr0_1 : Kd.C k45 w A0_1 l0_1.length l0_1) (hc0_1 : l0_1.length ≤ c0_1) (hr0_2 : Kd.C k52 w A0_2 l0_2.length l0_2) (hc0_2 : l0_2.length ≤ c0_2) (h : cooperageref16_Held.f k a0_0 l0_1 l0_2 a1 a2 = some (r1, r2, r3, r4, r5, r6)) :
  Calls Tryd.prog 10 #[.agg #[.int .i64 a0_0, .slice A0_1 l0_1.length c0_1, .slice A0_2 l0_2.length c0_2], .int .i64 a1, .string a2] w fun e w' => e = .returned (.tuple #[.agg #[.int .i64 r1, .string r2, .bool r3, .int .i64 r4, .int .i64 r5], .bool r6]) ∧ Below w.heap.size w w' := by
 have hu32 := Tryd.underlying32
 have hu45 := Tryd.underlying45
 have HR0_1 := ka hr0_1
 have HC0_1 := ka hc0_1
 clear hr0_1 hc0_1
 have HR0_2 := ka hr0_2
 have HC0_2 := ka hc0_2
 clear hr0_2 hc0_2
 have HB := ka (Below.refl w.heap.size w)
 have H : (cooperageref16_Held.l0 k a1 a2 0 a0_0 l0_1 l0_2) = some (r1, r2, r3, r4, r5, r6) := h
 clear h
 have H' := ka H
 clear H
 go_enter Tryd.func10, Tryd.ntmps10
 go_wp2_with (first | ((with_reducible refine gate_dst (N := 3) rfl ?_); refine box_event ?hg (N := 3) ?hd (cs := #[.int .i64 a0_0, .slice A0_1 l0_1.length c0_1, .slice A0_2 l0_2.length c0_2]) (t := 32) ?hr ?_; (case hd => rfl); (case hg => rfl); (case hr => (go_simp; try rfl)); intro gb631 hg w4 hbox hb; have BK631 := ka (hbox); have GW631 := ka (zG hg (zL HB.out)); replace HB := ka (below_step (zL HB.out) hb); clear hb hbox hg) | ((with_reducible refine gate_dst (N := 6) rfl ?_); refine box_event ?hg (N := 6) ?hd (cs := #[.int .i64 0, .string ⟨#[]⟩, .bool false, .int .i64 0, .int .i64 0]) (t := 45) ?hr ?_; (case hd => rfl); (case hg => rfl); (case hr => (go_simp; try rfl)); intro gb632 hg w5 hbox hb; have BK632 := ka (hbox); have GW632 := ka (zG hg (zL HB.out)); replace HB := ka (below_step (zL HB.out) hb); have NB631_632 := ka (zNK hg BK631.out); have NB632_631 := ka (zOK hg BK631.out); replace BK631 := ka (zB BK631.out hb); clear hb hbox hg))
 go_loopg [8] k (fun kq v8 w' => ∃ (x8_1 : Int) (x633000_1 : Int) (x633001_1 : ByteArray) (x633002_1 : Bool) (x633003_1 : Int) (x633004_1 : Int), v8 = .int .i64 x8_1 ∧ Aside0 (cooperageref16_Held.l0 kq a1 a2 x8_1 a0_0 l0_1 l0_2 = some (r1, r2, r3, r4, r5, r6)) ∧ Aside0 (kq ≤ k) ∧ Aside0 (w'.heap[gb631]? = some (.cells #[.int .i64 a0_0, (.slice A0_1 l0_1.length c0_1), (.slice A0_2 l0_2.length c0_2)] 32 (0, 0))) ∧ Aside0 (w'.heap[gb632]? = some (.cells #[.int .i64 x633000_1, .string x633001_1, .bool x633002_1, .int .i64 x633003_1, .int .i64 x633004_1] 45 (0, 0))) ∧ Aside0 (Below w.heap.size w w'))
 case atStart => exact ⟨(0), (0), ((⟨#[]⟩ : ByteArray)), (false), (0), (0), zS, H', ⟨Nat.le_refl _⟩, ⟨zK BK631.out⟩, ⟨zK BK632.out⟩, ⟨zL HB.out⟩⟩
 case round =>
  clear H'
  obtain ⟨x8_1, x633000_1, x633001_1, x633002_1, x633003_1, x633004_1, rfl, HA, HK1, BK631, BK632, HB⟩ := hrel
  cases gk with
  | zero => exact absurd HA.out (by simp [cooperageref16_Held.l0])
  | succ k1 =>
   have H := HA.out
   clear HA
   simp only [cooperageref16_Held.l0] at H
   by_cases c6 : x8_1 < (l0_1.length : Int)
   ·rw [if_pos c6] at H
    have c6b0 := zdt c6
    clear c6
    replace H := zif H
    obtain ⟨c7, H⟩ := H
    have c7b0 := zdt c7
    clear c7
    by_cases c8 : ((rd_T45 l0_1 x8_1).f0) = a1
    ·rw [if_pos c8] at H
     have c8b0 := zb0 c8
     have c8b1 := zb1 c8
     clear c8
     by_cases c9 : ((rd_T45 l0_1 x8_1).f1).toList = a2.toList
     ·rw [if_pos c9] at H
      have c9b0 := zb0 c9
      have c9b1 := zb1 c9
      clear c9
      replace H := zs6 H
      obtain ⟨rfl, rfl, rfl, rfl, rfl, rfl⟩ := H
      have hnb10 := NB631_632.out
      have hnc10 := NB632_631.out
      obtain ⟨z11_0, z11_1, z11_2, y11_0, y11_1, y11_2⟩ := zC3 BK631.out
      have p633 : 0 ≤ (x8_1 : Int) := zD
      have q633 : x8_1 < (l0_1.length : Int) := zD
      obtain ⟨ad633, e633, hx633_0, hx633_1, hx633_2, hx633_3, hx633_4⟩ := at_T45 HR0_1.out x8_1 p633 q633
      cases e633
      replace hx633_0 := zX HB.out hx633_0
      replace hx633_1 := zX HB.out hx633_1
      replace hx633_2 := zX HB.out hx633_2
      replace hx633_3 := zX HB.out hx633_3
      replace hx633_4 := zX HB.out hx633_4
      replace p633 := eq_true p633
      replace q633 := eq_true q633
      have p634 : 0 ≤ (x8_1 : Int) := zD
      have q634 : x8_1 < (l0_1.length : Int) := zD
      obtain ⟨ad634, e634, hx634_0, hx634_1, hx634_2, hx634_3, hx634_4⟩ := at_T45 HR0_1.out x8_1 p634 q634
      obtain rfl : ad633 = ad634 := (by injection e634)
      replace hx634_0 := zX HB.out hx634_0
      replace hx634_1 := zX HB.out hx634_1
      replace hx634_2 := zX HB.out hx634_2
      replace hx634_3 := zX HB.out hx634_3
      replace hx634_4 := zX HB.out hx634_4
      replace p634 := eq_true p634
      replace q634 := eq_true q634
      have p635 : 0 ≤ (x8_1 : Int) := zD
      have q635 : x8_1 < (l0_1.length : Int) := zD
      obtain ⟨ad635, e635, hx635_0, hx635_1, hx635_2, hx635_3, hx635_4⟩ := at_T45 HR0_1.out x8_1 p635 q635
      obtain rfl : ad633 = ad635 := (by injection e635)
      replace hx635_0 := zX HB.out hx635_0
      replace hx635_1 := zX HB.out hx635_1
      replace hx635_2 := zX HB.out hx635_2
      replace hx635_3 := zX HB.out hx635_3
      replace hx635_4 := zX HB.out hx635_4
      replace p635 := eq_true p635
      replace q635 := eq_true q635
      obtain ⟨z12_0, z12_1, z12_2, z12_3, z12_4, y12_0, y12_1, y12_2, y12_3, y12_4⟩ := zC5 BK632.out
      go_wp2
      refine bodyPost_ret (results_ct rfl _ _ gb632 45 #[.int .i64 ((rd_T45 l0_1 x8_1).f0), .string ((rd_T45 l0_1 x8_1).f1), .bool ((rd_T45 l0_1 x8_1).f2), .int .i64 ((rd_T45 l0_1 x8_1).f3), .int .i64 ((rd_T45 l0_1 x8_1).f4)] (0, 0) _ rfl (zP5 BK632.out) Tryd.underlying45 rfl (by kernel_rfl)) rfl ?_
      exact ⟨zE, zL HB.out⟩
     rw [if_neg c9] at H
     have c9b0 := zn0 c9
     have c9b1 := zn1 c9
     have H' := ka H
     clear H
     have hnb13 := NB631_632.out
     have hnc13 := NB632_631.out
     obtain ⟨z14_0, z14_1, z14_2, y14_0, y14_1, y14_2⟩ := zC3 BK631.out
     have p633 : 0 ≤ (x8_1 : Int) := zD
     have q633 : x8_1 < (l0_1.length : Int) := zD
     obtain ⟨ad633, e633, hx633_0, hx633_1, hx633_2, hx633_3, hx633_4⟩ := at_T45 HR0_1.out x8_1 p633 q633
     cases e633
     replace hx633_0 := zX HB.out hx633_0
     replace hx633_1 := zX HB.out hx633_1
     replace hx633_2 := zX HB.out hx633_2
     replace hx633_3 := zX HB.out hx633_3
     replace hx633_4 := zX HB.out hx633_4
     replace p633 := eq_true p633
     replace q633 := eq_true q633
     have p634 : 0 ≤ (x8_1 : Int) := zD
     have q634 : x8_1 < (l0_1.length : Int) := zD
     obtain ⟨ad634, e634, hx634_0, hx634_1, hx634_2, hx634_3, hx634_4⟩ := at_T45 HR0_1.out x8_1 p634 q634
     obtain rfl : ad633 = ad634 := (by injection e634)
     replace hx634_0 := zX HB.out hx634_0
     replace hx634_1 := zX HB.out hx634_1
     replace hx634_2 := zX HB.out hx634_2
     replace hx634_3 := zX HB.out hx634_3
     replace hx634_4 := zX HB.out hx634_4
     replace p634 := eq_true p634
     replace q634 := eq_true q634
     go_wp2
     go_roundg k1
     case measure => have := HK1.out; omega
     case rel => exact ⟨(wrap64 (x8_1 + 1)), (x633000_1), (x633001_1), (x633002_1), (x633003_1), (x633004_1), zS, H', ⟨by have := HK1.out; omega⟩, ⟨zK BK631.out⟩, ⟨zK BK632.out⟩, ⟨zL HB.out⟩⟩
    rw [if_neg c8] at H
    have c8b0 := zn0 c8
    have c8b1 := zn1 c8
    have H' := ka H
    clear H
    have hnb15 := NB631_632.out
    have hnc15 := NB632_631.out
    obtain ⟨z16_0, z16_1, z16_2, y16_0, y16_1, y16_2⟩ := zC3 BK631.out
    have p633 : 0 ≤ (x8_1 : Int) := zD
    have q633 : x8_1 < (l0_1.length : Int) := zD
    obtain ⟨ad633, e633, hx633_0, hx633_1, hx633_2, hx633_3, hx633_4⟩ := at_T45 HR0_1.out x8_1 p633 q633
    cases e633
    replace hx633_0 := zX HB.out hx633_0
    replace hx633_1 := zX HB.out hx633_1
    replace hx633_2 := zX HB.out hx633_2
    replace hx633_3 := zX HB.out hx633_3
    replace hx633_4 := zX HB.out hx633_4
    replace p633 := eq_true p633
    replace q633 := eq_true q633
    go_wp2
    go_roundg k1
    case measure => have := HK1.out; omega
    case rel => exact ⟨(wrap64 (x8_1 + 1)), (x633000_1), (x633001_1), (x633002_1), (x633003_1), (x633004_1), zS, H', ⟨by have := HK1.out; omega⟩, ⟨zK BK631.out⟩, ⟨zK BK632.out⟩, ⟨zL HB.out⟩⟩
   rw [if_neg c6] at H
   have c6b0 := zdf c6
   clear c6
   replace H := zs6 H
   obtain ⟨rfl, rfl, rfl, rfl, rfl, rfl⟩ := H
   have hnb17 := NB631_632.out
   have hnc17 := NB632_631.out
   obtain ⟨z18_0, z18_1, z18_2, y18_0, y18_1, y18_2⟩ := zC3 BK631.out
   obtain ⟨z19_0, z19_1, z19_2, z19_3, z19_4, y19_0, y19_1, y19_2, y19_3, y19_4⟩ := zC5 BK632.out
   go_wp2
   refine bodyPost_ret (results_ct rfl _ _ gb632 45 #[.int .i64 0, .string ⟨#[]⟩, .bool false, .int .i64 0, .int .i64 0] (0, 0) _ rfl (zP5 BK632.out) Tryd.underlying45 rfl (by kernel_rfl)) rfl ?_
   exact ⟨zE, zL HB.out⟩

/-! ### cooperageref16_Waits: function 12 -/
def cooperageref16_Waits.l0 : Nat → Int → Int → Int → List (S45) → List (S52) → Option (Int × ByteArray × Bool × Int × Bool)
 | 0, _, _, _, _, _ => none
 | k + 1, x1, x6, x637000, x637001, x637002 => if x6 < (x637002.length : Int) then (if 0 ≤ x6 then (if ((rd_T52 x637002 x6).f0) = x1 then (some ((rd_T52 x637002 x6).f0, (rd_T52 x637002 x6).f1, (rd_T52 x637002 x6).f2, (rd_T52 x637002 x6).f3, true)) else (cooperageref16_Waits.l0 k x1 (wrap64 (x6 + 1)) x637000 x637001 x637002)) else (none)) else (some (0, (⟨#[]⟩ : ByteArray), false, 0, false))
def cooperageref16_Waits.f (k : Nat) (a0_0 : Int) (l0_1 : List (S45)) (l0_2 : List (S52)) (a1 : Int) : Option (Int × ByteArray × Bool × Int × Bool) := cooperageref16_Waits.l0 k a1 0 a0_0 l0_1 l0_2
theorem cooperageref16_Waits.mono_l : ∀ k, (∀ y0 y1 y2 y3 y4, LeO (cooperageref16_Waits.l0 k y0 y1 y2 y3 y4) (cooperageref16_Waits.l0 (k + 1) y0 y1 y2 y3 y4))
 | 0 => fun _ _ _ _ _ r h => by simp [cooperageref16_Waits.l0] at h
 | k + 1 => by
  have ih0 := cooperageref16_Waits.mono_l k
  ·intro y0 y1 y2 y3 y4
   unfold cooperageref16_Waits.l0
   exact zLe
theorem cooperageref16_Waits.mono : ∀ a0 a1 a2 a3 k, LeO (cooperageref16_Waits.f k a0 a1 a2 a3) (cooperageref16_Waits.f (k + 1) a0 a1 a2 a3) := by
 intro a0 a1 a2 a3 k
 have ih0 := cooperageref16_Waits.mono_l k
 unfold cooperageref16_Waits.f
 exact zLe
theorem cooperageref16_Waits.calls (k : Nat) (a0_0 : Int) (A0_1 : Option Addr) (c0_1 : Nat) (l0_1 : List (S45)) (A0_2 : Option Addr) (c0_2 : Nat) (l0_2 : List (S52)) (a1 : Int) (r1 : Int) (r2 : ByteArray) (r3 : Bool) (r4 : Int) (r5 : Bool) (w : World) (hr0_1 : Kd.C k45 w A0_1 l0_1.length l0_1) (hc0_1 : l0_1.length ≤ c0_1) (hr0_2 : Kd.C k52 w A0_2 l0_2.length l0_2) (hc0_2 : l0_2.length ≤ c0_2) (h : cooperageref16_Waits.f k a0_0 l0_1 l0_2 a1 = some (r1, r2, r3, r4, r5)) :
  Calls Tryd.prog 12 #[.agg #[.int .i64 a0_0, .slice A0_1 l0_1.length c0_1, .slice A0_2 l0_2.length c0_2], .int .i64 a1] w fun e w' => e = .returned (.tuple #[.agg #[.int .i64 r1, .string r2, .bool r3, .int .i64 r4], .bool r5]) ∧ Below w.heap.size w w' := by
 have hu32 := Tryd.underlying32
 have hu52 := Tryd.underlying52
 have HR0_1 := ka hr0_1
 have HC0_1 := ka hc0_1
 clear hr0_1 hc0_1
 have HR0_2 := ka hr0_2
 have HC0_2 := ka hc0_2
 clear hr0_2 hc0_2
 have HB := ka (Below.refl w.heap.size w)
 have H : (cooperageref16_Waits.l0 k a1 0 a0_0 l0_1 l0_2) = some (r1, r2, r3, r4, r5) := h
 clear h
 have H' := ka H
 clear H
 go_enter Tryd.func12, Tryd.ntmps12
 go_wp2_with (first | ((with_reducible refine gate_dst (N := 2) rfl ?_); refine box_event ?hg (N := 2) ?hd (cs := #[.int .i64 a0_0, .slice A0_1 l0_1.length c0_1, .slice A0_2 l0_2.length c0_2]) (t := 32) ?hr ?_; (case hd => rfl); (case hg => rfl); (case hr => (go_simp; try rfl)); intro gb636 hg w3 hbox hb; have BK636 := ka (hbox); have GW636 := ka (zG hg (zL HB.out)); replace HB := ka (below_step (zL HB.out) hb); clear hb hbox hg) | ((with_reducible refine gate_dst (N := 4) rfl ?_); refine box_event ?hg (N := 4) ?hd (cs := #[.int .i64 0, .string ⟨#[]⟩, .bool false, .int .i64 0]) (t := 52) ?hr ?_; (case hd => rfl); (case hg => rfl); (case hr => (go_simp; try rfl)); intro gb637 hg w4 hbox hb; have BK637 := ka (hbox); have GW637 := ka (zG hg (zL HB.out)); replace HB := ka (below_step (zL HB.out) hb); have NB636_637 := ka (zNK hg BK636.out); have NB637_636 := ka (zOK hg BK636.out); replace BK636 := ka (zB BK636.out hb); clear hb hbox hg))
 go_loopg [6] k (fun kq v6 w' => ∃ (x6_1 : Int) (x638000_1 : Int) (x638001_1 : ByteArray) (x638002_1 : Bool) (x638003_1 : Int), v6 = .int .i64 x6_1 ∧ Aside0 (cooperageref16_Waits.l0 kq a1 x6_1 a0_0 l0_1 l0_2 = some (r1, r2, r3, r4, r5)) ∧ Aside0 (kq ≤ k) ∧ Aside0 (w'.heap[gb636]? = some (.cells #[.int .i64 a0_0, (.slice A0_1 l0_1.length c0_1), (.slice A0_2 l0_2.length c0_2)] 32 (0, 0))) ∧ Aside0 (w'.heap[gb637]? = some (.cells #[.int .i64 x638000_1, .string x638001_1, .bool x638002_1, .int .i64 x638003_1] 52 (0, 0))) ∧ Aside0 (Below w.heap.size w w'))
 case atStart => exact ⟨(0), (0), ((⟨#[]⟩ : ByteArray)), (false), (0), zS, H', ⟨Nat.le_refl _⟩, ⟨zK BK636.out⟩, ⟨zK BK637.out⟩, ⟨zL HB.out⟩⟩
 case round =>
  clear H'
  obtain ⟨x6_1, x638000_1, x638001_1, x638002_1, x638003_1, rfl, HA, HK1, BK636, BK637, HB⟩ := hrel
  cases gk with
  | zero => exact absurd HA.out (by simp [cooperageref16_Waits.l0])
  | succ k1 =>
   have H := HA.out
   clear HA
   simp only [cooperageref16_Waits.l0] at H
   by_cases c5 : x6_1 < (l0_2.length : Int)
   ·rw [if_pos c5] at H
    have c5b0 := zdt c5
    clear c5
    replace H := zif H
    obtain ⟨c6, H⟩ := H
    have c6b0 := zdt c6
    clear c6
    by_cases c7 : ((rd_T52 l0_2 x6_1).f0) = a1
    ·rw [if_pos c7] at H
     have c7b0 := zb0 c7
     have c7b1 := zb1 c7
     clear c7
     replace H := zs5 H
     obtain ⟨rfl, rfl, rfl, rfl, rfl⟩ := H
     have hnb8 := NB636_637.out
     have hnc8 := NB637_636.out
     obtain ⟨z9_0, z9_1, z9_2, y9_0, y9_1, y9_2⟩ := zC3 BK636.out
     have p638 : 0 ≤ (x6_1 : Int) := zD
     have q638 : x6_1 < (l0_2.length : Int) := zD
     obtain ⟨ad638, e638, hx638_0, hx638_1, hx638_2, hx638_3⟩ := at_T52 HR0_2.out x6_1 p638 q638
     cases e638
     replace hx638_0 := zX HB.out hx638_0
     replace hx638_1 := zX HB.out hx638_1
     replace hx638_2 := zX HB.out hx638_2
     replace hx638_3 := zX HB.out hx638_3
     replace p638 := eq_true p638
     replace q638 := eq_true q638
     have p639 : 0 ≤ (x6_1 : Int) := zD
     have q639 : x6_1 < (l0_2.length : Int) := zD
     obtain ⟨ad639, e639, hx639_0, hx639_1, hx639_2, hx639_3⟩ := at_T52 HR0_2.out x6_1 p639 q639
     obtain rfl : ad638 = ad639 := (by injection e639)
     replace hx639_0 := zX HB.out hx639_0
     replace hx639_1 := zX HB.out hx639_1
     replace hx639_2 := zX HB.out hx639_2
     replace hx639_3 := zX HB.out hx639_3
     replace p639 := eq_true p639
     replace q639 := eq_true q639
     obtain ⟨z10_0, z10_1, z10_2, z10_3, y10_0, y10_1, y10_2, y10_3⟩ := zC4 BK637.out
     go_wp2
     refine bodyPost_ret (results_ct rfl _ _ gb637 52 #[.int .i64 ((rd_T52 l0_2 x6_1).f0), .string ((rd_T52 l0_2 x6_1).f1), .bool ((rd_T52 l0_2 x6_1).f2), .int .i64 ((rd_T52 l0_2 x6_1).f3)] (0, 0) _ rfl (zP4 BK637.out) Tryd.underlying52 rfl (by kernel_rfl)) rfl ?_
     exact ⟨zE, zL HB.out⟩
    rw [if_neg c7] at H
    have c7b0 := zn0 c7
    have c7b1 := zn1 c7
    have H' := ka H
    clear H
    have hnb11 := NB636_637.out
    have hnc11 := NB637_636.out
    obtain ⟨z12_0, z12_1, z12_2, y12_0, y12_1, y12_2⟩ := zC3 BK636.out
    have p638 : 0 ≤ (x6_1 : Int) := zD
    have q638 : x6_1 < (l0_2.length : Int) := zD
    obtain ⟨ad638, e638, hx638_0, hx638_1, hx638_2, hx638_3⟩ := at_T52 HR0_2.out x6_1 p638 q638
    cases e638
    replace hx638_0 := zX HB.out hx638_0
    replace hx638_1 := zX HB.out hx638_1
    replace hx638_2 := zX HB.out hx638_2
    replace hx638_3 := zX HB.out hx638_3
    replace p638 := eq_true p638
    replace q638 := eq_true q638
    go_wp2
    go_roundg k1
    case measure => have := HK1.out; omega
    case rel => exact ⟨(wrap64 (x6_1 + 1)), (x638000_1), (x638001_1), (x638002_1), (x638003_1), zS, H', ⟨by have := HK1.out; omega⟩, ⟨zK BK636.out⟩, ⟨zK BK637.out⟩, ⟨zL HB.out⟩⟩
   rw [if_neg c5] at H
   have c5b0 := zdf c5
   clear c5
   replace H := zs5 H
   obtain ⟨rfl, rfl, rfl, rfl, rfl⟩ := H
   have hnb13 := NB636_637.out
   have hnc13 := NB637_636.out
   obtain ⟨z14_0, z14_1, z14_2, y14_0, y14_1, y14_2⟩ := zC3 BK636.out
   obtain ⟨z15_0, z15_1, z15_2, z15_3, y15_0, y15_1, y15_2, y15_3⟩ := zC4 BK637.out
   go_wp2
   refine bodyPost_ret (results_ct rfl _ _ gb637 52 #[.int .i64 0, .string ⟨#[]⟩, .bool false, .int .i64 0] (0, 0) _ rfl (zP4 BK637.out) Tryd.underlying52 rfl (by kernel_rfl)) rfl ?_
   exact ⟨zE, zL HB.out⟩

/-! ### cooperageref1_digit: function 56 -/
def cooperageref1_digit.f (a0 : Int) : Option (Bool) := if a0 ≥ 48 then (some (decide (a0 ≤ 57))) else (some false)
theorem cooperageref1_digit.calls (a0 : Int) (r : Bool) (w : World) (h : cooperageref1_digit.f a0 = some r) :
  Calls Tryd.prog 56 #[.int .u8 a0] w fun e w' => e = .returned (.bool r) ∧ Drawn0 w w' := by
 have H : (if a0 ≥ 48 then (some (decide (a0 ≤ 57))) else (some false)) = some r := h
 clear h
 by_cases c2 : a0 ≥ 48
 ·rw [if_pos c2] at H
  have c2b0 : decide (48 ≤ a0) = true := zdt c2
  clear c2
  obtain rfl := Option.some.inj H
  go_enter Tryd.func56, Tryd.ntmps56
  go_wp2
  go_ret
  exact ⟨by first | rfl | (simp; done) | (simp [*]; done), zd0⟩
 rw [if_neg c2] at H
 have c2b0 : decide (48 ≤ a0) = false := zdf c2
 clear c2
 obtain rfl := Option.some.inj H
 go_enter Tryd.func56, Tryd.ntmps56
 go_wp2
 go_ret
 exact ⟨by first | rfl | (simp; done) | (simp [*]; done), zd0⟩

end Go.Proofs.YtjdadmjomjhpcaaDoor.PLease
