-- Written by a program of this session (wip/tools/ext.py, over the kit's printer); not trusted: Lean checks it.
import Derived.Test.YtjdadmjomjhpcaaDoorPLeasex9
namespace Go.Proofs.YtjdadmjomjhpcaaDoor.PLease
open Go.RowKit Go.Proofs.YtjdadmjomjhpcaaDoorW.PrintWords Go.Proofs.YtjdadmjomjhpcaaDoorW.PrintLast Go.Proofs.YtjdadmjomjhpcaaDoorW.PrintMore
attribute [local go_sem] max2_int min2_int max_two min_two max_three min_three max_four min_four
set_option linter.unusedVariables false
set_option linter.unusedSimpArgs false
set_option maxHeartbeats 8000000
set_option maxRecDepth 100000

/-! ### cooperageref16_settle: function 43 -/
def cooperageref16_settle.l0 : Nat → Int → Int → Int → List (S45) → List (S52) → Int → List (S45) → List (S52) → Option (Int × (List (S45)) × (List (S52)))
 | 0, _, _, _, _, _, _, _, _ => none
 | k + 1, x1, x6, x542000, x542001, x542002, x550000, x550001, x550002 => if x6 < (x542002.length : Int) then (if 0 ≤ x6 then ((cooperageref16_free.f k x550001 x550002 ((rd_T52 x542002 x6).f0) ((rd_T52 x542002 x6).f1) ((rd_T52 x542002 x6).f2) ((rd_T52 x542002 x6).f3)).bind fun t552 => (if t552 = true then (if x550001.length < 2932031007402 then (cooperageref16_settle.l0 k x1 (wrap64 (x6 + 1)) x542000 x542001 x542002 (wrap64 (x550000 + 1)) (x550001 ++ [(⟨(rd_T52 x542002 x6).f0, (rd_T52 x542002 x6).f1, (rd_T52 x542002 x6).f2, wrap64 (x550000 + 1), wrap64 (x1 + ((rd_T52 x542002 x6).f3))⟩ : S45)]) x550002) else (none)) else (if x550002.length < 3518437208883 then (cooperageref16_settle.l0 k x1 (wrap64 (x6 + 1)) x542000 x542001 x542002 x550000 x550001 (x550002 ++ [(⟨(rd_T52 x542002 x6).f0, (rd_T52 x542002 x6).f1, (rd_T52 x542002 x6).f2, (rd_T52 x542002 x6).f3⟩ : S52)])) else (none)))) else (none)) else (some (x550000, x550001, x550002))
def cooperageref16_settle.f (k : Nat) (a0_0 : Int) (l0_1 : List (S45)) (l0_2 : List (S52)) (a1 : Int) : Option (Int × (List (S45)) × (List (S52))) := (some (([] : List (S45)) : List (S45))).bind fun y543 => (if y543.length + l0_1.length < 2932031007402 then (cooperageref16_settle.l0 k a1 0 a0_0 l0_1 l0_2 a0_0 (y543 ++ l0_1) ([] : List (S52))) else (none))
theorem cooperageref16_settle.mono_l : ∀ k, (∀ y0 y1 y2 y3 y4 y5 y6 y7, LeO (cooperageref16_settle.l0 k y0 y1 y2 y3 y4 y5 y6 y7) (cooperageref16_settle.l0 (k + 1) y0 y1 y2 y3 y4 y5 y6 y7))
 | 0 => fun _ _ _ _ _ _ _ _ r h => by simp [cooperageref16_settle.l0] at h
 | k + 1 => by
  have ih0 := cooperageref16_settle.mono_l k
  ·intro y0 y1 y2 y3 y4 y5 y6 y7
   unfold cooperageref16_settle.l0
   have m0 := @cooperageref16_free.mono
   exact zLe
theorem cooperageref16_settle.mono : ∀ a0 a1 a2 a3 k, LeO (cooperageref16_settle.f k a0 a1 a2 a3) (cooperageref16_settle.f (k + 1) a0 a1 a2 a3) := by
 intro a0 a1 a2 a3 k
 have ih0 := cooperageref16_settle.mono_l k
 unfold cooperageref16_settle.f
 have m0 := @cooperageref16_free.mono
 exact zLe
def cooperageref16_settle.T1 : Bool × List (List Nat × List Nat) := (true, [([], []), ([0], [0]), ([], []), ([], []), ([3], [3]), ([2, 4], [2, 4]), ([1, 5], [1, 5]), ([], []), ([7, 6, 5, 0, 1, 2, 3, 4, 5, 6, 7], [6, 7])])
def cooperageref16_settle.B1 : List Nat := [0, 1, 0, 0, 8, 28, 63, 0, 255]
theorem cooperageref16_settle.tab1 : rtab .any (opsOf Tryd.f43 1) = cooperageref16_settle.T1 := by kernel_rfl
theorem cooperageref16_settle.bits1 : waitsOk cooperageref16_settle.T1.2 cooperageref16_settle.B1 = true := by kernel_rfl
theorem cooperageref16_settle.calls (k : Nat) (a0_0 : Int) (A0_1 : Option Addr) (c0_1 : Nat) (l0_1 : List (S45)) (A0_2 : Option Addr) (c0_2 : Nat) (l0_2 : List (S52)) (a1 : Int) (r1 : Int) (r2 : List (S45)) (r3 : List (S52)) (w : World) (hr0_1 : Kd.C k45 w A0_1 l0_1.length l0_1) (hc0_1 : l0_1.length ≤ c0_1) (hr0_2 : Kd.C k52 w A0_2 l0_2.length l0_2) (hc0_2 : l0_2.length ≤ c0_2) (h : cooperageref16_settle.f k a0_0 l0_1 l0_2 a1 = some (r1, r2, r3)) :
  Calls Tryd.prog 43 #[.agg #[.int .i64 a0_0, .slice A0_1 l0_1.length c0_1, .slice A0_2 l0_2.length c0_2], .int .i64 a1] w fun e w' => ∃ v1_ v2_ : Value, e = .returned (.agg #[.int .i64 r1, v1_, v2_]) ∧ Kd.R k45 45 w' w.heap.size (fun _ => True) v1_ r2 ∧ Kd.R k52 52 w' w.heap.size (fun _ => True) v2_ r3 ∧ Below w.heap.size w w' := by
 have hu32 := Tryd.underlying32
 have hu52 := Tryd.underlying52
 have hu45 := Tryd.underlying45
 have HR0_1 := ka hr0_1
 have HC0_1 := ka hc0_1
 clear hr0_1 hc0_1
 have HR0_2 := ka hr0_2
 have HC0_2 := ka hc0_2
 clear hr0_2 hc0_2
 have HB := ka (Below.refl w.heap.size w)
 have H : ((some (([] : List (S45)) : List (S45))).bind fun y543 => (if y543.length + l0_1.length < 2932031007402 then (cooperageref16_settle.l0 k a1 0 a0_0 l0_1 l0_2 a0_0 (y543 ++ l0_1) ([] : List (S52))) else (none))) = some (r1, r2, r3) := h
 clear h
 obtain ⟨y543, hy543⟩ : ∃ y_ : List (S45), y_ = (([] : List (S45))) := ⟨_, rfl⟩
 replace H : (if y543.length + l0_1.length < 2932031007402 then (cooperageref16_settle.l0 k a1 0 a0_0 l0_1 l0_2 a0_0 (y543 ++ l0_1) ([] : List (S52))) else (none)) = some (r1, r2, r3) := zH hy543 H
 have Ny543 := ka hy543
 clear hy543
 replace H := zif H
 obtain ⟨c3, H⟩ := H
 have LMc3 := ka c3
 clear c3
 obtain ⟨y546, hy546⟩ : ∃ y_ : List (S45), y_ = (y543 ++ l0_1) := ⟨_, rfl⟩
 replace H : (cooperageref16_settle.l0 k a1 0 a0_0 l0_1 l0_2 a0_0 y546 ([] : List (S52))) = some (r1, r2, r3) := zH hy546 H
 have Ny546 := ka hy546
 clear hy546
 have H' := ka H
 clear H
 go_enter Tryd.func43, Tryd.ntmps43
 try go_wp2_with (first | ((with_reducible refine gate_dst (N := 2) rfl ?_); refine box_event ?hg (N := 2) ?hd (cs := #[.int .i64 a0_0, .slice A0_1 l0_1.length c0_1, .slice A0_2 l0_2.length c0_2]) (t := 32) ?hr ?_; (case hd => rfl); (case hg => rfl); (case hr => (go_simp; try rfl)); intro gb541 hg w4 hbox hb; have BK541 := ka (hbox); have GW541 := ka (zG hg (zL HB.out)); replace HB := ka (below_step (zL HB.out) hb); clear hb hbox hg) | ((with_reducible refine gate_dst (N := 4) rfl ?_); refine box_event ?hg (N := 4) ?hd (cs := #[.int .i64 0, .slice none 0 0, .slice none 0 0]) (t := 32) ?hr ?_; (case hd => rfl); (case hg => rfl); (case hr => (go_simp; try rfl)); intro gb542 hg w5 hbox hb; have BK542 := ka (hbox); have GW542 := ka (zG hg (zL HB.out)); replace HB := ka (below_step (zL HB.out) hb); have NB541_542 := ka (zNK hg BK541.out); have NB542_541 := ka (zOK hg BK541.out); replace BK541 := ka (zB BK541.out hb); clear hb hbox hg))
 replace BK541 := ka (blk_drew BK541.out)
 replace BK542 := ka (blk_drew BK542.out)
 replace HB := ka (below_drew1 HB.out)
 refine start_ (n := 9) (S := fun w' => w'.cell? ⟨gb541, 0, none⟩ = some (.int .i64 a0_0) ∧ w'.cell? ⟨gb541, 1, none⟩ = some (.slice A0_1 l0_1.length c0_1) ∧ w'.cell? ⟨gb541, 2, none⟩ = some (.slice A0_2 l0_2.length c0_2)) (ds := []) #[false, false, false, false, false, false, false, false, false] (by kernel_rfl) rfl rfl ⟨zc BK541.out 0, zc BK541.out 1, zc BK541.out 2⟩ (fun hHeld => ?_); refine with_tabW cooperageref16_settle.tab1 cooperageref16_settle.bits1 (fun HT_ HW_ => ?_)
 generalize w5.drew = w6 at BK541 BK542 HB hHeld ⊢
 refine zpp 0 (N := some 8) HT_ (h := ?_)
 refine zpp 3 (N := some 11) HT_ (h := ?_)
 refine zpt 1 (N := some 9) HT_ HW_ hHeld (h := ?_)
 refine zpt 4 (N := some 12) HT_ HW_ hHeld (h := ?_)
 refine join_ (σ := Value × Value × Nat) 1 #[true, true, true, true, true, true, true, true, false] (fun s_ => [(10, s_.1), (13, s_.2.1), (5, .pointer (some ⟨s_.2.2, 0, none⟩)), (14, .agg #[.int .i64 a0_0, s_.2.1, .slice none 0 0])]) (fun s_ w' => (w'.cell? ⟨gb541, 0, none⟩ = some (.int .i64 a0_0) ∧ w'.cell? ⟨gb541, 1, none⟩ = some (.slice A0_1 l0_1.length c0_1) ∧ w'.cell? ⟨gb541, 2, none⟩ = some (.slice A0_2 l0_2.length c0_2)) ∧ (Kd.R k45 45 w' w.heap.size (fun _ => True) s_.2.1 y546) ∧ (w'.heap[gb541]? = some (.cells #[.int .i64 a0_0, .slice A0_1 l0_1.length c0_1, .slice A0_2 l0_2.length c0_2] 32 (0, 0))) ∧ (w'.heap[gb542]? = some (.cells #[.int .i64 0, .slice none 0 0, .slice none 0 0] 32 (0, 0))) ∧ (w'.heap[s_.2.2]? = some (.cells #[.int .i64 0, .slice none 0 0, .slice none 0 0] 32 (0, 0))) ∧ (w.heap.size ≤ s_.2.2) ∧ (w.heap.size ≤ s_.2.2) ∧ (gb541 ≠ s_.2.2) ∧ (s_.2.2 ≠ gb541) ∧ (gb542 ≠ s_.2.2) ∧ (s_.2.2 ≠ gb542) ∧ (Below w.heap.size w w')) ?_ ?_
 rotate_left
 ·intro hCont
  refine two_ (i := 2) (j := 7) (Ni := some 10) (Nj := some 5) #[true, true, true, true, true, false, false, false, false] #[true, true, false, true, true, false, false, true, false] rfl rfl rfl rfl (two_of HT_.out (by kernel_rfl)) (by decide) (by decide) (fun K hK => ?_) (fun K hK => ?_)
  ·skip
   refine Kd.R_lit_step k45 _ 45 ?hg (N := 10) ?hd (xs := ([] : List (S45))) (inner := []) (ok := fun _ => True) (okp := fun _ => True) ?hr ?hp (fun _ hk => hk) trivial (Below.refl _ _) (Nat.le_refl _) (by simp) ?_; (case hd => rfl); (case hg => rfl); (case hr => (go_simp; try rfl)); (case hp => exact (Reps.none _ _))
   intro v544 w7 ho8 hb hg_ hnew_
   clear hg_ hnew_
   (first | rw [← Ny543.out] at ho8 | (simp only [Int.reduceToNat] at ho8; rw [← Ny543.out] at ho8))
   have HO545 := ka (Kd.R_lower ho8 (below_size (zL HB.out)))
   replace BK541 := ka (zB BK541.out hb)
   replace BK542 := ka (zB BK542.out hb)
   replace HB := ka (below_step (zL HB.out) hb)
   clear hb ho8
   refine hK.out _ _ ⟨zc BK541.out 0, zc BK541.out 1, zc BK541.out 2⟩ (fun hHeld => ?_)
   clear hK K
   refine znm (N := some 10) (h := ?_)
   refine two_ (i := 5) (j := 7) (Ni := some 13) (Nj := some 5) #[true, true, true, true, true, true, false, false, false] #[true, true, true, true, true, false, false, true, false] rfl rfl rfl rfl (two_of HT_.out (by kernel_rfl)) (by decide) (by decide) (fun K hK => ?_) (fun K hK => ?_)
   ·skip
    refine Kd.R_append_rows_step k45 (w0 := w) w.heap.size (by rfl) (.tmp 10) (.tmp 12) 29 45 (.agg #[(.int .i64 0), (.string ⟨#[]⟩), (.bool false), (.int .i64 0), (.int .i64 0)]) 48 rfl Tryd.underlying29 info45 rfl (by decide) (by omega) v544 y543 l0_1 _ _ _ (fun _ => True) (fun _ => False) rfl rfl ?aO ?aR (fun _ _ h => h) (fun _ h => h.elim) ?aF ?aB ?aS ?aL ?_
    (case aR => repeat (first | exact (Kd.C_below HR0_1.out HB.out) | (with_reducible refine Kd.C_alloc ?_ _) | (with_reducible refine Kd.C_drewN ?_ _) | (with_reducible refine Kd.C_drew ?_)))
    (case aB => exact (zL HB.out))
    (case aF => exact (fun _ _ => trivial))
    (case aO => exact (zR HO545.out))
    (case aS => exact (below_size (zL HB.out)))
    (case aL => have := LMc3.out; omega)
    intro v547 w9 ho hb hg hat
    rw [← Ny546.out] at ho
    replace BK541 := ka (blk_grown (g := gb541) (o := .cells #[.int .i64 a0_0, .slice A0_1 l0_1.length c0_1, .slice A0_2 l0_2.length c0_2] 32 (0, 0)) (zK BK541.out) hg (Kd.R_ne HO545.out BK541.out (by decide)))
    replace BK542 := ka (blk_grown (g := gb542) (o := .cells #[.int .i64 0, .slice none 0 0, .slice none 0 0] 32 (0, 0)) (zK BK542.out) hg (Kd.R_ne HO545.out BK542.out (by decide)))
    replace HB := ka (hb)
    have HO548 := ka (ho)
    clear HO545
    clear ho hb hg hat
    obtain ⟨Ao10, co10, eo10⟩ := Kd.R_slice HO548.out
    (first | subst eo10 | (injection eo10 with f1_ f2_ f3_; have f4_ := f1_.symm; have f5_ := f3_.symm; clear f1_ f2_ f3_; subst f4_; subst f5_))
    refine hK.out _ _ ⟨zc BK541.out 0, zc BK541.out 1, zc BK541.out 2⟩ (fun hHeld => ?_)
    clear hK K
    refine znm (N := some 13) (h := ?_)
    refine zpp 6 (N := some 14) HT_ (h := ?_)
    refine one_ (i := 7) (N := some 5) #[true, true, true, true, true, true, true, true, false] rfl rfl (one_of HT_.out (by kernel_rfl)) (by decide) (fun K hK => ?_)
    refine box_step ?hg (N := 5) ?hd (cs := #[.int .i64 0, .slice none 0 0, .slice none 0 0]) (t := 32) ?hr ?_; (case hd => rfl); (case hg => rfl); (case hr => (go_simp; try rfl))
    intro gb549 hg w11 hbox hb
    replace HO548 := ka (Kd.R_below (zR HO548.out) hb)
    have BK549 := ka (hbox)
    have GW549 := ka (zG hg (zL HB.out))
    have GE549 := ka (zG hg (zL HB.out))
    replace HB := ka (below_step (zL HB.out) hb)
    have NB541_549 := ka (zNK hg BK541.out)
    have NB549_541 := ka (zOK hg BK541.out)
    replace BK541 := ka (zB BK541.out hb)
    have NB542_549 := ka (zNK hg BK542.out)
    have NB549_542 := ka (zOK hg BK542.out)
    replace BK542 := ka (zB BK542.out hb)
    clear hb hbox hg
    refine hK.out _ _ ⟨zc BK541.out 0, zc BK541.out 1, zc BK541.out 2⟩ (fun hHeld => ?_)
    clear hK K
    refine znm (N := some 5) (h := ?_)
    exact norm_ (by simp only [putAll, Act.put, List.setIfInBounds_toArray, List.set_cons_zero, List.set_cons_succ]) (hCont (v544, .slice Ao10 y546.length co10, gb549) _ ⟨hHeld, (zR HO548.out), (zK BK541.out), (zK BK542.out), (zK BK549.out), GW549.out, GE549.out, NB541_549.out, NB549_541.out, NB542_549.out, NB549_542.out, (zL HB.out)⟩)
   ·skip
    refine box_step ?hg (N := 5) ?hd (cs := #[.int .i64 0, .slice none 0 0, .slice none 0 0]) (t := 32) ?hr ?_; (case hd => rfl); (case hg => rfl); (case hr => (go_simp; try rfl))
    intro gb549 hg w9 hbox hb
    replace HO545 := ka (Kd.R_below (zR HO545.out) hb)
    have BK549 := ka (hbox)
    have GW549 := ka (zG hg (zL HB.out))
    have GE549 := ka (zG hg (zL HB.out))
    replace HB := ka (below_step (zL HB.out) hb)
    have NB541_549 := ka (zNK hg BK541.out)
    have NB549_541 := ka (zOK hg BK541.out)
    replace BK541 := ka (zB BK541.out hb)
    have NB542_549 := ka (zNK hg BK542.out)
    have NB549_542 := ka (zOK hg BK542.out)
    replace BK542 := ka (zB BK542.out hb)
    clear hb hbox hg
    refine hK.out _ _ ⟨zc BK541.out 0, zc BK541.out 1, zc BK541.out 2⟩ (fun hHeld => ?_)
    clear hK K
    refine znm (N := some 5) (h := ?_)
    refine one_ (i := 5) (N := some 13) #[true, true, true, true, true, true, false, true, false] rfl rfl (one_of HT_.out (by kernel_rfl)) (by decide) (fun K hK => ?_)
    refine Kd.R_append_rows_step k45 (w0 := w) w.heap.size (by rfl) (.tmp 10) (.tmp 12) 29 45 (.agg #[(.int .i64 0), (.string ⟨#[]⟩), (.bool false), (.int .i64 0), (.int .i64 0)]) 48 rfl Tryd.underlying29 info45 rfl (by decide) (by omega) v544 y543 l0_1 _ _ _ (fun _ => True) (fun _ => False) rfl rfl ?aO ?aR (fun _ _ h => h) (fun _ h => h.elim) ?aF ?aB ?aS ?aL ?_
    (case aR => repeat (first | exact (Kd.C_below HR0_1.out HB.out) | (with_reducible refine Kd.C_alloc ?_ _) | (with_reducible refine Kd.C_drewN ?_ _) | (with_reducible refine Kd.C_drew ?_)))
    (case aB => exact (zL HB.out))
    (case aF => exact (fun _ _ => trivial))
    (case aO => exact (zR HO545.out))
    (case aS => exact (below_size (zL HB.out)))
    (case aL => have := LMc3.out; omega)
    intro v547 w10 ho hb hg hat
    rw [← Ny546.out] at ho
    replace BK541 := ka (blk_grown (g := gb541) (o := .cells #[.int .i64 a0_0, .slice A0_1 l0_1.length c0_1, .slice A0_2 l0_2.length c0_2] 32 (0, 0)) (zK BK541.out) hg (Kd.R_ne HO545.out BK541.out (by decide)))
    replace BK542 := ka (blk_grown (g := gb542) (o := .cells #[.int .i64 0, .slice none 0 0, .slice none 0 0] 32 (0, 0)) (zK BK542.out) hg (Kd.R_ne HO545.out BK542.out (by decide)))
    replace BK549 := ka (blk_grown (g := gb549) (o := .cells #[.int .i64 0, .slice none 0 0, .slice none 0 0] 32 (0, 0)) (zK BK549.out) hg (Kd.R_ne HO545.out BK549.out (by decide)))
    replace HB := ka (hb)
    have HO548 := ka (ho)
    clear HO545
    clear ho hb hg hat
    obtain ⟨Ao11, co11, eo11⟩ := Kd.R_slice HO548.out
    (first | subst eo11 | (injection eo11 with f1_ f2_ f3_; have f4_ := f1_.symm; have f5_ := f3_.symm; clear f1_ f2_ f3_; subst f4_; subst f5_))
    refine hK.out _ _ ⟨zc BK541.out 0, zc BK541.out 1, zc BK541.out 2⟩ (fun hHeld => ?_)
    clear hK K
    refine znm (N := some 13) (h := ?_)
    refine zpp 6 (N := some 14) HT_ (h := ?_)
    exact norm_ (by simp only [putAll, Act.put, List.setIfInBounds_toArray, List.set_cons_zero, List.set_cons_succ]) (hCont (v544, .slice Ao11 y546.length co11, gb549) _ ⟨hHeld, (zR HO548.out), (zK BK541.out), (zK BK542.out), (zK BK549.out), GW549.out, GE549.out, NB541_549.out, NB549_541.out, NB542_549.out, NB549_542.out, (zL HB.out)⟩)
  ·skip
   refine box_step ?hg (N := 5) ?hd (cs := #[.int .i64 0, .slice none 0 0, .slice none 0 0]) (t := 32) ?hr ?_; (case hd => rfl); (case hg => rfl); (case hr => (go_simp; try rfl))
   intro gb549 hg w7 hbox hb
   have BK549 := ka (hbox)
   have GW549 := ka (zG hg (zL HB.out))
   have GE549 := ka (zG hg (zL HB.out))
   replace HB := ka (below_step (zL HB.out) hb)
   have NB541_549 := ka (zNK hg BK541.out)
   have NB549_541 := ka (zOK hg BK541.out)
   replace BK541 := ka (zB BK541.out hb)
   have NB542_549 := ka (zNK hg BK542.out)
   have NB549_542 := ka (zOK hg BK542.out)
   replace BK542 := ka (zB BK542.out hb)
   clear hb hbox hg
   refine hK.out _ _ ⟨zc BK541.out 0, zc BK541.out 1, zc BK541.out 2⟩ (fun hHeld => ?_)
   clear hK K
   refine znm (N := some 5) (h := ?_)
   refine one_ (i := 2) (N := some 10) #[true, true, true, true, true, false, false, true, false] rfl rfl (one_of HT_.out (by kernel_rfl)) (by decide) (fun K hK => ?_)
   refine Kd.R_lit_step k45 _ 45 ?hg (N := 10) ?hd (xs := ([] : List (S45))) (inner := []) (ok := fun _ => True) (okp := fun _ => True) ?hr ?hp (fun _ hk => hk) trivial (Below.refl _ _) (Nat.le_refl _) (by simp) ?_; (case hd => rfl); (case hg => rfl); (case hr => (go_simp; try rfl)); (case hp => exact (Reps.none _ _))
   intro v544 w8 ho9 hb hg_ hnew_
   clear hg_ hnew_
   (first | rw [← Ny543.out] at ho9 | (simp only [Int.reduceToNat] at ho9; rw [← Ny543.out] at ho9))
   have HO545 := ka (Kd.R_lower ho9 (below_size (zL HB.out)))
   replace BK541 := ka (zB BK541.out hb)
   replace BK542 := ka (zB BK542.out hb)
   replace BK549 := ka (zB BK549.out hb)
   replace HB := ka (below_step (zL HB.out) hb)
   clear hb ho9
   refine hK.out _ _ ⟨zc BK541.out 0, zc BK541.out 1, zc BK541.out 2⟩ (fun hHeld => ?_)
   clear hK K
   refine znm (N := some 10) (h := ?_)
   refine one_ (i := 5) (N := some 13) #[true, true, true, true, true, true, false, true, false] rfl rfl (one_of HT_.out (by kernel_rfl)) (by decide) (fun K hK => ?_)
   refine Kd.R_append_rows_step k45 (w0 := w) w.heap.size (by rfl) (.tmp 10) (.tmp 12) 29 45 (.agg #[(.int .i64 0), (.string ⟨#[]⟩), (.bool false), (.int .i64 0), (.int .i64 0)]) 48 rfl Tryd.underlying29 info45 rfl (by decide) (by omega) v544 y543 l0_1 _ _ _ (fun _ => True) (fun _ => False) rfl rfl ?aO ?aR (fun _ _ h => h) (fun _ h => h.elim) ?aF ?aB ?aS ?aL ?_
   (case aR => repeat (first | exact (Kd.C_below HR0_1.out HB.out) | (with_reducible refine Kd.C_alloc ?_ _) | (with_reducible refine Kd.C_drewN ?_ _) | (with_reducible refine Kd.C_drew ?_)))
   (case aB => exact (zL HB.out))
   (case aF => exact (fun _ _ => trivial))
   (case aO => exact (zR HO545.out))
   (case aS => exact (below_size (zL HB.out)))
   (case aL => have := LMc3.out; omega)
   intro v547 w10 ho hb hg hat
   rw [← Ny546.out] at ho
   replace BK541 := ka (blk_grown (g := gb541) (o := .cells #[.int .i64 a0_0, .slice A0_1 l0_1.length c0_1, .slice A0_2 l0_2.length c0_2] 32 (0, 0)) (zK BK541.out) hg (Kd.R_ne HO545.out BK541.out (by decide)))
   replace BK542 := ka (blk_grown (g := gb542) (o := .cells #[.int .i64 0, .slice none 0 0, .slice none 0 0] 32 (0, 0)) (zK BK542.out) hg (Kd.R_ne HO545.out BK542.out (by decide)))
   replace BK549 := ka (blk_grown (g := gb549) (o := .cells #[.int .i64 0, .slice none 0 0, .slice none 0 0] 32 (0, 0)) (zK BK549.out) hg (Kd.R_ne HO545.out BK549.out (by decide)))
   replace HB := ka (hb)
   have HO548 := ka (ho)
   clear HO545
   clear ho hb hg hat
   obtain ⟨Ao11, co11, eo11⟩ := Kd.R_slice HO548.out
   (first | subst eo11 | (injection eo11 with f1_ f2_ f3_; have f4_ := f1_.symm; have f5_ := f3_.symm; clear f1_ f2_ f3_; subst f4_; subst f5_))
   refine hK.out _ _ ⟨zc BK541.out 0, zc BK541.out 1, zc BK541.out 2⟩ (fun hHeld => ?_)
   clear hK K
   refine znm (N := some 13) (h := ?_)
   refine zpp 6 (N := some 14) HT_ (h := ?_)
   exact norm_ (by simp only [putAll, Act.put, List.setIfInBounds_toArray, List.set_cons_zero, List.set_cons_succ]) (hCont (v544, .slice Ao11 y546.length co11, gb549) _ ⟨hHeld, (zR HO548.out), (zK BK541.out), (zK BK542.out), (zK BK549.out), GW549.out, GE549.out, NB541_549.out, NB549_541.out, NB542_549.out, NB549_542.out, (zL HB.out)⟩)
 rintro ⟨v544, v547, gb549⟩ w12 ⟨hS_, h0_, h1_, h2_, h3_, h4_, h5_, h6_, h7_, h8_, h9_, h10_⟩
 have n0_ : Aside0 (Kd.R k45 45 w12 w.heap.size (fun _ => True) v547 y546) := ⟨h0_⟩
 have n1_ : Aside0 (w12.heap[gb541]? = some (.cells #[.int .i64 a0_0, .slice A0_1 l0_1.length c0_1, .slice A0_2 l0_2.length c0_2] 32 (0, 0))) := ⟨h1_⟩
 have n2_ : Aside0 (w12.heap[gb542]? = some (.cells #[.int .i64 0, .slice none 0 0, .slice none 0 0] 32 (0, 0))) := ⟨h2_⟩
 have n3_ : Aside0 (w12.heap[gb549]? = some (.cells #[.int .i64 0, .slice none 0 0, .slice none 0 0] 32 (0, 0))) := ⟨h3_⟩
 have n4_ : Aside0 (w.heap.size ≤ gb549) := ⟨h4_⟩
 have n5_ : Aside0 (w.heap.size ≤ gb549) := ⟨h5_⟩
 have n6_ : Aside0 (gb541 ≠ gb549) := ⟨h6_⟩
 have n7_ : Aside0 (gb549 ≠ gb541) := ⟨h7_⟩
 have n8_ : Aside0 (gb542 ≠ gb549) := ⟨h8_⟩
 have n9_ : Aside0 (gb549 ≠ gb542) := ⟨h9_⟩
 have n10_ : Aside0 (Below w.heap.size w w12) := ⟨h10_⟩
 clear BK541
 clear BK542
 clear HB
 clear h0_ h1_ h2_ h3_ h4_ h5_ h6_ h7_ h8_ h9_ h10_
 have HO548 := n0_
 have BK541 := n1_
 have BK542 := n2_
 have BK549 := n3_
 have GW549 := n4_
 have GE549 := n5_
 have NB541_549 := n6_
 have NB549_541 := n7_
 have NB542_549 := n8_
 have NB549_542 := n9_
 have HB := n10_
 clear n0_ n1_ n2_ n3_ n4_ n5_ n6_ n7_ n8_ n9_ n10_
 have hHeld : w12.cell? ⟨gb541, 0, none⟩ = some (.int .i64 a0_0) ∧ w12.cell? ⟨gb541, 1, none⟩ = some (.slice A0_1 l0_1.length c0_1) ∧ w12.cell? ⟨gb541, 2, none⟩ = some (.slice A0_2 l0_2.length c0_2) := hS_
 obtain ⟨Ao13, co13, eo13⟩ := Kd.R_slice HO548.out
 (first | subst eo13 | (injection eo13 with f1_ f2_ f3_; have f4_ := f1_.symm; have f5_ := f3_.symm; clear f1_ f2_ f3_; subst f4_; subst f5_))
 refine norm_ (a' := ?_) ?_ ?_
 rotate_left
 ·simp only [putAll, Act.put, List.setIfInBounds_toArray, List.set_cons_zero, List.set_cons_succ]
  rfl
 refine one_ (i := 8) (N := none) #[true, true, true, true, true, true, true, true, true] rfl rfl (one_of HT_.out (by kernel_rfl)) (by decide) (fun K hK => ?_)
 have hs14 : w12.cell? ⟨gb549, 0, none⟩ = some (.int .i64 0) := zc BK549.out 0
 have hfs14 := blk_frozen BK549.out 0
 have hns14_0 := NB541_549.out
 have hns14_1 := NB542_549.out
 have hms14_0 := NB549_541.out
 have hms14_1 := NB549_542.out
 have hs15 : w12.cell? ⟨gb549, 1, none⟩ = some (.slice none 0 0) := zc BK549.out 1
 have hfs15 := blk_frozen BK549.out 1
 have hns15_0 := NB541_549.out
 have hns15_1 := NB542_549.out
 have hms15_0 := NB549_541.out
 have hms15_1 := NB549_542.out
 have hs16 : w12.cell? ⟨gb549, 2, none⟩ = some (.slice none 0 0) := zc BK549.out 2
 have hfs16 := blk_frozen BK549.out 2
 have hns16_0 := NB541_549.out
 have hns16_1 := NB542_549.out
 have hms16_0 := NB549_541.out
 have hms16_1 := NB549_542.out
 refine skip_ (w1 := ?_) (by rfl) rfl ?_ ?_
 rotate_left
 ·go_simp
  rfl
 refine hK.out _ _ ⟨(zW NB541_549.out hHeld.1), (zW NB541_549.out hHeld.2.1), (zW NB541_549.out hHeld.2.2)⟩ (fun hHeld => ?_)
 clear hK K
 refine done_ (done_of HT_.out (by kernel_rfl)) ?_
 try go_wp2
 go_loopg [6] k (fun kq v6 w' => ∃ (x6_1 : Int) (x550000_1 : Int) (x550001_1 : List (S45)) (x550002_1 : List (S52)) (u550001 : Value) (u550002 : Value), v6 = .int .i64 x6_1 ∧ Aside0 (cooperageref16_settle.l0 kq a1 x6_1 a0_0 l0_1 l0_2 x550000_1 x550001_1 x550002_1 = some (r1, r2, r3)) ∧ Aside0 (kq ≤ k) ∧ Aside0 (Kd.R k45 45 w' w.heap.size (fun _ => True) u550001 x550001_1) ∧ Aside0 (Kd.R k52 52 w' w.heap.size (fun _ => True) u550002 x550002_1) ∧ Aside0 (w'.heap[gb541]? = some (.cells #[.int .i64 a0_0, (.slice A0_1 l0_1.length c0_1), (.slice A0_2 l0_2.length c0_2)] 32 (0, 0))) ∧ Aside0 (w'.heap[gb542]? = some (.cells #[.int .i64 0, (.slice none 0 0), (.slice none 0 0)] 32 (0, 0))) ∧ Aside0 (w'.heap[gb549]? = some (.cells #[.int .i64 x550000_1, u550001, u550002] 32 (0, 0))) ∧ Aside0 (Below w.heap.size w w'))
 case atStart => exact ⟨(0), (a0_0), (y546), (([] : List (S52))), (.slice Ao13 y546.length co13), (.slice none 0 0), zS, H', ⟨Nat.le_refl _⟩, ⟨by (with_reducible repeat (first | apply Kd.R_alloc | apply Kd.R_drewN | apply Kd.R_drew)); exact Kd.R_mono (zNT HO548.out BK549.out) (fun _ hk => trivial)⟩, ⟨zNl⟩, ⟨zK BK541.out⟩, ⟨zK BK542.out⟩, ⟨zP3 BK549.out⟩, ⟨zL HB.out⟩⟩
 case round =>
  clear H'
  try clear c3
  obtain ⟨x6_1, x550000_1, x550001_1, x550002_1, u550001, u550002, rfl, HA, HK1, HO_550001, HO_550002, BK541, BK542, BK549, HB⟩ := hrel
  cases gk with
  | zero => exact absurd HA.out (by simp [cooperageref16_settle.l0])
  | succ k1 =>
   have H := HA.out
   clear HA
   simp only [cooperageref16_settle.l0] at H
   by_cases c17 : x6_1 < (l0_2.length : Int)
   ·rw [if_pos c17] at H
    have c17b0 := zdt c17
    clear c17
    replace H := zif H
    obtain ⟨c18, H⟩ := H
    have c18b0 := zdt c18
    clear c18
    replace H := Option.bind_eq_some_iff.mp H
    obtain ⟨t552, A190, H⟩ := H
    try dsimp only at H
    have A19 := ka A190
    clear A190
    by_cases c20 : t552 = true
    ·subst c20
     rw [if_pos rfl] at H
     replace H := zif H
     obtain ⟨c21, H⟩ := H
     have LMc21 := ka c21
     clear c21
     obtain ⟨y553, hy553⟩ : ∃ y_ : List (S45), y_ = (x550001_1 ++ [(⟨(rd_T52 l0_2 x6_1).f0, (rd_T52 l0_2 x6_1).f1, (rd_T52 l0_2 x6_1).f2, wrap64 (x550000_1 + 1), wrap64 (a1 + ((rd_T52 l0_2 x6_1).f3))⟩ : S45)]) := ⟨_, rfl⟩
     replace H : (cooperageref16_settle.l0 k1 a1 (wrap64 (x6_1 + 1)) a0_0 l0_1 l0_2 (wrap64 (x550000_1 + 1)) y553 x550002_1) = some (r1, r2, r3) := zH hy553 H
     have Ny553 := ka hy553
     clear hy553
     have H' := ka H
     clear H
     have hnb22 := NB541_542.out
     have hnc22 := NB542_541.out
     have hnb23 := NB541_549.out
     have hnc23 := NB549_541.out
     obtain ⟨z24_0, z24_1, z24_2, y24_0, y24_1, y24_2⟩ := zC3 BK541.out
     have p550 : 0 ≤ (x6_1 : Int) := zD
     have q550 : x6_1 < (l0_2.length : Int) := zD
     obtain ⟨ad550, e550, hx550_0, hx550_1, hx550_2, hx550_3⟩ := at_T52 HR0_2.out x6_1 p550 q550
     cases e550
     replace hx550_0 := zX HB.out hx550_0
     replace hx550_1 := zX HB.out hx550_1
     replace hx550_2 := zX HB.out hx550_2
     replace hx550_3 := zX HB.out hx550_3
     replace p550 := eq_true p550
     replace q550 := eq_true q550
     go_wp2_with (first | ((with_reducible refine gate_dst (N := 7) rfl ?_); refine box_event ?hg (N := 7) ?hd (cs := #[.int .i64 0, .string ⟨#[]⟩, .bool false, .int .i64 0]) (t := 52) ?hr ?_; (case hd => rfl); (case hg => rfl); (case hr => (go_simp; try rfl)); intro gb551 hg w25 hbox hb; replace HO_550001 := ka (Kd.R_below (zR HO_550001.out) hb); replace HO_550002 := ka (Kd.R_below (Kd.R_elderB (zR HO_550002.out) gb551 (Nat.le_of_eq hg.symm)) hb); have BK551 := ka (hbox); have GW551 := ka (zG hg (zL HB.out)); replace HB := ka (below_step (zL HB.out) hb); have NB541_551 := ka (zNK hg BK541.out); have NB551_541 := ka (zOK hg BK541.out); replace BK541 := ka (zB BK541.out hb); have NB542_551 := ka (zNK hg BK542.out); have NB551_542 := ka (zOK hg BK542.out); replace BK542 := ka (zB BK542.out hb); have NB549_551 := ka (zNK hg BK549.out); have NB551_549 := ka (zOK hg BK549.out); replace BK549 := ka (zB BK549.out hb); clear hb hbox hg; have hnb26 := NB551_541.out; have hnc26 := NB541_551.out; have hnb27 := NB551_542.out; have hnc27 := NB542_551.out; have hnb28 := NB551_549.out; have hnc28 := NB549_551.out; obtain ⟨z29_0, z29_1, z29_2, z29_3, y29_0, y29_1, y29_2, y29_3⟩ := zC4 BK551.out; have hnb30 := NB549_542.out; have hnc30 := NB542_549.out; obtain ⟨z31_0, z31_1, z31_2, y31_0, y31_1, y31_2⟩ := zC3 BK549.out; obtain ⟨Ao32, co32, eo32⟩ := Kd.R_slice HO_550001.out; subst eo32; obtain ⟨Ao33, co33, eo33⟩ := Kd.R_slice HO_550002.out; subst eo33) | ((with_reducible refine gate_callee (f := 50) rfl ?_); refine goesL_ (some 32) rfl rfl Tryd.func50 (by kernel_rfl) rfl #[.slice Ao32 x550001_1.length co32, .slice Ao33 x550002_1.length co33, .agg #[.int .i64 ((rd_T52 l0_2 x6_1).f0), .string ((rd_T52 l0_2 x6_1).f1), .bool ((rd_T52 l0_2 x6_1).f2), .int .i64 ((rd_T52 l0_2 x6_1).f3)]] rfl zA ?_; (with_reducible refine (cooperageref16_free.calls k1 _ _ x550001_1 _ _ x550002_1 ((rd_T52 l0_2 x6_1).f0) ((rd_T52 l0_2 x6_1).f1) ((rd_T52 l0_2 x6_1).f2) ((rd_T52 l0_2 x6_1).f3) true _ ?side1 ?side2 ?side3 ?side4 A19.out).mono ?_); (case side1 => refine (Kd.R_reads' (e := 45) (base := w.heap.size) (ok := fun k_ => True) (n := x550001_1.length) (c := co32) ?_).2.2; exact (zT HO_550001.out BK551.out)); (case side2 => exact (Kd.R_reads' HO_550001.out).2.1); (case side3 => refine (Kd.R_reads' (e := 52) (base := w.heap.size) (ok := fun k_ => (True ∧ k_ ≠ gb551)) (n := x550002_1.length) (c := co33) ?_).2.2; exact (zM HO_550002.out (g := gb551) (fun _ hk => hk.2))); (case side4 => exact (Kd.R_reads' HO_550002.out).2.1); rintro e w34 ⟨rfl, hb⟩; refine ⟨_, rfl, ?_⟩; replace HO_550001 := ka (Kd.R_below (zT HO_550001.out BK551.out) hb); replace HO_550002 := ka (Kd.R_below (zM HO_550002.out (g := gb551) (fun _ hk => hk.2)) hb); replace BK541 := ka (zB BK541.out hb); replace BK542 := ka (zB BK542.out hb); replace BK549 := ka (zB BK549.out hb); replace BK551 := ka (blk_below (g := gb551) (o := .cells #[.int .i64 ((rd_T52 l0_2 x6_1).f0), .string ((rd_T52 l0_2 x6_1).f1), .bool ((rd_T52 l0_2 x6_1).f2), .int .i64 ((rd_T52 l0_2 x6_1).f3)] 52 (0, 0)) (zP4 BK551.out) hb); replace HB := ka (below_step (zL HB.out) hb); (try clear hb); (try clear hb2); (try clear hk); (try clear hi); obtain ⟨z35_0, z35_1, z35_2, y35_0, y35_1, y35_2⟩ := zC3 BK549.out; obtain ⟨z36_0, z36_1, z36_2, z36_3, y36_0, y36_1, y36_2, y36_3⟩ := zC4 BK551.out) | ((with_reducible refine gate_builtin (b := .append) (xs := #[.tmp 38, .tmp 52]) rfl ?_); at_builtin; refine Kd.R_append k45 (w0 := w) w.heap.size rfl (.tmp 38) (.tmp 52) 29 45 (.agg #[(.int .i64 0), (.string ⟨#[]⟩), (.bool false), (.int .i64 0), (.int .i64 0)]) 48 rfl Tryd.underlying29 info45 rfl (by decide) (by omega) (.slice Ao32 x550001_1.length co32) x550001_1 (⟨(rd_T52 l0_2 x6_1).f0, (rd_T52 l0_2 x6_1).f1, (rd_T52 l0_2 x6_1).f2, wrap64 (x550000_1 + 1), wrap64 (a1 + ((rd_T52 l0_2 x6_1).f3))⟩ : S45) [.int .i64 ((rd_T52 l0_2 x6_1).f0), .string ((rd_T52 l0_2 x6_1).f1), .bool ((rd_T52 l0_2 x6_1).f2), .int .i64 (wrap64 (x550000_1 + 1)), .int .i64 (wrap64 (a1 + ((rd_T52 l0_2 x6_1).f3)))] (fun _ => True) (fun _ => False) rfl (by first | (go_simp; done) | (go_simp; rfl)) ?aP (fun _ hk => hk.elim) ?aF ?aO ?aB ?aS ?aL ?_; (case aP => exact k45_mkM _ _ _ (⟨(rd_T52 l0_2 x6_1).f0, (rd_T52 l0_2 x6_1).f1, (rd_T52 l0_2 x6_1).f2, wrap64 (x550000_1 + 1), wrap64 (a1 + ((rd_T52 l0_2 x6_1).f3))⟩ : S45)); (case aB => exact (zL HB.out)); (case aF => exact (fun _ _ => trivial)); (case aO => exact (by (with_reducible repeat (first | apply Kd.R_alloc | apply Kd.R_drewN | apply Kd.R_drew)); exact Kd.R_mono (zNT HO_550001.out BK549.out) (fun _ hk => trivial))); (case aS => exact (below_size (zL HB.out))); (case aL => have := LMc21.out; omega); intro v554 w37 ho hb hg hat; rw [← Ny553.out] at ho; replace HO_550002 := ka (Kd.R_over' (zT HO_550002.out BK549.out) (Kd.R_typed (zT HO_550001.out BK549.out)) (by decide) hg); replace BK541 := ka (blk_grown (g := gb541) (o := .cells #[.int .i64 a0_0, .slice A0_1 l0_1.length c0_1, .slice (some ad550) l0_2.length c0_2] 32 (0, 0)) (zK BK541.out) hg (Kd.R_ne HO_550001.out BK541.out (by decide))); replace BK542 := ka (blk_grown (g := gb542) (o := .cells #[.int .i64 0, .slice none 0 0, .slice none 0 0] 32 (0, 0)) (zK BK542.out) hg (Kd.R_ne HO_550001.out BK542.out (by decide))); replace BK549 := ka (blk_grown (g := gb549) (o := .cells #[.int .i64 (wrap64 (x550000_1 + 1)), .slice Ao32 x550001_1.length co32, .slice Ao33 x550002_1.length co33] 32 (0, 0)) (by (with_reducible repeat (first | refine blk_drewN ?_ _ | refine blk_drew ?_ | refine blk_alloc ?_ _)); refine blk_put (cs := #[.int .i64 x550000_1, .slice Ao32 x550001_1.length co32, .slice Ao33 x550002_1.length co33]) ?_ 0 _ rfl; (with_reducible repeat (first | refine blk_drewN ?_ _ | refine blk_drew ?_ | refine blk_alloc ?_ _)); exact BK549.out) hg (Kd.R_ne HO_550001.out BK549.out (by decide))); replace BK551 := ka (blk_grown (g := gb551) (o := .cells #[.int .i64 ((rd_T52 l0_2 x6_1).f0), .string ((rd_T52 l0_2 x6_1).f1), .bool ((rd_T52 l0_2 x6_1).f2), .int .i64 ((rd_T52 l0_2 x6_1).f3)] 52 (0, 0)) (zK BK551.out) hg (Kd.R_ne HO_550001.out BK551.out (by decide))); replace HB := ka (hb); have HO555 := ka (ho); clear HO_550001; clear ho hb hg hat; obtain ⟨Ao38, co38, eo38⟩ := Kd.R_slice HO555.out; subst eo38; obtain ⟨z39_0, z39_1, z39_2, y39_0, y39_1, y39_2⟩ := zC3 BK549.out))
     go_roundg k1
     case measure => have := HK1.out; omega
     case rel => exact ⟨(wrap64 (x6_1 + 1)), (wrap64 (x550000_1 + 1)), (y553), (x550002_1), (.slice Ao38 y553.length co38), (.slice Ao33 x550002_1.length co33), zS, H', ⟨by have := HK1.out; omega⟩, ⟨by (with_reducible repeat (first | apply Kd.R_alloc | apply Kd.R_drewN | apply Kd.R_drew)); exact Kd.R_mono (zNT HO555.out BK549.out) (fun _ hk => trivial)⟩, ⟨by (with_reducible repeat (first | apply Kd.R_alloc | apply Kd.R_drewN | apply Kd.R_drew)); exact Kd.R_mono (zNT HO_550002.out BK549.out) (fun _ hk => trivial)⟩, ⟨zK BK541.out⟩, ⟨zK BK542.out⟩, ⟨by (with_reducible repeat (first | refine blk_drewN ?_ _ | refine blk_drew ?_ | refine blk_alloc ?_ _)); refine blk_put (cs := #[.int .i64 (wrap64 (x550000_1 + 1)), .slice Ao32 x550001_1.length co32, .slice Ao33 x550002_1.length co33]) ?_ 1 _ rfl; (with_reducible repeat (first | refine blk_drewN ?_ _ | refine blk_drew ?_ | refine blk_alloc ?_ _)); exact BK549.out⟩, ⟨zL HB.out⟩⟩
    replace c20 := Bool.eq_false_iff.mpr c20
    subst c20
    rw [if_neg (show ¬ (false = true) by decide)] at H
    replace H := zif H
    obtain ⟨c40, H⟩ := H
    have LMc40 := ka c40
    clear c40
    obtain ⟨y556, hy556⟩ : ∃ y_ : List (S52), y_ = (x550002_1 ++ [(⟨(rd_T52 l0_2 x6_1).f0, (rd_T52 l0_2 x6_1).f1, (rd_T52 l0_2 x6_1).f2, (rd_T52 l0_2 x6_1).f3⟩ : S52)]) := ⟨_, rfl⟩
    replace H : (cooperageref16_settle.l0 k1 a1 (wrap64 (x6_1 + 1)) a0_0 l0_1 l0_2 x550000_1 x550001_1 y556) = some (r1, r2, r3) := zH hy556 H
    have Ny556 := ka hy556
    clear hy556
    have H' := ka H
    clear H
    have hnb41 := NB541_542.out
    have hnc41 := NB542_541.out
    have hnb42 := NB541_549.out
    have hnc42 := NB549_541.out
    obtain ⟨z43_0, z43_1, z43_2, y43_0, y43_1, y43_2⟩ := zC3 BK541.out
    have p550 : 0 ≤ (x6_1 : Int) := zD
    have q550 : x6_1 < (l0_2.length : Int) := zD
    obtain ⟨ad550, e550, hx550_0, hx550_1, hx550_2, hx550_3⟩ := at_T52 HR0_2.out x6_1 p550 q550
    cases e550
    replace hx550_0 := zX HB.out hx550_0
    replace hx550_1 := zX HB.out hx550_1
    replace hx550_2 := zX HB.out hx550_2
    replace hx550_3 := zX HB.out hx550_3
    replace p550 := eq_true p550
    replace q550 := eq_true q550
    go_wp2_with (first | ((with_reducible refine gate_dst (N := 7) rfl ?_); refine box_event ?hg (N := 7) ?hd (cs := #[.int .i64 0, .string ⟨#[]⟩, .bool false, .int .i64 0]) (t := 52) ?hr ?_; (case hd => rfl); (case hg => rfl); (case hr => (go_simp; try rfl)); intro gb551 hg w44 hbox hb; replace HO_550001 := ka (Kd.R_below (zR HO_550001.out) hb); replace HO_550002 := ka (Kd.R_below (Kd.R_elderB (zR HO_550002.out) gb551 (Nat.le_of_eq hg.symm)) hb); have BK551 := ka (hbox); have GW551 := ka (zG hg (zL HB.out)); replace HB := ka (below_step (zL HB.out) hb); have NB541_551 := ka (zNK hg BK541.out); have NB551_541 := ka (zOK hg BK541.out); replace BK541 := ka (zB BK541.out hb); have NB542_551 := ka (zNK hg BK542.out); have NB551_542 := ka (zOK hg BK542.out); replace BK542 := ka (zB BK542.out hb); have NB549_551 := ka (zNK hg BK549.out); have NB551_549 := ka (zOK hg BK549.out); replace BK549 := ka (zB BK549.out hb); clear hb hbox hg; have hnb45 := NB551_541.out; have hnc45 := NB541_551.out; have hnb46 := NB551_542.out; have hnc46 := NB542_551.out; have hnb47 := NB551_549.out; have hnc47 := NB549_551.out; obtain ⟨z48_0, z48_1, z48_2, z48_3, y48_0, y48_1, y48_2, y48_3⟩ := zC4 BK551.out; have hnb49 := NB549_542.out; have hnc49 := NB542_549.out; obtain ⟨z50_0, z50_1, z50_2, y50_0, y50_1, y50_2⟩ := zC3 BK549.out; obtain ⟨Ao51, co51, eo51⟩ := Kd.R_slice HO_550001.out; subst eo51; obtain ⟨Ao52, co52, eo52⟩ := Kd.R_slice HO_550002.out; subst eo52) | ((with_reducible refine gate_callee (f := 50) rfl ?_); refine goesL_ (some 32) rfl rfl Tryd.func50 (by kernel_rfl) rfl #[.slice Ao51 x550001_1.length co51, .slice Ao52 x550002_1.length co52, .agg #[.int .i64 ((rd_T52 l0_2 x6_1).f0), .string ((rd_T52 l0_2 x6_1).f1), .bool ((rd_T52 l0_2 x6_1).f2), .int .i64 ((rd_T52 l0_2 x6_1).f3)]] rfl zA ?_; (with_reducible refine (cooperageref16_free.calls k1 _ _ x550001_1 _ _ x550002_1 ((rd_T52 l0_2 x6_1).f0) ((rd_T52 l0_2 x6_1).f1) ((rd_T52 l0_2 x6_1).f2) ((rd_T52 l0_2 x6_1).f3) false _ ?side1 ?side2 ?side3 ?side4 A19.out).mono ?_); (case side1 => refine (Kd.R_reads' (e := 45) (base := w.heap.size) (ok := fun k_ => True) (n := x550001_1.length) (c := co51) ?_).2.2; exact (zT HO_550001.out BK551.out)); (case side2 => exact (Kd.R_reads' HO_550001.out).2.1); (case side3 => refine (Kd.R_reads' (e := 52) (base := w.heap.size) (ok := fun k_ => (True ∧ k_ ≠ gb551)) (n := x550002_1.length) (c := co52) ?_).2.2; exact (zM HO_550002.out (g := gb551) (fun _ hk => hk.2))); (case side4 => exact (Kd.R_reads' HO_550002.out).2.1); rintro e w53 ⟨rfl, hb⟩; refine ⟨_, rfl, ?_⟩; replace HO_550001 := ka (Kd.R_below (zT HO_550001.out BK551.out) hb); replace HO_550002 := ka (Kd.R_below (zM HO_550002.out (g := gb551) (fun _ hk => hk.2)) hb); replace BK541 := ka (zB BK541.out hb); replace BK542 := ka (zB BK542.out hb); replace BK549 := ka (zB BK549.out hb); replace BK551 := ka (blk_below (g := gb551) (o := .cells #[.int .i64 ((rd_T52 l0_2 x6_1).f0), .string ((rd_T52 l0_2 x6_1).f1), .bool ((rd_T52 l0_2 x6_1).f2), .int .i64 ((rd_T52 l0_2 x6_1).f3)] 52 (0, 0)) (zP4 BK551.out) hb); replace HB := ka (below_step (zL HB.out) hb); (try clear hb); (try clear hb2); (try clear hk); (try clear hi); obtain ⟨z54_0, z54_1, z54_2, y54_0, y54_1, y54_2⟩ := zC3 BK549.out; obtain ⟨z55_0, z55_1, z55_2, z55_3, y55_0, y55_1, y55_2, y55_3⟩ := zC4 BK551.out) | ((with_reducible refine gate_builtin (b := .append) (xs := #[.tmp 56, .tmp 58]) rfl ?_); at_builtin; refine Kd.R_append k52 (w0 := w) w.heap.size rfl (.tmp 56) (.tmp 58) 30 52 (.agg #[(.int .i64 0), (.string ⟨#[]⟩), (.bool false), (.int .i64 0)]) 40 rfl Tryd.underlying30 info52 rfl (by decide) (by omega) (.slice Ao52 x550002_1.length co52) x550002_1 (⟨(rd_T52 l0_2 x6_1).f0, (rd_T52 l0_2 x6_1).f1, (rd_T52 l0_2 x6_1).f2, (rd_T52 l0_2 x6_1).f3⟩ : S52) [.int .i64 ((rd_T52 l0_2 x6_1).f0), .string ((rd_T52 l0_2 x6_1).f1), .bool ((rd_T52 l0_2 x6_1).f2), .int .i64 ((rd_T52 l0_2 x6_1).f3)] (fun k_ => k_ ≠ gb551) (fun _ => False) rfl rfl ?aP (fun _ hk => hk.elim) ?aF ?aO ?aB ?aS ?aL ?_; (case aP => exact k52_mkM _ _ _ (⟨(rd_T52 l0_2 x6_1).f0, (rd_T52 l0_2 x6_1).f1, (rd_T52 l0_2 x6_1).f2, (rd_T52 l0_2 x6_1).f3⟩ : S52)); (case aB => exact (zL HB.out)); (case aF => exact (fun k_ hk => Kd.freshB (g := gb551) (o := .cells #[.int .i64 ((rd_T52 l0_2 x6_1).f0), .string ((rd_T52 l0_2 x6_1).f1), .bool ((rd_T52 l0_2 x6_1).f2), .int .i64 ((rd_T52 l0_2 x6_1).f3)] 52 (0, 0)) (zK BK551.out) k_ hk)); (case aO => exact (by (with_reducible repeat (first | apply Kd.R_alloc | apply Kd.R_drewN | apply Kd.R_drew)); exact Kd.R_mono HO_550002.out (fun _ hk => hk.2))); (case aS => exact (below_size (zL HB.out))); (case aL => have := LMc40.out; omega); intro v557 w56 ho hb hg hat; rw [← Ny556.out] at ho; replace HO_550001 := ka (Kd.R_over' (zR HO_550001.out) (Kd.R_typed (zR HO_550002.out)) (by decide) hg); replace BK541 := ka (blk_grown (g := gb541) (o := .cells #[.int .i64 a0_0, .slice A0_1 l0_1.length c0_1, .slice (some ad550) l0_2.length c0_2] 32 (0, 0)) (zK BK541.out) hg (Kd.R_ne HO_550002.out BK541.out (by decide))); replace BK542 := ka (blk_grown (g := gb542) (o := .cells #[.int .i64 0, .slice none 0 0, .slice none 0 0] 32 (0, 0)) (zK BK542.out) hg (Kd.R_ne HO_550002.out BK542.out (by decide))); replace BK549 := ka (blk_grown (g := gb549) (o := .cells #[.int .i64 x550000_1, .slice Ao51 x550001_1.length co51, .slice Ao52 x550002_1.length co52] 32 (0, 0)) (zK BK549.out) hg (Kd.R_ne HO_550002.out BK549.out (by decide))); replace BK551 := ka (blk_grown (g := gb551) (o := .cells #[.int .i64 ((rd_T52 l0_2 x6_1).f0), .string ((rd_T52 l0_2 x6_1).f1), .bool ((rd_T52 l0_2 x6_1).f2), .int .i64 ((rd_T52 l0_2 x6_1).f3)] 52 (0, 0)) (zK BK551.out) hg (Kd.R_away HO_550002.out (fun _ hk => hk.2))); replace HB := ka (hb); have HO558 := ka (ho); clear HO_550002; clear ho hb hg hat; obtain ⟨Ao57, co57, eo57⟩ := Kd.R_slice HO558.out; subst eo57; obtain ⟨z58_0, z58_1, z58_2, y58_0, y58_1, y58_2⟩ := zC3 BK549.out))
    go_roundg k1
    case measure => have := HK1.out; omega
    case rel => exact ⟨(wrap64 (x6_1 + 1)), (x550000_1), (x550001_1), (y556), (.slice Ao51 x550001_1.length co51), (.slice Ao57 y556.length co57), zS, H', ⟨by have := HK1.out; omega⟩, ⟨by (with_reducible repeat (first | apply Kd.R_alloc | apply Kd.R_drewN | apply Kd.R_drew)); exact Kd.R_mono (zNT HO_550001.out BK549.out) (fun _ hk => trivial)⟩, ⟨by (with_reducible repeat (first | apply Kd.R_alloc | apply Kd.R_drewN | apply Kd.R_drew)); exact Kd.R_mono (zNT HO558.out BK549.out) (fun _ hk => trivial)⟩, ⟨zK BK541.out⟩, ⟨zK BK542.out⟩, ⟨by (with_reducible repeat (first | refine blk_drewN ?_ _ | refine blk_drew ?_ | refine blk_alloc ?_ _)); refine blk_put (cs := #[.int .i64 x550000_1, .slice Ao51 x550001_1.length co51, .slice Ao52 x550002_1.length co52]) ?_ 2 _ rfl; (with_reducible repeat (first | refine blk_drewN ?_ _ | refine blk_drew ?_ | refine blk_alloc ?_ _)); exact BK549.out⟩, ⟨zL HB.out⟩⟩
   rw [if_neg c17] at H
   have c17b0 := zdf c17
   clear c17
   replace H := zs3 H
   obtain ⟨rfl, rfl, rfl⟩ := H
   have hnb59 := NB541_542.out
   have hnc59 := NB542_541.out
   have hnb60 := NB541_549.out
   have hnc60 := NB549_541.out
   obtain ⟨z61_0, z61_1, z61_2, y61_0, y61_1, y61_2⟩ := zC3 BK541.out
   have hnb62 := NB549_542.out
   have hnc62 := NB542_549.out
   obtain ⟨z63_0, z63_1, z63_2, y63_0, y63_1, y63_2⟩ := zC3 BK549.out
   obtain ⟨z64_0, z64_1, z64_2, y64_0, y64_1, y64_2⟩ := zC3 BK542.out
   obtain ⟨Ao65, co65, eo65⟩ := Kd.R_slice HO_550001.out
   subst eo65
   obtain ⟨Ao66, co66, eo66⟩ := Kd.R_slice HO_550002.out
   subst eo66
   go_wp2
   refine bodyPost_ret (results_cell_row rfl _ _ gb542 32 #[.int .i64 x550000_1, .slice Ao65 x550001_1.length co65, .slice Ao66 x550002_1.length co66] (0, 0) _ rfl (zP3 BK542.out) Tryd.underlying32 rfl (by kernel_rfl)) rfl ?_
   exact ⟨_, _, zE, by (with_reducible repeat (first | apply Kd.R_alloc | apply Kd.R_drewN | apply Kd.R_drew)); exact Kd.R_mono (zNT HO_550001.out BK542.out) (fun _ hk => trivial), by (with_reducible repeat (first | apply Kd.R_alloc | apply Kd.R_drewN | apply Kd.R_drew)); exact Kd.R_mono (zNT HO_550002.out BK542.out) (fun _ hk => trivial), zL HB.out⟩

end Go.Proofs.YtjdadmjomjhpcaaDoor.PLease
