-- Written by a program of this session (wip/tools/ext.py, over the kit's printer); not trusted: Lean checks it.
import Derived.Test.YtgcghjkaomgloaaDoorPLeasex0
import Derived.Test.YtgcghjkaomgloaaDoorPLeasex2
import Derived.Test.YtgcghjkaomgloaaDoorPLeasex3
namespace Go.Proofs.YtgcghjkaomgloaaDoor.PLease
open Go.RowKit Go.Proofs.YtgcghjkaomgloaaDoorW.PrintWords Go.Proofs.YtgcghjkaomgloaaDoorW.PrintLast Go.Proofs.YtgcghjkaomgloaaDoorW.PrintMore
attribute [local go_sem] max2_int min2_int max_two min_two max_three min_three max_four min_four   -- for this text's walks alone
set_option linter.unusedVariables false
set_option linter.unusedSimpArgs false

/-! ### lease_Table_settle: function 30 -/
def lease_Table_settle.l0 : Nat → Int → List (S32) → Int → Int → Int → List (S34) → List (S32) → Option (Int × (List (S34)) × (List (S32)))
 | 0, _, _, _, _, _, _, _ => none
 | k + 1, x1, x15, x16, x17, x257000, x257001, x257002 => if x17 < x16 then (if 0 ≤ x17 then (if x17 < (x15.length : Int) then ((lease_Table_blocked.f k x257000 x257001 x257002 ((rd_T32 x15 x17).f0) ((rd_T32 x15 x17).f1) ((rd_T32 x15 x17).f2) ((rd_T32 x15 x17).f3)).bind fun t259 => (if t259 = true then (if x257002.length < 3518437208883 then (lease_Table_settle.l0 k x1 x15 x16 (wrap64 (x17 + 1)) x257000 x257001 (x257002 ++ [(⟨(rd_T32 x15 x17).f0, (rd_T32 x15 x17).f1, (rd_T32 x15 x17).f2, (rd_T32 x15 x17).f3⟩ : S32)])) else (none)) else (if (x257001.length : Int) ≥ 200 then (if x257002.length < 3518437208883 then (lease_Table_settle.l0 k x1 x15 x16 (wrap64 (x17 + 1)) x257000 x257001 (x257002 ++ [(⟨(rd_T32 x15 x17).f0, (rd_T32 x15 x17).f1, (rd_T32 x15 x17).f2, (rd_T32 x15 x17).f3⟩ : S32)])) else (none)) else (if x257001.length < 2932031007402 then (lease_Table_settle.l0 k x1 x15 x16 (wrap64 (x17 + 1)) (wrap64 (x257000 + 1)) (x257001 ++ [(⟨(rd_T32 x15 x17).f0, (rd_T32 x15 x17).f1, (rd_T32 x15 x17).f2, wrap64 (x257000 + 1), wrap64 (x1 + ((rd_T32 x15 x17).f3))⟩ : S34)]) x257002) else (none))))) else (none)) else (none)) else (some (x257000, x257001, x257002))
def lease_Table_settle.f (k : Nat) (a0_0 : Int) (l0_1 : List (S34)) (l0_2 : List (S32)) (a1 : Int) : Option (Int × (List (S34)) × (List (S32))) := (lease_Lease_46.f l0_1).bind fun t253 => (lease_Table_settle.l0 k a1 l0_2 (l0_2.length : Int) 0 a0_0 t253 ([] : List (S32)))
theorem lease_Table_settle.mono_l : ∀ k, (∀ y0 y1 y2 y3 y4 y5 y6, LeO (lease_Table_settle.l0 k y0 y1 y2 y3 y4 y5 y6) (lease_Table_settle.l0 (k + 1) y0 y1 y2 y3 y4 y5 y6))
 | 0 => fun _ _ _ _ _ _ _ r h => by simp [lease_Table_settle.l0] at h
 | k + 1 => by
  have ih0 := lease_Table_settle.mono_l k
  ·intro y0 y1 y2 y3 y4 y5 y6
   unfold lease_Table_settle.l0
   repeat' first
   | (with_reducible exact ih0 _ _ _ _ _ _ _)
   | (with_reducible exact lease_Table_blocked.mono _ _ _ _ _ _ _ _)
   | (with_reducible exact LeO.refl _)
   | (with_reducible exact LeO.none _)
   | (with_reducible refine LeO.ite ?_ ?_)
   | (with_reducible refine LeO.bind ?_ (fun _ => ?_))
   | exact ih0 _ _ _ _ _ _ _
   | exact lease_Table_blocked.mono _ _ _ _ _ _ _ _
   | exact LeO.none _
   | refine LeO.ite ?_ ?_
   | refine LeO.bind ?_ (fun _ => ?_)
theorem lease_Table_settle.mono : ∀ a0 a1 a2 a3 k, LeO (lease_Table_settle.f k a0 a1 a2 a3) (lease_Table_settle.f (k + 1) a0 a1 a2 a3) := by
 intro a0 a1 a2 a3 k
 have ih0 := lease_Table_settle.mono_l k
 unfold lease_Table_settle.f
 repeat' first
   | (with_reducible exact ih0 _ _ _ _ _ _ _)
   | (with_reducible exact lease_Table_blocked.mono _ _ _ _ _ _ _ _)
   | (with_reducible exact LeO.refl _)
   | (with_reducible exact LeO.none _)
   | (with_reducible refine LeO.ite ?_ ?_)
   | (with_reducible refine LeO.bind ?_ (fun _ => ?_))
   | exact ih0 _ _ _ _ _ _ _
   | exact lease_Table_blocked.mono _ _ _ _ _ _ _ _
   | exact LeO.none _
   | refine LeO.ite ?_ ?_
   | refine LeO.bind ?_ (fun _ => ?_)
def lease_Table_settle.T1 : Bool × List (List Nat × List Nat) := (true, [([], []), ([0], [0]), ([], []), ([2], [2]), ([3], [3]), ([1, 4], [1, 4]), ([], []), ([6, 5, 4, 0, 1, 2, 3, 4, 5, 6], [5, 6])])
def lease_Table_settle.B1 : List Nat := [0, 1, 0, 4, 12, 31, 0, 127]
theorem lease_Table_settle.tab1 : rtab .any (opsOf Tryd.f30 1) = lease_Table_settle.T1 := by kernel_rfl
theorem lease_Table_settle.bits1 : waitsOk lease_Table_settle.T1.2 lease_Table_settle.B1 = true := by kernel_rfl
set_option maxHeartbeats 8000000 in
set_option maxRecDepth 100000 in
theorem lease_Table_settle.calls (k : Nat) (a0_0 : Int) (A0_1 : Option Addr) (c0_1 : Nat) (l0_1 : List (S34)) (A0_2 : Option Addr) (c0_2 : Nat) (l0_2 : List (S32)) (a1 : Int) (r1 : Int) (r2 : List (S34)) (r3 : List (S32)) (w : World) (hr0_1 : Kd.C k34 w A0_1 l0_1.length l0_1) (hc0_1 : l0_1.length ≤ c0_1) (hr0_2 : Kd.C k32 w A0_2 l0_2.length l0_2) (hc0_2 : l0_2.length ≤ c0_2) (h : lease_Table_settle.f k a0_0 l0_1 l0_2 a1 = some (r1, r2, r3)) :
  Calls Tryd.prog 30 #[.agg #[.int .i64 a0_0, .slice A0_1 l0_1.length c0_1, .slice A0_2 l0_2.length c0_2], .int .i64 a1] w fun e w' => ∃ v1_ v2_ : Value, e = .returned (.agg #[.int .i64 r1, v1_, v2_]) ∧ Kd.R k34 34 w' w.heap.size (fun _ => True) v1_ r2 ∧ Kd.R k32 32 w' w.heap.size (fun _ => True) v2_ r3 ∧ Below w.heap.size w w' := by
 have hu27 := Tryd.underlying27
 have hu32 := Tryd.underlying32
 have hu34 := Tryd.underlying34
 have HR0_1 := Aside0.mk hr0_1
 have HC0_1 := Aside0.mk hc0_1
 clear hr0_1 hc0_1
 have HR0_2 := Aside0.mk hr0_2
 have HC0_2 := Aside0.mk hc0_2
 clear hr0_2 hc0_2
 have HB := Aside0.mk (Below.refl w.heap.size w)
 have H : ((lease_Lease_46.f l0_1).bind fun t253 => (lease_Table_settle.l0 k a1 l0_2 (l0_2.length : Int) 0 a0_0 t253 ([] : List (S32)))) = some (r1, r2, r3) := h
 clear h
 replace H := Option.bind_eq_some_iff.mp H
 obtain ⟨t253, A30, H⟩ := H
 replace H : (lease_Table_settle.l0 k a1 l0_2 (l0_2.length : Int) 0 a0_0 t253 ([] : List (S32))) = some (r1, r2, r3) := H
 have A3 := Aside0.mk A30
 clear A30
 have H' := Aside0.mk H
 clear H
 go_enter Tryd.func30, Tryd.ntmps30
 try go_wp2_with (first | ((with_reducible refine gate_dst (N := 2) rfl ?_); (try (refine gate_guard (by rfl) ?_; dsimp only)); refine box_event ?hg (N := 2) ?hd (cs := #[.int .i64 a0_0, .slice A0_1 l0_1.length c0_1, .slice A0_2 l0_2.length c0_2]) (t := 27) ?hr ?_; (case hd => rfl); (case hg => rfl); (case hr => first | (go_simp; done) | (go_simp; rfl)); intro gb251 hg w4 hbox hb; have n0_ := Aside0.mk (below_step (zL HB.out) hb); have n1_ := Aside0.mk (hbox); have n2_ := Aside0.mk (zG hg (zL HB.out)); have n3_ := Aside0.mk (zG hg (zL HB.out)); revert n0_ n1_ n2_ n3_; clear HB; intro HB BK251 GW251 GE251; clear hb hbox hg) | ((with_reducible refine gate_dst (N := 4) rfl ?_); (try (refine gate_guard (by rfl) ?_; dsimp only)); refine box_event ?hg (N := 4) ?hd (cs := #[.int .i64 0, .slice none 0 0, .slice none 0 0]) (t := 27) ?hr ?_; (case hd => rfl); (case hg => rfl); (case hr => first | (go_simp; done) | (go_simp; rfl)); intro gb252 hg w5 hbox hb; have n0_ := Aside0.mk (blk_below (g := gb251) (o := .cells #[.int .i64 a0_0, .slice A0_1 l0_1.length c0_1, .slice A0_2 l0_2.length c0_2] 27 (0, 0)) (zK BK251.out) hb); have n1_ := Aside0.mk (below_step (zL HB.out) hb); have n2_ := Aside0.mk (hbox); have n3_ := Aside0.mk (zG hg (zL HB.out)); have n4_ := Aside0.mk (zG hg (zL HB.out)); have n5_ := Aside0.mk (zN (g := gb251) (o := .cells #[.int .i64 a0_0, .slice A0_1 l0_1.length c0_1, .slice A0_2 l0_2.length c0_2] 27 (0, 0)) hg (zK BK251.out)); have n6_ := Aside0.mk (zO (g := gb251) (o := .cells #[.int .i64 a0_0, .slice A0_1 l0_1.length c0_1, .slice A0_2 l0_2.length c0_2] 27 (0, 0)) hg (zK BK251.out)); revert n0_ n1_ n2_ n3_ n4_ n5_ n6_; clear BK251 HB; intro BK251 HB BK252 GW252 GE252 NB251_252 NB252_251; clear hb hbox hg))
 have n0_ := Aside0.mk (blk_drew BK251.out)
 have n1_ := Aside0.mk (blk_drew BK252.out)
 have n2_ := Aside0.mk (below_drew1 HB.out)
 clear BK251
 clear BK252
 clear HB
 have BK251 := n0_
 have BK252 := n1_
 have HB := n2_
 clear n0_ n1_ n2_
 refine start_ (n := 8) (S := fun w' => w'.cell? ⟨gb251, 0, none⟩ = some (.int .i64 a0_0) ∧ w'.cell? ⟨gb251, 1, none⟩ = some (.slice A0_1 l0_1.length c0_1) ∧ w'.cell? ⟨gb251, 2, none⟩ = some (.slice A0_2 l0_2.length c0_2)) (ds := []) #[false, false, false, false, false, false, false, false] (by kernel_rfl) rfl rfl ⟨(blk_cell BK251.out 0).trans rfl, (blk_cell BK251.out 1).trans rfl, (blk_cell BK251.out 2).trans rfl⟩ (fun hHeld => ?_); refine with_tabW lease_Table_settle.tab1 lease_Table_settle.bits1 (fun HT_ HW_ => ?_)
 generalize w5.drew = w6 at BK251 BK252 HB hHeld ⊢
 refine pure_ (i := 0) (N := some 8) (v := ?_) (a' := ?_) #[true, false, false, false, false, false, false, false] rfl rfl (any_of HT_.out (by kernel_rfl)) (fun _ _ _ h => h) (Or.inl ⟨by rfl, ?_⟩) ?_ ?_
 rotate_left
 ·intro w'
  go_simp
  with_reducible rfl
 rotate_left
 ·simp only [Act.put, List.setIfInBounds_toArray, List.set_cons_zero, List.set_cons_succ, i64_w, i32_w]
  rfl
 refine pure_ (i := 2) (N := some 10) (v := ?_) (a' := ?_) #[true, false, true, false, false, false, false, false] rfl rfl (any_of HT_.out (by kernel_rfl)) (fun _ _ _ h => h) (Or.inl ⟨by rfl, ?_⟩) ?_ ?_
 rotate_left
 ·intro w'
  go_simp
  with_reducible rfl
 rotate_left
 ·simp only [Act.put, List.setIfInBounds_toArray, List.set_cons_zero, List.set_cons_succ, i64_w, i32_w]
  rfl
 refine take_ (i := 1) (N := some 9) (v := ?_) (a' := ?_) #[true, true, true, false, false, false, false, false] rfl rfl (take_ofW HT_.out HW_.out (by kernel_rfl)) (fun _ _ _ h => h) (Or.inl ⟨by rfl, ?_⟩) hHeld ?_ ?_
 rotate_left
 ·rintro w' ⟨s0, s1, s2⟩
  go_simp
  with_reducible rfl
 rotate_left
 ·simp only [Act.put, List.setIfInBounds_toArray, List.set_cons_zero, List.set_cons_succ, i64_w, i32_w]
  rfl
 refine take_ (i := 3) (N := some 11) (v := ?_) (a' := ?_) #[true, true, true, true, false, false, false, false] rfl rfl (take_ofW HT_.out HW_.out (by kernel_rfl)) (fun _ _ _ h => h) (Or.inl ⟨by rfl, ?_⟩) hHeld ?_ ?_
 rotate_left
 ·rintro w' ⟨s0, s1, s2⟩
  go_simp
  with_reducible rfl
 rotate_left
 ·simp only [Act.put, List.setIfInBounds_toArray, List.set_cons_zero, List.set_cons_succ, i64_w, i32_w]
  rfl
 refine join_ (σ := Value × Nat) 1 #[true, true, true, true, true, true, true, false] (fun s_ => [(12, s_.1), (5, .pointer (some ⟨s_.2, 0, none⟩)), (13, .agg #[.int .i64 a0_0, s_.1, .slice none 0 0])]) (fun s_ w' => (w'.cell? ⟨gb251, 0, none⟩ = some (.int .i64 a0_0) ∧ w'.cell? ⟨gb251, 1, none⟩ = some (.slice A0_1 l0_1.length c0_1) ∧ w'.cell? ⟨gb251, 2, none⟩ = some (.slice A0_2 l0_2.length c0_2)) ∧ (Kd.R k34 34 w' w.heap.size (fun _ => True) s_.1 t253) ∧ (w'.heap[gb251]? = some (.cells #[.int .i64 a0_0, .slice A0_1 l0_1.length c0_1, .slice A0_2 l0_2.length c0_2] 27 (0, 0))) ∧ (w'.heap[gb252]? = some (.cells #[.int .i64 0, .slice none 0 0, .slice none 0 0] 27 (0, 0))) ∧ (w'.heap[s_.2]? = some (.cells #[.int .i64 0, .slice none 0 0, .slice none 0 0] 27 (0, 0))) ∧ (w.heap.size ≤ s_.2) ∧ (w.heap.size ≤ s_.2) ∧ (gb251 ≠ s_.2) ∧ (s_.2 ≠ gb251) ∧ (gb252 ≠ s_.2) ∧ (s_.2 ≠ gb252) ∧ (Below w.heap.size w w')) ?_ ?_
 rotate_left
 ·intro hCont
  refine two_ (i := 4) (j := 6) (Ni := some 12) (Nj := some 5) #[true, true, true, true, true, false, false, false] #[true, true, true, true, false, false, true, false] rfl rfl rfl rfl (two_of HT_.out (by kernel_rfl)) (by decide) (by decide) (fun K hK => ?_) (fun K hK => ?_)
  ·skip
   refine goes_ Tryd.func46 (by kernel_rfl) rfl #[.slice A0_1 l0_1.length c0_1] (by rfl) rfl rfl zA ?_
   with_reducible refine (lease_Lease_46.calls _ _ l0_1 t253 _ ?side1 ?side2 A3.out).mono ?_
   (case side1 => repeat (first | exact (Kd.C_below HR0_1.out HB.out) | (with_reducible refine Kd.C_alloc ?_ _) | (with_reducible refine Kd.C_drewN ?_ _) | (with_reducible refine Kd.C_drew ?_)))
   (case side2 => exact HC0_1.out)
   rintro e w7 ⟨v254, rfl, ho0, hb⟩
   refine ⟨_, rfl, ?_⟩
   have n0_ := Aside0.mk (Kd.R_lower ho0 (below_size (zL HB.out)))
   have n1_ := Aside0.mk (blk_below (g := gb251) (o := .cells #[.int .i64 a0_0, .slice A0_1 l0_1.length c0_1, .slice A0_2 l0_2.length c0_2] 27 (0, 0)) (zK BK251.out) hb)
   have n2_ := Aside0.mk (blk_below (g := gb252) (o := .cells #[.int .i64 0, .slice none 0 0, .slice none 0 0] 27 (0, 0)) (zK BK252.out) hb)
   have n3_ := Aside0.mk (below_step (zL HB.out) hb)
   clear BK251
   clear BK252
   clear HB
   have HO255 := n0_
   have BK251 := n1_
   have BK252 := n2_
   have HB := n3_
   clear n0_ n1_ n2_ n3_
   (try clear hb)
   (try clear hb2)
   (try clear hk)
   (try clear hi)
   (try clear ho0)
   obtain ⟨Ao8, co8, eo8⟩ := Kd.R_slice HO255.out
   (first | subst eo8 | (injection eo8 with f1_ f2_ f3_; have f4_ := f1_.symm; have f5_ := f3_.symm; clear f1_ f2_ f3_; subst f4_; subst f5_))
   refine hK.out _ _ ⟨(blk_cell BK251.out 0).trans rfl, (blk_cell BK251.out 1).trans rfl, (blk_cell BK251.out 2).trans rfl⟩ (fun hHeld => ?_)
   clear hK K
   refine norm_ (a' := ?_) ?_ ?_
   rotate_left
   ·show Act.put _ (some 12) _ = _
    simp only [Act.put, List.setIfInBounds_toArray, List.set_cons_zero, List.set_cons_succ, i64_w, i32_w]
    rfl
   refine pure_ (i := 5) (N := some 13) (v := ?_) (a' := ?_) #[true, true, true, true, true, true, false, false] rfl rfl (any_of HT_.out (by kernel_rfl)) (fun _ _ _ h => h) (Or.inl ⟨by rfl, ?_⟩) ?_ ?_
   rotate_left
   ·intro w'
    go_simp
    with_reducible rfl
   rotate_left
   ·simp only [Act.put, List.setIfInBounds_toArray, List.set_cons_zero, List.set_cons_succ, i64_w, i32_w]
    rfl
   refine one_ (i := 6) (N := some 5) #[true, true, true, true, true, true, true, false] rfl rfl (one_of HT_.out (by kernel_rfl)) (by decide) (fun K hK => ?_)
   refine box_step ?hg (N := 5) ?hd (cs := #[.int .i64 0, .slice none 0 0, .slice none 0 0]) (t := 27) ?hr ?_; (case hd => rfl); (case hg => rfl); (case hr => first | (go_simp; done) | (go_simp; rfl))
   intro gb256 hg w9 hbox hb
   have n0_ := Aside0.mk (Kd.R_below (zR HO255.out) hb)
   have n1_ := Aside0.mk (blk_below (g := gb251) (o := .cells #[.int .i64 a0_0, .slice A0_1 l0_1.length c0_1, .slice A0_2 l0_2.length c0_2] 27 (0, 0)) (zK BK251.out) hb)
   have n2_ := Aside0.mk (blk_below (g := gb252) (o := .cells #[.int .i64 0, .slice none 0 0, .slice none 0 0] 27 (0, 0)) (zK BK252.out) hb)
   have n3_ := Aside0.mk (below_step (zL HB.out) hb)
   have n4_ := Aside0.mk (hbox)
   have n5_ := Aside0.mk (zG hg (zL HB.out))
   have n6_ := Aside0.mk (zG hg (zL HB.out))
   have n7_ := Aside0.mk (zN (g := gb251) (o := .cells #[.int .i64 a0_0, .slice A0_1 l0_1.length c0_1, .slice A0_2 l0_2.length c0_2] 27 (0, 0)) hg (zK BK251.out))
   have n8_ := Aside0.mk (zO (g := gb251) (o := .cells #[.int .i64 a0_0, .slice A0_1 l0_1.length c0_1, .slice A0_2 l0_2.length c0_2] 27 (0, 0)) hg (zK BK251.out))
   have n9_ := Aside0.mk (zN (g := gb252) (o := .cells #[.int .i64 0, .slice none 0 0, .slice none 0 0] 27 (0, 0)) hg (zK BK252.out))
   have n10_ := Aside0.mk (zO (g := gb252) (o := .cells #[.int .i64 0, .slice none 0 0, .slice none 0 0] 27 (0, 0)) hg (zK BK252.out))
   clear HO255
   clear BK251
   clear BK252
   clear HB
   have HO255 := n0_
   have BK251 := n1_
   have BK252 := n2_
   have HB := n3_
   have BK256 := n4_
   have GW256 := n5_
   have GE256 := n6_
   have NB251_256 := n7_
   have NB256_251 := n8_
   have NB252_256 := n9_
   have NB256_252 := n10_
   clear n0_ n1_ n2_ n3_ n4_ n5_ n6_ n7_ n8_ n9_ n10_
   clear hb hbox hg
   refine hK.out _ _ ⟨(blk_cell BK251.out 0).trans rfl, (blk_cell BK251.out 1).trans rfl, (blk_cell BK251.out 2).trans rfl⟩ (fun hHeld => ?_)
   clear hK K
   refine norm_ (a' := ?_) ?_ ?_
   rotate_left
   ·show Act.put _ (some 5) _ = _
    simp only [Act.put, List.setIfInBounds_toArray, List.set_cons_zero, List.set_cons_succ, i64_w, i32_w]
    rfl
   exact norm_ (by simp only [putAll, Act.put, List.setIfInBounds_toArray, List.set_cons_zero, List.set_cons_succ]) (hCont (.slice Ao8 t253.length co8, gb256) _ ⟨hHeld, (zR HO255.out), (zK BK251.out), (zK BK252.out), (zK BK256.out), GW256.out, GE256.out, NB251_256.out, NB256_251.out, NB252_256.out, NB256_252.out, (zL HB.out)⟩)
  ·skip
   refine box_step ?hg (N := 5) ?hd (cs := #[.int .i64 0, .slice none 0 0, .slice none 0 0]) (t := 27) ?hr ?_; (case hd => rfl); (case hg => rfl); (case hr => first | (go_simp; done) | (go_simp; rfl))
   intro gb256 hg w7 hbox hb
   have n0_ := Aside0.mk (blk_below (g := gb251) (o := .cells #[.int .i64 a0_0, .slice A0_1 l0_1.length c0_1, .slice A0_2 l0_2.length c0_2] 27 (0, 0)) (zK BK251.out) hb)
   have n1_ := Aside0.mk (blk_below (g := gb252) (o := .cells #[.int .i64 0, .slice none 0 0, .slice none 0 0] 27 (0, 0)) (zK BK252.out) hb)
   have n2_ := Aside0.mk (below_step (zL HB.out) hb)
   have n3_ := Aside0.mk (hbox)
   have n4_ := Aside0.mk (zG hg (zL HB.out))
   have n5_ := Aside0.mk (zG hg (zL HB.out))
   have n6_ := Aside0.mk (zN (g := gb251) (o := .cells #[.int .i64 a0_0, .slice A0_1 l0_1.length c0_1, .slice A0_2 l0_2.length c0_2] 27 (0, 0)) hg (zK BK251.out))
   have n7_ := Aside0.mk (zO (g := gb251) (o := .cells #[.int .i64 a0_0, .slice A0_1 l0_1.length c0_1, .slice A0_2 l0_2.length c0_2] 27 (0, 0)) hg (zK BK251.out))
   have n8_ := Aside0.mk (zN (g := gb252) (o := .cells #[.int .i64 0, .slice none 0 0, .slice none 0 0] 27 (0, 0)) hg (zK BK252.out))
   have n9_ := Aside0.mk (zO (g := gb252) (o := .cells #[.int .i64 0, .slice none 0 0, .slice none 0 0] 27 (0, 0)) hg (zK BK252.out))
   clear BK251
   clear BK252
   clear HB
   have BK251 := n0_
   have BK252 := n1_
   have HB := n2_
   have BK256 := n3_
   have GW256 := n4_
   have GE256 := n5_
   have NB251_256 := n6_
   have NB256_251 := n7_
   have NB252_256 := n8_
   have NB256_252 := n9_
   clear n0_ n1_ n2_ n3_ n4_ n5_ n6_ n7_ n8_ n9_
   clear hb hbox hg
   refine hK.out _ _ ⟨(blk_cell BK251.out 0).trans rfl, (blk_cell BK251.out 1).trans rfl, (blk_cell BK251.out 2).trans rfl⟩ (fun hHeld => ?_)
   clear hK K
   refine norm_ (a' := ?_) ?_ ?_
   rotate_left
   ·show Act.put _ (some 5) _ = _
    simp only [Act.put, List.setIfInBounds_toArray, List.set_cons_zero, List.set_cons_succ, i64_w, i32_w]
    rfl
   refine one_ (i := 4) (N := some 12) #[true, true, true, true, true, false, true, false] rfl rfl (one_of HT_.out (by kernel_rfl)) (by decide) (fun K hK => ?_)
   refine goes_ Tryd.func46 (by kernel_rfl) rfl #[.slice A0_1 l0_1.length c0_1] (by rfl) rfl rfl zA ?_
   with_reducible refine (lease_Lease_46.calls _ _ l0_1 t253 _ ?side1 ?side2 A3.out).mono ?_
   (case side1 => repeat (first | exact (Kd.C_below HR0_1.out HB.out) | (with_reducible refine Kd.C_alloc ?_ _) | (with_reducible refine Kd.C_drewN ?_ _) | (with_reducible refine Kd.C_drew ?_)))
   (case side2 => exact HC0_1.out)
   rintro e w8 ⟨v254, rfl, ho0, hb⟩
   refine ⟨_, rfl, ?_⟩
   have n0_ := Aside0.mk (Kd.R_lower ho0 (below_size (zL HB.out)))
   have n1_ := Aside0.mk (blk_below (g := gb251) (o := .cells #[.int .i64 a0_0, .slice A0_1 l0_1.length c0_1, .slice A0_2 l0_2.length c0_2] 27 (0, 0)) (zK BK251.out) hb)
   have n2_ := Aside0.mk (blk_below (g := gb252) (o := .cells #[.int .i64 0, .slice none 0 0, .slice none 0 0] 27 (0, 0)) (zK BK252.out) hb)
   have n3_ := Aside0.mk (blk_below (g := gb256) (o := .cells #[.int .i64 0, .slice none 0 0, .slice none 0 0] 27 (0, 0)) (zK BK256.out) hb)
   have n4_ := Aside0.mk (below_step (zL HB.out) hb)
   clear BK251
   clear BK252
   clear BK256
   clear HB
   have HO255 := n0_
   have BK251 := n1_
   have BK252 := n2_
   have BK256 := n3_
   have HB := n4_
   clear n0_ n1_ n2_ n3_ n4_
   (try clear hb)
   (try clear hb2)
   (try clear hk)
   (try clear hi)
   (try clear ho0)
   obtain ⟨Ao9, co9, eo9⟩ := Kd.R_slice HO255.out
   (first | subst eo9 | (injection eo9 with f1_ f2_ f3_; have f4_ := f1_.symm; have f5_ := f3_.symm; clear f1_ f2_ f3_; subst f4_; subst f5_))
   refine hK.out _ _ ⟨(blk_cell BK251.out 0).trans rfl, (blk_cell BK251.out 1).trans rfl, (blk_cell BK251.out 2).trans rfl⟩ (fun hHeld => ?_)
   clear hK K
   refine norm_ (a' := ?_) ?_ ?_
   rotate_left
   ·show Act.put _ (some 12) _ = _
    simp only [Act.put, List.setIfInBounds_toArray, List.set_cons_zero, List.set_cons_succ, i64_w, i32_w]
    rfl
   refine pure_ (i := 5) (N := some 13) (v := ?_) (a' := ?_) #[true, true, true, true, true, true, true, false] rfl rfl (any_of HT_.out (by kernel_rfl)) (fun _ _ _ h => h) (Or.inl ⟨by rfl, ?_⟩) ?_ ?_
   rotate_left
   ·intro w'
    go_simp
    with_reducible rfl
   rotate_left
   ·simp only [Act.put, List.setIfInBounds_toArray, List.set_cons_zero, List.set_cons_succ, i64_w, i32_w]
    rfl
   exact norm_ (by simp only [putAll, Act.put, List.setIfInBounds_toArray, List.set_cons_zero, List.set_cons_succ]) (hCont (.slice Ao9 t253.length co9, gb256) _ ⟨hHeld, (zR HO255.out), (zK BK251.out), (zK BK252.out), (zK BK256.out), GW256.out, GE256.out, NB251_256.out, NB256_251.out, NB252_256.out, NB256_252.out, (zL HB.out)⟩)
 rintro ⟨v254, gb256⟩ w10 ⟨hS_, h0_, h1_, h2_, h3_, h4_, h5_, h6_, h7_, h8_, h9_, h10_⟩
 have n0_ : Aside0 (Kd.R k34 34 w10 w.heap.size (fun _ => True) v254 t253) := ⟨h0_⟩
 have n1_ : Aside0 (w10.heap[gb251]? = some (.cells #[.int .i64 a0_0, .slice A0_1 l0_1.length c0_1, .slice A0_2 l0_2.length c0_2] 27 (0, 0))) := ⟨h1_⟩
 have n2_ : Aside0 (w10.heap[gb252]? = some (.cells #[.int .i64 0, .slice none 0 0, .slice none 0 0] 27 (0, 0))) := ⟨h2_⟩
 have n3_ : Aside0 (w10.heap[gb256]? = some (.cells #[.int .i64 0, .slice none 0 0, .slice none 0 0] 27 (0, 0))) := ⟨h3_⟩
 have n4_ : Aside0 (w.heap.size ≤ gb256) := ⟨h4_⟩
 have n5_ : Aside0 (w.heap.size ≤ gb256) := ⟨h5_⟩
 have n6_ : Aside0 (gb251 ≠ gb256) := ⟨h6_⟩
 have n7_ : Aside0 (gb256 ≠ gb251) := ⟨h7_⟩
 have n8_ : Aside0 (gb252 ≠ gb256) := ⟨h8_⟩
 have n9_ : Aside0 (gb256 ≠ gb252) := ⟨h9_⟩
 have n10_ : Aside0 (Below w.heap.size w w10) := ⟨h10_⟩
 clear BK251
 clear BK252
 clear HB
 clear h0_ h1_ h2_ h3_ h4_ h5_ h6_ h7_ h8_ h9_ h10_
 have HO255 := n0_
 have BK251 := n1_
 have BK252 := n2_
 have BK256 := n3_
 have GW256 := n4_
 have GE256 := n5_
 have NB251_256 := n6_
 have NB256_251 := n7_
 have NB252_256 := n8_
 have NB256_252 := n9_
 have HB := n10_
 clear n0_ n1_ n2_ n3_ n4_ n5_ n6_ n7_ n8_ n9_ n10_
 have hHeld : w10.cell? ⟨gb251, 0, none⟩ = some (.int .i64 a0_0) ∧ w10.cell? ⟨gb251, 1, none⟩ = some (.slice A0_1 l0_1.length c0_1) ∧ w10.cell? ⟨gb251, 2, none⟩ = some (.slice A0_2 l0_2.length c0_2) := hS_
 obtain ⟨Ao11, co11, eo11⟩ := Kd.R_slice HO255.out
 (first | subst eo11 | (injection eo11 with f1_ f2_ f3_; have f4_ := f1_.symm; have f5_ := f3_.symm; clear f1_ f2_ f3_; subst f4_; subst f5_))
 refine norm_ (a' := ?_) ?_ ?_
 rotate_left
 ·simp only [putAll, Act.put, List.setIfInBounds_toArray, List.set_cons_zero, List.set_cons_succ]
  rfl
 refine one_ (i := 7) (N := none) #[true, true, true, true, true, true, true, true] rfl rfl (one_of HT_.out (by kernel_rfl)) (by decide) (fun K hK => ?_)
 have hs12 : w10.cell? ⟨gb256, 0, none⟩ = some (.int .i64 0) := (blk_cell BK256.out 0).trans rfl
 have hfs12 := blk_frozen BK256.out 0
 have hns12_0 := NB251_256.out
 have hns12_1 := NB252_256.out
 have hms12_0 := NB256_251.out
 have hms12_1 := NB256_252.out
 have hs13 : w10.cell? ⟨gb256, 1, none⟩ = some (.slice none 0 0) := (blk_cell BK256.out 1).trans rfl
 have hfs13 := blk_frozen BK256.out 1
 have hns13_0 := NB251_256.out
 have hns13_1 := NB252_256.out
 have hms13_0 := NB256_251.out
 have hms13_1 := NB256_252.out
 have hs14 : w10.cell? ⟨gb256, 2, none⟩ = some (.slice none 0 0) := (blk_cell BK256.out 2).trans rfl
 have hfs14 := blk_frozen BK256.out 2
 have hns14_0 := NB251_256.out
 have hns14_1 := NB252_256.out
 have hms14_0 := NB256_251.out
 have hms14_1 := NB256_252.out
 refine skip_ (w1 := ?_) (by rfl) rfl ?_ ?_
 rotate_left
 ·go_simp
  rfl
 refine hK.out _ _ ⟨((cell_far (p := ⟨gb256, _, none⟩) NB251_256.out _).trans (((cell_far (p := ⟨gb256, _, none⟩) NB251_256.out _).trans (((cell_far (p := ⟨gb256, _, none⟩) NB251_256.out _).trans (hHeld.1)))))), ((cell_far (p := ⟨gb256, _, none⟩) NB251_256.out _).trans (((cell_far (p := ⟨gb256, _, none⟩) NB251_256.out _).trans (((cell_far (p := ⟨gb256, _, none⟩) NB251_256.out _).trans (hHeld.2.1)))))), ((cell_far (p := ⟨gb256, _, none⟩) NB251_256.out _).trans (((cell_far (p := ⟨gb256, _, none⟩) NB251_256.out _).trans (((cell_far (p := ⟨gb256, _, none⟩) NB251_256.out _).trans (hHeld.2.2))))))⟩ (fun hHeld => ?_)
 clear hK K
 refine done_ (done_of HT_.out (by kernel_rfl)) ?_
 have hnb15 := NB251_252.out
 have hnc15 := NB252_251.out
 have hnb16 := NB251_256.out
 have hnc16 := NB256_251.out
 obtain ⟨hcz17_0, hcz17_1, hcz17_2, hfz17_0, hfz17_1, hfz17_2⟩ := zC3 BK251.out
 try go_wp2
 go_loopg [17] k (fun kq v17 w' => ∃ (x17_1 : Int) (x257000_1 : Int) (x257001_1 : List (S34)) (x257002_1 : List (S32)) (u257001 : Value) (u257002 : Value), v17 = .int .i64 x17_1 ∧ Aside0 (lease_Table_settle.l0 kq a1 l0_2 (l0_2.length : Int) x17_1 x257000_1 x257001_1 x257002_1 = some (r1, r2, r3)) ∧ Aside0 (kq ≤ k) ∧ Aside0 (Kd.R k34 34 w' w.heap.size (fun _ => True) u257001 x257001_1) ∧ Aside0 (Kd.R k32 32 w' w.heap.size (fun _ => True) u257002 x257002_1) ∧ Aside0 (w'.heap[gb251]? = some (.cells #[.int .i64 a0_0, (.slice A0_1 l0_1.length c0_1), (.slice A0_2 l0_2.length c0_2)] 27 (0, 0))) ∧ Aside0 (w'.heap[gb252]? = some (.cells #[.int .i64 0, (.slice none 0 0), (.slice none 0 0)] 27 (0, 0))) ∧ Aside0 (w'.heap[gb256]? = some (.cells #[.int .i64 x257000_1, u257001, u257002] 27 (0, 0))) ∧ Aside0 (Below w.heap.size w w'))
 case atStart => exact ⟨(0), (a0_0), (t253), (([] : List (S32))), (.slice Ao11 t253.length co11), (.slice none 0 0), zS, H', ⟨Nat.le_refl _⟩, ⟨by (with_reducible repeat (first | apply Kd.R_alloc | apply Kd.R_drewN | apply Kd.R_drew)); exact Kd.R_mono (zNT HO255.out BK256.out) (fun _ hk => trivial)⟩, ⟨by first | exact Kd.R_nil _ _ _ _ _ | exact Kd.N_nil _ _ _ _ _ | exact Kd.V_nil _ _ _ _ _ | exact Kd.Q_nil _ _ _ _ _ | exact Kd.S_nil _ _ _ _ _⟩, ⟨zK BK251.out⟩, ⟨zK BK252.out⟩, ⟨zP3 BK256.out⟩, ⟨zL HB.out⟩⟩
 case round =>
  clear H'
  try clear c1
  try clear p2
  try clear c3
  try clear c4
  try clear c15
  try clear c16
  try clear hcz17_0
  try clear hcz17_1
  try clear hcz17_2
  try clear hfz17_0
  try clear hfz17_1
  try clear hfz17_2
  obtain ⟨x17_1, x257000_1, x257001_1, x257002_1, u257001, u257002, rfl, HA, HK1, HO_257001, HO_257002, BK251, BK252, BK256, HB⟩ := hrel
  cases gk with
  | zero => exact absurd HA.out (by simp [lease_Table_settle.l0])
  | succ k1 =>
   have H := HA.out
   clear HA
   simp only [lease_Table_settle.l0] at H
   by_cases c18 : x17_1 < (l0_2.length : Int)
   ·rw [if_pos c18] at H
    have c18b0 : decide (x17_1 < (l0_2.length : Int)) = true := decide_eq_true c18
    clear c18
    by_cases c19 : 0 ≤ x17_1
    ·rw [if_pos c19] at H
     have c19b0 : decide (0 ≤ x17_1) = true := decide_eq_true c19
     clear c19
     by_cases c20 : x17_1 < (l0_2.length : Int)
     ·rw [if_pos c20] at H
      have c20b0 : decide (x17_1 < (l0_2.length : Int)) = true := decide_eq_true c20
      clear c20
      replace H := Option.bind_eq_some_iff.mp H
      obtain ⟨t259, A210, H⟩ := H
      replace H : (if t259 = true then (if x257002_1.length < 3518437208883 then (lease_Table_settle.l0 k1 a1 l0_2 (l0_2.length : Int) (wrap64 (x17_1 + 1)) x257000_1 x257001_1 (x257002_1 ++ [(⟨(rd_T32 l0_2 x17_1).f0, (rd_T32 l0_2 x17_1).f1, (rd_T32 l0_2 x17_1).f2, (rd_T32 l0_2 x17_1).f3⟩ : S32)])) else (none)) else (if (x257001_1.length : Int) ≥ 200 then (if x257002_1.length < 3518437208883 then (lease_Table_settle.l0 k1 a1 l0_2 (l0_2.length : Int) (wrap64 (x17_1 + 1)) x257000_1 x257001_1 (x257002_1 ++ [(⟨(rd_T32 l0_2 x17_1).f0, (rd_T32 l0_2 x17_1).f1, (rd_T32 l0_2 x17_1).f2, (rd_T32 l0_2 x17_1).f3⟩ : S32)])) else (none)) else (if x257001_1.length < 2932031007402 then (lease_Table_settle.l0 k1 a1 l0_2 (l0_2.length : Int) (wrap64 (x17_1 + 1)) (wrap64 (x257000_1 + 1)) (x257001_1 ++ [(⟨(rd_T32 l0_2 x17_1).f0, (rd_T32 l0_2 x17_1).f1, (rd_T32 l0_2 x17_1).f2, wrap64 (x257000_1 + 1), wrap64 (a1 + ((rd_T32 l0_2 x17_1).f3))⟩ : S34)]) x257002_1) else (none)))) = some (r1, r2, r3) := H
      have A21 := Aside0.mk A210
      clear A210
      by_cases c22 : t259 = true
      ·subst c22
       have H1 : (if x257002_1.length < 3518437208883 then (lease_Table_settle.l0 k1 a1 l0_2 (l0_2.length : Int) (wrap64 (x17_1 + 1)) x257000_1 x257001_1 (x257002_1 ++ [(⟨(rd_T32 l0_2 x17_1).f0, (rd_T32 l0_2 x17_1).f1, (rd_T32 l0_2 x17_1).f2, (rd_T32 l0_2 x17_1).f3⟩ : S32)])) else (none)) = some (r1, r2, r3) := by rw [if_pos rfl] at H; exact H
       clear H
       have H := H1
       clear H1
       by_cases c23 : x257002_1.length < 3518437208883
       ·rw [if_pos c23] at H
        have LMc23 := Aside0.mk c23
        clear c23
        obtain ⟨y260, hy260⟩ : ∃ y_ : List (S32), y_ = (x257002_1 ++ [(⟨(rd_T32 l0_2 x17_1).f0, (rd_T32 l0_2 x17_1).f1, (rd_T32 l0_2 x17_1).f2, (rd_T32 l0_2 x17_1).f3⟩ : S32)]) := ⟨_, rfl⟩
        replace H : (lease_Table_settle.l0 k1 a1 l0_2 (l0_2.length : Int) (wrap64 (x17_1 + 1)) x257000_1 x257001_1 y260) = some (r1, r2, r3) := zH hy260 H
        have Ny260 := Aside0.mk hy260
        clear hy260
        have H' := Aside0.mk H
        clear H
        have p257 : 0 ≤ (x17_1 : Int) := zD
        have q257 : x17_1 < (l0_2.length : Int) := zD
        obtain ⟨ad257, e257, hx257_0, hx257_1, hx257_2, hx257_3⟩ := at_T32 HR0_2.out x17_1 p257 q257
        cases e257
        replace hx257_0 := zX HB.out hx257_0
        replace hx257_1 := zX HB.out hx257_1
        replace hx257_2 := zX HB.out hx257_2
        replace hx257_3 := zX HB.out hx257_3
        replace p257 := eq_true p257
        replace q257 := eq_true q257
        go_wp2_with (first | ((with_reducible refine gate_dst (N := 7) rfl ?_); (try (refine gate_guard (by rfl) ?_; dsimp only)); refine box_event ?hg (N := 7) ?hd (cs := #[.int .i64 0, .string (⟨#[]⟩ : ByteArray), .bool false, .int .i64 0]) (t := 32) ?hr ?_; (case hd => rfl); (case hg => rfl); (case hr => first | (go_simp; done) | (go_simp; rfl)); intro gb258 hg w24 hbox hb; have n0_ := Aside0.mk (Kd.R_below (zR HO_257001.out) hb); have n1_ := Aside0.mk (Kd.R_below (Kd.R_elderB (zR HO_257002.out) gb258 (Nat.le_of_eq hg.symm)) hb); have n2_ := Aside0.mk (blk_below (g := gb251) (o := .cells #[.int .i64 a0_0, .slice A0_1 l0_1.length c0_1, .slice (some ad257) l0_2.length c0_2] 27 (0, 0)) (zK BK251.out) hb); have n3_ := Aside0.mk (blk_below (g := gb252) (o := .cells #[.int .i64 0, .slice none 0 0, .slice none 0 0] 27 (0, 0)) (zK BK252.out) hb); have n4_ := Aside0.mk (blk_below (g := gb256) (o := .cells #[.int .i64 x257000_1, u257001, u257002] 27 (0, 0)) (zK BK256.out) hb); have n5_ := Aside0.mk (below_step (zL HB.out) hb); have n6_ := Aside0.mk (hbox); have n7_ := Aside0.mk (zG hg (zL HB.out)); have n8_ := Aside0.mk (zG hg (zL HB.out)); have n9_ := Aside0.mk (zN (g := gb251) (o := .cells #[.int .i64 a0_0, .slice A0_1 l0_1.length c0_1, .slice (some ad257) l0_2.length c0_2] 27 (0, 0)) hg (zK BK251.out)); have n10_ := Aside0.mk (zO (g := gb251) (o := .cells #[.int .i64 a0_0, .slice A0_1 l0_1.length c0_1, .slice (some ad257) l0_2.length c0_2] 27 (0, 0)) hg (zK BK251.out)); have n11_ := Aside0.mk (zN (g := gb252) (o := .cells #[.int .i64 0, .slice none 0 0, .slice none 0 0] 27 (0, 0)) hg (zK BK252.out)); have n12_ := Aside0.mk (zO (g := gb252) (o := .cells #[.int .i64 0, .slice none 0 0, .slice none 0 0] 27 (0, 0)) hg (zK BK252.out)); have n13_ := Aside0.mk (zN (g := gb256) (o := .cells #[.int .i64 x257000_1, u257001, u257002] 27 (0, 0)) hg (zK BK256.out)); have n14_ := Aside0.mk (zO (g := gb256) (o := .cells #[.int .i64 x257000_1, u257001, u257002] 27 (0, 0)) hg (zK BK256.out)); revert n0_ n1_ n2_ n3_ n4_ n5_ n6_ n7_ n8_ n9_ n10_ n11_ n12_ n13_ n14_; clear HO_257001 HO_257002 BK251 BK252 BK256 HB; intro HO_257001 HO_257002 BK251 BK252 BK256 HB BK258 GW258 GE258 NB251_258 NB258_251 NB252_258 NB258_252 NB256_258 NB258_256; clear hb hbox hg; have hnb25 := NB258_251.out; have hnc25 := NB251_258.out; have hnb26 := NB258_252.out; have hnc26 := NB252_258.out; have hnb27 := NB258_256.out; have hnc27 := NB256_258.out; obtain ⟨hcz28_0, hcz28_1, hcz28_2, hcz28_3, hfz28_0, hfz28_1, hfz28_2, hfz28_3⟩ := zC4 BK258.out; have hnb29 := NB256_251.out; have hnc29 := NB251_256.out; have hnb30 := NB256_252.out; have hnc30 := NB252_256.out; obtain ⟨hcz31_0, hcz31_1, hcz31_2, hfz31_0, hfz31_1, hfz31_2⟩ := zC3 BK256.out; obtain ⟨Ao32, co32, eo32⟩ := Kd.R_slice HO_257001.out; subst eo32; obtain ⟨Ao33, co33, eo33⟩ := Kd.R_slice HO_257002.out; subst eo33) | ((with_reducible refine gate_callee (f := 49) rfl ?_); refine goesL_ (some 23) rfl rfl Tryd.func49 (by kernel_rfl) rfl #[.agg #[.int .i64 x257000_1, .slice Ao32 x257001_1.length co32, .slice Ao33 x257002_1.length co33], .agg #[.int .i64 ((rd_T32 l0_2 x17_1).f0), .string ((rd_T32 l0_2 x17_1).f1), .bool ((rd_T32 l0_2 x17_1).f2), .int .i64 ((rd_T32 l0_2 x17_1).f3)]] rfl zA ?_; (with_reducible refine (lease_Table_blocked.calls k1 x257000_1 _ _ x257001_1 _ _ x257002_1 ((rd_T32 l0_2 x17_1).f0) ((rd_T32 l0_2 x17_1).f1) ((rd_T32 l0_2 x17_1).f2) ((rd_T32 l0_2 x17_1).f3) true _ ?side1 ?side2 ?side3 ?side4 A21.out).mono ?_); (case side1 => refine (Kd.R_reads' (e := 34) (base := w.heap.size) (ok := fun k_ => True) (n := x257001_1.length) (c := co32) ?_).2.2; exact (zT HO_257001.out BK258.out)); (case side2 => exact (Kd.R_reads' HO_257001.out).2.1); (case side3 => refine (Kd.R_reads' (e := 32) (base := w.heap.size) (ok := fun k_ => (True ∧ k_ ≠ gb258)) (n := x257002_1.length) (c := co33) ?_).2.2; exact (zM HO_257002.out (g := gb258) (fun _ hk => hk.2))); (case side4 => exact (Kd.R_reads' HO_257002.out).2.1); rintro e w34 ⟨rfl, hb⟩; refine ⟨_, rfl, ?_⟩; have n0_ := Aside0.mk (Kd.R_below (zT HO_257001.out BK258.out) hb); have n1_ := Aside0.mk (Kd.R_below (zM HO_257002.out (g := gb258) (fun _ hk => hk.2)) hb); have n2_ := Aside0.mk (blk_below (g := gb251) (o := .cells #[.int .i64 a0_0, .slice A0_1 l0_1.length c0_1, .slice (some ad257) l0_2.length c0_2] 27 (0, 0)) (zK BK251.out) hb); have n3_ := Aside0.mk (blk_below (g := gb252) (o := .cells #[.int .i64 0, .slice none 0 0, .slice none 0 0] 27 (0, 0)) (zK BK252.out) hb); have n4_ := Aside0.mk (blk_below (g := gb256) (o := .cells #[.int .i64 x257000_1, .slice Ao32 x257001_1.length co32, .slice Ao33 x257002_1.length co33] 27 (0, 0)) (zK BK256.out) hb); have n5_ := Aside0.mk (blk_below (g := gb258) (o := .cells #[.int .i64 ((rd_T32 l0_2 x17_1).f0), .string ((rd_T32 l0_2 x17_1).f1), .bool ((rd_T32 l0_2 x17_1).f2), .int .i64 ((rd_T32 l0_2 x17_1).f3)] 32 (0, 0)) (zP4 BK258.out) hb); have n6_ := Aside0.mk (below_step (zL HB.out) hb); revert n0_ n1_ n2_ n3_ n4_ n5_ n6_; clear HO_257001 HO_257002 BK251 BK252 BK256 BK258 HB; intro HO_257001 HO_257002 BK251 BK252 BK256 BK258 HB; (try clear hb); (try clear hb2); (try clear hk); (try clear hi); obtain ⟨hcz35_0, hcz35_1, hcz35_2, hfz35_0, hfz35_1, hfz35_2⟩ := zC3 BK256.out; obtain ⟨hcz36_0, hcz36_1, hcz36_2, hcz36_3, hfz36_0, hfz36_1, hfz36_2, hfz36_3⟩ := zC4 BK258.out) | ((with_reducible refine gate_builtin (b := .append) (xs := #[.tmp 31, .tmp 33]) rfl ?_); (try (refine gate_guard (by rfl) ?_; dsimp only)); at_builtin; refine Kd.R_append k32 (w0 := w) w.heap.size rfl (.tmp 31) (.tmp 33) 25 32 (.agg #[(.int .i64 0), (.string ⟨#[]⟩), (.bool false), (.int .i64 0)]) 40 rfl Tryd.underlying25 info32 rfl (by decide) (by omega) (.slice Ao33 x257002_1.length co33) x257002_1 (⟨(rd_T32 l0_2 x17_1).f0, (rd_T32 l0_2 x17_1).f1, (rd_T32 l0_2 x17_1).f2, (rd_T32 l0_2 x17_1).f3⟩ : S32) [.int .i64 ((rd_T32 l0_2 x17_1).f0), .string ((rd_T32 l0_2 x17_1).f1), .bool ((rd_T32 l0_2 x17_1).f2), .int .i64 ((rd_T32 l0_2 x17_1).f3)] (fun k_ => k_ ≠ gb258) (fun _ => False) rfl rfl ?aP (fun _ hk => hk.elim) ?aF ?aO ?aB ?aS ?aL ?_; (case aP => exact k32_mkM _ _ _ (⟨(rd_T32 l0_2 x17_1).f0, (rd_T32 l0_2 x17_1).f1, (rd_T32 l0_2 x17_1).f2, (rd_T32 l0_2 x17_1).f3⟩ : S32)); (case aB => exact (zL HB.out)); (case aF => exact (fun k_ hk => Kd.freshB (g := gb258) (o := .cells #[.int .i64 ((rd_T32 l0_2 x17_1).f0), .string ((rd_T32 l0_2 x17_1).f1), .bool ((rd_T32 l0_2 x17_1).f2), .int .i64 ((rd_T32 l0_2 x17_1).f3)] 32 (0, 0)) (zK BK258.out) k_ hk)); (case aO => exact (by (with_reducible repeat (first | apply Kd.R_alloc | apply Kd.R_drewN | apply Kd.R_drew)); exact Kd.R_mono HO_257002.out (fun _ hk => hk.2))); (case aS => exact (below_size (zL HB.out))); (case aL => have := LMc23.out; omega); intro v261 w37 ho hb hg hat; rw [← Ny260.out] at ho; have n0_ := Aside0.mk (Kd.R_over' (zR HO_257001.out) (Kd.R_typed (zR HO_257002.out)) (by decide) hg); have n1_ := Aside0.mk (blk_grown (g := gb251) (o := .cells #[.int .i64 a0_0, .slice A0_1 l0_1.length c0_1, .slice (some ad257) l0_2.length c0_2] 27 (0, 0)) (zK BK251.out) hg (Kd.R_ne HO_257002.out BK251.out (by decide))); have n2_ := Aside0.mk (blk_grown (g := gb252) (o := .cells #[.int .i64 0, .slice none 0 0, .slice none 0 0] 27 (0, 0)) (zK BK252.out) hg (Kd.R_ne HO_257002.out BK252.out (by decide))); have n3_ := Aside0.mk (blk_grown (g := gb256) (o := .cells #[.int .i64 x257000_1, .slice Ao32 x257001_1.length co32, .slice Ao33 x257002_1.length co33] 27 (0, 0)) (zK BK256.out) hg (Kd.R_ne HO_257002.out BK256.out (by decide))); have n4_ := Aside0.mk (blk_grown (g := gb258) (o := .cells #[.int .i64 ((rd_T32 l0_2 x17_1).f0), .string ((rd_T32 l0_2 x17_1).f1), .bool ((rd_T32 l0_2 x17_1).f2), .int .i64 ((rd_T32 l0_2 x17_1).f3)] 32 (0, 0)) (zK BK258.out) hg (Kd.R_away HO_257002.out (fun _ hk => hk.2))); have n5_ := Aside0.mk (hb); have n6_ := Aside0.mk (ho); revert n0_ n1_ n2_ n3_ n4_ n5_ n6_; clear HO_257001 BK251 BK252 BK256 BK258 HB HO_257002; intro HO_257001 BK251 BK252 BK256 BK258 HB HO262; clear ho hb hg hat; obtain ⟨Ao38, co38, eo38⟩ := Kd.R_slice HO262.out; subst eo38; obtain ⟨hcz39_0, hcz39_1, hcz39_2, hfz39_0, hfz39_1, hfz39_2⟩ := zC3 BK256.out))
        go_roundg k1
        case measure => have := HK1.out; omega
        case rel => exact ⟨(wrap64 (x17_1 + 1)), (x257000_1), (x257001_1), (y260), (.slice Ao32 x257001_1.length co32), (.slice Ao38 y260.length co38), zS, H', ⟨by have := HK1.out; omega⟩, ⟨by (with_reducible repeat (first | apply Kd.R_alloc | apply Kd.R_drewN | apply Kd.R_drew)); exact Kd.R_mono (zNT HO_257001.out BK256.out) (fun _ hk => trivial)⟩, ⟨by (with_reducible repeat (first | apply Kd.R_alloc | apply Kd.R_drewN | apply Kd.R_drew)); exact Kd.R_mono (zNT HO262.out BK256.out) (fun _ hk => trivial)⟩, ⟨zK BK251.out⟩, ⟨zK BK252.out⟩, ⟨by (with_reducible repeat (first | refine blk_drewN ?_ _ | refine blk_drew ?_ | refine blk_alloc ?_ _)); refine blk_put (cs := #[.int .i64 x257000_1, .slice Ao32 x257001_1.length co32, .slice Ao33 x257002_1.length co33]) ?_ 2 _ rfl; (with_reducible repeat (first | refine blk_drewN ?_ _ | refine blk_drew ?_ | refine blk_alloc ?_ _)); exact BK256.out⟩, ⟨zL HB.out⟩⟩
       ·rw [if_neg c23] at H
        exact absurd H (by simp)
      ·replace c22 := Bool.eq_false_iff.mpr c22
       subst c22
       have H1 : (if (x257001_1.length : Int) ≥ 200 then (if x257002_1.length < 3518437208883 then (lease_Table_settle.l0 k1 a1 l0_2 (l0_2.length : Int) (wrap64 (x17_1 + 1)) x257000_1 x257001_1 (x257002_1 ++ [(⟨(rd_T32 l0_2 x17_1).f0, (rd_T32 l0_2 x17_1).f1, (rd_T32 l0_2 x17_1).f2, (rd_T32 l0_2 x17_1).f3⟩ : S32)])) else (none)) else (if x257001_1.length < 2932031007402 then (lease_Table_settle.l0 k1 a1 l0_2 (l0_2.length : Int) (wrap64 (x17_1 + 1)) (wrap64 (x257000_1 + 1)) (x257001_1 ++ [(⟨(rd_T32 l0_2 x17_1).f0, (rd_T32 l0_2 x17_1).f1, (rd_T32 l0_2 x17_1).f2, wrap64 (x257000_1 + 1), wrap64 (a1 + ((rd_T32 l0_2 x17_1).f3))⟩ : S34)]) x257002_1) else (none))) = some (r1, r2, r3) := by rw [if_neg (show ¬ (false = true) by decide)] at H; exact H
       clear H
       have H := H1
       clear H1
       by_cases c40 : (x257001_1.length : Int) ≥ 200
       ·rw [if_pos c40] at H
        have c40b0 : decide (200 ≤ (x257001_1.length : Int)) = true := decide_eq_true c40
        have c40b1 : decide (200 ≤ x257001_1.length) = true := decide_eq_true (by omega)
        clear c40
        by_cases c41 : x257002_1.length < 3518437208883
        ·rw [if_pos c41] at H
         have LMc41 := Aside0.mk c41
         clear c41
         obtain ⟨y263, hy263⟩ : ∃ y_ : List (S32), y_ = (x257002_1 ++ [(⟨(rd_T32 l0_2 x17_1).f0, (rd_T32 l0_2 x17_1).f1, (rd_T32 l0_2 x17_1).f2, (rd_T32 l0_2 x17_1).f3⟩ : S32)]) := ⟨_, rfl⟩
         replace H : (lease_Table_settle.l0 k1 a1 l0_2 (l0_2.length : Int) (wrap64 (x17_1 + 1)) x257000_1 x257001_1 y263) = some (r1, r2, r3) := zH hy263 H
         have Ny263 := Aside0.mk hy263
         clear hy263
         have H' := Aside0.mk H
         clear H
         have p257 : 0 ≤ (x17_1 : Int) := zD
         have q257 : x17_1 < (l0_2.length : Int) := zD
         obtain ⟨ad257, e257, hx257_0, hx257_1, hx257_2, hx257_3⟩ := at_T32 HR0_2.out x17_1 p257 q257
         cases e257
         replace hx257_0 := zX HB.out hx257_0
         replace hx257_1 := zX HB.out hx257_1
         replace hx257_2 := zX HB.out hx257_2
         replace hx257_3 := zX HB.out hx257_3
         replace p257 := eq_true p257
         replace q257 := eq_true q257
         go_wp2_with (first | ((with_reducible refine gate_dst (N := 7) rfl ?_); (try (refine gate_guard (by rfl) ?_; dsimp only)); refine box_event ?hg (N := 7) ?hd (cs := #[.int .i64 0, .string (⟨#[]⟩ : ByteArray), .bool false, .int .i64 0]) (t := 32) ?hr ?_; (case hd => rfl); (case hg => rfl); (case hr => first | (go_simp; done) | (go_simp; rfl)); intro gb258 hg w42 hbox hb; have n0_ := Aside0.mk (Kd.R_below (zR HO_257001.out) hb); have n1_ := Aside0.mk (Kd.R_below (Kd.R_elderB (zR HO_257002.out) gb258 (Nat.le_of_eq hg.symm)) hb); have n2_ := Aside0.mk (blk_below (g := gb251) (o := .cells #[.int .i64 a0_0, .slice A0_1 l0_1.length c0_1, .slice (some ad257) l0_2.length c0_2] 27 (0, 0)) (zK BK251.out) hb); have n3_ := Aside0.mk (blk_below (g := gb252) (o := .cells #[.int .i64 0, .slice none 0 0, .slice none 0 0] 27 (0, 0)) (zK BK252.out) hb); have n4_ := Aside0.mk (blk_below (g := gb256) (o := .cells #[.int .i64 x257000_1, u257001, u257002] 27 (0, 0)) (zK BK256.out) hb); have n5_ := Aside0.mk (below_step (zL HB.out) hb); have n6_ := Aside0.mk (hbox); have n7_ := Aside0.mk (zG hg (zL HB.out)); have n8_ := Aside0.mk (zG hg (zL HB.out)); have n9_ := Aside0.mk (zN (g := gb251) (o := .cells #[.int .i64 a0_0, .slice A0_1 l0_1.length c0_1, .slice (some ad257) l0_2.length c0_2] 27 (0, 0)) hg (zK BK251.out)); have n10_ := Aside0.mk (zO (g := gb251) (o := .cells #[.int .i64 a0_0, .slice A0_1 l0_1.length c0_1, .slice (some ad257) l0_2.length c0_2] 27 (0, 0)) hg (zK BK251.out)); have n11_ := Aside0.mk (zN (g := gb252) (o := .cells #[.int .i64 0, .slice none 0 0, .slice none 0 0] 27 (0, 0)) hg (zK BK252.out)); have n12_ := Aside0.mk (zO (g := gb252) (o := .cells #[.int .i64 0, .slice none 0 0, .slice none 0 0] 27 (0, 0)) hg (zK BK252.out)); have n13_ := Aside0.mk (zN (g := gb256) (o := .cells #[.int .i64 x257000_1, u257001, u257002] 27 (0, 0)) hg (zK BK256.out)); have n14_ := Aside0.mk (zO (g := gb256) (o := .cells #[.int .i64 x257000_1, u257001, u257002] 27 (0, 0)) hg (zK BK256.out)); revert n0_ n1_ n2_ n3_ n4_ n5_ n6_ n7_ n8_ n9_ n10_ n11_ n12_ n13_ n14_; clear HO_257001 HO_257002 BK251 BK252 BK256 HB; intro HO_257001 HO_257002 BK251 BK252 BK256 HB BK258 GW258 GE258 NB251_258 NB258_251 NB252_258 NB258_252 NB256_258 NB258_256; clear hb hbox hg; have hnb43 := NB258_251.out; have hnc43 := NB251_258.out; have hnb44 := NB258_252.out; have hnc44 := NB252_258.out; have hnb45 := NB258_256.out; have hnc45 := NB256_258.out; obtain ⟨hcz46_0, hcz46_1, hcz46_2, hcz46_3, hfz46_0, hfz46_1, hfz46_2, hfz46_3⟩ := zC4 BK258.out; have hnb47 := NB256_251.out; have hnc47 := NB251_256.out; have hnb48 := NB256_252.out; have hnc48 := NB252_256.out; obtain ⟨hcz49_0, hcz49_1, hcz49_2, hfz49_0, hfz49_1, hfz49_2⟩ := zC3 BK256.out; obtain ⟨Ao50, co50, eo50⟩ := Kd.R_slice HO_257001.out; subst eo50; obtain ⟨Ao51, co51, eo51⟩ := Kd.R_slice HO_257002.out; subst eo51) | ((with_reducible refine gate_callee (f := 49) rfl ?_); refine goesL_ (some 23) rfl rfl Tryd.func49 (by kernel_rfl) rfl #[.agg #[.int .i64 x257000_1, .slice Ao50 x257001_1.length co50, .slice Ao51 x257002_1.length co51], .agg #[.int .i64 ((rd_T32 l0_2 x17_1).f0), .string ((rd_T32 l0_2 x17_1).f1), .bool ((rd_T32 l0_2 x17_1).f2), .int .i64 ((rd_T32 l0_2 x17_1).f3)]] rfl zA ?_; (with_reducible refine (lease_Table_blocked.calls k1 x257000_1 _ _ x257001_1 _ _ x257002_1 ((rd_T32 l0_2 x17_1).f0) ((rd_T32 l0_2 x17_1).f1) ((rd_T32 l0_2 x17_1).f2) ((rd_T32 l0_2 x17_1).f3) false _ ?side1 ?side2 ?side3 ?side4 A21.out).mono ?_); (case side1 => refine (Kd.R_reads' (e := 34) (base := w.heap.size) (ok := fun k_ => True) (n := x257001_1.length) (c := co50) ?_).2.2; exact (zT HO_257001.out BK258.out)); (case side2 => exact (Kd.R_reads' HO_257001.out).2.1); (case side3 => refine (Kd.R_reads' (e := 32) (base := w.heap.size) (ok := fun k_ => (True ∧ k_ ≠ gb258)) (n := x257002_1.length) (c := co51) ?_).2.2; exact (zM HO_257002.out (g := gb258) (fun _ hk => hk.2))); (case side4 => exact (Kd.R_reads' HO_257002.out).2.1); rintro e w52 ⟨rfl, hb⟩; refine ⟨_, rfl, ?_⟩; have n0_ := Aside0.mk (Kd.R_below (zT HO_257001.out BK258.out) hb); have n1_ := Aside0.mk (Kd.R_below (zM HO_257002.out (g := gb258) (fun _ hk => hk.2)) hb); have n2_ := Aside0.mk (blk_below (g := gb251) (o := .cells #[.int .i64 a0_0, .slice A0_1 l0_1.length c0_1, .slice (some ad257) l0_2.length c0_2] 27 (0, 0)) (zK BK251.out) hb); have n3_ := Aside0.mk (blk_below (g := gb252) (o := .cells #[.int .i64 0, .slice none 0 0, .slice none 0 0] 27 (0, 0)) (zK BK252.out) hb); have n4_ := Aside0.mk (blk_below (g := gb256) (o := .cells #[.int .i64 x257000_1, .slice Ao50 x257001_1.length co50, .slice Ao51 x257002_1.length co51] 27 (0, 0)) (zK BK256.out) hb); have n5_ := Aside0.mk (blk_below (g := gb258) (o := .cells #[.int .i64 ((rd_T32 l0_2 x17_1).f0), .string ((rd_T32 l0_2 x17_1).f1), .bool ((rd_T32 l0_2 x17_1).f2), .int .i64 ((rd_T32 l0_2 x17_1).f3)] 32 (0, 0)) (zP4 BK258.out) hb); have n6_ := Aside0.mk (below_step (zL HB.out) hb); revert n0_ n1_ n2_ n3_ n4_ n5_ n6_; clear HO_257001 HO_257002 BK251 BK252 BK256 BK258 HB; intro HO_257001 HO_257002 BK251 BK252 BK256 BK258 HB; (try clear hb); (try clear hb2); (try clear hk); (try clear hi); obtain ⟨hcz53_0, hcz53_1, hcz53_2, hfz53_0, hfz53_1, hfz53_2⟩ := zC3 BK256.out; obtain ⟨hcz54_0, hcz54_1, hcz54_2, hcz54_3, hfz54_0, hfz54_1, hfz54_2, hfz54_3⟩ := zC4 BK258.out) | ((with_reducible refine gate_builtin (b := .append) (xs := #[.tmp 31, .tmp 33]) rfl ?_); (try (refine gate_guard (by rfl) ?_; dsimp only)); at_builtin; refine Kd.R_append k32 (w0 := w) w.heap.size rfl (.tmp 31) (.tmp 33) 25 32 (.agg #[(.int .i64 0), (.string ⟨#[]⟩), (.bool false), (.int .i64 0)]) 40 rfl Tryd.underlying25 info32 rfl (by decide) (by omega) (.slice Ao51 x257002_1.length co51) x257002_1 (⟨(rd_T32 l0_2 x17_1).f0, (rd_T32 l0_2 x17_1).f1, (rd_T32 l0_2 x17_1).f2, (rd_T32 l0_2 x17_1).f3⟩ : S32) [.int .i64 ((rd_T32 l0_2 x17_1).f0), .string ((rd_T32 l0_2 x17_1).f1), .bool ((rd_T32 l0_2 x17_1).f2), .int .i64 ((rd_T32 l0_2 x17_1).f3)] (fun k_ => k_ ≠ gb258) (fun _ => False) rfl rfl ?aP (fun _ hk => hk.elim) ?aF ?aO ?aB ?aS ?aL ?_; (case aP => exact k32_mkM _ _ _ (⟨(rd_T32 l0_2 x17_1).f0, (rd_T32 l0_2 x17_1).f1, (rd_T32 l0_2 x17_1).f2, (rd_T32 l0_2 x17_1).f3⟩ : S32)); (case aB => exact (zL HB.out)); (case aF => exact (fun k_ hk => Kd.freshB (g := gb258) (o := .cells #[.int .i64 ((rd_T32 l0_2 x17_1).f0), .string ((rd_T32 l0_2 x17_1).f1), .bool ((rd_T32 l0_2 x17_1).f2), .int .i64 ((rd_T32 l0_2 x17_1).f3)] 32 (0, 0)) (zK BK258.out) k_ hk)); (case aO => exact (by (with_reducible repeat (first | apply Kd.R_alloc | apply Kd.R_drewN | apply Kd.R_drew)); exact Kd.R_mono HO_257002.out (fun _ hk => hk.2))); (case aS => exact (below_size (zL HB.out))); (case aL => have := LMc41.out; omega); intro v264 w55 ho hb hg hat; rw [← Ny263.out] at ho; have n0_ := Aside0.mk (Kd.R_over' (zR HO_257001.out) (Kd.R_typed (zR HO_257002.out)) (by decide) hg); have n1_ := Aside0.mk (blk_grown (g := gb251) (o := .cells #[.int .i64 a0_0, .slice A0_1 l0_1.length c0_1, .slice (some ad257) l0_2.length c0_2] 27 (0, 0)) (zK BK251.out) hg (Kd.R_ne HO_257002.out BK251.out (by decide))); have n2_ := Aside0.mk (blk_grown (g := gb252) (o := .cells #[.int .i64 0, .slice none 0 0, .slice none 0 0] 27 (0, 0)) (zK BK252.out) hg (Kd.R_ne HO_257002.out BK252.out (by decide))); have n3_ := Aside0.mk (blk_grown (g := gb256) (o := .cells #[.int .i64 x257000_1, .slice Ao50 x257001_1.length co50, .slice Ao51 x257002_1.length co51] 27 (0, 0)) (zK BK256.out) hg (Kd.R_ne HO_257002.out BK256.out (by decide))); have n4_ := Aside0.mk (blk_grown (g := gb258) (o := .cells #[.int .i64 ((rd_T32 l0_2 x17_1).f0), .string ((rd_T32 l0_2 x17_1).f1), .bool ((rd_T32 l0_2 x17_1).f2), .int .i64 ((rd_T32 l0_2 x17_1).f3)] 32 (0, 0)) (zK BK258.out) hg (Kd.R_away HO_257002.out (fun _ hk => hk.2))); have n5_ := Aside0.mk (hb); have n6_ := Aside0.mk (ho); revert n0_ n1_ n2_ n3_ n4_ n5_ n6_; clear HO_257001 BK251 BK252 BK256 BK258 HB HO_257002; intro HO_257001 BK251 BK252 BK256 BK258 HB HO265; clear ho hb hg hat; obtain ⟨Ao56, co56, eo56⟩ := Kd.R_slice HO265.out; subst eo56; obtain ⟨hcz57_0, hcz57_1, hcz57_2, hfz57_0, hfz57_1, hfz57_2⟩ := zC3 BK256.out))
         go_roundg k1
         case measure => have := HK1.out; omega
         case rel => exact ⟨(wrap64 (x17_1 + 1)), (x257000_1), (x257001_1), (y263), (.slice Ao50 x257001_1.length co50), (.slice Ao56 y263.length co56), zS, H', ⟨by have := HK1.out; omega⟩, ⟨by (with_reducible repeat (first | apply Kd.R_alloc | apply Kd.R_drewN | apply Kd.R_drew)); exact Kd.R_mono (zNT HO_257001.out BK256.out) (fun _ hk => trivial)⟩, ⟨by (with_reducible repeat (first | apply Kd.R_alloc | apply Kd.R_drewN | apply Kd.R_drew)); exact Kd.R_mono (zNT HO265.out BK256.out) (fun _ hk => trivial)⟩, ⟨zK BK251.out⟩, ⟨zK BK252.out⟩, ⟨by (with_reducible repeat (first | refine blk_drewN ?_ _ | refine blk_drew ?_ | refine blk_alloc ?_ _)); refine blk_put (cs := #[.int .i64 x257000_1, .slice Ao50 x257001_1.length co50, .slice Ao51 x257002_1.length co51]) ?_ 2 _ rfl; (with_reducible repeat (first | refine blk_drewN ?_ _ | refine blk_drew ?_ | refine blk_alloc ?_ _)); exact BK256.out⟩, ⟨zL HB.out⟩⟩
        ·rw [if_neg c41] at H
         exact absurd H (by simp)
       ·rw [if_neg c40] at H
        have c40b0 : decide (200 ≤ (x257001_1.length : Int)) = false := decide_eq_false c40
        have c40b1 : decide (200 ≤ x257001_1.length) = false := decide_eq_false (by omega)
        clear c40
        by_cases c58 : x257001_1.length < 2932031007402
        ·rw [if_pos c58] at H
         have LMc58 := Aside0.mk c58
         clear c58
         obtain ⟨y266, hy266⟩ : ∃ y_ : List (S34), y_ = (x257001_1 ++ [(⟨(rd_T32 l0_2 x17_1).f0, (rd_T32 l0_2 x17_1).f1, (rd_T32 l0_2 x17_1).f2, wrap64 (x257000_1 + 1), wrap64 (a1 + ((rd_T32 l0_2 x17_1).f3))⟩ : S34)]) := ⟨_, rfl⟩
         replace H : (lease_Table_settle.l0 k1 a1 l0_2 (l0_2.length : Int) (wrap64 (x17_1 + 1)) (wrap64 (x257000_1 + 1)) y266 x257002_1) = some (r1, r2, r3) := zH hy266 H
         have Ny266 := Aside0.mk hy266
         clear hy266
         have H' := Aside0.mk H
         clear H
         have p257 : 0 ≤ (x17_1 : Int) := zD
         have q257 : x17_1 < (l0_2.length : Int) := zD
         obtain ⟨ad257, e257, hx257_0, hx257_1, hx257_2, hx257_3⟩ := at_T32 HR0_2.out x17_1 p257 q257
         cases e257
         replace hx257_0 := zX HB.out hx257_0
         replace hx257_1 := zX HB.out hx257_1
         replace hx257_2 := zX HB.out hx257_2
         replace hx257_3 := zX HB.out hx257_3
         replace p257 := eq_true p257
         replace q257 := eq_true q257
         go_wp2_with (first | ((with_reducible refine gate_dst (N := 7) rfl ?_); (try (refine gate_guard (by rfl) ?_; dsimp only)); refine box_event ?hg (N := 7) ?hd (cs := #[.int .i64 0, .string (⟨#[]⟩ : ByteArray), .bool false, .int .i64 0]) (t := 32) ?hr ?_; (case hd => rfl); (case hg => rfl); (case hr => first | (go_simp; done) | (go_simp; rfl)); intro gb258 hg w59 hbox hb; have n0_ := Aside0.mk (Kd.R_below (zR HO_257001.out) hb); have n1_ := Aside0.mk (Kd.R_below (Kd.R_elderB (zR HO_257002.out) gb258 (Nat.le_of_eq hg.symm)) hb); have n2_ := Aside0.mk (blk_below (g := gb251) (o := .cells #[.int .i64 a0_0, .slice A0_1 l0_1.length c0_1, .slice (some ad257) l0_2.length c0_2] 27 (0, 0)) (zK BK251.out) hb); have n3_ := Aside0.mk (blk_below (g := gb252) (o := .cells #[.int .i64 0, .slice none 0 0, .slice none 0 0] 27 (0, 0)) (zK BK252.out) hb); have n4_ := Aside0.mk (blk_below (g := gb256) (o := .cells #[.int .i64 x257000_1, u257001, u257002] 27 (0, 0)) (zK BK256.out) hb); have n5_ := Aside0.mk (below_step (zL HB.out) hb); have n6_ := Aside0.mk (hbox); have n7_ := Aside0.mk (zG hg (zL HB.out)); have n8_ := Aside0.mk (zG hg (zL HB.out)); have n9_ := Aside0.mk (zN (g := gb251) (o := .cells #[.int .i64 a0_0, .slice A0_1 l0_1.length c0_1, .slice (some ad257) l0_2.length c0_2] 27 (0, 0)) hg (zK BK251.out)); have n10_ := Aside0.mk (zO (g := gb251) (o := .cells #[.int .i64 a0_0, .slice A0_1 l0_1.length c0_1, .slice (some ad257) l0_2.length c0_2] 27 (0, 0)) hg (zK BK251.out)); have n11_ := Aside0.mk (zN (g := gb252) (o := .cells #[.int .i64 0, .slice none 0 0, .slice none 0 0] 27 (0, 0)) hg (zK BK252.out)); have n12_ := Aside0.mk (zO (g := gb252) (o := .cells #[.int .i64 0, .slice none 0 0, .slice none 0 0] 27 (0, 0)) hg (zK BK252.out)); have n13_ := Aside0.mk (zN (g := gb256) (o := .cells #[.int .i64 x257000_1, u257001, u257002] 27 (0, 0)) hg (zK BK256.out)); have n14_ := Aside0.mk (zO (g := gb256) (o := .cells #[.int .i64 x257000_1, u257001, u257002] 27 (0, 0)) hg (zK BK256.out)); revert n0_ n1_ n2_ n3_ n4_ n5_ n6_ n7_ n8_ n9_ n10_ n11_ n12_ n13_ n14_; clear HO_257001 HO_257002 BK251 BK252 BK256 HB; intro HO_257001 HO_257002 BK251 BK252 BK256 HB BK258 GW258 GE258 NB251_258 NB258_251 NB252_258 NB258_252 NB256_258 NB258_256; clear hb hbox hg; have hnb60 := NB258_251.out; have hnc60 := NB251_258.out; have hnb61 := NB258_252.out; have hnc61 := NB252_258.out; have hnb62 := NB258_256.out; have hnc62 := NB256_258.out; obtain ⟨hcz63_0, hcz63_1, hcz63_2, hcz63_3, hfz63_0, hfz63_1, hfz63_2, hfz63_3⟩ := zC4 BK258.out; have hnb64 := NB256_251.out; have hnc64 := NB251_256.out; have hnb65 := NB256_252.out; have hnc65 := NB252_256.out; obtain ⟨hcz66_0, hcz66_1, hcz66_2, hfz66_0, hfz66_1, hfz66_2⟩ := zC3 BK256.out; obtain ⟨Ao67, co67, eo67⟩ := Kd.R_slice HO_257001.out; subst eo67; obtain ⟨Ao68, co68, eo68⟩ := Kd.R_slice HO_257002.out; subst eo68) | ((with_reducible refine gate_callee (f := 49) rfl ?_); refine goesL_ (some 23) rfl rfl Tryd.func49 (by kernel_rfl) rfl #[.agg #[.int .i64 x257000_1, .slice Ao67 x257001_1.length co67, .slice Ao68 x257002_1.length co68], .agg #[.int .i64 ((rd_T32 l0_2 x17_1).f0), .string ((rd_T32 l0_2 x17_1).f1), .bool ((rd_T32 l0_2 x17_1).f2), .int .i64 ((rd_T32 l0_2 x17_1).f3)]] rfl zA ?_; (with_reducible refine (lease_Table_blocked.calls k1 x257000_1 _ _ x257001_1 _ _ x257002_1 ((rd_T32 l0_2 x17_1).f0) ((rd_T32 l0_2 x17_1).f1) ((rd_T32 l0_2 x17_1).f2) ((rd_T32 l0_2 x17_1).f3) false _ ?side1 ?side2 ?side3 ?side4 A21.out).mono ?_); (case side1 => refine (Kd.R_reads' (e := 34) (base := w.heap.size) (ok := fun k_ => True) (n := x257001_1.length) (c := co67) ?_).2.2; exact (zT HO_257001.out BK258.out)); (case side2 => exact (Kd.R_reads' HO_257001.out).2.1); (case side3 => refine (Kd.R_reads' (e := 32) (base := w.heap.size) (ok := fun k_ => (True ∧ k_ ≠ gb258)) (n := x257002_1.length) (c := co68) ?_).2.2; exact (zM HO_257002.out (g := gb258) (fun _ hk => hk.2))); (case side4 => exact (Kd.R_reads' HO_257002.out).2.1); rintro e w69 ⟨rfl, hb⟩; refine ⟨_, rfl, ?_⟩; have n0_ := Aside0.mk (Kd.R_below (zT HO_257001.out BK258.out) hb); have n1_ := Aside0.mk (Kd.R_below (zM HO_257002.out (g := gb258) (fun _ hk => hk.2)) hb); have n2_ := Aside0.mk (blk_below (g := gb251) (o := .cells #[.int .i64 a0_0, .slice A0_1 l0_1.length c0_1, .slice (some ad257) l0_2.length c0_2] 27 (0, 0)) (zK BK251.out) hb); have n3_ := Aside0.mk (blk_below (g := gb252) (o := .cells #[.int .i64 0, .slice none 0 0, .slice none 0 0] 27 (0, 0)) (zK BK252.out) hb); have n4_ := Aside0.mk (blk_below (g := gb256) (o := .cells #[.int .i64 x257000_1, .slice Ao67 x257001_1.length co67, .slice Ao68 x257002_1.length co68] 27 (0, 0)) (zK BK256.out) hb); have n5_ := Aside0.mk (blk_below (g := gb258) (o := .cells #[.int .i64 ((rd_T32 l0_2 x17_1).f0), .string ((rd_T32 l0_2 x17_1).f1), .bool ((rd_T32 l0_2 x17_1).f2), .int .i64 ((rd_T32 l0_2 x17_1).f3)] 32 (0, 0)) (zP4 BK258.out) hb); have n6_ := Aside0.mk (below_step (zL HB.out) hb); revert n0_ n1_ n2_ n3_ n4_ n5_ n6_; clear HO_257001 HO_257002 BK251 BK252 BK256 BK258 HB; intro HO_257001 HO_257002 BK251 BK252 BK256 BK258 HB; (try clear hb); (try clear hb2); (try clear hk); (try clear hi); obtain ⟨hcz70_0, hcz70_1, hcz70_2, hfz70_0, hfz70_1, hfz70_2⟩ := zC3 BK256.out; obtain ⟨hcz71_0, hcz71_1, hcz71_2, hcz71_3, hfz71_0, hfz71_1, hfz71_2, hfz71_3⟩ := zC4 BK258.out) | ((with_reducible refine gate_builtin (b := .append) (xs := #[.tmp 41, .tmp 55]) rfl ?_); (try (refine gate_guard (by rfl) ?_; dsimp only)); at_builtin; refine Kd.R_append k34 (w0 := w) w.heap.size rfl (.tmp 41) (.tmp 55) 24 34 (.agg #[(.int .i64 0), (.string ⟨#[]⟩), (.bool false), (.int .i64 0), (.int .i64 0)]) 48 rfl Tryd.underlying24 info34 rfl (by decide) (by omega) (.slice Ao67 x257001_1.length co67) x257001_1 (⟨(rd_T32 l0_2 x17_1).f0, (rd_T32 l0_2 x17_1).f1, (rd_T32 l0_2 x17_1).f2, wrap64 (x257000_1 + 1), wrap64 (a1 + ((rd_T32 l0_2 x17_1).f3))⟩ : S34) [.int .i64 ((rd_T32 l0_2 x17_1).f0), .string ((rd_T32 l0_2 x17_1).f1), .bool ((rd_T32 l0_2 x17_1).f2), .int .i64 (wrap64 (x257000_1 + 1)), .int .i64 (wrap64 (a1 + ((rd_T32 l0_2 x17_1).f3)))] (fun _ => True) (fun _ => False) rfl (by first | (go_simp; done) | (go_simp; rfl)) ?aP (fun _ hk => hk.elim) ?aF ?aO ?aB ?aS ?aL ?_; (case aP => exact k34_mkM _ _ _ (⟨(rd_T32 l0_2 x17_1).f0, (rd_T32 l0_2 x17_1).f1, (rd_T32 l0_2 x17_1).f2, wrap64 (x257000_1 + 1), wrap64 (a1 + ((rd_T32 l0_2 x17_1).f3))⟩ : S34)); (case aB => exact (zL HB.out)); (case aF => exact (fun _ _ => trivial)); (case aO => exact (by (with_reducible repeat (first | apply Kd.R_alloc | apply Kd.R_drewN | apply Kd.R_drew)); exact Kd.R_mono (zNT HO_257001.out BK256.out) (fun _ hk => trivial))); (case aS => exact (below_size (zL HB.out))); (case aL => have := LMc58.out; omega); intro v267 w72 ho hb hg hat; rw [← Ny266.out] at ho; have n0_ := Aside0.mk (Kd.R_over' (zT HO_257002.out BK256.out) (Kd.R_typed (zT HO_257001.out BK256.out)) (by decide) hg); have n1_ := Aside0.mk (blk_grown (g := gb251) (o := .cells #[.int .i64 a0_0, .slice A0_1 l0_1.length c0_1, .slice (some ad257) l0_2.length c0_2] 27 (0, 0)) (zK BK251.out) hg (Kd.R_ne HO_257001.out BK251.out (by decide))); have n2_ := Aside0.mk (blk_grown (g := gb252) (o := .cells #[.int .i64 0, .slice none 0 0, .slice none 0 0] 27 (0, 0)) (zK BK252.out) hg (Kd.R_ne HO_257001.out BK252.out (by decide))); have n3_ := Aside0.mk (blk_grown (g := gb256) (o := .cells #[.int .i64 (wrap64 (x257000_1 + 1)), .slice Ao67 x257001_1.length co67, .slice Ao68 x257002_1.length co68] 27 (0, 0)) (by (with_reducible repeat (first | refine blk_drewN ?_ _ | refine blk_drew ?_ | refine blk_alloc ?_ _)); refine blk_put (cs := #[.int .i64 x257000_1, .slice Ao67 x257001_1.length co67, .slice Ao68 x257002_1.length co68]) ?_ 0 _ rfl; (with_reducible repeat (first | refine blk_drewN ?_ _ | refine blk_drew ?_ | refine blk_alloc ?_ _)); exact BK256.out) hg (Kd.R_ne HO_257001.out BK256.out (by decide))); have n4_ := Aside0.mk (blk_grown (g := gb258) (o := .cells #[.int .i64 ((rd_T32 l0_2 x17_1).f0), .string ((rd_T32 l0_2 x17_1).f1), .bool ((rd_T32 l0_2 x17_1).f2), .int .i64 ((rd_T32 l0_2 x17_1).f3)] 32 (0, 0)) (zK BK258.out) hg (Kd.R_ne HO_257001.out BK258.out (by decide))); have n5_ := Aside0.mk (hb); have n6_ := Aside0.mk (ho); revert n0_ n1_ n2_ n3_ n4_ n5_ n6_; clear HO_257002 BK251 BK252 BK256 BK258 HB HO_257001; intro HO_257002 BK251 BK252 BK256 BK258 HB HO268; clear ho hb hg hat; obtain ⟨Ao73, co73, eo73⟩ := Kd.R_slice HO268.out; subst eo73; obtain ⟨hcz74_0, hcz74_1, hcz74_2, hfz74_0, hfz74_1, hfz74_2⟩ := zC3 BK256.out))
         go_roundg k1
         case measure => have := HK1.out; omega
         case rel => exact ⟨(wrap64 (x17_1 + 1)), (wrap64 (x257000_1 + 1)), (y266), (x257002_1), (.slice Ao73 y266.length co73), (.slice Ao68 x257002_1.length co68), zS, H', ⟨by have := HK1.out; omega⟩, ⟨by (with_reducible repeat (first | apply Kd.R_alloc | apply Kd.R_drewN | apply Kd.R_drew)); exact Kd.R_mono (zNT HO268.out BK256.out) (fun _ hk => trivial)⟩, ⟨by (with_reducible repeat (first | apply Kd.R_alloc | apply Kd.R_drewN | apply Kd.R_drew)); exact Kd.R_mono (zNT HO_257002.out BK256.out) (fun _ hk => trivial)⟩, ⟨zK BK251.out⟩, ⟨zK BK252.out⟩, ⟨by (with_reducible repeat (first | refine blk_drewN ?_ _ | refine blk_drew ?_ | refine blk_alloc ?_ _)); refine blk_put (cs := #[.int .i64 (wrap64 (x257000_1 + 1)), .slice Ao67 x257001_1.length co67, .slice Ao68 x257002_1.length co68]) ?_ 1 _ rfl; (with_reducible repeat (first | refine blk_drewN ?_ _ | refine blk_drew ?_ | refine blk_alloc ?_ _)); exact BK256.out⟩, ⟨zL HB.out⟩⟩
        ·rw [if_neg c58] at H
         exact absurd H (by simp)
     ·rw [if_neg c20] at H
      exact absurd H (by simp)
    ·rw [if_neg c19] at H
     exact absurd H (by simp)
   ·rw [if_neg c18] at H
    have c18b0 : decide (x17_1 < (l0_2.length : Int)) = false := decide_eq_false c18
    clear c18
    simp only [Option.some.injEq, Prod.mk.injEq] at H
    obtain ⟨rfl, rfl, rfl⟩ := H
    have hnb75 := NB256_251.out
    have hnc75 := NB251_256.out
    have hnb76 := NB256_252.out
    have hnc76 := NB252_256.out
    obtain ⟨hcz77_0, hcz77_1, hcz77_2, hfz77_0, hfz77_1, hfz77_2⟩ := zC3 BK256.out
    have hnb78 := NB252_251.out
    have hnc78 := NB251_252.out
    obtain ⟨hcz79_0, hcz79_1, hcz79_2, hfz79_0, hfz79_1, hfz79_2⟩ := zC3 BK252.out
    obtain ⟨Ao80, co80, eo80⟩ := Kd.R_slice HO_257001.out
    subst eo80
    obtain ⟨Ao81, co81, eo81⟩ := Kd.R_slice HO_257002.out
    subst eo81
    go_wp2
    refine bodyPost_ret (results_cell_row rfl _ _ gb252 27 #[.int .i64 x257000_1, .slice Ao80 x257001_1.length co80, .slice Ao81 x257002_1.length co81] (0, 0) _ rfl (zP3 BK252.out) Tryd.underlying27 rfl (by kernel_rfl)) rfl ?_
    exact ⟨_, _, zE, by (with_reducible repeat (first | apply Kd.R_alloc | apply Kd.R_drewN | apply Kd.R_drew)); exact Kd.R_mono (zNT HO_257001.out BK252.out) (fun _ hk => trivial), by (with_reducible repeat (first | apply Kd.R_alloc | apply Kd.R_drewN | apply Kd.R_drew)); exact Kd.R_mono (zNT HO_257002.out BK252.out) (fun _ hk => trivial), zL HB.out⟩

end Go.Proofs.YtgcghjkaomgloaaDoor.PLease
