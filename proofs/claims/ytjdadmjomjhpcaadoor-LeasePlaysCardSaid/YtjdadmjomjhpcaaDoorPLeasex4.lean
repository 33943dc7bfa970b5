-- Written by a program of this session (wip/tools/ext.py, over the kit's printer); not trusted: Lean checks it.
import Derived.Test.YtjdadmjomjhpcaaDoorPLeasex3
namespace Go.Proofs.YtjdadmjomjhpcaaDoor.PLease
open Go.RowKit Go.Proofs.YtjdadmjomjhpcaaDoorW.PrintWords Go.Proofs.YtjdadmjomjhpcaaDoorW.PrintLast Go.Proofs.YtjdadmjomjhpcaaDoorW.PrintMore
attribute [local go_sem] max2_int min2_int max_two min_two max_three min_three max_four min_four
set_option linter.unusedVariables false
set_option linter.unusedSimpArgs false
set_option maxHeartbeats 8000000
set_option maxRecDepth 100000

/-! ### lease_Table_settle: function 36 -/
def lease_Table_settle.l0 : Nat → Int → List (S49) → Int → Int → Int → List (S42) → List (S49) → Option (Int × (List (S42)) × (List (S49)))
 | 0, _, _, _, _, _, _, _ => none
 | k + 1, x1, x15, x16, x17, x295000, x295001, x295002 => if x17 < x16 then (if 0 ≤ x17 then (if x17 < (x15.length : Int) then ((lease_Table_blocked.f k x295000 x295001 x295002 ((rd_T49 x15 x17).f0) ((rd_T49 x15 x17).f1) ((rd_T49 x15 x17).f2) ((rd_T49 x15 x17).f3)).bind fun t297 => (if t297 = true then (if x295002.length < 3518437208883 then (lease_Table_settle.l0 k x1 x15 x16 (wrap64 (x17 + 1)) x295000 x295001 (x295002 ++ [(⟨(rd_T49 x15 x17).f0, (rd_T49 x15 x17).f1, (rd_T49 x15 x17).f2, (rd_T49 x15 x17).f3⟩ : S49)])) else (none)) else (if (x295001.length : Int) ≥ 200 then (if x295002.length < 3518437208883 then (lease_Table_settle.l0 k x1 x15 x16 (wrap64 (x17 + 1)) x295000 x295001 (x295002 ++ [(⟨(rd_T49 x15 x17).f0, (rd_T49 x15 x17).f1, (rd_T49 x15 x17).f2, (rd_T49 x15 x17).f3⟩ : S49)])) else (none)) else (if x295001.length < 2932031007402 then (lease_Table_settle.l0 k x1 x15 x16 (wrap64 (x17 + 1)) (wrap64 (x295000 + 1)) (x295001 ++ [(⟨(rd_T49 x15 x17).f0, (rd_T49 x15 x17).f1, (rd_T49 x15 x17).f2, wrap64 (x295000 + 1), wrap64 (x1 + ((rd_T49 x15 x17).f3))⟩ : S42)]) x295002) else (none))))) else (none)) else (none)) else (some (x295000, x295001, x295002))
def lease_Table_settle.f (k : Nat) (a0_0 : Int) (l0_1 : List (S42)) (l0_2 : List (S49)) (a1 : Int) : Option (Int × (List (S42)) × (List (S49))) := (lease_Lease_38.f l0_1).bind fun t291 => (lease_Table_settle.l0 k a1 l0_2 (l0_2.length : Int) 0 a0_0 t291 ([] : List (S49)))
theorem lease_Table_settle.mono_l : ∀ k, (∀ y0 y1 y2 y3 y4 y5 y6, LeO (lease_Table_settle.l0 k y0 y1 y2 y3 y4 y5 y6) (lease_Table_settle.l0 (k + 1) y0 y1 y2 y3 y4 y5 y6))
 | 0 => fun _ _ _ _ _ _ _ r h => by simp [lease_Table_settle.l0] at h
 | k + 1 => by
  have ih0 := lease_Table_settle.mono_l k
  ·intro y0 y1 y2 y3 y4 y5 y6
   unfold lease_Table_settle.l0
   have m0 := @lease_Table_blocked.mono
   exact zLe
theorem lease_Table_settle.mono : ∀ a0 a1 a2 a3 k, LeO (lease_Table_settle.f k a0 a1 a2 a3) (lease_Table_settle.f (k + 1) a0 a1 a2 a3) := by
 intro a0 a1 a2 a3 k
 have ih0 := lease_Table_settle.mono_l k
 unfold lease_Table_settle.f
 have m0 := @lease_Table_blocked.mono
 exact zLe
def lease_Table_settle.T1 : Bool × List (List Nat × List Nat) := (true, [([], []), ([0], [0]), ([], []), ([2], [2]), ([3], [3]), ([1, 4], [1, 4]), ([], []), ([6, 5, 4, 0, 1, 2, 3, 4, 5, 6], [5, 6])])
def lease_Table_settle.B1 : List Nat := [0, 1, 0, 4, 12, 31, 0, 127]
theorem lease_Table_settle.tab1 : rtab .any (opsOf Tryd.f36 1) = lease_Table_settle.T1 := by kernel_rfl
theorem lease_Table_settle.bits1 : waitsOk lease_Table_settle.T1.2 lease_Table_settle.B1 = true := by kernel_rfl
theorem lease_Table_settle.calls (k : Nat) (a0_0 : Int) (A0_1 : Option Addr) (c0_1 : Nat) (l0_1 : List (S42)) (A0_2 : Option Addr) (c0_2 : Nat) (l0_2 : List (S49)) (a1 : Int) (r1 : Int) (r2 : List (S42)) (r3 : List (S49)) (w : World) (hr0_1 : Kd.C k42 w A0_1 l0_1.length l0_1) (hc0_1 : l0_1.length ≤ c0_1) (hr0_2 : Kd.C k49 w A0_2 l0_2.length l0_2) (hc0_2 : l0_2.length ≤ c0_2) (h : lease_Table_settle.f k a0_0 l0_1 l0_2 a1 = some (r1, r2, r3)) :
  Calls Tryd.prog 36 #[.agg #[.int .i64 a0_0, .slice A0_1 l0_1.length c0_1, .slice A0_2 l0_2.length c0_2], .int .i64 a1] w fun e w' => ∃ v1_ v2_ : Value, e = .returned (.agg #[.int .i64 r1, v1_, v2_]) ∧ Kd.R k42 42 w' w.heap.size (fun _ => True) v1_ r2 ∧ Kd.R k49 49 w' w.heap.size (fun _ => True) v2_ r3 ∧ Below w.heap.size w w' := by
 have hu28 := Tryd.underlying28
 have hu49 := Tryd.underlying49
 have hu42 := Tryd.underlying42
 have HR0_1 := ka hr0_1
 have HC0_1 := ka hc0_1
 clear hr0_1 hc0_1
 have HR0_2 := ka hr0_2
 have HC0_2 := ka hc0_2
 clear hr0_2 hc0_2
 have HB := ka (Below.refl w.heap.size w)
 have H : ((lease_Lease_38.f l0_1).bind fun t291 => (lease_Table_settle.l0 k a1 l0_2 (l0_2.length : Int) 0 a0_0 t291 ([] : List (S49)))) = some (r1, r2, r3) := h
 clear h
 replace H := Option.bind_eq_some_iff.mp H
 obtain ⟨t291, A30, H⟩ := H
 try dsimp only at H
 have A3 := ka A30
 clear A30
 have H' := ka H
 clear H
 go_enter Tryd.func36, Tryd.ntmps36
 try go_wp2_with (first | ((with_reducible refine gate_dst (N := 2) rfl ?_); (try (refine gate_guard (by rfl) ?_; dsimp only)); refine box_event ?hg (N := 2) ?hd (cs := #[.int .i64 a0_0, .slice A0_1 l0_1.length c0_1, .slice A0_2 l0_2.length c0_2]) (t := 28) ?hr ?_; (case hd => rfl); (case hg => rfl); (case hr => (go_simp; try rfl)); intro gb289 hg w4 hbox hb; have BK289 := ka (hbox); have GW289 := ka (zG hg (zL HB.out)); replace HB := ka (below_step (zL HB.out) hb); clear hb hbox hg) | ((with_reducible refine gate_dst (N := 4) rfl ?_); (try (refine gate_guard (by rfl) ?_; dsimp only)); refine box_event ?hg (N := 4) ?hd (cs := #[.int .i64 0, .slice none 0 0, .slice none 0 0]) (t := 28) ?hr ?_; (case hd => rfl); (case hg => rfl); (case hr => (go_simp; try rfl)); intro gb290 hg w5 hbox hb; have BK290 := ka (hbox); have GW290 := ka (zG hg (zL HB.out)); replace HB := ka (below_step (zL HB.out) hb); have NB289_290 := ka (zNK hg BK289.out); have NB290_289 := ka (zOK hg BK289.out); replace BK289 := ka (zB BK289.out hb); clear hb hbox hg))
 replace BK289 := ka (blk_drew BK289.out)
 replace BK290 := ka (blk_drew BK290.out)
 replace HB := ka (below_drew1 HB.out)
 refine start_ (n := 8) (S := fun w' => w'.cell? ⟨gb289, 0, none⟩ = some (.int .i64 a0_0) ∧ w'.cell? ⟨gb289, 1, none⟩ = some (.slice A0_1 l0_1.length c0_1) ∧ w'.cell? ⟨gb289, 2, none⟩ = some (.slice A0_2 l0_2.length c0_2)) (ds := []) #[false, false, false, false, false, false, false, false] (by kernel_rfl) rfl rfl ⟨zc BK289.out 0, zc BK289.out 1, zc BK289.out 2⟩ (fun hHeld => ?_); refine with_tabW lease_Table_settle.tab1 lease_Table_settle.bits1 (fun HT_ HW_ => ?_)
 generalize w5.drew = w6 at BK289 BK290 HB hHeld ⊢
 refine zpp 0 (N := some 8) HT_ (h := ?_)
 refine zpp 2 (N := some 10) HT_ (h := ?_)
 refine zpt 1 (N := some 9) HT_ HW_ hHeld (h := ?_)
 refine zpt 3 (N := some 11) HT_ HW_ hHeld (h := ?_)
 refine join_ (σ := Value × Nat) 1 #[true, true, true, true, true, true, true, false] (fun s_ => [(12, s_.1), (5, .pointer (some ⟨s_.2, 0, none⟩)), (13, .agg #[.int .i64 a0_0, s_.1, .slice none 0 0])]) (fun s_ w' => (w'.cell? ⟨gb289, 0, none⟩ = some (.int .i64 a0_0) ∧ w'.cell? ⟨gb289, 1, none⟩ = some (.slice A0_1 l0_1.length c0_1) ∧ w'.cell? ⟨gb289, 2, none⟩ = some (.slice A0_2 l0_2.length c0_2)) ∧ (Kd.R k42 42 w' w.heap.size (fun _ => True) s_.1 t291) ∧ (w'.heap[gb289]? = some (.cells #[.int .i64 a0_0, .slice A0_1 l0_1.length c0_1, .slice A0_2 l0_2.length c0_2] 28 (0, 0))) ∧ (w'.heap[gb290]? = some (.cells #[.int .i64 0, .slice none 0 0, .slice none 0 0] 28 (0, 0))) ∧ (w'.heap[s_.2]? = some (.cells #[.int .i64 0, .slice none 0 0, .slice none 0 0] 28 (0, 0))) ∧ (w.heap.size ≤ s_.2) ∧ (w.heap.size ≤ s_.2) ∧ (gb289 ≠ s_.2) ∧ (s_.2 ≠ gb289) ∧ (gb290 ≠ s_.2) ∧ (s_.2 ≠ gb290) ∧ (Below w.heap.size w w')) ?_ ?_
 rotate_left
 ·intro hCont
  refine two_ (i := 4) (j := 6) (Ni := some 12) (Nj := some 5) #[true, true, true, true, true, false, false, false] #[true, true, true, true, false, false, true, false] rfl rfl rfl rfl (two_of HT_.out (by kernel_rfl)) (by decide) (by decide) (fun K hK => ?_) (fun K hK => ?_)
  ·skip
   refine goes_ Tryd.func38 (by kernel_rfl) rfl #[.slice A0_1 l0_1.length c0_1] (by rfl) rfl rfl zA ?_
   with_reducible refine (lease_Lease_38.calls _ _ l0_1 t291 _ ?side1 ?side2 A3.out).mono ?_
   (case side1 => exact zCS (Kd.C_below HR0_1.out HB.out))
   (case side2 => exact HC0_1.out)
   rintro e w7 ⟨v292, rfl, ho0, hb⟩
   refine ⟨_, rfl, ?_⟩
   have HO293 := ka (Kd.R_lower ho0 (below_size (zL HB.out)))
   replace BK289 := ka (zB BK289.out hb)
   replace BK290 := ka (zB BK290.out hb)
   replace HB := ka (below_step (zL HB.out) hb)
   (try clear hb)
   (try clear hb2)
   (try clear hk)
   (try clear hi)
   (try clear ho0)
   obtain ⟨Ao8, co8, eo8⟩ := Kd.R_slice HO293.out
   (first | subst eo8 | (injection eo8 with f1_ f2_ f3_; have f4_ := f1_.symm; have f5_ := f3_.symm; clear f1_ f2_ f3_; subst f4_; subst f5_))
   refine hK.out _ _ ⟨zc BK289.out 0, zc BK289.out 1, zc BK289.out 2⟩ (fun hHeld => ?_)
   clear hK K
   refine znm (N := some 12) (h := ?_)
   refine zpp 5 (N := some 13) HT_ (h := ?_)
   refine one_ (i := 6) (N := some 5) #[true, true, true, true, true, true, true, false] rfl rfl (one_of HT_.out (by kernel_rfl)) (by decide) (fun K hK => ?_)
   refine box_step ?hg (N := 5) ?hd (cs := #[.int .i64 0, .slice none 0 0, .slice none 0 0]) (t := 28) ?hr ?_; (case hd => rfl); (case hg => rfl); (case hr => (go_simp; try rfl))
   intro gb294 hg w9 hbox hb
   replace HO293 := ka (Kd.R_below (zR HO293.out) hb)
   have BK294 := ka (hbox)
   have GW294 := ka (zG hg (zL HB.out))
   have GE294 := ka (zG hg (zL HB.out))
   replace HB := ka (below_step (zL HB.out) hb)
   have NB289_294 := ka (zNK hg BK289.out)
   have NB294_289 := ka (zOK hg BK289.out)
   replace BK289 := ka (zB BK289.out hb)
   have NB290_294 := ka (zNK hg BK290.out)
   have NB294_290 := ka (zOK hg BK290.out)
   replace BK290 := ka (zB BK290.out hb)
   clear hb hbox hg
   refine hK.out _ _ ⟨zc BK289.out 0, zc BK289.out 1, zc BK289.out 2⟩ (fun hHeld => ?_)
   clear hK K
   refine znm (N := some 5) (h := ?_)
   exact norm_ (by simp only [putAll, Act.put, List.setIfInBounds_toArray, List.set_cons_zero, List.set_cons_succ]) (hCont (.slice Ao8 t291.length co8, gb294) _ ⟨hHeld, (zR HO293.out), (zK BK289.out), (zK BK290.out), (zK BK294.out), GW294.out, GE294.out, NB289_294.out, NB294_289.out, NB290_294.out, NB294_290.out, (zL HB.out)⟩)
  ·skip
   refine box_step ?hg (N := 5) ?hd (cs := #[.int .i64 0, .slice none 0 0, .slice none 0 0]) (t := 28) ?hr ?_; (case hd => rfl); (case hg => rfl); (case hr => (go_simp; try rfl))
   intro gb294 hg w7 hbox hb
   have BK294 := ka (hbox)
   have GW294 := ka (zG hg (zL HB.out))
   have GE294 := ka (zG hg (zL HB.out))
   replace HB := ka (below_step (zL HB.out) hb)
   have NB289_294 := ka (zNK hg BK289.out)
   have NB294_289 := ka (zOK hg BK289.out)
   replace BK289 := ka (zB BK289.out hb)
   have NB290_294 := ka (zNK hg BK290.out)
   have NB294_290 := ka (zOK hg BK290.out)
   replace BK290 := ka (zB BK290.out hb)
   clear hb hbox hg
   refine hK.out _ _ ⟨zc BK289.out 0, zc BK289.out 1, zc BK289.out 2⟩ (fun hHeld => ?_)
   clear hK K
   refine znm (N := some 5) (h := ?_)
   refine one_ (i := 4) (N := some 12) #[true, true, true, true, true, false, true, false] rfl rfl (one_of HT_.out (by kernel_rfl)) (by decide) (fun K hK => ?_)
   refine goes_ Tryd.func38 (by kernel_rfl) rfl #[.slice A0_1 l0_1.length c0_1] (by rfl) rfl rfl zA ?_
   with_reducible refine (lease_Lease_38.calls _ _ l0_1 t291 _ ?side1 ?side2 A3.out).mono ?_
   (case side1 => exact zCS (Kd.C_below HR0_1.out HB.out))
   (case side2 => exact HC0_1.out)
   rintro e w8 ⟨v292, rfl, ho0, hb⟩
   refine ⟨_, rfl, ?_⟩
   have HO293 := ka (Kd.R_lower ho0 (below_size (zL HB.out)))
   replace BK289 := ka (zB BK289.out hb)
   replace BK290 := ka (zB BK290.out hb)
   replace BK294 := ka (zB BK294.out hb)
   replace HB := ka (below_step (zL HB.out) hb)
   (try clear hb)
   (try clear hb2)
   (try clear hk)
   (try clear hi)
   (try clear ho0)
   obtain ⟨Ao9, co9, eo9⟩ := Kd.R_slice HO293.out
   (first | subst eo9 | (injection eo9 with f1_ f2_ f3_; have f4_ := f1_.symm; have f5_ := f3_.symm; clear f1_ f2_ f3_; subst f4_; subst f5_))
   refine hK.out _ _ ⟨zc BK289.out 0, zc BK289.out 1, zc BK289.out 2⟩ (fun hHeld => ?_)
   clear hK K
   refine znm (N := some 12) (h := ?_)
   refine zpp 5 (N := some 13) HT_ (h := ?_)
   exact norm_ (by simp only [putAll, Act.put, List.setIfInBounds_toArray, List.set_cons_zero, List.set_cons_succ]) (hCont (.slice Ao9 t291.length co9, gb294) _ ⟨hHeld, (zR HO293.out), (zK BK289.out), (zK BK290.out), (zK BK294.out), GW294.out, GE294.out, NB289_294.out, NB294_289.out, NB290_294.out, NB294_290.out, (zL HB.out)⟩)
 rintro ⟨v292, gb294⟩ w10 ⟨hS_, h0_, h1_, h2_, h3_, h4_, h5_, h6_, h7_, h8_, h9_, h10_⟩
 have n0_ : Aside0 (Kd.R k42 42 w10 w.heap.size (fun _ => True) v292 t291) := ⟨h0_⟩
 have n1_ : Aside0 (w10.heap[gb289]? = some (.cells #[.int .i64 a0_0, .slice A0_1 l0_1.length c0_1, .slice A0_2 l0_2.length c0_2] 28 (0, 0))) := ⟨h1_⟩
 have n2_ : Aside0 (w10.heap[gb290]? = some (.cells #[.int .i64 0, .slice none 0 0, .slice none 0 0] 28 (0, 0))) := ⟨h2_⟩
 have n3_ : Aside0 (w10.heap[gb294]? = some (.cells #[.int .i64 0, .slice none 0 0, .slice none 0 0] 28 (0, 0))) := ⟨h3_⟩
 have n4_ : Aside0 (w.heap.size ≤ gb294) := ⟨h4_⟩
 have n5_ : Aside0 (w.heap.size ≤ gb294) := ⟨h5_⟩
 have n6_ : Aside0 (gb289 ≠ gb294) := ⟨h6_⟩
 have n7_ : Aside0 (gb294 ≠ gb289) := ⟨h7_⟩
 have n8_ : Aside0 (gb290 ≠ gb294) := ⟨h8_⟩
 have n9_ : Aside0 (gb294 ≠ gb290) := ⟨h9_⟩
 have n10_ : Aside0 (Below w.heap.size w w10) := ⟨h10_⟩
 clear BK289
 clear BK290
 clear HB
 clear h0_ h1_ h2_ h3_ h4_ h5_ h6_ h7_ h8_ h9_ h10_
 have HO293 := n0_
 have BK289 := n1_
 have BK290 := n2_
 have BK294 := n3_
 have GW294 := n4_
 have GE294 := n5_
 have NB289_294 := n6_
 have NB294_289 := n7_
 have NB290_294 := n8_
 have NB294_290 := n9_
 have HB := n10_
 clear n0_ n1_ n2_ n3_ n4_ n5_ n6_ n7_ n8_ n9_ n10_
 have hHeld : w10.cell? ⟨gb289, 0, none⟩ = some (.int .i64 a0_0) ∧ w10.cell? ⟨gb289, 1, none⟩ = some (.slice A0_1 l0_1.length c0_1) ∧ w10.cell? ⟨gb289, 2, none⟩ = some (.slice A0_2 l0_2.length c0_2) := hS_
 obtain ⟨Ao11, co11, eo11⟩ := Kd.R_slice HO293.out
 (first | subst eo11 | (injection eo11 with f1_ f2_ f3_; have f4_ := f1_.symm; have f5_ := f3_.symm; clear f1_ f2_ f3_; subst f4_; subst f5_))
 refine norm_ (a' := ?_) ?_ ?_
 rotate_left
 ·simp only [putAll, Act.put, List.setIfInBounds_toArray, List.set_cons_zero, List.set_cons_succ]
  rfl
 refine one_ (i := 7) (N := none) #[true, true, true, true, true, true, true, true] rfl rfl (one_of HT_.out (by kernel_rfl)) (by decide) (fun K hK => ?_)
 have hs12 : w10.cell? ⟨gb294, 0, none⟩ = some (.int .i64 0) := zc BK294.out 0
 have hfs12 := blk_frozen BK294.out 0
 have hns12_0 := NB289_294.out
 have hns12_1 := NB290_294.out
 have hms12_0 := NB294_289.out
 have hms12_1 := NB294_290.out
 have hs13 : w10.cell? ⟨gb294, 1, none⟩ = some (.slice none 0 0) := zc BK294.out 1
 have hfs13 := blk_frozen BK294.out 1
 have hns13_0 := NB289_294.out
 have hns13_1 := NB290_294.out
 have hms13_0 := NB294_289.out
 have hms13_1 := NB294_290.out
 have hs14 : w10.cell? ⟨gb294, 2, none⟩ = some (.slice none 0 0) := zc BK294.out 2
 have hfs14 := blk_frozen BK294.out 2
 have hns14_0 := NB289_294.out
 have hns14_1 := NB290_294.out
 have hms14_0 := NB294_289.out
 have hms14_1 := NB294_290.out
 refine skip_ (w1 := ?_) (by rfl) rfl ?_ ?_
 rotate_left
 ·go_simp
  rfl
 refine hK.out _ _ ⟨(zW NB289_294.out hHeld.1), (zW NB289_294.out hHeld.2.1), (zW NB289_294.out hHeld.2.2)⟩ (fun hHeld => ?_)
 clear hK K
 refine done_ (done_of HT_.out (by kernel_rfl)) ?_
 have hnb15 := NB289_290.out
 have hnc15 := NB290_289.out
 have hnb16 := NB289_294.out
 have hnc16 := NB294_289.out
 obtain ⟨z17_0, z17_1, z17_2, y17_0, y17_1, y17_2⟩ := zC3 BK289.out
 try go_wp2
 go_loopg [17] k (fun kq v17 w' => ∃ (x17_1 : Int) (x295000_1 : Int) (x295001_1 : List (S42)) (x295002_1 : List (S49)) (u295001 : Value) (u295002 : Value), v17 = .int .i64 x17_1 ∧ Aside0 (lease_Table_settle.l0 kq a1 l0_2 (l0_2.length : Int) x17_1 x295000_1 x295001_1 x295002_1 = some (r1, r2, r3)) ∧ Aside0 (kq ≤ k) ∧ Aside0 (Kd.R k42 42 w' w.heap.size (fun _ => True) u295001 x295001_1) ∧ Aside0 (Kd.R k49 49 w' w.heap.size (fun _ => True) u295002 x295002_1) ∧ Aside0 (w'.heap[gb289]? = some (.cells #[.int .i64 a0_0, (.slice A0_1 l0_1.length c0_1), (.slice A0_2 l0_2.length c0_2)] 28 (0, 0))) ∧ Aside0 (w'.heap[gb290]? = some (.cells #[.int .i64 0, (.slice none 0 0), (.slice none 0 0)] 28 (0, 0))) ∧ Aside0 (w'.heap[gb294]? = some (.cells #[.int .i64 x295000_1, u295001, u295002] 28 (0, 0))) ∧ Aside0 (Below w.heap.size w w'))
 case atStart => exact ⟨(0), (a0_0), (t291), (([] : List (S49))), (.slice Ao11 t291.length co11), (.slice none 0 0), zS, H', ⟨Nat.le_refl _⟩, ⟨by (with_reducible repeat (first | apply Kd.R_alloc | apply Kd.R_drewN | apply Kd.R_drew)); exact Kd.R_mono (zNT HO293.out BK294.out) (fun _ hk => trivial)⟩, ⟨zNl⟩, ⟨zK BK289.out⟩, ⟨zK BK290.out⟩, ⟨zP3 BK294.out⟩, ⟨zL HB.out⟩⟩
 case round =>
  clear H'
  try clear z17_0 z17_1 z17_2
  try clear y17_0 y17_1 y17_2
  obtain ⟨x17_1, x295000_1, x295001_1, x295002_1, u295001, u295002, rfl, HA, HK1, HO_295001, HO_295002, BK289, BK290, BK294, HB⟩ := hrel
  cases gk with
  | zero => exact absurd HA.out (by simp [lease_Table_settle.l0])
  | succ k1 =>
   have H := HA.out
   clear HA
   simp only [lease_Table_settle.l0] at H
   by_cases c18 : x17_1 < (l0_2.length : Int)
   ·rw [if_pos c18] at H
    have c18b0 := zdt c18
    clear c18
    replace H := zif H
    obtain ⟨c19, H⟩ := H
    have c19b0 := zdt c19
    clear c19
    replace H := zif H
    obtain ⟨c20, H⟩ := H
    have c20b0 := zdt c20
    clear c20
    replace H := Option.bind_eq_some_iff.mp H
    obtain ⟨t297, A210, H⟩ := H
    try dsimp only at H
    have A21 := ka A210
    clear A210
    by_cases c22 : t297 = true
    ·subst c22
     rw [if_pos rfl] at H
     replace H := zif H
     obtain ⟨c23, H⟩ := H
     have LMc23 := ka c23
     clear c23
     obtain ⟨y298, hy298⟩ : ∃ y_ : List (S49), y_ = (x295002_1 ++ [(⟨(rd_T49 l0_2 x17_1).f0, (rd_T49 l0_2 x17_1).f1, (rd_T49 l0_2 x17_1).f2, (rd_T49 l0_2 x17_1).f3⟩ : S49)]) := ⟨_, rfl⟩
     replace H : (lease_Table_settle.l0 k1 a1 l0_2 (l0_2.length : Int) (wrap64 (x17_1 + 1)) x295000_1 x295001_1 y298) = some (r1, r2, r3) := zH hy298 H
     have Ny298 := ka hy298
     clear hy298
     have H' := ka H
     clear H
     have p295 : 0 ≤ (x17_1 : Int) := zD
     have q295 : x17_1 < (l0_2.length : Int) := zD
     obtain ⟨ad295, e295, hx295_0, hx295_1, hx295_2, hx295_3⟩ := at_T49 HR0_2.out x17_1 p295 q295
     cases e295
     replace hx295_0 := zX HB.out hx295_0
     replace hx295_1 := zX HB.out hx295_1
     replace hx295_2 := zX HB.out hx295_2
     replace hx295_3 := zX HB.out hx295_3
     replace p295 := eq_true p295
     replace q295 := eq_true q295
     go_wp2_with (first | ((with_reducible refine gate_dst (N := 7) rfl ?_); (try (refine gate_guard (by rfl) ?_; dsimp only)); refine box_event ?hg (N := 7) ?hd (cs := #[.int .i64 0, .string ⟨#[]⟩, .bool false, .int .i64 0]) (t := 49) ?hr ?_; (case hd => rfl); (case hg => rfl); (case hr => (go_simp; try rfl)); intro gb296 hg w24 hbox hb; replace HO_295001 := ka (Kd.R_below (zR HO_295001.out) hb); replace HO_295002 := ka (Kd.R_below (Kd.R_elderB (zR HO_295002.out) gb296 (Nat.le_of_eq hg.symm)) hb); have BK296 := ka (hbox); have GW296 := ka (zG hg (zL HB.out)); replace HB := ka (below_step (zL HB.out) hb); have NB289_296 := ka (zNK hg BK289.out); have NB296_289 := ka (zOK hg BK289.out); replace BK289 := ka (zB BK289.out hb); have NB290_296 := ka (zNK hg BK290.out); have NB296_290 := ka (zOK hg BK290.out); replace BK290 := ka (zB BK290.out hb); have NB294_296 := ka (zNK hg BK294.out); have NB296_294 := ka (zOK hg BK294.out); replace BK294 := ka (zB BK294.out hb); clear hb hbox hg; have hnb25 := NB296_289.out; have hnc25 := NB289_296.out; have hnb26 := NB296_290.out; have hnc26 := NB290_296.out; have hnb27 := NB296_294.out; have hnc27 := NB294_296.out; obtain ⟨z28_0, z28_1, z28_2, z28_3, y28_0, y28_1, y28_2, y28_3⟩ := zC4 BK296.out; have hnb29 := NB294_289.out; have hnc29 := NB289_294.out; have hnb30 := NB294_290.out; have hnc30 := NB290_294.out; obtain ⟨z31_0, z31_1, z31_2, y31_0, y31_1, y31_2⟩ := zC3 BK294.out; obtain ⟨Ao32, co32, eo32⟩ := Kd.R_slice HO_295001.out; subst eo32; obtain ⟨Ao33, co33, eo33⟩ := Kd.R_slice HO_295002.out; subst eo33) | ((with_reducible refine gate_callee (f := 49) rfl ?_); refine goesL_ (some 23) rfl rfl Tryd.func49 (by kernel_rfl) rfl #[.agg #[.int .i64 x295000_1, .slice Ao32 x295001_1.length co32, .slice Ao33 x295002_1.length co33], .agg #[.int .i64 ((rd_T49 l0_2 x17_1).f0), .string ((rd_T49 l0_2 x17_1).f1), .bool ((rd_T49 l0_2 x17_1).f2), .int .i64 ((rd_T49 l0_2 x17_1).f3)]] rfl zA ?_; (with_reducible refine (lease_Table_blocked.calls k1 x295000_1 _ _ x295001_1 _ _ x295002_1 ((rd_T49 l0_2 x17_1).f0) ((rd_T49 l0_2 x17_1).f1) ((rd_T49 l0_2 x17_1).f2) ((rd_T49 l0_2 x17_1).f3) true _ ?side1 ?side2 ?side3 ?side4 A21.out).mono ?_); (case side1 => refine (Kd.R_reads' (e := 42) (base := w.heap.size) (ok := fun k_ => True) (n := x295001_1.length) (c := co32) ?_).2.2; exact (zT HO_295001.out BK296.out)); (case side2 => exact (Kd.R_reads' HO_295001.out).2.1); (case side3 => refine (Kd.R_reads' (e := 49) (base := w.heap.size) (ok := fun k_ => (True ∧ k_ ≠ gb296)) (n := x295002_1.length) (c := co33) ?_).2.2; exact (zM HO_295002.out (g := gb296) (fun _ hk => hk.2))); (case side4 => exact (Kd.R_reads' HO_295002.out).2.1); rintro e w34 ⟨rfl, hb⟩; refine ⟨_, rfl, ?_⟩; replace HO_295001 := ka (Kd.R_below (zT HO_295001.out BK296.out) hb); replace HO_295002 := ka (Kd.R_below (zM HO_295002.out (g := gb296) (fun _ hk => hk.2)) hb); replace BK289 := ka (zB BK289.out hb); replace BK290 := ka (zB BK290.out hb); replace BK294 := ka (zB BK294.out hb); replace BK296 := ka (blk_below (g := gb296) (o := .cells #[.int .i64 ((rd_T49 l0_2 x17_1).f0), .string ((rd_T49 l0_2 x17_1).f1), .bool ((rd_T49 l0_2 x17_1).f2), .int .i64 ((rd_T49 l0_2 x17_1).f3)] 49 (0, 0)) (zP4 BK296.out) hb); replace HB := ka (below_step (zL HB.out) hb); (try clear hb); (try clear hb2); (try clear hk); (try clear hi); obtain ⟨z35_0, z35_1, z35_2, y35_0, y35_1, y35_2⟩ := zC3 BK294.out; obtain ⟨z36_0, z36_1, z36_2, z36_3, y36_0, y36_1, y36_2, y36_3⟩ := zC4 BK296.out) | ((with_reducible refine gate_builtin (b := .append) (xs := #[.tmp 31, .tmp 33]) rfl ?_); (try (refine gate_guard (by rfl) ?_; dsimp only)); at_builtin; refine Kd.R_append k49 (w0 := w) w.heap.size rfl (.tmp 31) (.tmp 33) 26 49 (.agg #[(.int .i64 0), (.string ⟨#[]⟩), (.bool false), (.int .i64 0)]) 40 rfl Tryd.underlying26 info49 rfl (by decide) (by omega) (.slice Ao33 x295002_1.length co33) x295002_1 (⟨(rd_T49 l0_2 x17_1).f0, (rd_T49 l0_2 x17_1).f1, (rd_T49 l0_2 x17_1).f2, (rd_T49 l0_2 x17_1).f3⟩ : S49) [.int .i64 ((rd_T49 l0_2 x17_1).f0), .string ((rd_T49 l0_2 x17_1).f1), .bool ((rd_T49 l0_2 x17_1).f2), .int .i64 ((rd_T49 l0_2 x17_1).f3)] (fun k_ => k_ ≠ gb296) (fun _ => False) rfl rfl ?aP (fun _ hk => hk.elim) ?aF ?aO ?aB ?aS ?aL ?_; (case aP => exact k49_mkM _ _ _ (⟨(rd_T49 l0_2 x17_1).f0, (rd_T49 l0_2 x17_1).f1, (rd_T49 l0_2 x17_1).f2, (rd_T49 l0_2 x17_1).f3⟩ : S49)); (case aB => exact (zL HB.out)); (case aF => exact (fun k_ hk => Kd.freshB (g := gb296) (o := .cells #[.int .i64 ((rd_T49 l0_2 x17_1).f0), .string ((rd_T49 l0_2 x17_1).f1), .bool ((rd_T49 l0_2 x17_1).f2), .int .i64 ((rd_T49 l0_2 x17_1).f3)] 49 (0, 0)) (zK BK296.out) k_ hk)); (case aO => exact (by (with_reducible repeat (first | apply Kd.R_alloc | apply Kd.R_drewN | apply Kd.R_drew)); exact Kd.R_mono HO_295002.out (fun _ hk => hk.2))); (case aS => exact (below_size (zL HB.out))); (case aL => have := LMc23.out; omega); intro v299 w37 ho hb hg hat; rw [← Ny298.out] at ho; replace HO_295001 := ka (Kd.R_over' (zR HO_295001.out) (Kd.R_typed (zR HO_295002.out)) (by decide) hg); replace BK289 := ka (blk_grown (g := gb289) (o := .cells #[.int .i64 a0_0, .slice A0_1 l0_1.length c0_1, .slice (some ad295) l0_2.length c0_2] 28 (0, 0)) (zK BK289.out) hg (Kd.R_ne HO_295002.out BK289.out (by decide))); replace BK290 := ka (blk_grown (g := gb290) (o := .cells #[.int .i64 0, .slice none 0 0, .slice none 0 0] 28 (0, 0)) (zK BK290.out) hg (Kd.R_ne HO_295002.out BK290.out (by decide))); replace BK294 := ka (blk_grown (g := gb294) (o := .cells #[.int .i64 x295000_1, .slice Ao32 x295001_1.length co32, .slice Ao33 x295002_1.length co33] 28 (0, 0)) (zK BK294.out) hg (Kd.R_ne HO_295002.out BK294.out (by decide))); replace BK296 := ka (blk_grown (g := gb296) (o := .cells #[.int .i64 ((rd_T49 l0_2 x17_1).f0), .string ((rd_T49 l0_2 x17_1).f1), .bool ((rd_T49 l0_2 x17_1).f2), .int .i64 ((rd_T49 l0_2 x17_1).f3)] 49 (0, 0)) (zK BK296.out) hg (Kd.R_away HO_295002.out (fun _ hk => hk.2))); replace HB := ka (hb); have HO300 := ka (ho); clear HO_295002; clear ho hb hg hat; obtain ⟨Ao38, co38, eo38⟩ := Kd.R_slice HO300.out; subst eo38; obtain ⟨z39_0, z39_1, z39_2, y39_0, y39_1, y39_2⟩ := zC3 BK294.out))
     go_roundg k1
     case measure => have := HK1.out; omega
     case rel => exact ⟨(wrap64 (x17_1 + 1)), (x295000_1), (x295001_1), (y298), (.slice Ao32 x295001_1.length co32), (.slice Ao38 y298.length co38), zS, H', ⟨by have := HK1.out; omega⟩, ⟨by (with_reducible repeat (first | apply Kd.R_alloc | apply Kd.R_drewN | apply Kd.R_drew)); exact Kd.R_mono (zNT HO_295001.out BK294.out) (fun _ hk => trivial)⟩, ⟨by (with_reducible repeat (first | apply Kd.R_alloc | apply Kd.R_drewN | apply Kd.R_drew)); exact Kd.R_mono (zNT HO300.out BK294.out) (fun _ hk => trivial)⟩, ⟨zK BK289.out⟩, ⟨zK BK290.out⟩, ⟨by (with_reducible repeat (first | refine blk_drewN ?_ _ | refine blk_drew ?_ | refine blk_alloc ?_ _)); refine blk_put (cs := #[.int .i64 x295000_1, .slice Ao32 x295001_1.length co32, .slice Ao33 x295002_1.length co33]) ?_ 2 _ rfl; (with_reducible repeat (first | refine blk_drewN ?_ _ | refine blk_drew ?_ | refine blk_alloc ?_ _)); exact BK294.out⟩, ⟨zL HB.out⟩⟩
    replace c22 := Bool.eq_false_iff.mpr c22
    subst c22
    rw [if_neg (show ¬ (false = true) by decide)] at H
    by_cases c40 : (x295001_1.length : Int) ≥ 200
    ·rw [if_pos c40] at H
     have c40b0 : decide (200 ≤ (x295001_1.length : Int)) = true := zdt c40
     have c40b1 : decide (200 ≤ x295001_1.length) = true := decide_eq_true (by omega)
     clear c40
     replace H := zif H
     obtain ⟨c41, H⟩ := H
     have LMc41 := ka c41
     clear c41
     obtain ⟨y301, hy301⟩ : ∃ y_ : List (S49), y_ = (x295002_1 ++ [(⟨(rd_T49 l0_2 x17_1).f0, (rd_T49 l0_2 x17_1).f1, (rd_T49 l0_2 x17_1).f2, (rd_T49 l0_2 x17_1).f3⟩ : S49)]) := ⟨_, rfl⟩
     replace H : (lease_Table_settle.l0 k1 a1 l0_2 (l0_2.length : Int) (wrap64 (x17_1 + 1)) x295000_1 x295001_1 y301) = some (r1, r2, r3) := zH hy301 H
     have Ny301 := ka hy301
     clear hy301
     have H' := ka H
     clear H
     have p295 : 0 ≤ (x17_1 : Int) := zD
     have q295 : x17_1 < (l0_2.length : Int) := zD
     obtain ⟨ad295, e295, hx295_0, hx295_1, hx295_2, hx295_3⟩ := at_T49 HR0_2.out x17_1 p295 q295
     cases e295
     replace hx295_0 := zX HB.out hx295_0
     replace hx295_1 := zX HB.out hx295_1
     replace hx295_2 := zX HB.out hx295_2
     replace hx295_3 := zX HB.out hx295_3
     replace p295 := eq_true p295
     replace q295 := eq_true q295
     go_wp2_with (first | ((with_reducible refine gate_dst (N := 7) rfl ?_); (try (refine gate_guard (by rfl) ?_; dsimp only)); refine box_event ?hg (N := 7) ?hd (cs := #[.int .i64 0, .string ⟨#[]⟩, .bool false, .int .i64 0]) (t := 49) ?hr ?_; (case hd => rfl); (case hg => rfl); (case hr => (go_simp; try rfl)); intro gb296 hg w42 hbox hb; replace HO_295001 := ka (Kd.R_below (zR HO_295001.out) hb); replace HO_295002 := ka (Kd.R_below (Kd.R_elderB (zR HO_295002.out) gb296 (Nat.le_of_eq hg.symm)) hb); have BK296 := ka (hbox); have GW296 := ka (zG hg (zL HB.out)); replace HB := ka (below_step (zL HB.out) hb); have NB289_296 := ka (zNK hg BK289.out); have NB296_289 := ka (zOK hg BK289.out); replace BK289 := ka (zB BK289.out hb); have NB290_296 := ka (zNK hg BK290.out); have NB296_290 := ka (zOK hg BK290.out); replace BK290 := ka (zB BK290.out hb); have NB294_296 := ka (zNK hg BK294.out); have NB296_294 := ka (zOK hg BK294.out); replace BK294 := ka (zB BK294.out hb); clear hb hbox hg; have hnb43 := NB296_289.out; have hnc43 := NB289_296.out; have hnb44 := NB296_290.out; have hnc44 := NB290_296.out; have hnb45 := NB296_294.out; have hnc45 := NB294_296.out; obtain ⟨z46_0, z46_1, z46_2, z46_3, y46_0, y46_1, y46_2, y46_3⟩ := zC4 BK296.out; have hnb47 := NB294_289.out; have hnc47 := NB289_294.out; have hnb48 := NB294_290.out; have hnc48 := NB290_294.out; obtain ⟨z49_0, z49_1, z49_2, y49_0, y49_1, y49_2⟩ := zC3 BK294.out; obtain ⟨Ao50, co50, eo50⟩ := Kd.R_slice HO_295001.out; subst eo50; obtain ⟨Ao51, co51, eo51⟩ := Kd.R_slice HO_295002.out; subst eo51) | ((with_reducible refine gate_callee (f := 49) rfl ?_); refine goesL_ (some 23) rfl rfl Tryd.func49 (by kernel_rfl) rfl #[.agg #[.int .i64 x295000_1, .slice Ao50 x295001_1.length co50, .slice Ao51 x295002_1.length co51], .agg #[.int .i64 ((rd_T49 l0_2 x17_1).f0), .string ((rd_T49 l0_2 x17_1).f1), .bool ((rd_T49 l0_2 x17_1).f2), .int .i64 ((rd_T49 l0_2 x17_1).f3)]] rfl zA ?_; (with_reducible refine (lease_Table_blocked.calls k1 x295000_1 _ _ x295001_1 _ _ x295002_1 ((rd_T49 l0_2 x17_1).f0) ((rd_T49 l0_2 x17_1).f1) ((rd_T49 l0_2 x17_1).f2) ((rd_T49 l0_2 x17_1).f3) false _ ?side1 ?side2 ?side3 ?side4 A21.out).mono ?_); (case side1 => refine (Kd.R_reads' (e := 42) (base := w.heap.size) (ok := fun k_ => True) (n := x295001_1.length) (c := co50) ?_).2.2; exact (zT HO_295001.out BK296.out)); (case side2 => exact (Kd.R_reads' HO_295001.out).2.1); (case side3 => refine (Kd.R_reads' (e := 49) (base := w.heap.size) (ok := fun k_ => (True ∧ k_ ≠ gb296)) (n := x295002_1.length) (c := co51) ?_).2.2; exact (zM HO_295002.out (g := gb296) (fun _ hk => hk.2))); (case side4 => exact (Kd.R_reads' HO_295002.out).2.1); rintro e w52 ⟨rfl, hb⟩; refine ⟨_, rfl, ?_⟩; replace HO_295001 := ka (Kd.R_below (zT HO_295001.out BK296.out) hb); replace HO_295002 := ka (Kd.R_below (zM HO_295002.out (g := gb296) (fun _ hk => hk.2)) hb); replace BK289 := ka (zB BK289.out hb); replace BK290 := ka (zB BK290.out hb); replace BK294 := ka (zB BK294.out hb); replace BK296 := ka (blk_below (g := gb296) (o := .cells #[.int .i64 ((rd_T49 l0_2 x17_1).f0), .string ((rd_T49 l0_2 x17_1).f1), .bool ((rd_T49 l0_2 x17_1).f2), .int .i64 ((rd_T49 l0_2 x17_1).f3)] 49 (0, 0)) (zP4 BK296.out) hb); replace HB := ka (below_step (zL HB.out) hb); (try clear hb); (try clear hb2); (try clear hk); (try clear hi); obtain ⟨z53_0, z53_1, z53_2, y53_0, y53_1, y53_2⟩ := zC3 BK294.out; obtain ⟨z54_0, z54_1, z54_2, z54_3, y54_0, y54_1, y54_2, y54_3⟩ := zC4 BK296.out) | ((with_reducible refine gate_builtin (b := .append) (xs := #[.tmp 31, .tmp 33]) rfl ?_); (try (refine gate_guard (by rfl) ?_; dsimp only)); at_builtin; refine Kd.R_append k49 (w0 := w) w.heap.size rfl (.tmp 31) (.tmp 33) 26 49 (.agg #[(.int .i64 0), (.string ⟨#[]⟩), (.bool false), (.int .i64 0)]) 40 rfl Tryd.underlying26 info49 rfl (by decide) (by omega) (.slice Ao51 x295002_1.length co51) x295002_1 (⟨(rd_T49 l0_2 x17_1).f0, (rd_T49 l0_2 x17_1).f1, (rd_T49 l0_2 x17_1).f2, (rd_T49 l0_2 x17_1).f3⟩ : S49) [.int .i64 ((rd_T49 l0_2 x17_1).f0), .string ((rd_T49 l0_2 x17_1).f1), .bool ((rd_T49 l0_2 x17_1).f2), .int .i64 ((rd_T49 l0_2 x17_1).f3)] (fun k_ => k_ ≠ gb296) (fun _ => False) rfl rfl ?aP (fun _ hk => hk.elim) ?aF ?aO ?aB ?aS ?aL ?_; (case aP => exact k49_mkM _ _ _ (⟨(rd_T49 l0_2 x17_1).f0, (rd_T49 l0_2 x17_1).f1, (rd_T49 l0_2 x17_1).f2, (rd_T49 l0_2 x17_1).f3⟩ : S49)); (case aB => exact (zL HB.out)); (case aF => exact (fun k_ hk => Kd.freshB (g := gb296) (o := .cells #[.int .i64 ((rd_T49 l0_2 x17_1).f0), .string ((rd_T49 l0_2 x17_1).f1), .bool ((rd_T49 l0_2 x17_1).f2), .int .i64 ((rd_T49 l0_2 x17_1).f3)] 49 (0, 0)) (zK BK296.out) k_ hk)); (case aO => exact (by (with_reducible repeat (first | apply Kd.R_alloc | apply Kd.R_drewN | apply Kd.R_drew)); exact Kd.R_mono HO_295002.out (fun _ hk => hk.2))); (case aS => exact (below_size (zL HB.out))); (case aL => have := LMc41.out; omega); intro v302 w55 ho hb hg hat; rw [← Ny301.out] at ho; replace HO_295001 := ka (Kd.R_over' (zR HO_295001.out) (Kd.R_typed (zR HO_295002.out)) (by decide) hg); replace BK289 := ka (blk_grown (g := gb289) (o := .cells #[.int .i64 a0_0, .slice A0_1 l0_1.length c0_1, .slice (some ad295) l0_2.length c0_2] 28 (0, 0)) (zK BK289.out) hg (Kd.R_ne HO_295002.out BK289.out (by decide))); replace BK290 := ka (blk_grown (g := gb290) (o := .cells #[.int .i64 0, .slice none 0 0, .slice none 0 0] 28 (0, 0)) (zK BK290.out) hg (Kd.R_ne HO_295002.out BK290.out (by decide))); replace BK294 := ka (blk_grown (g := gb294) (o := .cells #[.int .i64 x295000_1, .slice Ao50 x295001_1.length co50, .slice Ao51 x295002_1.length co51] 28 (0, 0)) (zK BK294.out) hg (Kd.R_ne HO_295002.out BK294.out (by decide))); replace BK296 := ka (blk_grown (g := gb296) (o := .cells #[.int .i64 ((rd_T49 l0_2 x17_1).f0), .string ((rd_T49 l0_2 x17_1).f1), .bool ((rd_T49 l0_2 x17_1).f2), .int .i64 ((rd_T49 l0_2 x17_1).f3)] 49 (0, 0)) (zK BK296.out) hg (Kd.R_away HO_295002.out (fun _ hk => hk.2))); replace HB := ka (hb); have HO303 := ka (ho); clear HO_295002; clear ho hb hg hat; obtain ⟨Ao56, co56, eo56⟩ := Kd.R_slice HO303.out; subst eo56; obtain ⟨z57_0, z57_1, z57_2, y57_0, y57_1, y57_2⟩ := zC3 BK294.out))
     go_roundg k1
     case measure => have := HK1.out; omega
     case rel => exact ⟨(wrap64 (x17_1 + 1)), (x295000_1), (x295001_1), (y301), (.slice Ao50 x295001_1.length co50), (.slice Ao56 y301.length co56), zS, H', ⟨by have := HK1.out; omega⟩, ⟨by (with_reducible repeat (first | apply Kd.R_alloc | apply Kd.R_drewN | apply Kd.R_drew)); exact Kd.R_mono (zNT HO_295001.out BK294.out) (fun _ hk => trivial)⟩, ⟨by (with_reducible repeat (first | apply Kd.R_alloc | apply Kd.R_drewN | apply Kd.R_drew)); exact Kd.R_mono (zNT HO303.out BK294.out) (fun _ hk => trivial)⟩, ⟨zK BK289.out⟩, ⟨zK BK290.out⟩, ⟨by (with_reducible repeat (first | refine blk_drewN ?_ _ | refine blk_drew ?_ | refine blk_alloc ?_ _)); refine blk_put (cs := #[.int .i64 x295000_1, .slice Ao50 x295001_1.length co50, .slice Ao51 x295002_1.length co51]) ?_ 2 _ rfl; (with_reducible repeat (first | refine blk_drewN ?_ _ | refine blk_drew ?_ | refine blk_alloc ?_ _)); exact BK294.out⟩, ⟨zL HB.out⟩⟩
    rw [if_neg c40] at H
    have c40b0 : decide (200 ≤ (x295001_1.length : Int)) = false := zdf c40
    have c40b1 : decide (200 ≤ x295001_1.length) = false := decide_eq_false (by omega)
    clear c40
    replace H := zif H
    obtain ⟨c58, H⟩ := H
    have LMc58 := ka c58
    clear c58
    obtain ⟨y304, hy304⟩ : ∃ y_ : List (S42), y_ = (x295001_1 ++ [(⟨(rd_T49 l0_2 x17_1).f0, (rd_T49 l0_2 x17_1).f1, (rd_T49 l0_2 x17_1).f2, wrap64 (x295000_1 + 1), wrap64 (a1 + ((rd_T49 l0_2 x17_1).f3))⟩ : S42)]) := ⟨_, rfl⟩
    replace H : (lease_Table_settle.l0 k1 a1 l0_2 (l0_2.length : Int) (wrap64 (x17_1 + 1)) (wrap64 (x295000_1 + 1)) y304 x295002_1) = some (r1, r2, r3) := zH hy304 H
    have Ny304 := ka hy304
    clear hy304
    have H' := ka H
    clear H
    have p295 : 0 ≤ (x17_1 : Int) := zD
    have q295 : x17_1 < (l0_2.length : Int) := zD
    obtain ⟨ad295, e295, hx295_0, hx295_1, hx295_2, hx295_3⟩ := at_T49 HR0_2.out x17_1 p295 q295
    cases e295
    replace hx295_0 := zX HB.out hx295_0
    replace hx295_1 := zX HB.out hx295_1
    replace hx295_2 := zX HB.out hx295_2
    replace hx295_3 := zX HB.out hx295_3
    replace p295 := eq_true p295
    replace q295 := eq_true q295
    go_wp2_with (first | ((with_reducible refine gate_dst (N := 7) rfl ?_); (try (refine gate_guard (by rfl) ?_; dsimp only)); refine box_event ?hg (N := 7) ?hd (cs := #[.int .i64 0, .string ⟨#[]⟩, .bool false, .int .i64 0]) (t := 49) ?hr ?_; (case hd => rfl); (case hg => rfl); (case hr => (go_simp; try rfl)); intro gb296 hg w59 hbox hb; replace HO_295001 := ka (Kd.R_below (zR HO_295001.out) hb); replace HO_295002 := ka (Kd.R_below (Kd.R_elderB (zR HO_295002.out) gb296 (Nat.le_of_eq hg.symm)) hb); have BK296 := ka (hbox); have GW296 := ka (zG hg (zL HB.out)); replace HB := ka (below_step (zL HB.out) hb); have NB289_296 := ka (zNK hg BK289.out); have NB296_289 := ka (zOK hg BK289.out); replace BK289 := ka (zB BK289.out hb); have NB290_296 := ka (zNK hg BK290.out); have NB296_290 := ka (zOK hg BK290.out); replace BK290 := ka (zB BK290.out hb); have NB294_296 := ka (zNK hg BK294.out); have NB296_294 := ka (zOK hg BK294.out); replace BK294 := ka (zB BK294.out hb); clear hb hbox hg; have hnb60 := NB296_289.out; have hnc60 := NB289_296.out; have hnb61 := NB296_290.out; have hnc61 := NB290_296.out; have hnb62 := NB296_294.out; have hnc62 := NB294_296.out; obtain ⟨z63_0, z63_1, z63_2, z63_3, y63_0, y63_1, y63_2, y63_3⟩ := zC4 BK296.out; have hnb64 := NB294_289.out; have hnc64 := NB289_294.out; have hnb65 := NB294_290.out; have hnc65 := NB290_294.out; obtain ⟨z66_0, z66_1, z66_2, y66_0, y66_1, y66_2⟩ := zC3 BK294.out; obtain ⟨Ao67, co67, eo67⟩ := Kd.R_slice HO_295001.out; subst eo67; obtain ⟨Ao68, co68, eo68⟩ := Kd.R_slice HO_295002.out; subst eo68) | ((with_reducible refine gate_callee (f := 49) rfl ?_); refine goesL_ (some 23) rfl rfl Tryd.func49 (by kernel_rfl) rfl #[.agg #[.int .i64 x295000_1, .slice Ao67 x295001_1.length co67, .slice Ao68 x295002_1.length co68], .agg #[.int .i64 ((rd_T49 l0_2 x17_1).f0), .string ((rd_T49 l0_2 x17_1).f1), .bool ((rd_T49 l0_2 x17_1).f2), .int .i64 ((rd_T49 l0_2 x17_1).f3)]] rfl zA ?_; (with_reducible refine (lease_Table_blocked.calls k1 x295000_1 _ _ x295001_1 _ _ x295002_1 ((rd_T49 l0_2 x17_1).f0) ((rd_T49 l0_2 x17_1).f1) ((rd_T49 l0_2 x17_1).f2) ((rd_T49 l0_2 x17_1).f3) false _ ?side1 ?side2 ?side3 ?side4 A21.out).mono ?_); (case side1 => refine (Kd.R_reads' (e := 42) (base := w.heap.size) (ok := fun k_ => True) (n := x295001_1.length) (c := co67) ?_).2.2; exact (zT HO_295001.out BK296.out)); (case side2 => exact (Kd.R_reads' HO_295001.out).2.1); (case side3 => refine (Kd.R_reads' (e := 49) (base := w.heap.size) (ok := fun k_ => (True ∧ k_ ≠ gb296)) (n := x295002_1.length) (c := co68) ?_).2.2; exact (zM HO_295002.out (g := gb296) (fun _ hk => hk.2))); (case side4 => exact (Kd.R_reads' HO_295002.out).2.1); rintro e w69 ⟨rfl, hb⟩; refine ⟨_, rfl, ?_⟩; replace HO_295001 := ka (Kd.R_below (zT HO_295001.out BK296.out) hb); replace HO_295002 := ka (Kd.R_below (zM HO_295002.out (g := gb296) (fun _ hk => hk.2)) hb); replace BK289 := ka (zB BK289.out hb); replace BK290 := ka (zB BK290.out hb); replace BK294 := ka (zB BK294.out hb); replace BK296 := ka (blk_below (g := gb296) (o := .cells #[.int .i64 ((rd_T49 l0_2 x17_1).f0), .string ((rd_T49 l0_2 x17_1).f1), .bool ((rd_T49 l0_2 x17_1).f2), .int .i64 ((rd_T49 l0_2 x17_1).f3)] 49 (0, 0)) (zP4 BK296.out) hb); replace HB := ka (below_step (zL HB.out) hb); (try clear hb); (try clear hb2); (try clear hk); (try clear hi); obtain ⟨z70_0, z70_1, z70_2, y70_0, y70_1, y70_2⟩ := zC3 BK294.out; obtain ⟨z71_0, z71_1, z71_2, z71_3, y71_0, y71_1, y71_2, y71_3⟩ := zC4 BK296.out) | ((with_reducible refine gate_builtin (b := .append) (xs := #[.tmp 41, .tmp 55]) rfl ?_); (try (refine gate_guard (by rfl) ?_; dsimp only)); at_builtin; refine Kd.R_append k42 (w0 := w) w.heap.size rfl (.tmp 41) (.tmp 55) 25 42 (.agg #[(.int .i64 0), (.string ⟨#[]⟩), (.bool false), (.int .i64 0), (.int .i64 0)]) 48 rfl Tryd.underlying25 info42 rfl (by decide) (by omega) (.slice Ao67 x295001_1.length co67) x295001_1 (⟨(rd_T49 l0_2 x17_1).f0, (rd_T49 l0_2 x17_1).f1, (rd_T49 l0_2 x17_1).f2, wrap64 (x295000_1 + 1), wrap64 (a1 + ((rd_T49 l0_2 x17_1).f3))⟩ : S42) [.int .i64 ((rd_T49 l0_2 x17_1).f0), .string ((rd_T49 l0_2 x17_1).f1), .bool ((rd_T49 l0_2 x17_1).f2), .int .i64 (wrap64 (x295000_1 + 1)), .int .i64 (wrap64 (a1 + ((rd_T49 l0_2 x17_1).f3)))] (fun _ => True) (fun _ => False) rfl (by first | (go_simp; done) | (go_simp; rfl)) ?aP (fun _ hk => hk.elim) ?aF ?aO ?aB ?aS ?aL ?_; (case aP => exact k42_mkM _ _ _ (⟨(rd_T49 l0_2 x17_1).f0, (rd_T49 l0_2 x17_1).f1, (rd_T49 l0_2 x17_1).f2, wrap64 (x295000_1 + 1), wrap64 (a1 + ((rd_T49 l0_2 x17_1).f3))⟩ : S42)); (case aB => exact (zL HB.out)); (case aF => exact (fun _ _ => trivial)); (case aO => exact (by (with_reducible repeat (first | apply Kd.R_alloc | apply Kd.R_drewN | apply Kd.R_drew)); exact Kd.R_mono (zNT HO_295001.out BK294.out) (fun _ hk => trivial))); (case aS => exact (below_size (zL HB.out))); (case aL => have := LMc58.out; omega); intro v305 w72 ho hb hg hat; rw [← Ny304.out] at ho; replace HO_295002 := ka (Kd.R_over' (zT HO_295002.out BK294.out) (Kd.R_typed (zT HO_295001.out BK294.out)) (by decide) hg); replace BK289 := ka (blk_grown (g := gb289) (o := .cells #[.int .i64 a0_0, .slice A0_1 l0_1.length c0_1, .slice (some ad295) l0_2.length c0_2] 28 (0, 0)) (zK BK289.out) hg (Kd.R_ne HO_295001.out BK289.out (by decide))); replace BK290 := ka (blk_grown (g := gb290) (o := .cells #[.int .i64 0, .slice none 0 0, .slice none 0 0] 28 (0, 0)) (zK BK290.out) hg (Kd.R_ne HO_295001.out BK290.out (by decide))); replace BK294 := ka (blk_grown (g := gb294) (o := .cells #[.int .i64 (wrap64 (x295000_1 + 1)), .slice Ao67 x295001_1.length co67, .slice Ao68 x295002_1.length co68] 28 (0, 0)) (by (with_reducible repeat (first | refine blk_drewN ?_ _ | refine blk_drew ?_ | refine blk_alloc ?_ _)); refine blk_put (cs := #[.int .i64 x295000_1, .slice Ao67 x295001_1.length co67, .slice Ao68 x295002_1.length co68]) ?_ 0 _ rfl; (with_reducible repeat (first | refine blk_drewN ?_ _ | refine blk_drew ?_ | refine blk_alloc ?_ _)); exact BK294.out) hg (Kd.R_ne HO_295001.out BK294.out (by decide))); replace BK296 := ka (blk_grown (g := gb296) (o := .cells #[.int .i64 ((rd_T49 l0_2 x17_1).f0), .string ((rd_T49 l0_2 x17_1).f1), .bool ((rd_T49 l0_2 x17_1).f2), .int .i64 ((rd_T49 l0_2 x17_1).f3)] 49 (0, 0)) (zK BK296.out) hg (Kd.R_ne HO_295001.out BK296.out (by decide))); replace HB := ka (hb); have HO306 := ka (ho); clear HO_295001; clear ho hb hg hat; obtain ⟨Ao73, co73, eo73⟩ := Kd.R_slice HO306.out; subst eo73; obtain ⟨z74_0, z74_1, z74_2, y74_0, y74_1, y74_2⟩ := zC3 BK294.out))
    go_roundg k1
    case measure => have := HK1.out; omega
    case rel => exact ⟨(wrap64 (x17_1 + 1)), (wrap64 (x295000_1 + 1)), (y304), (x295002_1), (.slice Ao73 y304.length co73), (.slice Ao68 x295002_1.length co68), zS, H', ⟨by have := HK1.out; omega⟩, ⟨by (with_reducible repeat (first | apply Kd.R_alloc | apply Kd.R_drewN | apply Kd.R_drew)); exact Kd.R_mono (zNT HO306.out BK294.out) (fun _ hk => trivial)⟩, ⟨by (with_reducible repeat (first | apply Kd.R_alloc | apply Kd.R_drewN | apply Kd.R_drew)); exact Kd.R_mono (zNT HO_295002.out BK294.out) (fun _ hk => trivial)⟩, ⟨zK BK289.out⟩, ⟨zK BK290.out⟩, ⟨by (with_reducible repeat (first | refine blk_drewN ?_ _ | refine blk_drew ?_ | refine blk_alloc ?_ _)); refine blk_put (cs := #[.int .i64 (wrap64 (x295000_1 + 1)), .slice Ao67 x295001_1.length co67, .slice Ao68 x295002_1.length co68]) ?_ 1 _ rfl; (with_reducible repeat (first | refine blk_drewN ?_ _ | refine blk_drew ?_ | refine blk_alloc ?_ _)); exact BK294.out⟩, ⟨zL HB.out⟩⟩
   rw [if_neg c18] at H
   have c18b0 := zdf c18
   clear c18
   replace H := zs3 H
   obtain ⟨rfl, rfl, rfl⟩ := H
   have hnb75 := NB294_289.out
   have hnc75 := NB289_294.out
   have hnb76 := NB294_290.out
   have hnc76 := NB290_294.out
   obtain ⟨z77_0, z77_1, z77_2, y77_0, y77_1, y77_2⟩ := zC3 BK294.out
   have hnb78 := NB290_289.out
   have hnc78 := NB289_290.out
   obtain ⟨z79_0, z79_1, z79_2, y79_0, y79_1, y79_2⟩ := zC3 BK290.out
   obtain ⟨Ao80, co80, eo80⟩ := Kd.R_slice HO_295001.out
   subst eo80
   obtain ⟨Ao81, co81, eo81⟩ := Kd.R_slice HO_295002.out
   subst eo81
   go_wp2
   refine bodyPost_ret (results_cell_row rfl _ _ gb290 28 #[.int .i64 x295000_1, .slice Ao80 x295001_1.length co80, .slice Ao81 x295002_1.length co81] (0, 0) _ rfl (zP3 BK290.out) Tryd.underlying28 rfl (by kernel_rfl)) rfl ?_
   exact ⟨_, _, zE, by (with_reducible repeat (first | apply Kd.R_alloc | apply Kd.R_drewN | apply Kd.R_drew)); exact Kd.R_mono (zNT HO_295001.out BK290.out) (fun _ hk => trivial), by (with_reducible repeat (first | apply Kd.R_alloc | apply Kd.R_drewN | apply Kd.R_drew)); exact Kd.R_mono (zNT HO_295002.out BK290.out) (fun _ hk => trivial), zL HB.out⟩

end Go.Proofs.YtjdadmjomjhpcaaDoor.PLease
