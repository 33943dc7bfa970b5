-- Written by a program of this session (wip/tools/ext.py, over the kit's printer); not trusted: Lean checks it.
import Derived.Test.YtjdadmjomjhpcaaDoorPLeasex1
import Derived.Test.YtjdadmjomjhpcaaDoorPLeasex4
namespace Go.Proofs.YtjdadmjomjhpcaaDoor.PLease
open Go.RowKit Go.Proofs.YtjdadmjomjhpcaaDoorW.PrintWords Go.Proofs.YtjdadmjomjhpcaaDoorW.PrintLast Go.Proofs.YtjdadmjomjhpcaaDoorW.PrintMore
attribute [local go_sem] max2_int min2_int max_two min_two max_three min_three max_four min_four
set_option linter.unusedVariables false
set_option linter.unusedSimpArgs false
set_option maxHeartbeats 8000000
set_option maxRecDepth 100000

/-! ### lease_Take: function 15 -/
mutual
def lease_Take.j0 : Nat → Int → Bool → Bool → Bool → Int → List (S42) → List (S49) → Int → ByteArray → Bool → Int → Int → ByteArray → Bool → Int → Int → Option (Int × (List (S42)) × (List (S49)) × Int × Int)
 | 0, _, _, _, _, _, _, _, _, _, _, _, _, _, _, _, _ => none
 | k + 1, x2, x10, x12, x29, x308000, x308001, x308002, x309000, x309001, x309002, x309003, x317000, x317001, x317002, x317003, x317004 => if x29 = true then (some (0, ([] : List (S42)), ([] : List (S49)), 0, 1)) else (if x10 = true then (if x309002 = true then (lease_Take.j1 k x2 x10 x12 (!x317002) x308000 x308001 x308002 x309000 x309001 x309002 x309003) else (lease_Take.j1 k x2 x10 x12 false x308000 x308001 x308002 x309000 x309001 x309002 x309003)) else (lease_Take.j1 k x2 x10 x12 false x308000 x308001 x308002 x309000 x309001 x309002 x309003))
def lease_Take.j1 : Nat → Int → Bool → Bool → Bool → Int → List (S42) → List (S49) → Int → ByteArray → Bool → Int → Option (Int × (List (S42)) × (List (S49)) × Int × Int)
 | 0, _, _, _, _, _, _, _, _, _, _, _ => none
 | k + 1, x2, x10, x12, x56, x308000, x308001, x308002, x309000, x309001, x309002, x309003 => if x56 = true then (some (0, ([] : List (S42)), ([] : List (S49)), 0, 7)) else (if x10 = true then (some (0, ([] : List (S42)), ([] : List (S49)), 0, 5)) else (if x12 = true then (some (0, ([] : List (S42)), ([] : List (S49)), 0, 7)) else (if (x308002.length : Int) ≥ 100 then (some (0, ([] : List (S42)), ([] : List (S49)), 0, 6)) else ((lease_Ask_35.f x308002).bind fun t326 => ((some (([(⟨x309000, x309001, x309002, x309003⟩ : S49)] : List (S49)) : List (S49))).bind fun y329 => (if t326.length + y329.length < 3518437208883 then ((lease_Table_settle.f k x308000 x308001 (t326 ++ y329) x2).bind fun bt335 => ((lease_Held.f k bt335.1 bt335.2.1 bt335.2.2 x309000 x309001).bind fun bt342 => (some (bt335.1, bt335.2.1, bt335.2.2, bt342.2.2.2.1, 0)))) else (none)))))))
end
def lease_Take.f (k : Nat) (a0_0 : Int) (l0_1 : List (S42)) (l0_2 : List (S49)) (a1_0 : Int) (a1_1 : ByteArray) (a1_2 : Bool) (a1_3 : Int) (a2 : Int) : Option (Int × (List (S42)) × (List (S49)) × Int × Int) := (lease_Held.f k a0_0 l0_1 l0_2 a1_0 a1_1).bind fun bt310 => ((lease_Waits.f k a0_0 l0_1 l0_2 a1_0).bind fun bt317 => (if a1_0 < 1 then (lease_Take.j0 k a2 bt310.2.2.2.2.2 bt317.2.2.2.2 true a0_0 l0_1 l0_2 a1_0 a1_1 a1_2 a1_3 bt310.1 bt310.2.1 bt310.2.2.1 bt310.2.2.2.1 bt310.2.2.2.2.1) else (if a1_0 > 1000 then (lease_Take.j0 k a2 bt310.2.2.2.2.2 bt317.2.2.2.2 true a0_0 l0_1 l0_2 a1_0 a1_1 a1_2 a1_3 bt310.1 bt310.2.1 bt310.2.2.1 bt310.2.2.2.1 bt310.2.2.2.2.1) else ((text_Path.f k a1_1).bind fun t323 => (if t323 = true then ((lease_lives.f a1_3).bind fun t324 => (if t324 = true then ((lease_time.f a2).bind fun t325 => (lease_Take.j0 k a2 bt310.2.2.2.2.2 bt317.2.2.2.2 (!t325) a0_0 l0_1 l0_2 a1_0 a1_1 a1_2 a1_3 bt310.1 bt310.2.1 bt310.2.2.1 bt310.2.2.2.1 bt310.2.2.2.2.1)) else (lease_Take.j0 k a2 bt310.2.2.2.2.2 bt317.2.2.2.2 true a0_0 l0_1 l0_2 a1_0 a1_1 a1_2 a1_3 bt310.1 bt310.2.1 bt310.2.2.1 bt310.2.2.2.1 bt310.2.2.2.2.1))) else (lease_Take.j0 k a2 bt310.2.2.2.2.2 bt317.2.2.2.2 true a0_0 l0_1 l0_2 a1_0 a1_1 a1_2 a1_3 bt310.1 bt310.2.1 bt310.2.2.1 bt310.2.2.2.1 bt310.2.2.2.2.1))))))
theorem lease_Take.mono_l : ∀ k, (∀ y0 y1 y2 y3 y4 y5 y6 y7 y8 y9 y10 y11 y12 y13 y14 y15, LeO (lease_Take.j0 k y0 y1 y2 y3 y4 y5 y6 y7 y8 y9 y10 y11 y12 y13 y14 y15) (lease_Take.j0 (k + 1) y0 y1 y2 y3 y4 y5 y6 y7 y8 y9 y10 y11 y12 y13 y14 y15)) ∧ (∀ y0 y1 y2 y3 y4 y5 y6 y7 y8 y9 y10, LeO (lease_Take.j1 k y0 y1 y2 y3 y4 y5 y6 y7 y8 y9 y10) (lease_Take.j1 (k + 1) y0 y1 y2 y3 y4 y5 y6 y7 y8 y9 y10))
 | 0 => ⟨fun _ _ _ _ _ _ _ _ _ _ _ _ _ _ _ _ r h => by simp [lease_Take.j0] at h, fun _ _ _ _ _ _ _ _ _ _ _ r h => by simp [lease_Take.j1] at h⟩
 | k + 1 => by
  obtain ⟨ih0, ih1⟩ := lease_Take.mono_l k
  have m0 := @lease_Held.mono
  have m1 := @lease_Table_settle.mono
  have m2 := @lease_Waits.mono
  have m3 := @text_Path.mono
  refine ⟨?_, ?_⟩
  ·intros
   unfold lease_Take.j0
   exact zLe
  ·intros
   unfold lease_Take.j1
   exact zLe
theorem lease_Take.mono : ∀ a0 a1 a2 a3 a4 a5 a6 a7 k, LeO (lease_Take.f k a0 a1 a2 a3 a4 a5 a6 a7) (lease_Take.f (k + 1) a0 a1 a2 a3 a4 a5 a6 a7) := by
 intro a0 a1 a2 a3 a4 a5 a6 a7 k
 obtain ⟨ih0, ih1⟩ := lease_Take.mono_l k
 unfold lease_Take.f
 have m0 := @lease_Held.mono
 have m1 := @lease_Table_settle.mono
 have m2 := @lease_Waits.mono
 have m3 := @text_Path.mono
 exact zLe
def lease_Take.T13 : Bool × List (List Nat × List Nat) := (true, [([], []), ([0], [0]), ([1], [1]), ([], []), ([3], [3]), ([2, 4, 2], [2, 4]), ([0, 1, 2, 3, 4, 5], []), ([6, 5, 5, 0, 1, 2, 3, 4, 5], [5, 6])])
def lease_Take.B13 : List Nat := [0, 1, 3, 0, 8, 31, 63, 127]
theorem lease_Take.tab13 : rtab .any (opsOf Tryd.f15 13) = lease_Take.T13 := by kernel_rfl
theorem lease_Take.bits13 : waitsOk lease_Take.T13.2 lease_Take.B13 = true := by kernel_rfl
theorem lease_Take.calls (k : Nat) (a0_0 : Int) (A0_1 : Option Addr) (c0_1 : Nat) (l0_1 : List (S42)) (A0_2 : Option Addr) (c0_2 : Nat) (l0_2 : List (S49)) (a1_0 : Int) (a1_1 : ByteArray) (a1_2 : Bool) (a1_3 : Int) (a2 : Int) (r1 : Int) (r2 : List (S42)) (r3 : List (S49)) (r4 : Int) (r5 : Int) (w : World) (hr0_1 : Kd.C k42 w A0_1 l0_1.length l0_1) (hc0_1 : l0_1.length ≤ c0_1) (hr0_2 : Kd.C k49 w A0_2 l0_2.length l0_2) (hc0_2 : l0_2.length ≤ c0_2) (h : lease_Take.f k a0_0 l0_1 l0_2 a1_0 a1_1 a1_2 a1_3 a2 = some (r1, r2, r3, r4, r5)) :
  Calls Tryd.prog 15 #[.agg #[.int .i64 a0_0, .slice A0_1 l0_1.length c0_1, .slice A0_2 l0_2.length c0_2], .agg #[.int .i64 a1_0, .string a1_1, .bool a1_2, .int .i64 a1_3], .int .i64 a2] w fun e w' => ∃ v1_ v2_ : Value, e = .returned (.tuple #[.agg #[.int .i64 r1, v1_, v2_], .int .i64 r4, .int .i64 r5]) ∧ Kd.R k42 42 w' w.heap.size (fun _ => True) v1_ r2 ∧ Kd.R k49 49 w' w.heap.size (fun _ => True) v2_ r3 ∧ Below w.heap.size w w' := by
 have hu28 := Tryd.underlying28
 have hu49 := Tryd.underlying49
 have hu42 := Tryd.underlying42
 have HR0_1 := ka hr0_1
 have HC0_1 := ka hc0_1
 clear hr0_1 hc0_1
 have HR0_2 := ka hr0_2
 have HC0_2 := ka hc0_2
 clear hr0_2 hc0_2
 have HB := ka (Below.refl w.heap.size w)
 have H : ((lease_Held.f k a0_0 l0_1 l0_2 a1_0 a1_1).bind fun bt310 => ((lease_Waits.f k a0_0 l0_1 l0_2 a1_0).bind fun bt317 => (if a1_0 < 1 then (lease_Take.j0 k a2 bt310.2.2.2.2.2 bt317.2.2.2.2 true a0_0 l0_1 l0_2 a1_0 a1_1 a1_2 a1_3 bt310.1 bt310.2.1 bt310.2.2.1 bt310.2.2.2.1 bt310.2.2.2.2.1) else (if a1_0 > 1000 then (lease_Take.j0 k a2 bt310.2.2.2.2.2 bt317.2.2.2.2 true a0_0 l0_1 l0_2 a1_0 a1_1 a1_2 a1_3 bt310.1 bt310.2.1 bt310.2.2.1 bt310.2.2.2.1 bt310.2.2.2.2.1) else ((text_Path.f k a1_1).bind fun t323 => (if t323 = true then ((lease_lives.f a1_3).bind fun t324 => (if t324 = true then ((lease_time.f a2).bind fun t325 => (lease_Take.j0 k a2 bt310.2.2.2.2.2 bt317.2.2.2.2 (!t325) a0_0 l0_1 l0_2 a1_0 a1_1 a1_2 a1_3 bt310.1 bt310.2.1 bt310.2.2.1 bt310.2.2.2.1 bt310.2.2.2.2.1)) else (lease_Take.j0 k a2 bt310.2.2.2.2.2 bt317.2.2.2.2 true a0_0 l0_1 l0_2 a1_0 a1_1 a1_2 a1_3 bt310.1 bt310.2.1 bt310.2.2.1 bt310.2.2.2.1 bt310.2.2.2.2.1))) else (lease_Take.j0 k a2 bt310.2.2.2.2.2 bt317.2.2.2.2 true a0_0 l0_1 l0_2 a1_0 a1_1 a1_2 a1_3 bt310.1 bt310.2.1 bt310.2.2.1 bt310.2.2.2.1 bt310.2.2.2.2.1))))))) = some (r1, r2, r3, r4, r5) := h
 clear h
 replace H := Option.bind_eq_some_iff.mp H
 obtain ⟨⟨t310, t311, t312, t313, t314, t315⟩, A40, H⟩ := H
 try dsimp only at H
 have A4 := ka A40
 clear A40
 replace H := Option.bind_eq_some_iff.mp H
 obtain ⟨⟨t317, t318, t319, t320, t321⟩, A50, H⟩ := H
 try dsimp only at H
 have A5 := ka A50
 clear A50
 have HC6 := ka H
 clear H
 go_enter Tryd.func15, Tryd.ntmps15
 go_upto_region 3 with (first | ((with_reducible refine gate_dst (N := 3) rfl ?_); refine box_event ?hg (N := 3) ?hd (cs := #[.int .i64 a0_0, .slice A0_1 l0_1.length c0_1, .slice A0_2 l0_2.length c0_2]) (t := 28) ?hr ?_; (case hd => rfl); (case hg => rfl); (case hr => (go_simp; try rfl)); intro gb307 hg w7 hbox hb; have BK307 := ka (hbox); have GW307 := ka (zG hg (zL HB.out)); replace HB := ka (below_step (zL HB.out) hb); clear hb hbox hg) | ((with_reducible refine gate_dst (N := 4) rfl ?_); refine box_event ?hg (N := 4) ?hd (cs := #[.int .i64 a1_0, .string a1_1, .bool a1_2, .int .i64 a1_3]) (t := 49) ?hr ?_; (case hd => rfl); (case hg => rfl); (case hr => (go_simp; try rfl)); intro gb308 hg w8 hbox hb; have BK308 := ka (hbox); have GW308 := ka (zG hg (zL HB.out)); replace HB := ka (below_step (zL HB.out) hb); have NB307_308 := ka (zNK hg BK307.out); have NB308_307 := ka (zOK hg BK307.out); replace BK307 := ka (zB BK307.out hb); clear hb hbox hg) | ((with_reducible refine gate_dst (N := 6) rfl ?_); refine box_event ?hg (N := 6) ?hd (cs := #[.int .i64 0, .slice none 0 0, .slice none 0 0]) (t := 28) ?hr ?_; (case hd => rfl); (case hg => rfl); (case hr => (go_simp; try rfl)); intro gb309 hg w9 hbox hb; have BK309 := ka (hbox); have GW309 := ka (zG hg (zL HB.out)); replace HB := ka (below_step (zL HB.out) hb); have NB307_309 := ka (zNK hg BK307.out); have NB309_307 := ka (zOK hg BK307.out); replace BK307 := ka (zB BK307.out hb); have NB308_309 := ka (zNK hg BK308.out); have NB309_308 := ka (zOK hg BK308.out); replace BK308 := ka (zB BK308.out hb); clear hb hbox hg; have hnb10 := NB307_308.out; have hnc10 := NB308_307.out; have hnb11 := NB307_309.out; have hnc11 := NB309_307.out; obtain ⟨z12_0, z12_1, z12_2, y12_0, y12_1, y12_2⟩ := zC3 BK307.out; have hnb13 := NB308_309.out; have hnc13 := NB309_308.out; obtain ⟨z14_0, z14_1, z14_2, z14_3, y14_0, y14_1, y14_2, y14_3⟩ := zC4 BK308.out) | ((with_reducible refine gate_callee (f := 9) rfl ?_); refine goesL_ (some 19) rfl rfl Tryd.func9 (by kernel_rfl) rfl #[.agg #[.int .i64 a0_0, .slice A0_1 l0_1.length c0_1, .slice A0_2 l0_2.length c0_2], .int .i64 a1_0, .string a1_1] rfl zA ?_; (with_reducible refine (lease_Held.calls k a0_0 _ _ l0_1 _ _ l0_2 a1_0 a1_1 t310 t311 t312 t313 t314 t315 _ ?side1 ?side2 ?side3 ?side4 A4.out).mono ?_); (case side1 => exact zCS (Kd.C_below HR0_1.out HB.out)); (case side2 => exact HC0_1.out); (case side3 => exact zCS (Kd.C_below HR0_2.out HB.out)); (case side4 => exact HC0_2.out); rintro e w15 ⟨rfl, hb⟩; refine ⟨_, rfl, ?_⟩; replace BK307 := ka (zB BK307.out hb); replace BK308 := ka (zB BK308.out hb); replace BK309 := ka (zB BK309.out hb); replace HB := ka (below_step (zL HB.out) hb); (try clear hb); (try clear hb2); (try clear hk); (try clear hi)) | ((with_reducible refine gate_dst (N := 9) rfl ?_); refine box_event ?hg (N := 9) ?hd (cs := #[.int .i64 0, .string ⟨#[]⟩, .bool false, .int .i64 0, .int .i64 0]) (t := 42) ?hr ?_; (case hd => rfl); (case hg => rfl); (case hr => (go_simp; try rfl)); intro gb316 hg w16 hbox hb; have BK316 := ka (hbox); have GW316 := ka (zG hg (zL HB.out)); replace HB := ka (below_step (zL HB.out) hb); have NB307_316 := ka (zNK hg BK307.out); have NB316_307 := ka (zOK hg BK307.out); replace BK307 := ka (zB BK307.out hb); have NB308_316 := ka (zNK hg BK308.out); have NB316_308 := ka (zOK hg BK308.out); replace BK308 := ka (zB BK308.out hb); have NB309_316 := ka (zNK hg BK309.out); have NB316_309 := ka (zOK hg BK309.out); replace BK309 := ka (zB BK309.out hb); clear hb hbox hg; have hnb17 := NB316_307.out; have hnc17 := NB307_316.out; have hnb18 := NB316_308.out; have hnc18 := NB308_316.out; have hnb19 := NB316_309.out; have hnc19 := NB309_316.out; obtain ⟨z20_0, z20_1, z20_2, z20_3, z20_4, y20_0, y20_1, y20_2, y20_3, y20_4⟩ := zC5 BK316.out; obtain ⟨z21_0, z21_1, z21_2, y21_0, y21_1, y21_2⟩ := zC3 BK307.out; obtain ⟨z22_0, z22_1, z22_2, z22_3, y22_0, y22_1, y22_2, y22_3⟩ := zC4 BK308.out) | ((with_reducible refine gate_callee (f := 11) rfl ?_); refine goesL_ (some 26) rfl rfl Tryd.func11 (by kernel_rfl) rfl #[.agg #[.int .i64 a0_0, .slice A0_1 l0_1.length c0_1, .slice A0_2 l0_2.length c0_2], .int .i64 a1_0] rfl zA ?_; (with_reducible refine (lease_Waits.calls k a0_0 _ _ l0_1 _ _ l0_2 a1_0 t317 t318 t319 t320 t321 _ ?side1 ?side2 ?side3 ?side4 A5.out).mono ?_); (case side1 => exact Kd.C_below HR0_1.out (zL HB.out)); (case side2 => exact HC0_1.out); (case side3 => exact Kd.C_below HR0_2.out (zL HB.out)); (case side4 => exact HC0_2.out); rintro e w23 ⟨rfl, hb⟩; refine ⟨_, rfl, ?_⟩; replace BK307 := ka (zB BK307.out hb); replace BK308 := ka (zB BK308.out hb); replace BK309 := ka (zB BK309.out hb); replace BK316 := ka (blk_below (g := gb316) (o := .cells #[.int .i64 t310, .string t311, .bool t312, .int .i64 t313, .int .i64 t314] 42 (0, 0)) (zP5 BK316.out) hb); replace HB := ka (below_step (zL HB.out) hb); (try clear hb); (try clear hb2); (try clear hk); (try clear hi)) | ((with_reducible refine gate_dst (N := 11) rfl ?_); refine box_event ?hg (N := 11) ?hd (cs := #[.int .i64 0, .string ⟨#[]⟩, .bool false, .int .i64 0]) (t := 49) ?hr ?_; (case hd => rfl); (case hg => rfl); (case hr => (go_simp; try rfl)); intro gb322 hg w24 hbox hb; have BK322 := ka (hbox); have GW322 := ka (zG hg (zL HB.out)); replace HB := ka (below_step (zL HB.out) hb); have NB307_322 := ka (zNK hg BK307.out); have NB322_307 := ka (zOK hg BK307.out); replace BK307 := ka (zB BK307.out hb); have NB308_322 := ka (zNK hg BK308.out); have NB322_308 := ka (zOK hg BK308.out); replace BK308 := ka (zB BK308.out hb); have NB309_322 := ka (zNK hg BK309.out); have NB322_309 := ka (zOK hg BK309.out); replace BK309 := ka (zB BK309.out hb); have NB316_322 := ka (zNK hg BK316.out); have NB322_316 := ka (zOK hg BK316.out); replace BK316 := ka (zB BK316.out hb); clear hb hbox hg; have hnb25 := NB322_307.out; have hnc25 := NB307_322.out; have hnb26 := NB322_308.out; have hnc26 := NB308_322.out; have hnb27 := NB322_309.out; have hnc27 := NB309_322.out; have hnb28 := NB322_316.out; have hnc28 := NB316_322.out; obtain ⟨z29_0, z29_1, z29_2, z29_3, y29_0, y29_1, y29_2, y29_3⟩ := zC4 BK322.out))
 (try simp only [Act.put, List.setIfInBounds_toArray, List.set_cons_zero, List.set_cons_succ])
 go_cut [29] (fun v29 wc => ∃ (kq : Nat) (x29_5 : Bool), v29 = .bool x29_5 ∧ Aside0 (lease_Take.j0 kq a2 t315 t321 x29_5 a0_0 l0_1 l0_2 a1_0 a1_1 a1_2 a1_3 t310 t311 t312 t313 t314 = some (r1, r2, r3, r4, r5)) ∧ Aside0 (kq ≤ k) ∧ Aside0 (wc.heap[gb307]? = some (.cells #[.int .i64 a0_0, (.slice A0_1 l0_1.length c0_1), (.slice A0_2 l0_2.length c0_2)] 28 (0, 0))) ∧ Aside0 (wc.heap[gb308]? = some (.cells #[.int .i64 a1_0, .string a1_1, .bool a1_2, .int .i64 a1_3] 49 (0, 0))) ∧ Aside0 (wc.heap[gb309]? = some (.cells #[.int .i64 0, (.slice none 0 0), (.slice none 0 0)] 28 (0, 0))) ∧ Aside0 (wc.heap[gb316]? = some (.cells #[.int .i64 t310, .string t311, .bool t312, .int .i64 t313, .int .i64 t314] 42 (0, 0))) ∧ Aside0 (wc.heap[gb322]? = some (.cells #[.int .i64 t317, .string t318, .bool t319, .int .i64 t320] 49 (0, 0))) ∧ Aside0 (Below w.heap.size w wc))
 case first =>
  have H := HC6.out
  clear HC6
  by_cases c30 : a1_0 < 1
  ·rw [if_pos c30] at H
   have c30b0 := zdt c30
   clear c30
   (first | rw [c30b0] | (simp only [i64_w, i32_w]; rw [c30b0]) | rw [isE_ c30b0] | skip)
   have H' := ka H
   clear H
   have hnb31 := NB308_307.out
   have hnc31 := NB307_308.out
   have hnb32 := NB308_309.out
   have hnc32 := NB309_308.out
   have hnb33 := NB308_316.out
   have hnc33 := NB316_308.out
   have hnb34 := NB308_322.out
   have hnc34 := NB322_308.out
   obtain ⟨z35_0, z35_1, z35_2, z35_3, y35_0, y35_1, y35_2, y35_3⟩ := zC4 BK308.out
   go_wp2
   go_meet
   case rel => exact ⟨_, (true), zS, H', ⟨by first | omega | exact Nat.le_refl _⟩, ⟨zK BK307.out⟩, ⟨zK BK308.out⟩, ⟨zK BK309.out⟩, ⟨zK BK316.out⟩, ⟨zP4 BK322.out⟩, ⟨zL HB.out⟩⟩
  rw [if_neg c30] at H
  have c30b0 := zdf c30
  clear c30
  (first | rw [c30b0] | (simp only [i64_w, i32_w]; rw [c30b0]) | rw [isE_ c30b0] | skip)
  by_cases c36 : a1_0 > 1000
  ·rw [if_pos c36] at H
   have c36b0 : decide (1000 < a1_0) = true := zdt c36
   clear c36
   have H' := ka H
   clear H
   have hnb37 := NB308_307.out
   have hnc37 := NB307_308.out
   have hnb38 := NB308_309.out
   have hnc38 := NB309_308.out
   have hnb39 := NB308_316.out
   have hnc39 := NB316_308.out
   have hnb40 := NB308_322.out
   have hnc40 := NB322_308.out
   obtain ⟨z41_0, z41_1, z41_2, z41_3, y41_0, y41_1, y41_2, y41_3⟩ := zC4 BK308.out
   go_wp2
   go_meet
   case rel => exact ⟨_, (true), zS, H', ⟨by first | omega | exact Nat.le_refl _⟩, ⟨zK BK307.out⟩, ⟨zK BK308.out⟩, ⟨zK BK309.out⟩, ⟨zK BK316.out⟩, ⟨zP4 BK322.out⟩, ⟨zL HB.out⟩⟩
  rw [if_neg c36] at H
  have c36b0 : decide (1000 < a1_0) = false := zdf c36
  clear c36
  replace H := Option.bind_eq_some_iff.mp H
  obtain ⟨t323, A420, H⟩ := H
  try dsimp only at H
  have A42 := ka A420
  clear A420
  by_cases c43 : t323 = true
  ·subst c43
   rw [if_pos rfl] at H
   replace H := Option.bind_eq_some_iff.mp H
   obtain ⟨t324, A440, H⟩ := H
   try dsimp only at H
   have A44 := ka A440
   clear A440
   by_cases c45 : t324 = true
   ·subst c45
    rw [if_pos rfl] at H
    replace H := Option.bind_eq_some_iff.mp H
    obtain ⟨t325, A460, H⟩ := H
    try dsimp only at H
    have A46 := ka A460
    clear A460
    have H' := ka H
    clear H
    have hnb47 := NB308_307.out
    have hnc47 := NB307_308.out
    have hnb48 := NB308_309.out
    have hnc48 := NB309_308.out
    have hnb49 := NB308_316.out
    have hnc49 := NB316_308.out
    have hnb50 := NB308_322.out
    have hnc50 := NB322_308.out
    obtain ⟨z51_0, z51_1, z51_2, z51_3, y51_0, y51_1, y51_2, y51_3⟩ := zC4 BK308.out
    go_wp2_with (first | (go_at_call 32; (with_reducible refine (text_Path.calls k a1_1 true _ A42.out).mono ?_); rintro e w52 ⟨rfl, hb⟩; replace BK307 := ka (zB BK307.out hb); replace BK308 := ka (zB BK308.out hb); replace BK309 := ka (zB BK309.out hb); replace BK316 := ka (zB BK316.out hb); replace BK322 := ka (blk_below (g := gb322) (o := .cells #[.int .i64 t317, .string t318, .bool t319, .int .i64 t320] 49 (0, 0)) (zP4 BK322.out) hb); replace HB := ka (below_step (zL HB.out) hb); (try clear hb); (try clear hb2); (try clear hk); (try clear hi); obtain ⟨z53_0, z53_1, z53_2, z53_3, y53_0, y53_1, y53_2, y53_3⟩ := zC4 BK308.out) | (go_at_call 33; (with_reducible refine (lease_lives.calls a1_3 true _ A44.out).mono ?_); rintro e w' ⟨rfl, ⟨nd, rfl⟩⟩) | (go_at_call 34; (with_reducible refine (lease_time.calls a2 t325 _ A46.out).mono ?_); rintro e w' ⟨rfl, ⟨nd, rfl⟩⟩))
    go_meet
    case rel => exact ⟨_, (!t325), zS, H', ⟨by first | omega | exact Nat.le_refl _⟩, ⟨zK BK307.out⟩, ⟨zK BK308.out⟩, ⟨zK BK309.out⟩, ⟨zK BK316.out⟩, ⟨zK BK322.out⟩, ⟨zL HB.out⟩⟩
   replace c45 := Bool.eq_false_iff.mpr c45
   subst c45
   rw [if_neg (show ¬ (false = true) by decide)] at H
   have H' := ka H
   clear H
   have hnb54 := NB308_307.out
   have hnc54 := NB307_308.out
   have hnb55 := NB308_309.out
   have hnc55 := NB309_308.out
   have hnb56 := NB308_316.out
   have hnc56 := NB316_308.out
   have hnb57 := NB308_322.out
   have hnc57 := NB322_308.out
   obtain ⟨z58_0, z58_1, z58_2, z58_3, y58_0, y58_1, y58_2, y58_3⟩ := zC4 BK308.out
   go_wp2_with (first | (go_at_call 32; (with_reducible refine (text_Path.calls k a1_1 true _ A42.out).mono ?_); rintro e w59 ⟨rfl, hb⟩; replace BK307 := ka (zB BK307.out hb); replace BK308 := ka (zB BK308.out hb); replace BK309 := ka (zB BK309.out hb); replace BK316 := ka (zB BK316.out hb); replace BK322 := ka (blk_below (g := gb322) (o := .cells #[.int .i64 t317, .string t318, .bool t319, .int .i64 t320] 49 (0, 0)) (zP4 BK322.out) hb); replace HB := ka (below_step (zL HB.out) hb); (try clear hb); (try clear hb2); (try clear hk); (try clear hi); obtain ⟨z60_0, z60_1, z60_2, z60_3, y60_0, y60_1, y60_2, y60_3⟩ := zC4 BK308.out) | (go_at_call 33; (with_reducible refine (lease_lives.calls a1_3 false _ A44.out).mono ?_); rintro e w' ⟨rfl, ⟨nd, rfl⟩⟩))
   go_meet
   case rel => exact ⟨_, (true), zS, H', ⟨by first | omega | exact Nat.le_refl _⟩, ⟨zK BK307.out⟩, ⟨zK BK308.out⟩, ⟨zK BK309.out⟩, ⟨zK BK316.out⟩, ⟨zK BK322.out⟩, ⟨zL HB.out⟩⟩
  replace c43 := Bool.eq_false_iff.mpr c43
  subst c43
  rw [if_neg (show ¬ (false = true) by decide)] at H
  have H' := ka H
  clear H
  have hnb61 := NB308_307.out
  have hnc61 := NB307_308.out
  have hnb62 := NB308_309.out
  have hnc62 := NB309_308.out
  have hnb63 := NB308_316.out
  have hnc63 := NB316_308.out
  have hnb64 := NB308_322.out
  have hnc64 := NB322_308.out
  obtain ⟨z65_0, z65_1, z65_2, z65_3, y65_0, y65_1, y65_2, y65_3⟩ := zC4 BK308.out
  go_wp2_with (first | (go_at_call 32; (with_reducible refine (text_Path.calls k a1_1 false _ A42.out).mono ?_); rintro e w66 ⟨rfl, hb⟩; replace BK307 := ka (zB BK307.out hb); replace BK308 := ka (zB BK308.out hb); replace BK309 := ka (zB BK309.out hb); replace BK316 := ka (zB BK316.out hb); replace BK322 := ka (blk_below (g := gb322) (o := .cells #[.int .i64 t317, .string t318, .bool t319, .int .i64 t320] 49 (0, 0)) (zP4 BK322.out) hb); replace HB := ka (below_step (zL HB.out) hb); (try clear hb); (try clear hb2); (try clear hk); (try clear hi)))
  go_meet
  case rel => exact ⟨_, (true), zS, H', ⟨by first | omega | exact Nat.le_refl _⟩, ⟨zK BK307.out⟩, ⟨zK BK308.out⟩, ⟨zK BK309.out⟩, ⟨zK BK316.out⟩, ⟨zK BK322.out⟩, ⟨zL HB.out⟩⟩
 case rest =>
  clear HC6
  try clear z12_0 z12_1 z12_2
  try clear z14_0 z14_1 z14_2 z14_3
  try clear z20_0 z20_1 z20_2 z20_3 z20_4
  try clear z21_0 z21_1 z21_2
  try clear z22_0 z22_1 z22_2 z22_3
  try clear z29_0 z29_1 z29_2 z29_3
  try clear y12_0 y12_1 y12_2
  try clear y14_0 y14_1 y14_2 y14_3
  try clear y20_0 y20_1 y20_2 y20_3 y20_4
  try clear y21_0 y21_1 y21_2
  try clear y22_0 y22_1 y22_2 y22_3
  try clear y29_0 y29_1 y29_2 y29_3
  obtain ⟨kq, x29_5, rfl, HA, HJ5, BK307, BK308, BK309, BK316, BK322, HB⟩ := hcut
  cases kq with
  | zero => exact absurd HA.out (by simp [lease_Take.j0])
  | succ kj5 =>
   have H := HA.out
   clear HA
   simp only [lease_Take.j0] at H
   by_cases c67 : x29_5 = true
   ·subst c67
    rw [if_pos rfl] at H
    replace H := zs5 H
    obtain ⟨rfl, rfl, rfl, rfl, rfl⟩ := H
    have hnb68 := NB309_307.out
    have hnc68 := NB307_309.out
    have hnb69 := NB309_308.out
    have hnc69 := NB308_309.out
    have hnb70 := NB309_316.out
    have hnc70 := NB316_309.out
    have hnb71 := NB309_322.out
    have hnc71 := NB322_309.out
    obtain ⟨z72_0, z72_1, z72_2, y72_0, y72_1, y72_2⟩ := zC3 BK309.out
    go_wp2
    refine bodyPost_ret (results_ctt rfl _ _ gb309 28 #[.int .i64 0, .slice none 0 0, .slice none 0 0] (0, 0) _ rfl (zP3 BK309.out) Tryd.underlying28 rfl (by kernel_rfl)) rfl ?_
    exact ⟨_, _, zE, zNl, zNl, zL HB.out⟩
   replace c67 := Bool.eq_false_iff.mpr c67
   subst c67
   rw [if_neg (show ¬ (false = true) by decide)] at H
   have HC73 := ka H
   clear H
   go_upto_region 5 with (fail)
   go_cut [56] (fun v56 wc => ∃ (kq : Nat) (x56_72 : Bool), v56 = .bool x56_72 ∧ Aside0 (lease_Take.j1 kq a2 t315 t321 x56_72 a0_0 l0_1 l0_2 a1_0 a1_1 a1_2 a1_3 = some (r1, r2, r3, r4, r5)) ∧ Aside0 (kq ≤ kj5) ∧ Aside0 (wc.heap[gb307]? = some (.cells #[.int .i64 a0_0, (.slice A0_1 l0_1.length c0_1), (.slice A0_2 l0_2.length c0_2)] 28 (0, 0))) ∧ Aside0 (wc.heap[gb308]? = some (.cells #[.int .i64 a1_0, .string a1_1, .bool a1_2, .int .i64 a1_3] 49 (0, 0))) ∧ Aside0 (wc.heap[gb309]? = some (.cells #[.int .i64 0, (.slice none 0 0), (.slice none 0 0)] 28 (0, 0))) ∧ Aside0 (wc.heap[gb316]? = some (.cells #[.int .i64 t310, .string t311, .bool t312, .int .i64 t313, .int .i64 t314] 42 (0, 0))) ∧ Aside0 (wc.heap[gb322]? = some (.cells #[.int .i64 t317, .string t318, .bool t319, .int .i64 t320] 49 (0, 0))) ∧ Aside0 (Below w.heap.size w wc))
   case first =>
    have H := HC73.out
    clear HC73
    by_cases c74 : t315 = true
    ·subst c74
     rw [if_pos rfl] at H
     by_cases c75 : a1_2 = true
     ·subst c75
      rw [if_pos rfl] at H
      have H' := ka H
      clear H
      have hnb76 := NB308_307.out
      have hnc76 := NB307_308.out
      have hnb77 := NB308_309.out
      have hnc77 := NB309_308.out
      have hnb78 := NB308_316.out
      have hnc78 := NB316_308.out
      have hnb79 := NB308_322.out
      have hnc79 := NB322_308.out
      obtain ⟨z80_0, z80_1, z80_2, z80_3, y80_0, y80_1, y80_2, y80_3⟩ := zC4 BK308.out
      have hnb81 := NB316_307.out
      have hnc81 := NB307_316.out
      have hnb82 := NB316_309.out
      have hnc82 := NB309_316.out
      have hnb83 := NB316_322.out
      have hnc83 := NB322_316.out
      obtain ⟨z84_0, z84_1, z84_2, z84_3, z84_4, y84_0, y84_1, y84_2, y84_3, y84_4⟩ := zC5 BK316.out
      go_wp2
      go_meet
      case rel => exact ⟨_, (!t312), zS, H', ⟨by have := HJ5.out; first | omega | exact Nat.le_refl _⟩, ⟨zK BK307.out⟩, ⟨zK BK308.out⟩, ⟨zK BK309.out⟩, ⟨zK BK316.out⟩, ⟨zK BK322.out⟩, ⟨zL HB.out⟩⟩
     replace c75 := Bool.eq_false_iff.mpr c75
     subst c75
     rw [if_neg (show ¬ (false = true) by decide)] at H
     have H' := ka H
     clear H
     have hnb85 := NB308_307.out
     have hnc85 := NB307_308.out
     have hnb86 := NB308_309.out
     have hnc86 := NB309_308.out
     have hnb87 := NB308_316.out
     have hnc87 := NB316_308.out
     have hnb88 := NB308_322.out
     have hnc88 := NB322_308.out
     obtain ⟨z89_0, z89_1, z89_2, z89_3, y89_0, y89_1, y89_2, y89_3⟩ := zC4 BK308.out
     go_wp2
     go_meet
     case rel => exact ⟨_, (false), zS, H', ⟨by have := HJ5.out; first | omega | exact Nat.le_refl _⟩, ⟨zK BK307.out⟩, ⟨zK BK308.out⟩, ⟨zK BK309.out⟩, ⟨zK BK316.out⟩, ⟨zK BK322.out⟩, ⟨zL HB.out⟩⟩
    replace c74 := Bool.eq_false_iff.mpr c74
    subst c74
    rw [if_neg (show ¬ (false = true) by decide)] at H
    have H' := ka H
    clear H
    go_wp2
    go_meet
    case rel => exact ⟨_, (false), zS, H', ⟨by have := HJ5.out; first | omega | exact Nat.le_refl _⟩, ⟨zK BK307.out⟩, ⟨zK BK308.out⟩, ⟨zK BK309.out⟩, ⟨zK BK316.out⟩, ⟨zK BK322.out⟩, ⟨zL HB.out⟩⟩
   case rest =>
    clear HC73
    try clear c67
    try clear z12_0 z12_1 z12_2
    try clear z14_0 z14_1 z14_2 z14_3
    try clear z20_0 z20_1 z20_2 z20_3 z20_4
    try clear z21_0 z21_1 z21_2
    try clear z22_0 z22_1 z22_2 z22_3
    try clear z29_0 z29_1 z29_2 z29_3
    try clear y12_0 y12_1 y12_2
    try clear y14_0 y14_1 y14_2 y14_3
    try clear y20_0 y20_1 y20_2 y20_3 y20_4
    try clear y21_0 y21_1 y21_2
    try clear y22_0 y22_1 y22_2 y22_3
    try clear y29_0 y29_1 y29_2 y29_3
    obtain ⟨kq, x56_72, rfl, HA, HJ72, BK307, BK308, BK309, BK316, BK322, HB⟩ := hcut
    cases kq with
    | zero => exact absurd HA.out (by simp [lease_Take.j1])
    | succ kj72 =>
     have H := HA.out
     clear HA
     simp only [lease_Take.j1] at H
     by_cases c90 : x56_72 = true
     case' pos =>
      subst c90
     case' neg =>
      replace c90 := Bool.eq_false_iff.mpr c90
      subst c90
      rw [if_neg (show ¬ (false = true) by decide)] at H
      by_cases c96 : t315 = true
      case pos =>
       subst c96
       rw [if_pos rfl] at H
       replace H := zs5 H
       obtain ⟨rfl, rfl, rfl, rfl, rfl⟩ := H
       have hnb97 := NB309_307.out
       have hnc97 := NB307_309.out
       have hnb98 := NB309_308.out
       have hnc98 := NB308_309.out
       have hnb99 := NB309_316.out
       have hnc99 := NB316_309.out
       have hnb100 := NB309_322.out
       have hnc100 := NB322_309.out
       obtain ⟨z101_0, z101_1, z101_2, y101_0, y101_1, y101_2⟩ := zC3 BK309.out
       go_wp2
       refine bodyPost_ret (results_ctt rfl _ _ gb309 28 #[.int .i64 0, .slice none 0 0, .slice none 0 0] (0, 0) _ rfl (zP3 BK309.out) Tryd.underlying28 rfl (by kernel_rfl)) rfl ?_
       exact ⟨_, _, zE, zNl, zNl, zL HB.out⟩
      case' neg =>
       replace c96 := Bool.eq_false_iff.mpr c96
       subst c96
       rw [if_neg (show ¬ (false = true) by decide)] at H
       by_cases c102 : t321 = true
       case neg =>
        replace c102 := Bool.eq_false_iff.mpr c102
        subst c102
        rw [if_neg (show ¬ (false = true) by decide)] at H
        by_cases c108 : (l0_2.length : Int) ≥ 100
        ·rw [if_pos c108] at H
         have c108b0 : decide (100 ≤ (l0_2.length : Int)) = true := zdt c108
         have c108b1 : decide (100 ≤ l0_2.length) = true := decide_eq_true (by omega)
         clear c108
         replace H := zs5 H
         obtain ⟨rfl, rfl, rfl, rfl, rfl⟩ := H
         have hnb109 := NB307_308.out
         have hnc109 := NB308_307.out
         have hnb110 := NB307_309.out
         have hnc110 := NB309_307.out
         have hnb111 := NB307_316.out
         have hnc111 := NB316_307.out
         have hnb112 := NB307_322.out
         have hnc112 := NB322_307.out
         obtain ⟨z113_0, z113_1, z113_2, y113_0, y113_1, y113_2⟩ := zC3 BK307.out
         have hnb114 := NB309_308.out
         have hnc114 := NB308_309.out
         have hnb115 := NB309_316.out
         have hnc115 := NB316_309.out
         have hnb116 := NB309_322.out
         have hnc116 := NB322_309.out
         obtain ⟨z117_0, z117_1, z117_2, y117_0, y117_1, y117_2⟩ := zC3 BK309.out
         go_wp2
         refine bodyPost_ret (results_ctt rfl _ _ gb309 28 #[.int .i64 0, .slice none 0 0, .slice none 0 0] (0, 0) _ rfl (zP3 BK309.out) Tryd.underlying28 rfl (by kernel_rfl)) rfl ?_
         exact ⟨_, _, zE, zNl, zNl, zL HB.out⟩
        ·rw [if_neg c108] at H
         have c108b0 : decide (100 ≤ (l0_2.length : Int)) = false := zdf c108
         have c108b1 : decide (100 ≤ l0_2.length) = false := decide_eq_false (by omega)
         clear c108
         replace H := Option.bind_eq_some_iff.mp H
         obtain ⟨t326, A1180, H⟩ := H
         try dsimp only at H
         have A118 := ka A1180
         clear A1180
         obtain ⟨y329, hy329⟩ : ∃ y_ : List (S49), y_ = (([(⟨a1_0, a1_1, a1_2, a1_3⟩ : S49)] : List (S49))) := ⟨_, rfl⟩
         replace H : (if t326.length + y329.length < 3518437208883 then ((lease_Table_settle.f kj72 a0_0 l0_1 (t326 ++ y329) a2).bind fun bt335 => ((lease_Held.f kj72 bt335.1 bt335.2.1 bt335.2.2 a1_0 a1_1).bind fun bt342 => (some (bt335.1, bt335.2.1, bt335.2.2, bt342.2.2.2.1, 0)))) else (none)) = some (r1, r2, r3, r4, r5) := zH hy329 H
         have Ny329 := ka hy329
         clear hy329
         by_cases c119 : t326.length + y329.length < 3518437208883
         ·rw [if_pos c119] at H
          have LMc119 := ka c119
          clear c119
          obtain ⟨y332, hy332⟩ : ∃ y_ : List (S49), y_ = (t326 ++ y329) := ⟨_, rfl⟩
          replace H : ((lease_Table_settle.f kj72 a0_0 l0_1 y332 a2).bind fun bt335 => ((lease_Held.f kj72 bt335.1 bt335.2.1 bt335.2.2 a1_0 a1_1).bind fun bt342 => (some (bt335.1, bt335.2.1, bt335.2.2, bt342.2.2.2.1, 0)))) = some (r1, r2, r3, r4, r5) := zH hy332 H
          have Ny332 := ka hy332
          clear hy332
          replace H := Option.bind_eq_some_iff.mp H
          obtain ⟨⟨t335, t336, t339⟩, A1200, H⟩ := H
          try dsimp only at H
          have A120 := ka A1200
          clear A1200
          replace H := Option.bind_eq_some_iff.mp H
          obtain ⟨⟨t342, t343, t344, t345, t346, t347⟩, A1210, H⟩ := H
          try dsimp only at H
          have A121 := ka A1210
          clear A1210
          replace H := zs5 H
          obtain ⟨rfl, rfl, rfl, rfl, rfl⟩ := H
          have hnb122 := NB307_308.out
          have hnc122 := NB308_307.out
          have hnb123 := NB307_309.out
          have hnc123 := NB309_307.out
          have hnb124 := NB307_316.out
          have hnc124 := NB316_307.out
          have hnb125 := NB307_322.out
          have hnc125 := NB322_307.out
          obtain ⟨z126_0, z126_1, z126_2, y126_0, y126_1, y126_2⟩ := zC3 BK307.out
          try go_wp2
          replace BK307 := ka (blk_drew BK307.out)
          replace BK308 := ka (blk_drew BK308.out)
          replace BK309 := ka (blk_drew BK309.out)
          replace BK316 := ka (blk_drew BK316.out)
          replace BK322 := ka (blk_drew BK322.out)
          replace HB := ka (below_drew1 HB.out)
          refine start_ (n := 8) (S := fun w' => w'.cell? ⟨gb307, 0, none⟩ = some (.int .i64 a0_0) ∧ w'.cell? ⟨gb307, 1, none⟩ = some (.slice A0_1 l0_1.length c0_1) ∧ w'.cell? ⟨gb307, 2, none⟩ = some (.slice A0_2 l0_2.length c0_2) ∧ w'.cell? ⟨gb308, 0, none⟩ = some (.int .i64 a1_0) ∧ w'.cell? ⟨gb308, 1, none⟩ = some (.string a1_1) ∧ w'.cell? ⟨gb308, 2, none⟩ = some (.bool a1_2) ∧ w'.cell? ⟨gb308, 3, none⟩ = some (.int .i64 a1_3)) (ds := [7]) #[false, false, false, false, false, false, false, false] (by kernel_rfl) rfl rfl ⟨zc BK307.out 0, zc BK307.out 1, zc BK307.out 2, zc BK308.out 0, zc BK308.out 1, zc BK308.out 2, zc BK308.out 3⟩ (fun hHeld => ?_); refine with_tabW lease_Take.tab13 lease_Take.bits13 (fun HT_ HW_ => ?_)
          generalize wc.drew = w127 at BK307 BK308 BK309 BK316 BK322 HB hHeld ⊢
          refine zpp 0 (N := some 80) HT_ (h := ?_)
          refine zpt 1 (N := some 81) HT_ HW_ hHeld (h := ?_)
          refine zpt 3 (N := some 83) HT_ HW_ hHeld (h := ?_)
          refine join_ (σ := Value × Value) 3 #[true, true, true, true, true, false, false, false] (fun s_ => [(82, s_.1), (84, s_.2)]) (fun s_ w' => (w'.cell? ⟨gb307, 0, none⟩ = some (.int .i64 a0_0) ∧ w'.cell? ⟨gb307, 1, none⟩ = some (.slice A0_1 l0_1.length c0_1) ∧ w'.cell? ⟨gb307, 2, none⟩ = some (.slice A0_2 l0_2.length c0_2) ∧ w'.cell? ⟨gb308, 0, none⟩ = some (.int .i64 a1_0) ∧ w'.cell? ⟨gb308, 1, none⟩ = some (.string a1_1) ∧ w'.cell? ⟨gb308, 2, none⟩ = some (.bool a1_2) ∧ w'.cell? ⟨gb308, 3, none⟩ = some (.int .i64 a1_3)) ∧ (Kd.R k49 49 w' w.heap.size (fun k_ => some k_ ≠ (s_.2 : Value).ownBlock ∧ k_ ≠ gb308 ∧ k_ ≠ gb322) s_.1 t326) ∧ (Kd.R k49 49 w' w.heap.size (fun k_ => some k_ ≠ (s_.1 : Value).ownBlock ∧ k_ ≠ gb308 ∧ k_ ≠ gb322) s_.2 y329) ∧ (w'.heap[gb307]? = some (.cells #[.int .i64 a0_0, .slice A0_1 l0_1.length c0_1, .slice A0_2 l0_2.length c0_2] 28 (0, 0))) ∧ (w'.heap[gb308]? = some (.cells #[.int .i64 a1_0, .string a1_1, .bool a1_2, .int .i64 a1_3] 49 (0, 0))) ∧ (w'.heap[gb309]? = some (.cells #[.int .i64 0, .slice none 0 0, .slice none 0 0] 28 (0, 0))) ∧ (w'.heap[gb316]? = some (.cells #[.int .i64 t310, .string t311, .bool t312, .int .i64 t313, .int .i64 t314] 42 (0, 0))) ∧ (w'.heap[gb322]? = some (.cells #[.int .i64 t317, .string t318, .bool t319, .int .i64 t320] 49 (0, 0))) ∧ (Below w.heap.size w w')) ?_ ?_
          rotate_left
          ·intro hCont
           refine two_ (i := 2) (j := 4) (Ni := some 82) (Nj := some 84) #[true, true, true, true, false, false, false, false] #[true, true, false, true, true, false, false, false] rfl rfl rfl rfl (two_of HT_.out (by kernel_rfl)) (by decide) (by decide) (fun K hK => ?_) (fun K hK => ?_)
           ·skip
            refine goes_ Tryd.func35 (by kernel_rfl) rfl #[.slice A0_2 l0_2.length c0_2] (by rfl) rfl rfl zA ?_
            with_reducible refine (lease_Ask_35.calls _ _ l0_2 t326 _ ?side1 ?side2 A118.out).mono ?_
            (case side1 => exact zCS (Kd.C_below HR0_2.out HB.out))
            (case side2 => exact HC0_2.out)
            rintro e w128 ⟨v327, rfl, ho0, hb⟩
            refine ⟨_, rfl, ?_⟩
            have HO328 := ka (Kd.R_lower (Kd.R_newB (Kd.R_newB ho0 (g := gb308) (o := .cells #[.int .i64 a1_0, .string a1_1, .bool a1_2, .int .i64 a1_3] 49 (0, 0)) (zK BK308.out)) (g := gb322) (o := .cells #[.int .i64 t317, .string t318, .bool t319, .int .i64 t320] 49 (0, 0)) (zK BK322.out)) (below_size (zL HB.out)))
            replace BK307 := ka (zB BK307.out hb)
            replace BK308 := ka (zB BK308.out hb)
            replace BK309 := ka (zB BK309.out hb)
            replace BK316 := ka (zB BK316.out hb)
            replace BK322 := ka (zB BK322.out hb)
            replace HB := ka (below_step (zL HB.out) hb)
            (try clear hb)
            (try clear hb2)
            (try clear hk)
            (try clear hi)
            (try clear ho0)
            refine hK.out _ _ ⟨zc BK307.out 0, zc BK307.out 1, zc BK307.out 2, zc BK308.out 0, zc BK308.out 1, zc BK308.out 2, zc BK308.out 3⟩ (fun hHeld => ?_)
            clear hK K
            refine znm (N := some 82) (h := ?_)
            refine one_ (i := 4) (N := some 84) #[true, true, true, true, true, false, false, false] rfl rfl (one_of HT_.out (by kernel_rfl)) (by decide) (fun K hK => ?_)
            refine Kd.R_lit_step k49 _ 49 ?hg (N := 84) ?hd (xs := ([(⟨a1_0, a1_1, a1_2, a1_3⟩ : S49)] : List (S49))) (inner := [.int .i64 a1_0, .string a1_1, .bool a1_2, .int .i64 a1_3]) (ok := fun _ => True) (okp := fun _ => True) ?hr ?hp (fun _ hk => hk) trivial (Below.refl _ _) (Nat.le_refl _) (by simp) ?_; (case hd => rfl); (case hg => rfl); (case hr => (go_simp; try rfl)); (case hp => exact (Reps.c4 (show Kd.M k49 _ _ _ (⟨a1_0, a1_1, a1_2, a1_3⟩ : S49) [.int .i64 a1_0, .string a1_1, .bool a1_2, .int .i64 a1_3] from (k49_mkM _ _ _ (⟨a1_0, a1_1, a1_2, a1_3⟩ : S49) )) (Reps.none _ _)))
            intro v330 w129 ho130 hb hg_ hnew_
            clear hg_ hnew_
            (first | rw [← Ny329.out] at ho130 | (simp only [Int.reduceToNat] at ho130; rw [← Ny329.out] at ho130))
            have HO331 := ka (Kd.R_lower (Kd.R_newB (Kd.R_newB (Kd.R_new' ho130 (Kd.R_lt (zR HO328.out))) (g := gb308) (o := .cells #[.int .i64 a1_0, .string a1_1, .bool a1_2, .int .i64 a1_3] 49 (0, 0)) (zK BK308.out)) (g := gb322) (o := .cells #[.int .i64 t317, .string t318, .bool t319, .int .i64 t320] 49 (0, 0)) (zK BK322.out)) (below_size (zL HB.out)))
            replace HO328 := ka (Kd.R_elder' (zR HO328.out) (Kd.R_base ho130) hb)
            replace BK307 := ka (zB BK307.out hb)
            replace BK308 := ka (zB BK308.out hb)
            replace BK309 := ka (zB BK309.out hb)
            replace BK316 := ka (zB BK316.out hb)
            replace BK322 := ka (zB BK322.out hb)
            replace HB := ka (below_step (zL HB.out) hb)
            clear hb ho130
            refine hK.out _ _ ⟨zc BK307.out 0, zc BK307.out 1, zc BK307.out 2, zc BK308.out 0, zc BK308.out 1, zc BK308.out 2, zc BK308.out 3⟩ (fun hHeld => ?_)
            clear hK K
            refine znm (N := some 84) (h := ?_)
            exact norm_ (by simp only [putAll, Act.put, List.setIfInBounds_toArray, List.set_cons_zero, List.set_cons_succ]) (hCont (v327, v330) _ ⟨hHeld, (by (with_reducible repeat (first | apply Kd.R_alloc | apply Kd.R_drewN | apply Kd.R_drew)); exact Kd.R_mono HO328.out (fun _ hk => ⟨hk.2, ⟨hk.1.1.2, hk.1.2⟩⟩)), (by (with_reducible repeat (first | apply Kd.R_alloc | apply Kd.R_drewN | apply Kd.R_drew)); exact Kd.R_mono HO331.out (fun _ hk => ⟨hk.1.1.2, ⟨hk.1.2, hk.2⟩⟩)), (zK BK307.out), (zK BK308.out), (zK BK309.out), (zK BK316.out), (zK BK322.out), (zL HB.out)⟩)
           ·skip
            refine Kd.R_lit_step k49 _ 49 ?hg (N := 84) ?hd (xs := ([(⟨a1_0, a1_1, a1_2, a1_3⟩ : S49)] : List (S49))) (inner := [.int .i64 a1_0, .string a1_1, .bool a1_2, .int .i64 a1_3]) (ok := fun _ => True) (okp := fun _ => True) ?hr ?hp (fun _ hk => hk) trivial (Below.refl _ _) (Nat.le_refl _) (by simp) ?_; (case hd => rfl); (case hg => rfl); (case hr => (go_simp; try rfl)); (case hp => exact (Reps.c4 (show Kd.M k49 _ _ _ (⟨a1_0, a1_1, a1_2, a1_3⟩ : S49) [.int .i64 a1_0, .string a1_1, .bool a1_2, .int .i64 a1_3] from (k49_mkM _ _ _ (⟨a1_0, a1_1, a1_2, a1_3⟩ : S49) )) (Reps.none _ _)))
            intro v330 w128 ho129 hb hg_ hnew_
            clear hg_ hnew_
            (first | rw [← Ny329.out] at ho129 | (simp only [Int.reduceToNat] at ho129; rw [← Ny329.out] at ho129))
            have HO331 := ka (Kd.R_lower (Kd.R_newB (Kd.R_newB ho129 (g := gb308) (o := .cells #[.int .i64 a1_0, .string a1_1, .bool a1_2, .int .i64 a1_3] 49 (0, 0)) (zK BK308.out)) (g := gb322) (o := .cells #[.int .i64 t317, .string t318, .bool t319, .int .i64 t320] 49 (0, 0)) (zK BK322.out)) (below_size (zL HB.out)))
            replace BK307 := ka (zB BK307.out hb)
            replace BK308 := ka (zB BK308.out hb)
            replace BK309 := ka (zB BK309.out hb)
            replace BK316 := ka (zB BK316.out hb)
            replace BK322 := ka (zB BK322.out hb)
            replace HB := ka (below_step (zL HB.out) hb)
            clear hb ho129
            refine hK.out _ _ ⟨zc BK307.out 0, zc BK307.out 1, zc BK307.out 2, zc BK308.out 0, zc BK308.out 1, zc BK308.out 2, zc BK308.out 3⟩ (fun hHeld => ?_)
            clear hK K
            refine znm (N := some 84) (h := ?_)
            refine one_ (i := 2) (N := some 82) #[true, true, true, true, true, false, false, false] rfl rfl (one_of HT_.out (by kernel_rfl)) (by decide) (fun K hK => ?_)
            refine goes_ Tryd.func35 (by kernel_rfl) rfl #[.slice A0_2 l0_2.length c0_2] (by rfl) rfl rfl zA ?_
            with_reducible refine (lease_Ask_35.calls _ _ l0_2 t326 _ ?side1 ?side2 A118.out).mono ?_
            (case side1 => exact zCS (Kd.C_below HR0_2.out HB.out))
            (case side2 => exact HC0_2.out)
            rintro e w130 ⟨v327, rfl, ho0, hb⟩
            refine ⟨_, rfl, ?_⟩
            have HO328 := ka (Kd.R_lower (Kd.R_newB (Kd.R_newB (Kd.R_new' ho0 (Kd.R_lt (zR HO331.out))) (g := gb308) (o := .cells #[.int .i64 a1_0, .string a1_1, .bool a1_2, .int .i64 a1_3] 49 (0, 0)) (zK BK308.out)) (g := gb322) (o := .cells #[.int .i64 t317, .string t318, .bool t319, .int .i64 t320] 49 (0, 0)) (zK BK322.out)) (below_size (zL HB.out)))
            replace HO331 := ka (Kd.R_elder' (zR HO331.out) (Kd.R_base ho0) hb)
            replace BK307 := ka (zB BK307.out hb)
            replace BK308 := ka (zB BK308.out hb)
            replace BK309 := ka (zB BK309.out hb)
            replace BK316 := ka (zB BK316.out hb)
            replace BK322 := ka (zB BK322.out hb)
            replace HB := ka (below_step (zL HB.out) hb)
            (try clear hb)
            (try clear hb2)
            (try clear hk)
            (try clear hi)
            (try clear ho0)
            refine hK.out _ _ ⟨zc BK307.out 0, zc BK307.out 1, zc BK307.out 2, zc BK308.out 0, zc BK308.out 1, zc BK308.out 2, zc BK308.out 3⟩ (fun hHeld => ?_)
            clear hK K
            refine znm (N := some 82) (h := ?_)
            exact norm_ (by simp only [putAll, Act.put, List.setIfInBounds_toArray, List.set_cons_zero, List.set_cons_succ]) (hCont (v327, v330) _ ⟨hHeld, (by (with_reducible repeat (first | apply Kd.R_alloc | apply Kd.R_drewN | apply Kd.R_drew)); exact Kd.R_mono HO328.out (fun _ hk => ⟨hk.1.1.2, ⟨hk.1.2, hk.2⟩⟩)), (by (with_reducible repeat (first | apply Kd.R_alloc | apply Kd.R_drewN | apply Kd.R_drew)); exact Kd.R_mono HO331.out (fun _ hk => ⟨hk.2, ⟨hk.1.1.2, hk.1.2⟩⟩)), (zK BK307.out), (zK BK308.out), (zK BK309.out), (zK BK316.out), (zK BK322.out), (zL HB.out)⟩)
          rintro ⟨v327, v330⟩ w131 ⟨hS_, h0_, h1_, h2_, h3_, h4_, h5_, h6_, h7_⟩
          have n0_ : Aside0 (Kd.R k49 49 w131 w.heap.size (fun k_ => some k_ ≠ (v330 : Value).ownBlock ∧ k_ ≠ gb308 ∧ k_ ≠ gb322) v327 t326) := ⟨h0_⟩
          have n1_ : Aside0 (Kd.R k49 49 w131 w.heap.size (fun k_ => some k_ ≠ (v327 : Value).ownBlock ∧ k_ ≠ gb308 ∧ k_ ≠ gb322) v330 y329) := ⟨h1_⟩
          have n2_ : Aside0 (w131.heap[gb307]? = some (.cells #[.int .i64 a0_0, .slice A0_1 l0_1.length c0_1, .slice A0_2 l0_2.length c0_2] 28 (0, 0))) := ⟨h2_⟩
          have n3_ : Aside0 (w131.heap[gb308]? = some (.cells #[.int .i64 a1_0, .string a1_1, .bool a1_2, .int .i64 a1_3] 49 (0, 0))) := ⟨h3_⟩
          have n4_ : Aside0 (w131.heap[gb309]? = some (.cells #[.int .i64 0, .slice none 0 0, .slice none 0 0] 28 (0, 0))) := ⟨h4_⟩
          have n5_ : Aside0 (w131.heap[gb316]? = some (.cells #[.int .i64 t310, .string t311, .bool t312, .int .i64 t313, .int .i64 t314] 42 (0, 0))) := ⟨h5_⟩
          have n6_ : Aside0 (w131.heap[gb322]? = some (.cells #[.int .i64 t317, .string t318, .bool t319, .int .i64 t320] 49 (0, 0))) := ⟨h6_⟩
          have n7_ : Aside0 (Below w.heap.size w w131) := ⟨h7_⟩
          clear BK307
          clear BK308
          clear BK309
          clear BK316
          clear BK322
          clear HB
          clear h0_ h1_ h2_ h3_ h4_ h5_ h6_ h7_
          have HO328 := n0_
          have HO331 := n1_
          have BK307 := n2_
          have BK308 := n3_
          have BK309 := n4_
          have BK316 := n5_
          have BK322 := n6_
          have HB := n7_
          clear n0_ n1_ n2_ n3_ n4_ n5_ n6_ n7_
          have hHeld : w131.cell? ⟨gb307, 0, none⟩ = some (.int .i64 a0_0) ∧ w131.cell? ⟨gb307, 1, none⟩ = some (.slice A0_1 l0_1.length c0_1) ∧ w131.cell? ⟨gb307, 2, none⟩ = some (.slice A0_2 l0_2.length c0_2) ∧ w131.cell? ⟨gb308, 0, none⟩ = some (.int .i64 a1_0) ∧ w131.cell? ⟨gb308, 1, none⟩ = some (.string a1_1) ∧ w131.cell? ⟨gb308, 2, none⟩ = some (.bool a1_2) ∧ w131.cell? ⟨gb308, 3, none⟩ = some (.int .i64 a1_3) := hS_
          obtain ⟨Ao133, co133, eo133⟩ := Kd.R_slice HO331.out
          (first | subst eo133 | (injection eo133 with f1_ f2_ f3_; have f4_ := f1_.symm; have f5_ := f3_.symm; clear f1_ f2_ f3_; subst f4_; subst f5_))
          refine norm_ (a' := ?_) ?_ ?_
          rotate_left
          ·simp only [putAll, Act.put, List.setIfInBounds_toArray, List.set_cons_zero, List.set_cons_succ]
           rfl
          refine one_ (i := 5) (N := some 85) #[true, true, true, true, true, true, false, false] rfl rfl (one_of HT_.out (by kernel_rfl)) (by decide) (fun K hK => ?_)
          refine Kd.R_append_rows_step k49 (w0 := w) w.heap.size (by rfl) (.tmp 82) (.tmp 84) 26 49 (.agg #[(.int .i64 0), (.string ⟨#[]⟩), (.bool false), (.int .i64 0)]) 40 rfl Tryd.underlying26 info49 rfl (by decide) (by omega) v327 t326 y329 _ _ _ (fun k_ => some k_ ≠ (.slice Ao133 y329.length co133 : Value).ownBlock ∧ k_ ≠ gb308 ∧ k_ ≠ gb322) (fun _ => False) rfl rfl ?aO ?aR (fun _ _ h => h) (fun _ h => h.elim) ?aF ?aB ?aS ?aL ?_
          (case aR => repeat (first | exact (Kd.R_reads' HO331.out).2.2 | (with_reducible refine Kd.C_alloc ?_ _) | (with_reducible refine Kd.C_drewN ?_ _) | (with_reducible refine Kd.C_drew ?_)))
          (case aB => exact (zL HB.out))
          (case aF => exact (fun k_ hk => ⟨Kd.fresh' (Kd.R_lt (zR HO331.out)) k_ hk, Kd.freshB (g := gb308) (o := .cells #[.int .i64 a1_0, .string a1_1, .bool a1_2, .int .i64 a1_3] 49 (0, 0)) (zK BK308.out) k_ hk, Kd.freshB (g := gb322) (o := .cells #[.int .i64 t317, .string t318, .bool t319, .int .i64 t320] 49 (0, 0)) (zK BK322.out) k_ hk⟩))
          (case aO => exact (zR HO328.out))
          (case aS => exact (below_size (zL HB.out)))
          (case aL => have := LMc119.out; omega)
          intro v333 w132 ho hb hg hat
          rw [← Ny332.out] at ho
          replace BK307 := ka (blk_grown (g := gb307) (o := .cells #[.int .i64 a0_0, .slice A0_1 l0_1.length c0_1, .slice A0_2 l0_2.length c0_2] 28 (0, 0)) (zK BK307.out) hg (Kd.R_ne HO328.out BK307.out (by decide)))
          replace BK308 := ka (blk_grown (g := gb308) (o := .cells #[.int .i64 a1_0, .string a1_1, .bool a1_2, .int .i64 a1_3] 49 (0, 0)) (zK BK308.out) hg (Kd.R_away HO328.out (fun _ hk => hk.2.1)))
          replace BK309 := ka (blk_grown (g := gb309) (o := .cells #[.int .i64 0, .slice none 0 0, .slice none 0 0] 28 (0, 0)) (zK BK309.out) hg (Kd.R_ne HO328.out BK309.out (by decide)))
          replace BK316 := ka (blk_grown (g := gb316) (o := .cells #[.int .i64 t310, .string t311, .bool t312, .int .i64 t313, .int .i64 t314] 42 (0, 0)) (zK BK316.out) hg (Kd.R_ne HO328.out BK316.out (by decide)))
          replace BK322 := ka (blk_grown (g := gb322) (o := .cells #[.int .i64 t317, .string t318, .bool t319, .int .i64 t320] 49 (0, 0)) (zK BK322.out) hg (Kd.R_away HO328.out (fun _ hk => hk.2.2)))
          replace HO331 := ka (Kd.R_after (ok := (fun k_ => k_ ≠ gb308 ∧ k_ ≠ gb322)) (by (with_reducible repeat (first | apply Kd.R_alloc | apply Kd.R_drewN | apply Kd.R_drew)); exact Kd.R_mono HO331.out (fun _ hk => ⟨⟨hk.2.1, hk.2.2⟩, hk.1⟩)) hg hat)
          replace HB := ka (hb)
          have HO334 := ka (ho)
          clear HO328
          clear ho hb hg hat
          obtain ⟨Ao134, co134, eo134⟩ := Kd.R_slice HO334.out
          (first | subst eo134 | (injection eo134 with f1_ f2_ f3_; have f4_ := f1_.symm; have f5_ := f3_.symm; clear f1_ f2_ f3_; subst f4_; subst f5_))
          refine hK.out _ _ ⟨zc BK307.out 0, zc BK307.out 1, zc BK307.out 2, zc BK308.out 0, zc BK308.out 1, zc BK308.out 2, zc BK308.out 3⟩ (fun hHeld => ?_)
          clear hK K
          refine znm (N := some 85) (h := ?_)
          refine zpp 6 (N := some 86) HT_ (h := ?_)
          refine last_ (i := 7) (N := none) #[true, true, true, true, true, true, true, true] rfl rfl (one_of HT_.out (by kernel_rfl)) (by decide) (fun K hK => ?_)
          have hs135 : w132.cell? ⟨gb307, 2, none⟩ = some (.slice A0_2 l0_2.length c0_2) := zc BK307.out 2
          have hfs135 := blk_frozen BK307.out 2
          have hns135_1 := NB308_307.out
          have hns135_2 := NB309_307.out
          have hns135_3 := NB316_307.out
          have hns135_4 := NB322_307.out
          have hms135_1 := NB307_308.out
          have hms135_2 := NB307_309.out
          have hms135_3 := NB307_316.out
          have hms135_4 := NB307_322.out
          refine skip_ (w1 := ?_) (by rfl) rfl ?_ ?_
          rotate_left
          ·go_simp
           rfl
          refine hK.out _ _ ?_
          clear hK K
          refine done_ (done_of HT_.out (by kernel_rfl)) ?_
          obtain ⟨z136_0, z136_1, z136_2, y136_0, y136_1, y136_2⟩ := zC3 BK307.out
          try go_wp2_with (first | ((with_reducible refine gate_callee (f := 36) rfl ?_); refine goesL_ (some 89) rfl rfl Tryd.func36 (by kernel_rfl) rfl #[.agg #[.int .i64 a0_0, .slice A0_1 l0_1.length c0_1, .slice Ao134 y332.length co134], .int .i64 a2] rfl zA ?_; (with_reducible refine (lease_Table_settle.calls kj72 a0_0 _ _ l0_1 _ _ y332 a2 t335 t336 t339 _ ?side1 ?side2 ?side3 ?side4 A120.out).mono ?_); (case side1 => exact Kd.C_below HR0_1.out (zL HB.out)); (case side2 => exact HC0_1.out); (case side3 => refine (Kd.R_reads' (e := 49) (base := w.heap.size) (ok := fun k_ => (some k_ ≠ (.slice Ao133 y329.length co133 : Value).ownBlock ∧ (k_ ≠ gb308 ∧ k_ ≠ gb322))) (n := y332.length) (c := co134) ?_).2.2; exact (zT HO334.out BK307.out)); (case side4 => exact (Kd.R_reads' HO334.out).2.1); rintro e w137 ⟨v337, v340, rfl, ho0, ho1, hb⟩; refine ⟨_, rfl, ?_⟩; have HO338 := ka (Kd.R_lower (Kd.R_newB ho0 (g := gb316) (o := .cells #[.int .i64 t310, .string t311, .bool t312, .int .i64 t313, .int .i64 t314] 42 (0, 0)) (zK BK316.out)) (below_size (zL HB.out))); have HO341 := ka (Kd.R_lower (Kd.R_newB (Kd.R_newB (Kd.R_new' (Kd.R_new' ho1 (Kd.R_lt (zT HO331.out BK307.out))) (Kd.R_lt (zT HO334.out BK307.out))) (g := gb308) (o := .cells #[.int .i64 a1_0, .string a1_1, .bool a1_2, .int .i64 a1_3] 49 (0, 0)) (zK BK308.out)) (g := gb322) (o := .cells #[.int .i64 t317, .string t318, .bool t319, .int .i64 t320] 49 (0, 0)) (zK BK322.out)) (below_size (zL HB.out))); replace HO331 := ka (Kd.R_elder' (zT HO331.out BK307.out) (Kd.R_base ho1) hb); replace HO334 := ka (Kd.R_elder' (zT HO334.out BK307.out) (Kd.R_base ho1) hb); replace BK307 := ka (blk_below (g := gb307) (o := .cells #[.int .i64 a0_0, .slice A0_1 l0_1.length c0_1, .slice Ao134 y332.length co134] 28 (0, 0)) (by (with_reducible repeat (first | refine blk_drewN ?_ _ | refine blk_drew ?_ | refine blk_alloc ?_ _)); refine blk_put (cs := #[.int .i64 a0_0, .slice A0_1 l0_1.length c0_1, .slice A0_2 l0_2.length c0_2]) ?_ 2 _ rfl; (with_reducible repeat (first | refine blk_drewN ?_ _ | refine blk_drew ?_ | refine blk_alloc ?_ _)); exact BK307.out) hb); replace BK308 := ka (zB BK308.out hb); replace BK309 := ka (zB BK309.out hb); replace BK316 := ka (zB BK316.out hb); replace BK322 := ka (zB BK322.out hb); replace HB := ka (below_step (zL HB.out) hb); (try clear hb); (try clear hb2); (try clear hk); (try clear hi); (try clear ho0); (try clear ho1); obtain ⟨z138_0, z138_1, z138_2, y138_0, y138_1, y138_2⟩ := zC3 BK307.out; obtain ⟨Ao139, co139, eo139⟩ := Kd.R_slice HO338.out; subst eo139; obtain ⟨Ao140, co140, eo140⟩ := Kd.R_slice HO341.out; subst eo140; have hnb141 := NB308_309.out; have hnc141 := NB309_308.out; have hnb142 := NB308_316.out; have hnc142 := NB316_308.out; have hnb143 := NB308_322.out; have hnc143 := NB322_308.out; obtain ⟨z144_0, z144_1, z144_2, z144_3, y144_0, y144_1, y144_2, y144_3⟩ := zC4 BK308.out) | ((with_reducible refine gate_callee (f := 9) rfl ?_); refine goesL_ (some 96) rfl rfl Tryd.func9 (by kernel_rfl) rfl #[.agg #[.int .i64 t335, .slice Ao139 t336.length co139, .slice Ao140 t339.length co140], .int .i64 a1_0, .string a1_1] rfl zA ?_; (with_reducible refine (lease_Held.calls kj72 t335 _ _ t336 _ _ t339 a1_0 a1_1 t342 t343 t344 t345 t346 t347 _ ?side1 ?side2 ?side3 ?side4 A121.out).mono ?_); (case side1 => refine (Kd.R_reads' (e := 42) (base := w.heap.size) (ok := fun k_ => (True ∧ k_ ≠ gb316)) (n := t336.length) (c := co139) ?_).2.2; exact (zT HO338.out BK307.out)); (case side2 => exact (Kd.R_reads' HO338.out).2.1); (case side3 => refine (Kd.R_reads' (e := 49) (base := w.heap.size) (ok := fun k_ => ((((True ∧ some k_ ≠ (.slice Ao133 y329.length co133 : Value).ownBlock) ∧ some k_ ≠ (.slice Ao134 y332.length co134 : Value).ownBlock) ∧ k_ ≠ gb308) ∧ k_ ≠ gb322)) (n := t339.length) (c := co140) ?_).2.2; exact (zT HO341.out BK307.out)); (case side4 => exact (Kd.R_reads' HO341.out).2.1); rintro e w145 ⟨rfl, hb⟩; refine ⟨_, rfl, ?_⟩; replace HO331 := ka (Kd.R_below (zT HO331.out BK307.out) hb); replace HO334 := ka (Kd.R_below (zT HO334.out BK307.out) hb); replace HO338 := ka (Kd.R_below (zT HO338.out BK307.out) hb); replace HO341 := ka (Kd.R_below (zT HO341.out BK307.out) hb); replace BK307 := ka (blk_below (g := gb307) (o := .cells #[.int .i64 t335, .slice Ao139 t336.length co139, .slice Ao140 t339.length co140] 28 (0, 0)) (zP3 BK307.out) hb); replace BK308 := ka (zB BK308.out hb); replace BK309 := ka (zB BK309.out hb); replace BK316 := ka (zB BK316.out hb); replace BK322 := ka (zB BK322.out hb); replace HB := ka (below_step (zL HB.out) hb); (try clear hb); (try clear hb2); (try clear hk); (try clear hi); have hnb146 := NB316_309.out; have hnc146 := NB309_316.out; have hnb147 := NB316_322.out; have hnc147 := NB322_316.out; obtain ⟨z148_0, z148_1, z148_2, z148_3, z148_4, y148_0, y148_1, y148_2, y148_3, y148_4⟩ := zC5 BK316.out))
          replace HO331 : Aside0 (Kd.R k49 49 (((((w145.setCell ⟨gb316, 0, none⟩ (.int .i64 t342)).setCell ⟨gb316, 1, none⟩ (.string t343)).setCell ⟨gb316, 2, none⟩ (.bool t344)).setCell ⟨gb316, 3, none⟩ (.int .i64 t345)).setCell ⟨gb316, 4, none⟩ (.int .i64 t346)) w.heap.size (fun k_ => some k_ ≠ (.slice Ao134 y332.length co134 : Value).ownBlock ∧ some k_ ≠ (.slice Ao140 t339.length co140 : Value).ownBlock ∧ k_ ≠ gb308 ∧ k_ ≠ gb322) (.slice Ao133 y329.length co133) y329) := ⟨by (with_reducible repeat (first | apply Kd.R_alloc | apply Kd.R_drewN | apply Kd.R_drew)); exact Kd.R_mono (zNT HO331.out BK316.out) (fun _ hk => ⟨hk.1.1.2, ⟨hk.1.2, ⟨hk.1.1.1.1, hk.1.1.1.2⟩⟩⟩)⟩
          replace HO334 : Aside0 (Kd.R k49 49 (((((w145.setCell ⟨gb316, 0, none⟩ (.int .i64 t342)).setCell ⟨gb316, 1, none⟩ (.string t343)).setCell ⟨gb316, 2, none⟩ (.bool t344)).setCell ⟨gb316, 3, none⟩ (.int .i64 t345)).setCell ⟨gb316, 4, none⟩ (.int .i64 t346)) w.heap.size (fun k_ => some k_ ≠ (.slice Ao133 y329.length co133 : Value).ownBlock ∧ some k_ ≠ (.slice Ao140 t339.length co140 : Value).ownBlock ∧ k_ ≠ gb308 ∧ k_ ≠ gb322) (.slice Ao134 y332.length co134) y332) := ⟨by (with_reducible repeat (first | apply Kd.R_alloc | apply Kd.R_drewN | apply Kd.R_drew)); exact Kd.R_mono (zNT HO334.out BK316.out) (fun _ hk => ⟨hk.1.1.1, ⟨hk.1.2, ⟨hk.1.1.2.1, hk.1.1.2.2⟩⟩⟩)⟩
          replace HO338 : Aside0 (Kd.R k42 42 (((((w145.setCell ⟨gb316, 0, none⟩ (.int .i64 t342)).setCell ⟨gb316, 1, none⟩ (.string t343)).setCell ⟨gb316, 2, none⟩ (.bool t344)).setCell ⟨gb316, 3, none⟩ (.int .i64 t345)).setCell ⟨gb316, 4, none⟩ (.int .i64 t346)) w.heap.size (fun k_ => k_ ≠ gb316) (.slice Ao139 t336.length co139) t336) := ⟨by (with_reducible repeat (first | apply Kd.R_alloc | apply Kd.R_drewN | apply Kd.R_drew)); exact Kd.R_mono (zNM HO338.out (g := gb316) (fun _ hk => hk.2)) (fun _ hk => hk.1.2)⟩
          replace HO341 : Aside0 (Kd.R k49 49 (((((w145.setCell ⟨gb316, 0, none⟩ (.int .i64 t342)).setCell ⟨gb316, 1, none⟩ (.string t343)).setCell ⟨gb316, 2, none⟩ (.bool t344)).setCell ⟨gb316, 3, none⟩ (.int .i64 t345)).setCell ⟨gb316, 4, none⟩ (.int .i64 t346)) w.heap.size (fun k_ => some k_ ≠ (.slice Ao133 y329.length co133 : Value).ownBlock ∧ some k_ ≠ (.slice Ao134 y332.length co134 : Value).ownBlock ∧ k_ ≠ gb308 ∧ k_ ≠ gb322) (.slice Ao140 t339.length co140) t339) := ⟨by (with_reducible repeat (first | apply Kd.R_alloc | apply Kd.R_drewN | apply Kd.R_drew)); exact Kd.R_mono (zNT HO341.out BK316.out) (fun _ hk => ⟨hk.1.1.1.1.2, ⟨hk.1.1.1.2, ⟨hk.1.1.2, hk.1.2⟩⟩⟩)⟩
          replace BK307 : Aside0 ((((((w145.setCell ⟨gb316, 0, none⟩ (.int .i64 t342)).setCell ⟨gb316, 1, none⟩ (.string t343)).setCell ⟨gb316, 2, none⟩ (.bool t344)).setCell ⟨gb316, 3, none⟩ (.int .i64 t345)).setCell ⟨gb316, 4, none⟩ (.int .i64 t346)).heap[gb307]? = some (.cells #[.int .i64 t335, .slice Ao139 t336.length co139, .slice Ao140 t339.length co140] 28 (0, 0))) := ⟨zK BK307.out⟩
          replace BK308 : Aside0 ((((((w145.setCell ⟨gb316, 0, none⟩ (.int .i64 t342)).setCell ⟨gb316, 1, none⟩ (.string t343)).setCell ⟨gb316, 2, none⟩ (.bool t344)).setCell ⟨gb316, 3, none⟩ (.int .i64 t345)).setCell ⟨gb316, 4, none⟩ (.int .i64 t346)).heap[gb308]? = some (.cells #[.int .i64 a1_0, .string a1_1, .bool a1_2, .int .i64 a1_3] 49 (0, 0))) := ⟨zK BK308.out⟩
          replace BK309 : Aside0 ((((((w145.setCell ⟨gb316, 0, none⟩ (.int .i64 t342)).setCell ⟨gb316, 1, none⟩ (.string t343)).setCell ⟨gb316, 2, none⟩ (.bool t344)).setCell ⟨gb316, 3, none⟩ (.int .i64 t345)).setCell ⟨gb316, 4, none⟩ (.int .i64 t346)).heap[gb309]? = some (.cells #[.int .i64 0, .slice none 0 0, .slice none 0 0] 28 (0, 0))) := ⟨zK BK309.out⟩
          replace BK316 : Aside0 ((((((w145.setCell ⟨gb316, 0, none⟩ (.int .i64 t342)).setCell ⟨gb316, 1, none⟩ (.string t343)).setCell ⟨gb316, 2, none⟩ (.bool t344)).setCell ⟨gb316, 3, none⟩ (.int .i64 t345)).setCell ⟨gb316, 4, none⟩ (.int .i64 t346)).heap[gb316]? = some (.cells #[.int .i64 t342, .string t343, .bool t344, .int .i64 t345, .int .i64 t346] 42 (0, 0))) := ⟨zP5 BK316.out⟩
          replace BK322 : Aside0 ((((((w145.setCell ⟨gb316, 0, none⟩ (.int .i64 t342)).setCell ⟨gb316, 1, none⟩ (.string t343)).setCell ⟨gb316, 2, none⟩ (.bool t344)).setCell ⟨gb316, 3, none⟩ (.int .i64 t345)).setCell ⟨gb316, 4, none⟩ (.int .i64 t346)).heap[gb322]? = some (.cells #[.int .i64 t317, .string t318, .bool t319, .int .i64 t320] 49 (0, 0))) := ⟨zK BK322.out⟩
          replace HB : Aside0 (Below w.heap.size w (((((w145.setCell ⟨gb316, 0, none⟩ (.int .i64 t342)).setCell ⟨gb316, 1, none⟩ (.string t343)).setCell ⟨gb316, 2, none⟩ (.bool t344)).setCell ⟨gb316, 3, none⟩ (.int .i64 t345)).setCell ⟨gb316, 4, none⟩ (.int .i64 t346))) := ⟨zL HB.out⟩
          repeat rw [zDC]
          repeat rw [zDD]
          generalize (((((w145.setCell ⟨gb316, 0, none⟩ (.int .i64 t342)).setCell ⟨gb316, 1, none⟩ (.string t343)).setCell ⟨gb316, 2, none⟩ (.bool t344)).setCell ⟨gb316, 3, none⟩ (.int .i64 t345)).setCell ⟨gb316, 4, none⟩ (.int .i64 t346)) = w149 at HO331 HO334 HO338 HO341 BK307 BK308 BK309 BK316 BK322 HB ⊢
          replace HO331 := ka (Kd.R_drew HO331.out)
          replace HO334 := ka (Kd.R_drew HO334.out)
          replace HO338 := ka (Kd.R_drew HO338.out)
          replace HO341 := ka (Kd.R_drew HO341.out)
          replace BK307 := ka (blk_drew BK307.out)
          replace BK308 := ka (blk_drew BK308.out)
          replace BK309 := ka (blk_drew BK309.out)
          replace BK316 := ka (blk_drew BK316.out)
          replace BK322 := ka (blk_drew BK322.out)
          replace HB := ka (below_drew1 HB.out)
          refine start_ (n := 6) (S := fun w' => w'.cell? ⟨gb307, 0, none⟩ = some (.int .i64 t335) ∧ w'.cell? ⟨gb307, 1, none⟩ = some (.slice Ao139 t336.length co139) ∧ w'.cell? ⟨gb307, 2, none⟩ = some (.slice Ao140 t339.length co140) ∧ w'.cell? ⟨gb316, 0, none⟩ = some (.int .i64 t342) ∧ w'.cell? ⟨gb316, 1, none⟩ = some (.string t343) ∧ w'.cell? ⟨gb316, 2, none⟩ = some (.bool t344) ∧ w'.cell? ⟨gb316, 3, none⟩ = some (.int .i64 t345) ∧ w'.cell? ⟨gb316, 4, none⟩ = some (.int .i64 t346)) (ds := []) #[false, false, false, false, false, false] (by kernel_rfl) rfl rfl ⟨zc BK307.out 0, zc BK307.out 1, zc BK307.out 2, zc BK316.out 0, zc BK316.out 1, zc BK316.out 2, zc BK316.out 3, zc BK316.out 4⟩ (fun hHeld => ?_)
          generalize w149.drew = w150 at HO331 HO334 HO338 HO341 BK307 BK308 BK309 BK316 BK322 HB hHeld ⊢
          refine zkp 1 (N := some 100) (h := ?_)
          refine zkt 0 (N := some 99) hHeld (h := ?_)
          refine zkt 2 (N := some 101) hHeld (h := ?_)
          refine one_ (i := 3) (N := none) #[true, true, true, true, false, false] rfl rfl (by kernel_rfl) (by decide) (fun K hK => ?_)
          have hs151 : w150.cell? ⟨gb309, 0, none⟩ = some (.int .i64 0) := zc BK309.out 0
          have hfs151 := blk_frozen BK309.out 0
          have hns151_0 := NB307_309.out
          have hns151_1 := NB308_309.out
          have hns151_3 := NB316_309.out
          have hns151_4 := NB322_309.out
          have hms151_0 := NB309_307.out
          have hms151_1 := NB309_308.out
          have hms151_3 := NB309_316.out
          have hms151_4 := NB309_322.out
          have hs152 : w150.cell? ⟨gb309, 1, none⟩ = some (.slice none 0 0) := zc BK309.out 1
          have hfs152 := blk_frozen BK309.out 1
          have hns152_0 := NB307_309.out
          have hns152_1 := NB308_309.out
          have hns152_3 := NB316_309.out
          have hns152_4 := NB322_309.out
          have hms152_0 := NB309_307.out
          have hms152_1 := NB309_308.out
          have hms152_3 := NB309_316.out
          have hms152_4 := NB309_322.out
          have hs153 : w150.cell? ⟨gb309, 2, none⟩ = some (.slice none 0 0) := zc BK309.out 2
          have hfs153 := blk_frozen BK309.out 2
          have hns153_0 := NB307_309.out
          have hns153_1 := NB308_309.out
          have hns153_3 := NB316_309.out
          have hns153_4 := NB322_309.out
          have hms153_0 := NB309_307.out
          have hms153_1 := NB309_308.out
          have hms153_3 := NB309_316.out
          have hms153_4 := NB309_322.out
          refine skip_ (w1 := ?_) (by rfl) rfl ?_ ?_
          rotate_left
          ·go_simp
           rfl
          refine hK.out _ _ ⟨(zW NB307_309.out hHeld.1), (zW NB307_309.out hHeld.2.1), (zW NB307_309.out hHeld.2.2.1), (zW NB316_309.out hHeld.2.2.2.1), (zW NB316_309.out hHeld.2.2.2.2.1), (zW NB316_309.out hHeld.2.2.2.2.2.1), (zW NB316_309.out hHeld.2.2.2.2.2.2.1), (zW NB316_309.out hHeld.2.2.2.2.2.2.2)⟩ (fun hHeld => ?_)
          clear hK K
          refine zkp 4 (N := some 7) (h := ?_)
          refine zkp 5 (N := some 8) (h := ?_)
          refine done_ (by kernel_rfl) ?_
          try go_wp2
          refine bodyPost_ret (results_ctt rfl _ _ gb309 28 #[.int .i64 t335, .slice Ao139 t336.length co139, .slice Ao140 t339.length co140] (0, 0) _ rfl (zP3 BK309.out) Tryd.underlying28 rfl (by kernel_rfl)) rfl ?_
          exact ⟨_, _, zE, by (with_reducible repeat (first | apply Kd.R_alloc | apply Kd.R_drewN | apply Kd.R_drew)); exact Kd.R_mono (zNT HO338.out BK309.out) (fun _ hk => trivial), by (with_reducible repeat (first | apply Kd.R_alloc | apply Kd.R_drewN | apply Kd.R_drew)); exact Kd.R_mono (zNT HO341.out BK309.out) (fun _ hk => trivial), zL HB.out⟩
         ·rw [if_neg c119] at H
          exact absurd H (by simp)
       case' pos =>
        subst c102
     all_goals
      rw [if_pos rfl] at H
      replace H := zs5 H
      obtain ⟨rfl, rfl, rfl, rfl, rfl⟩ := H
      have hnb91 := NB309_307.out
      have hnc91 := NB307_309.out
      have hnb92 := NB309_308.out
      have hnc92 := NB308_309.out
      have hnb93 := NB309_316.out
      have hnc93 := NB316_309.out
      have hnb94 := NB309_322.out
      have hnc94 := NB322_309.out
      obtain ⟨z95_0, z95_1, z95_2, y95_0, y95_1, y95_2⟩ := zC3 BK309.out
      go_wp2
      refine bodyPost_ret (results_ctt rfl _ _ gb309 28 #[.int .i64 0, .slice none 0 0, .slice none 0 0] (0, 0) _ rfl (zP3 BK309.out) Tryd.underlying28 rfl (by kernel_rfl)) rfl ?_
      exact ⟨_, _, zE, zNl, zNl, zL HB.out⟩

end Go.Proofs.YtjdadmjomjhpcaaDoor.PLease
