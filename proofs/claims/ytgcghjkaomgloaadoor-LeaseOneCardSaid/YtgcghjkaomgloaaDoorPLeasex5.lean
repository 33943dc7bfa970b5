-- Written by a program of this session (wip/tools/ext.py, over the kit's printer); not trusted: Lean checks it.
import Derived.Test.YtgcghjkaomgloaaDoorPLeasex0
import Derived.Test.YtgcghjkaomgloaaDoorPLeasex1
import Derived.Test.YtgcghjkaomgloaaDoorPLeasex2
import Derived.Test.YtgcghjkaomgloaaDoorPLeasex4
namespace Go.Proofs.YtgcghjkaomgloaaDoor.PLease
open Go.RowKit Go.Proofs.YtgcghjkaomgloaaDoorW.PrintWords Go.Proofs.YtgcghjkaomgloaaDoorW.PrintLast Go.Proofs.YtgcghjkaomgloaaDoorW.PrintMore
attribute [local go_sem] max2_int min2_int max_two min_two max_three min_three max_four min_four   -- for this text's walks alone
set_option linter.unusedVariables false
set_option linter.unusedSimpArgs false

/-! ### lease_Take: function 10 -/
mutual
def lease_Take.j0 : Nat → Int → Bool → Bool → Bool → Int → List (S34) → List (S32) → Int → ByteArray → Bool → Int → Int → ByteArray → Bool → Int → Int → Option (Int × (List (S34)) × (List (S32)) × Int × Int)
 | 0, _, _, _, _, _, _, _, _, _, _, _, _, _, _, _, _ => none
 | k + 1, x2, x10, x12, x29, x270000, x270001, x270002, x271000, x271001, x271002, x271003, x279000, x279001, x279002, x279003, x279004 => if x29 = true then (some (0, ([] : List (S34)), ([] : List (S32)), 0, 1)) else (if x10 = true then (if x271002 = true then (lease_Take.j1 k x2 x10 x12 (!x279002) x270000 x270001 x270002 x271000 x271001 x271002 x271003) else (lease_Take.j1 k x2 x10 x12 false x270000 x270001 x270002 x271000 x271001 x271002 x271003)) else (lease_Take.j1 k x2 x10 x12 false x270000 x270001 x270002 x271000 x271001 x271002 x271003))
def lease_Take.j1 : Nat → Int → Bool → Bool → Bool → Int → List (S34) → List (S32) → Int → ByteArray → Bool → Int → Option (Int × (List (S34)) × (List (S32)) × Int × Int)
 | 0, _, _, _, _, _, _, _, _, _, _, _ => none
 | k + 1, x2, x10, x12, x56, x270000, x270001, x270002, x271000, x271001, x271002, x271003 => if x56 = true then (some (0, ([] : List (S34)), ([] : List (S32)), 0, 7)) else (if x10 = true then (some (0, ([] : List (S34)), ([] : List (S32)), 0, 5)) else (if x12 = true then (some (0, ([] : List (S34)), ([] : List (S32)), 0, 7)) else (if (x270002.length : Int) ≥ 100 then (some (0, ([] : List (S34)), ([] : List (S32)), 0, 6)) else ((lease_Ask_29.f x270002).bind fun t288 => ((some (([(⟨x271000, x271001, x271002, x271003⟩ : S32)] : List (S32)) : List (S32))).bind fun y291 => (if t288.length + y291.length < 3518437208883 then ((lease_Table_settle.f k x270000 x270001 (t288 ++ y291) x2).bind fun bt297 => ((lease_Held.f k bt297.1 bt297.2.1 bt297.2.2 x271000 x271001).bind fun bt304 => (some (bt297.1, bt297.2.1, bt297.2.2, bt304.2.2.2.1, 0)))) else (none)))))))
end
def lease_Take.f (k : Nat) (a0_0 : Int) (l0_1 : List (S34)) (l0_2 : List (S32)) (a1_0 : Int) (a1_1 : ByteArray) (a1_2 : Bool) (a1_3 : Int) (a2 : Int) : Option (Int × (List (S34)) × (List (S32)) × Int × Int) := (lease_Held.f k a0_0 l0_1 l0_2 a1_0 a1_1).bind fun bt272 => ((lease_Waits.f k a0_0 l0_1 l0_2 a1_0).bind fun bt279 => (if a1_0 < 1 then (lease_Take.j0 k a2 bt272.2.2.2.2.2 bt279.2.2.2.2 true a0_0 l0_1 l0_2 a1_0 a1_1 a1_2 a1_3 bt272.1 bt272.2.1 bt272.2.2.1 bt272.2.2.2.1 bt272.2.2.2.2.1) else (if a1_0 > 1000 then (lease_Take.j0 k a2 bt272.2.2.2.2.2 bt279.2.2.2.2 true a0_0 l0_1 l0_2 a1_0 a1_1 a1_2 a1_3 bt272.1 bt272.2.1 bt272.2.2.1 bt272.2.2.2.1 bt272.2.2.2.2.1) else ((text_Path.f k a1_1).bind fun t285 => (if t285 = true then ((lease_lives.f a1_3).bind fun t286 => (if t286 = true then ((lease_time.f a2).bind fun t287 => (lease_Take.j0 k a2 bt272.2.2.2.2.2 bt279.2.2.2.2 (!t287) a0_0 l0_1 l0_2 a1_0 a1_1 a1_2 a1_3 bt272.1 bt272.2.1 bt272.2.2.1 bt272.2.2.2.1 bt272.2.2.2.2.1)) else (lease_Take.j0 k a2 bt272.2.2.2.2.2 bt279.2.2.2.2 true a0_0 l0_1 l0_2 a1_0 a1_1 a1_2 a1_3 bt272.1 bt272.2.1 bt272.2.2.1 bt272.2.2.2.1 bt272.2.2.2.2.1))) else (lease_Take.j0 k a2 bt272.2.2.2.2.2 bt279.2.2.2.2 true a0_0 l0_1 l0_2 a1_0 a1_1 a1_2 a1_3 bt272.1 bt272.2.1 bt272.2.2.1 bt272.2.2.2.1 bt272.2.2.2.2.1))))))
theorem lease_Take.mono_l : ∀ k, (∀ y0 y1 y2 y3 y4 y5 y6 y7 y8 y9 y10 y11 y12 y13 y14 y15, LeO (lease_Take.j0 k y0 y1 y2 y3 y4 y5 y6 y7 y8 y9 y10 y11 y12 y13 y14 y15) (lease_Take.j0 (k + 1) y0 y1 y2 y3 y4 y5 y6 y7 y8 y9 y10 y11 y12 y13 y14 y15)) ∧ (∀ y0 y1 y2 y3 y4 y5 y6 y7 y8 y9 y10, LeO (lease_Take.j1 k y0 y1 y2 y3 y4 y5 y6 y7 y8 y9 y10) (lease_Take.j1 (k + 1) y0 y1 y2 y3 y4 y5 y6 y7 y8 y9 y10))
 | 0 => ⟨fun _ _ _ _ _ _ _ _ _ _ _ _ _ _ _ _ r h => by simp [lease_Take.j0] at h, fun _ _ _ _ _ _ _ _ _ _ _ r h => by simp [lease_Take.j1] at h⟩
 | k + 1 => by
  obtain ⟨ih0, ih1⟩ := lease_Take.mono_l k
  refine ⟨?_, ?_⟩
  ·intro y0 y1 y2 y3 y4 y5 y6 y7 y8 y9 y10 y11 y12 y13 y14 y15
   unfold lease_Take.j0
   repeat' first
   | (with_reducible exact ih0 _ _ _ _ _ _ _ _ _ _ _ _ _ _ _ _)
   | (with_reducible exact ih1 _ _ _ _ _ _ _ _ _ _ _)
   | (with_reducible exact lease_Held.mono _ _ _ _ _ _)
   | (with_reducible exact lease_Table_settle.mono _ _ _ _ _)
   | (with_reducible exact lease_Waits.mono _ _ _ _ _)
   | (with_reducible exact text_Path.mono _ _)
   | (with_reducible exact LeO.refl _)
   | (with_reducible exact LeO.none _)
   | (with_reducible refine LeO.ite ?_ ?_)
   | (with_reducible refine LeO.bind ?_ (fun _ => ?_))
   | exact ih0 _ _ _ _ _ _ _ _ _ _ _ _ _ _ _ _
   | exact ih1 _ _ _ _ _ _ _ _ _ _ _
   | exact lease_Held.mono _ _ _ _ _ _
   | exact lease_Table_settle.mono _ _ _ _ _
   | exact lease_Waits.mono _ _ _ _ _
   | exact text_Path.mono _ _
   | exact LeO.none _
   | refine LeO.ite ?_ ?_
   | refine LeO.bind ?_ (fun _ => ?_)
  ·intro y0 y1 y2 y3 y4 y5 y6 y7 y8 y9 y10
   unfold lease_Take.j1
   repeat' first
   | (with_reducible exact ih0 _ _ _ _ _ _ _ _ _ _ _ _ _ _ _ _)
   | (with_reducible exact ih1 _ _ _ _ _ _ _ _ _ _ _)
   | (with_reducible exact lease_Held.mono _ _ _ _ _ _)
   | (with_reducible exact lease_Table_settle.mono _ _ _ _ _)
   | (with_reducible exact lease_Waits.mono _ _ _ _ _)
   | (with_reducible exact text_Path.mono _ _)
   | (with_reducible exact LeO.refl _)
   | (with_reducible exact LeO.none _)
   | (with_reducible refine LeO.ite ?_ ?_)
   | (with_reducible refine LeO.bind ?_ (fun _ => ?_))
   | exact ih0 _ _ _ _ _ _ _ _ _ _ _ _ _ _ _ _
   | exact ih1 _ _ _ _ _ _ _ _ _ _ _
   | exact lease_Held.mono _ _ _ _ _ _
   | exact lease_Table_settle.mono _ _ _ _ _
   | exact lease_Waits.mono _ _ _ _ _
   | exact text_Path.mono _ _
   | exact LeO.none _
   | refine LeO.ite ?_ ?_
   | refine LeO.bind ?_ (fun _ => ?_)
theorem lease_Take.mono : ∀ a0 a1 a2 a3 a4 a5 a6 a7 k, LeO (lease_Take.f k a0 a1 a2 a3 a4 a5 a6 a7) (lease_Take.f (k + 1) a0 a1 a2 a3 a4 a5 a6 a7) := by
 intro a0 a1 a2 a3 a4 a5 a6 a7 k
 obtain ⟨ih0, ih1⟩ := lease_Take.mono_l k
 unfold lease_Take.f
 repeat' first
   | (with_reducible exact ih0 _ _ _ _ _ _ _ _ _ _ _ _ _ _ _ _)
   | (with_reducible exact ih1 _ _ _ _ _ _ _ _ _ _ _)
   | (with_reducible exact lease_Held.mono _ _ _ _ _ _)
   | (with_reducible exact lease_Table_settle.mono _ _ _ _ _)
   | (with_reducible exact lease_Waits.mono _ _ _ _ _)
   | (with_reducible exact text_Path.mono _ _)
   | (with_reducible exact LeO.refl _)
   | (with_reducible exact LeO.none _)
   | (with_reducible refine LeO.ite ?_ ?_)
   | (with_reducible refine LeO.bind ?_ (fun _ => ?_))
   | exact ih0 _ _ _ _ _ _ _ _ _ _ _ _ _ _ _ _
   | exact ih1 _ _ _ _ _ _ _ _ _ _ _
   | exact lease_Held.mono _ _ _ _ _ _
   | exact lease_Table_settle.mono _ _ _ _ _
   | exact lease_Waits.mono _ _ _ _ _
   | exact text_Path.mono _ _
   | exact LeO.none _
   | refine LeO.ite ?_ ?_
   | refine LeO.bind ?_ (fun _ => ?_)
def lease_Take.T13 : Bool × List (List Nat × List Nat) := (true, [([], []), ([0], [0]), ([1], [1]), ([], []), ([3], [3]), ([2, 4, 2], [2, 4]), ([0, 1, 2, 3, 4, 5], []), ([6, 5, 5, 0, 1, 2, 3, 4, 5], [5, 6])])
def lease_Take.B13 : List Nat := [0, 1, 3, 0, 8, 31, 63, 127]
theorem lease_Take.tab13 : rtab .any (opsOf Tryd.f10 13) = lease_Take.T13 := by kernel_rfl
theorem lease_Take.bits13 : waitsOk lease_Take.T13.2 lease_Take.B13 = true := by kernel_rfl
set_option maxHeartbeats 8000000 in
set_option maxRecDepth 100000 in
theorem lease_Take.calls (k : Nat) (a0_0 : Int) (A0_1 : Option Addr) (c0_1 : Nat) (l0_1 : List (S34)) (A0_2 : Option Addr) (c0_2 : Nat) (l0_2 : List (S32)) (a1_0 : Int) (a1_1 : ByteArray) (a1_2 : Bool) (a1_3 : Int) (a2 : Int) (r1 : Int) (r2 : List (S34)) (r3 : List (S32)) (r4 : Int) (r5 : Int) (w : World) (hr0_1 : Kd.C k34 w A0_1 l0_1.length l0_1) (hc0_1 : l0_1.length ≤ c0_1) (hr0_2 : Kd.C k32 w A0_2 l0_2.length l0_2) (hc0_2 : l0_2.length ≤ c0_2) (h : lease_Take.f k a0_0 l0_1 l0_2 a1_0 a1_1 a1_2 a1_3 a2 = some (r1, r2, r3, r4, r5)) :
  Calls Tryd.prog 10 #[.agg #[.int .i64 a0_0, .slice A0_1 l0_1.length c0_1, .slice A0_2 l0_2.length c0_2], .agg #[.int .i64 a1_0, .string a1_1, .bool a1_2, .int .i64 a1_3], .int .i64 a2] w fun e w' => ∃ v1_ v2_ : Value, e = .returned (.tuple #[.agg #[.int .i64 r1, v1_, v2_], .int .i64 r4, .int .i64 r5]) ∧ Kd.R k34 34 w' w.heap.size (fun _ => True) v1_ r2 ∧ Kd.R k32 32 w' w.heap.size (fun _ => True) v2_ r3 ∧ Below w.heap.size w w' := by
 have hu27 := Tryd.underlying27
 have hu32 := Tryd.underlying32
 have hu34 := Tryd.underlying34
 have HR0_1 := Aside0.mk hr0_1
 have HC0_1 := Aside0.mk hc0_1
 clear hr0_1 hc0_1
 have HR0_2 := Aside0.mk hr0_2
 have HC0_2 := Aside0.mk hc0_2
 clear hr0_2 hc0_2
 have HB := Aside0.mk (Below.refl w.heap.size w)
 have H : ((lease_Held.f k a0_0 l0_1 l0_2 a1_0 a1_1).bind fun bt272 => ((lease_Waits.f k a0_0 l0_1 l0_2 a1_0).bind fun bt279 => (if a1_0 < 1 then (lease_Take.j0 k a2 bt272.2.2.2.2.2 bt279.2.2.2.2 true a0_0 l0_1 l0_2 a1_0 a1_1 a1_2 a1_3 bt272.1 bt272.2.1 bt272.2.2.1 bt272.2.2.2.1 bt272.2.2.2.2.1) else (if a1_0 > 1000 then (lease_Take.j0 k a2 bt272.2.2.2.2.2 bt279.2.2.2.2 true a0_0 l0_1 l0_2 a1_0 a1_1 a1_2 a1_3 bt272.1 bt272.2.1 bt272.2.2.1 bt272.2.2.2.1 bt272.2.2.2.2.1) else ((text_Path.f k a1_1).bind fun t285 => (if t285 = true then ((lease_lives.f a1_3).bind fun t286 => (if t286 = true then ((lease_time.f a2).bind fun t287 => (lease_Take.j0 k a2 bt272.2.2.2.2.2 bt279.2.2.2.2 (!t287) a0_0 l0_1 l0_2 a1_0 a1_1 a1_2 a1_3 bt272.1 bt272.2.1 bt272.2.2.1 bt272.2.2.2.1 bt272.2.2.2.2.1)) else (lease_Take.j0 k a2 bt272.2.2.2.2.2 bt279.2.2.2.2 true a0_0 l0_1 l0_2 a1_0 a1_1 a1_2 a1_3 bt272.1 bt272.2.1 bt272.2.2.1 bt272.2.2.2.1 bt272.2.2.2.2.1))) else (lease_Take.j0 k a2 bt272.2.2.2.2.2 bt279.2.2.2.2 true a0_0 l0_1 l0_2 a1_0 a1_1 a1_2 a1_3 bt272.1 bt272.2.1 bt272.2.2.1 bt272.2.2.2.1 bt272.2.2.2.2.1))))))) = some (r1, r2, r3, r4, r5) := h
 clear h
 replace H := Option.bind_eq_some_iff.mp H
 obtain ⟨⟨t272, t273, t274, t275, t276, t277⟩, A40, H⟩ := H
 replace H : ((lease_Waits.f k a0_0 l0_1 l0_2 a1_0).bind fun bt279 => (if a1_0 < 1 then (lease_Take.j0 k a2 t277 bt279.2.2.2.2 true a0_0 l0_1 l0_2 a1_0 a1_1 a1_2 a1_3 t272 t273 t274 t275 t276) else (if a1_0 > 1000 then (lease_Take.j0 k a2 t277 bt279.2.2.2.2 true a0_0 l0_1 l0_2 a1_0 a1_1 a1_2 a1_3 t272 t273 t274 t275 t276) else ((text_Path.f k a1_1).bind fun t285 => (if t285 = true then ((lease_lives.f a1_3).bind fun t286 => (if t286 = true then ((lease_time.f a2).bind fun t287 => (lease_Take.j0 k a2 t277 bt279.2.2.2.2 (!t287) a0_0 l0_1 l0_2 a1_0 a1_1 a1_2 a1_3 t272 t273 t274 t275 t276)) else (lease_Take.j0 k a2 t277 bt279.2.2.2.2 true a0_0 l0_1 l0_2 a1_0 a1_1 a1_2 a1_3 t272 t273 t274 t275 t276))) else (lease_Take.j0 k a2 t277 bt279.2.2.2.2 true a0_0 l0_1 l0_2 a1_0 a1_1 a1_2 a1_3 t272 t273 t274 t275 t276)))))) = some (r1, r2, r3, r4, r5) := H
 have A4 := Aside0.mk A40
 clear A40
 replace H := Option.bind_eq_some_iff.mp H
 obtain ⟨⟨t279, t280, t281, t282, t283⟩, A50, H⟩ := H
 replace H : (if a1_0 < 1 then (lease_Take.j0 k a2 t277 t283 true a0_0 l0_1 l0_2 a1_0 a1_1 a1_2 a1_3 t272 t273 t274 t275 t276) else (if a1_0 > 1000 then (lease_Take.j0 k a2 t277 t283 true a0_0 l0_1 l0_2 a1_0 a1_1 a1_2 a1_3 t272 t273 t274 t275 t276) else ((text_Path.f k a1_1).bind fun t285 => (if t285 = true then ((lease_lives.f a1_3).bind fun t286 => (if t286 = true then ((lease_time.f a2).bind fun t287 => (lease_Take.j0 k a2 t277 t283 (!t287) a0_0 l0_1 l0_2 a1_0 a1_1 a1_2 a1_3 t272 t273 t274 t275 t276)) else (lease_Take.j0 k a2 t277 t283 true a0_0 l0_1 l0_2 a1_0 a1_1 a1_2 a1_3 t272 t273 t274 t275 t276))) else (lease_Take.j0 k a2 t277 t283 true a0_0 l0_1 l0_2 a1_0 a1_1 a1_2 a1_3 t272 t273 t274 t275 t276))))) = some (r1, r2, r3, r4, r5) := H
 have A5 := Aside0.mk A50
 clear A50
 have HC6 := Aside0.mk H
 clear H
 go_enter Tryd.func10, Tryd.ntmps10
 go_upto_region 3 with (first | ((with_reducible refine gate_dst (N := 3) rfl ?_); refine box_event ?hg (N := 3) ?hd (cs := #[.int .i64 a0_0, .slice A0_1 l0_1.length c0_1, .slice A0_2 l0_2.length c0_2]) (t := 27) ?hr ?_; (case hd => rfl); (case hg => rfl); (case hr => first | (go_simp; done) | (go_simp; rfl)); intro gb269 hg w7 hbox hb; have n0_ := Aside0.mk (below_step (zL HB.out) hb); have n1_ := Aside0.mk (hbox); have n2_ := Aside0.mk (zG hg (zL HB.out)); have n3_ := Aside0.mk (zG hg (zL HB.out)); revert n0_ n1_ n2_ n3_; clear HB; intro HB BK269 GW269 GE269; clear hb hbox hg) | ((with_reducible refine gate_dst (N := 4) rfl ?_); refine box_event ?hg (N := 4) ?hd (cs := #[.int .i64 a1_0, .string a1_1, .bool a1_2, .int .i64 a1_3]) (t := 32) ?hr ?_; (case hd => rfl); (case hg => rfl); (case hr => first | (go_simp; done) | (go_simp; rfl)); intro gb270 hg w8 hbox hb; have n0_ := Aside0.mk (blk_below (g := gb269) (o := .cells #[.int .i64 a0_0, .slice A0_1 l0_1.length c0_1, .slice A0_2 l0_2.length c0_2] 27 (0, 0)) (zK BK269.out) hb); have n1_ := Aside0.mk (below_step (zL HB.out) hb); have n2_ := Aside0.mk (hbox); have n3_ := Aside0.mk (zG hg (zL HB.out)); have n4_ := Aside0.mk (zG hg (zL HB.out)); have n5_ := Aside0.mk (zN (g := gb269) (o := .cells #[.int .i64 a0_0, .slice A0_1 l0_1.length c0_1, .slice A0_2 l0_2.length c0_2] 27 (0, 0)) hg (zK BK269.out)); have n6_ := Aside0.mk (zO (g := gb269) (o := .cells #[.int .i64 a0_0, .slice A0_1 l0_1.length c0_1, .slice A0_2 l0_2.length c0_2] 27 (0, 0)) hg (zK BK269.out)); revert n0_ n1_ n2_ n3_ n4_ n5_ n6_; clear BK269 HB; intro BK269 HB BK270 GW270 GE270 NB269_270 NB270_269; clear hb hbox hg) | ((with_reducible refine gate_dst (N := 6) rfl ?_); refine box_event ?hg (N := 6) ?hd (cs := #[.int .i64 0, .slice none 0 0, .slice none 0 0]) (t := 27) ?hr ?_; (case hd => rfl); (case hg => rfl); (case hr => first | (go_simp; done) | (go_simp; rfl)); intro gb271 hg w9 hbox hb; have n0_ := Aside0.mk (blk_below (g := gb269) (o := .cells #[.int .i64 a0_0, .slice A0_1 l0_1.length c0_1, .slice A0_2 l0_2.length c0_2] 27 (0, 0)) (zK BK269.out) hb); have n1_ := Aside0.mk (blk_below (g := gb270) (o := .cells #[.int .i64 a1_0, .string a1_1, .bool a1_2, .int .i64 a1_3] 32 (0, 0)) (zK BK270.out) hb); have n2_ := Aside0.mk (below_step (zL HB.out) hb); have n3_ := Aside0.mk (hbox); have n4_ := Aside0.mk (zG hg (zL HB.out)); have n5_ := Aside0.mk (zG hg (zL HB.out)); have n6_ := Aside0.mk (zN (g := gb269) (o := .cells #[.int .i64 a0_0, .slice A0_1 l0_1.length c0_1, .slice A0_2 l0_2.length c0_2] 27 (0, 0)) hg (zK BK269.out)); have n7_ := Aside0.mk (zO (g := gb269) (o := .cells #[.int .i64 a0_0, .slice A0_1 l0_1.length c0_1, .slice A0_2 l0_2.length c0_2] 27 (0, 0)) hg (zK BK269.out)); have n8_ := Aside0.mk (zN (g := gb270) (o := .cells #[.int .i64 a1_0, .string a1_1, .bool a1_2, .int .i64 a1_3] 32 (0, 0)) hg (zK BK270.out)); have n9_ := Aside0.mk (zO (g := gb270) (o := .cells #[.int .i64 a1_0, .string a1_1, .bool a1_2, .int .i64 a1_3] 32 (0, 0)) hg (zK BK270.out)); revert n0_ n1_ n2_ n3_ n4_ n5_ n6_ n7_ n8_ n9_; clear BK269 BK270 HB; intro BK269 BK270 HB BK271 GW271 GE271 NB269_271 NB271_269 NB270_271 NB271_270; clear hb hbox hg; have hnb10 := NB269_270.out; have hnc10 := NB270_269.out; have hnb11 := NB269_271.out; have hnc11 := NB271_269.out; obtain ⟨hcz12_0, hcz12_1, hcz12_2, hfz12_0, hfz12_1, hfz12_2⟩ := zC3 BK269.out; have hnb13 := NB270_271.out; have hnc13 := NB271_270.out; obtain ⟨hcz14_0, hcz14_1, hcz14_2, hcz14_3, hfz14_0, hfz14_1, hfz14_2, hfz14_3⟩ := zC4 BK270.out) | ((with_reducible refine gate_callee (f := 14) rfl ?_); refine goesL_ (some 19) rfl rfl Tryd.func14 (by kernel_rfl) rfl #[.agg #[.int .i64 a0_0, .slice A0_1 l0_1.length c0_1, .slice A0_2 l0_2.length c0_2], .int .i64 a1_0, .string a1_1] rfl zA ?_; (with_reducible refine (lease_Held.calls k a0_0 _ _ l0_1 _ _ l0_2 a1_0 a1_1 t272 t273 t274 t275 t276 t277 _ ?side1 ?side2 ?side3 ?side4 A4.out).mono ?_); (case side1 => repeat (first | exact (Kd.C_below HR0_1.out HB.out) | (with_reducible refine Kd.C_alloc ?_ _) | (with_reducible refine Kd.C_drewN ?_ _) | (with_reducible refine Kd.C_drew ?_))); (case side2 => exact HC0_1.out); (case side3 => repeat (first | exact (Kd.C_below HR0_2.out HB.out) | (with_reducible refine Kd.C_alloc ?_ _) | (with_reducible refine Kd.C_drewN ?_ _) | (with_reducible refine Kd.C_drew ?_))); (case side4 => exact HC0_2.out); rintro e w15 ⟨rfl, hb⟩; refine ⟨_, rfl, ?_⟩; have n0_ := Aside0.mk (blk_below (g := gb269) (o := .cells #[.int .i64 a0_0, .slice A0_1 l0_1.length c0_1, .slice A0_2 l0_2.length c0_2] 27 (0, 0)) (zK BK269.out) hb); have n1_ := Aside0.mk (blk_below (g := gb270) (o := .cells #[.int .i64 a1_0, .string a1_1, .bool a1_2, .int .i64 a1_3] 32 (0, 0)) (zK BK270.out) hb); have n2_ := Aside0.mk (blk_below (g := gb271) (o := .cells #[.int .i64 0, .slice none 0 0, .slice none 0 0] 27 (0, 0)) (zK BK271.out) hb); have n3_ := Aside0.mk (below_step (zL HB.out) hb); revert n0_ n1_ n2_ n3_; clear BK269 BK270 BK271 HB; intro BK269 BK270 BK271 HB; (try clear hb); (try clear hb2); (try clear hk); (try clear hi)) | ((with_reducible refine gate_dst (N := 9) rfl ?_); refine box_event ?hg (N := 9) ?hd (cs := #[.int .i64 0, .string (⟨#[]⟩ : ByteArray), .bool false, .int .i64 0, .int .i64 0]) (t := 34) ?hr ?_; (case hd => rfl); (case hg => rfl); (case hr => first | (go_simp; done) | (go_simp; rfl)); intro gb278 hg w16 hbox hb; have n0_ := Aside0.mk (blk_below (g := gb269) (o := .cells #[.int .i64 a0_0, .slice A0_1 l0_1.length c0_1, .slice A0_2 l0_2.length c0_2] 27 (0, 0)) (zK BK269.out) hb); have n1_ := Aside0.mk (blk_below (g := gb270) (o := .cells #[.int .i64 a1_0, .string a1_1, .bool a1_2, .int .i64 a1_3] 32 (0, 0)) (zK BK270.out) hb); have n2_ := Aside0.mk (blk_below (g := gb271) (o := .cells #[.int .i64 0, .slice none 0 0, .slice none 0 0] 27 (0, 0)) (zK BK271.out) hb); have n3_ := Aside0.mk (below_step (zL HB.out) hb); have n4_ := Aside0.mk (hbox); have n5_ := Aside0.mk (zG hg (zL HB.out)); have n6_ := Aside0.mk (zG hg (zL HB.out)); have n7_ := Aside0.mk (zN (g := gb269) (o := .cells #[.int .i64 a0_0, .slice A0_1 l0_1.length c0_1, .slice A0_2 l0_2.length c0_2] 27 (0, 0)) hg (zK BK269.out)); have n8_ := Aside0.mk (zO (g := gb269) (o := .cells #[.int .i64 a0_0, .slice A0_1 l0_1.length c0_1, .slice A0_2 l0_2.length c0_2] 27 (0, 0)) hg (zK BK269.out)); have n9_ := Aside0.mk (zN (g := gb270) (o := .cells #[.int .i64 a1_0, .string a1_1, .bool a1_2, .int .i64 a1_3] 32 (0, 0)) hg (zK BK270.out)); have n10_ := Aside0.mk (zO (g := gb270) (o := .cells #[.int .i64 a1_0, .string a1_1, .bool a1_2, .int .i64 a1_3] 32 (0, 0)) hg (zK BK270.out)); have n11_ := Aside0.mk (zN (g := gb271) (o := .cells #[.int .i64 0, .slice none 0 0, .slice none 0 0] 27 (0, 0)) hg (zK BK271.out)); have n12_ := Aside0.mk (zO (g := gb271) (o := .cells #[.int .i64 0, .slice none 0 0, .slice none 0 0] 27 (0, 0)) hg (zK BK271.out)); revert n0_ n1_ n2_ n3_ n4_ n5_ n6_ n7_ n8_ n9_ n10_ n11_ n12_; clear BK269 BK270 BK271 HB; intro BK269 BK270 BK271 HB BK278 GW278 GE278 NB269_278 NB278_269 NB270_278 NB278_270 NB271_278 NB278_271; clear hb hbox hg; have hnb17 := NB278_269.out; have hnc17 := NB269_278.out; have hnb18 := NB278_270.out; have hnc18 := NB270_278.out; have hnb19 := NB278_271.out; have hnc19 := NB271_278.out; obtain ⟨hcz20_0, hcz20_1, hcz20_2, hcz20_3, hcz20_4, hfz20_0, hfz20_1, hfz20_2, hfz20_3, hfz20_4⟩ := zC5 BK278.out; obtain ⟨hcz21_0, hcz21_1, hcz21_2, hfz21_0, hfz21_1, hfz21_2⟩ := zC3 BK269.out; obtain ⟨hcz22_0, hcz22_1, hcz22_2, hcz22_3, hfz22_0, hfz22_1, hfz22_2, hfz22_3⟩ := zC4 BK270.out) | ((with_reducible refine gate_callee (f := 21) rfl ?_); refine goesL_ (some 26) rfl rfl Tryd.func21 (by kernel_rfl) rfl #[.agg #[.int .i64 a0_0, .slice A0_1 l0_1.length c0_1, .slice A0_2 l0_2.length c0_2], .int .i64 a1_0] rfl zA ?_; (with_reducible refine (lease_Waits.calls k a0_0 _ _ l0_1 _ _ l0_2 a1_0 t279 t280 t281 t282 t283 _ ?side1 ?side2 ?side3 ?side4 A5.out).mono ?_); (case side1 => exact Kd.C_below HR0_1.out (zL HB.out)); (case side2 => exact HC0_1.out); (case side3 => exact Kd.C_below HR0_2.out (zL HB.out)); (case side4 => exact HC0_2.out); rintro e w23 ⟨rfl, hb⟩; refine ⟨_, rfl, ?_⟩; have n0_ := Aside0.mk (blk_below (g := gb269) (o := .cells #[.int .i64 a0_0, .slice A0_1 l0_1.length c0_1, .slice A0_2 l0_2.length c0_2] 27 (0, 0)) (zK BK269.out) hb); have n1_ := Aside0.mk (blk_below (g := gb270) (o := .cells #[.int .i64 a1_0, .string a1_1, .bool a1_2, .int .i64 a1_3] 32 (0, 0)) (zK BK270.out) hb); have n2_ := Aside0.mk (blk_below (g := gb271) (o := .cells #[.int .i64 0, .slice none 0 0, .slice none 0 0] 27 (0, 0)) (zK BK271.out) hb); have n3_ := Aside0.mk (blk_below (g := gb278) (o := .cells #[.int .i64 t272, .string t273, .bool t274, .int .i64 t275, .int .i64 t276] 34 (0, 0)) (zP5 BK278.out) hb); have n4_ := Aside0.mk (below_step (zL HB.out) hb); revert n0_ n1_ n2_ n3_ n4_; clear BK269 BK270 BK271 BK278 HB; intro BK269 BK270 BK271 BK278 HB; (try clear hb); (try clear hb2); (try clear hk); (try clear hi)) | ((with_reducible refine gate_dst (N := 11) rfl ?_); refine box_event ?hg (N := 11) ?hd (cs := #[.int .i64 0, .string (⟨#[]⟩ : ByteArray), .bool false, .int .i64 0]) (t := 32) ?hr ?_; (case hd => rfl); (case hg => rfl); (case hr => first | (go_simp; done) | (go_simp; rfl)); intro gb284 hg w24 hbox hb; have n0_ := Aside0.mk (blk_below (g := gb269) (o := .cells #[.int .i64 a0_0, .slice A0_1 l0_1.length c0_1, .slice A0_2 l0_2.length c0_2] 27 (0, 0)) (zK BK269.out) hb); have n1_ := Aside0.mk (blk_below (g := gb270) (o := .cells #[.int .i64 a1_0, .string a1_1, .bool a1_2, .int .i64 a1_3] 32 (0, 0)) (zK BK270.out) hb); have n2_ := Aside0.mk (blk_below (g := gb271) (o := .cells #[.int .i64 0, .slice none 0 0, .slice none 0 0] 27 (0, 0)) (zK BK271.out) hb); have n3_ := Aside0.mk (blk_below (g := gb278) (o := .cells #[.int .i64 t272, .string t273, .bool t274, .int .i64 t275, .int .i64 t276] 34 (0, 0)) (zK BK278.out) hb); have n4_ := Aside0.mk (below_step (zL HB.out) hb); have n5_ := Aside0.mk (hbox); have n6_ := Aside0.mk (zG hg (zL HB.out)); have n7_ := Aside0.mk (zG hg (zL HB.out)); have n8_ := Aside0.mk (zN (g := gb269) (o := .cells #[.int .i64 a0_0, .slice A0_1 l0_1.length c0_1, .slice A0_2 l0_2.length c0_2] 27 (0, 0)) hg (zK BK269.out)); have n9_ := Aside0.mk (zO (g := gb269) (o := .cells #[.int .i64 a0_0, .slice A0_1 l0_1.length c0_1, .slice A0_2 l0_2.length c0_2] 27 (0, 0)) hg (zK BK269.out)); have n10_ := Aside0.mk (zN (g := gb270) (o := .cells #[.int .i64 a1_0, .string a1_1, .bool a1_2, .int .i64 a1_3] 32 (0, 0)) hg (zK BK270.out)); have n11_ := Aside0.mk (zO (g := gb270) (o := .cells #[.int .i64 a1_0, .string a1_1, .bool a1_2, .int .i64 a1_3] 32 (0, 0)) hg (zK BK270.out)); have n12_ := Aside0.mk (zN (g := gb271) (o := .cells #[.int .i64 0, .slice none 0 0, .slice none 0 0] 27 (0, 0)) hg (zK BK271.out)); have n13_ := Aside0.mk (zO (g := gb271) (o := .cells #[.int .i64 0, .slice none 0 0, .slice none 0 0] 27 (0, 0)) hg (zK BK271.out)); have n14_ := Aside0.mk (zN (g := gb278) (o := .cells #[.int .i64 t272, .string t273, .bool t274, .int .i64 t275, .int .i64 t276] 34 (0, 0)) hg (zK BK278.out)); have n15_ := Aside0.mk (zO (g := gb278) (o := .cells #[.int .i64 t272, .string t273, .bool t274, .int .i64 t275, .int .i64 t276] 34 (0, 0)) hg (zK BK278.out)); revert n0_ n1_ n2_ n3_ n4_ n5_ n6_ n7_ n8_ n9_ n10_ n11_ n12_ n13_ n14_ n15_; clear BK269 BK270 BK271 BK278 HB; intro BK269 BK270 BK271 BK278 HB BK284 GW284 GE284 NB269_284 NB284_269 NB270_284 NB284_270 NB271_284 NB284_271 NB278_284 NB284_278; clear hb hbox hg; have hnb25 := NB284_269.out; have hnc25 := NB269_284.out; have hnb26 := NB284_270.out; have hnc26 := NB270_284.out; have hnb27 := NB284_271.out; have hnc27 := NB271_284.out; have hnb28 := NB284_278.out; have hnc28 := NB278_284.out; obtain ⟨hcz29_0, hcz29_1, hcz29_2, hcz29_3, hfz29_0, hfz29_1, hfz29_2, hfz29_3⟩ := zC4 BK284.out))
 (try simp only [Act.put, List.setIfInBounds_toArray, List.set_cons_zero, List.set_cons_succ])
 go_cut [29] (fun v29 wc => ∃ (kq : Nat) (x29_5 : Bool), v29 = .bool x29_5 ∧ Aside0 (lease_Take.j0 kq a2 t277 t283 x29_5 a0_0 l0_1 l0_2 a1_0 a1_1 a1_2 a1_3 t272 t273 t274 t275 t276 = some (r1, r2, r3, r4, r5)) ∧ Aside0 (kq ≤ k) ∧ Aside0 (wc.heap[gb269]? = some (.cells #[.int .i64 a0_0, (.slice A0_1 l0_1.length c0_1), (.slice A0_2 l0_2.length c0_2)] 27 (0, 0))) ∧ Aside0 (wc.heap[gb270]? = some (.cells #[.int .i64 a1_0, .string a1_1, .bool a1_2, .int .i64 a1_3] 32 (0, 0))) ∧ Aside0 (wc.heap[gb271]? = some (.cells #[.int .i64 0, (.slice none 0 0), (.slice none 0 0)] 27 (0, 0))) ∧ Aside0 (wc.heap[gb278]? = some (.cells #[.int .i64 t272, .string t273, .bool t274, .int .i64 t275, .int .i64 t276] 34 (0, 0))) ∧ Aside0 (wc.heap[gb284]? = some (.cells #[.int .i64 t279, .string t280, .bool t281, .int .i64 t282] 32 (0, 0))) ∧ Aside0 (Below w.heap.size w wc))
 case first =>
  have H := HC6.out
  clear HC6
  by_cases c30 : a1_0 < 1
  ·rw [if_pos c30] at H
   have c30b0 : decide (a1_0 < 1) = true := decide_eq_true c30
   clear c30
   (first | rw [c30b0] | (simp only [i64_w, i32_w]; rw [c30b0]) | skip)
   have H' := Aside0.mk H
   clear H
   have hnb31 := NB270_269.out
   have hnc31 := NB269_270.out
   have hnb32 := NB270_271.out
   have hnc32 := NB271_270.out
   have hnb33 := NB270_278.out
   have hnc33 := NB278_270.out
   have hnb34 := NB270_284.out
   have hnc34 := NB284_270.out
   obtain ⟨hcz35_0, hcz35_1, hcz35_2, hcz35_3, hfz35_0, hfz35_1, hfz35_2, hfz35_3⟩ := zC4 BK270.out
   go_wp2
   go_meet
   case rel => exact ⟨_, (true), zS, H', ⟨by first | omega | exact Nat.le_refl _⟩, ⟨zK BK269.out⟩, ⟨zK BK270.out⟩, ⟨zK BK271.out⟩, ⟨zK BK278.out⟩, ⟨zP4 BK284.out⟩, ⟨zL HB.out⟩⟩
  ·rw [if_neg c30] at H
   have c30b0 : decide (a1_0 < 1) = false := decide_eq_false c30
   clear c30
   (first | rw [c30b0] | (simp only [i64_w, i32_w]; rw [c30b0]) | skip)
   by_cases c36 : a1_0 > 1000
   ·rw [if_pos c36] at H
    have c36b0 : decide (1000 < a1_0) = true := decide_eq_true c36
    clear c36
    have H' := Aside0.mk H
    clear H
    have hnb37 := NB270_269.out
    have hnc37 := NB269_270.out
    have hnb38 := NB270_271.out
    have hnc38 := NB271_270.out
    have hnb39 := NB270_278.out
    have hnc39 := NB278_270.out
    have hnb40 := NB270_284.out
    have hnc40 := NB284_270.out
    obtain ⟨hcz41_0, hcz41_1, hcz41_2, hcz41_3, hfz41_0, hfz41_1, hfz41_2, hfz41_3⟩ := zC4 BK270.out
    go_wp2
    go_meet
    case rel => exact ⟨_, (true), zS, H', ⟨by first | omega | exact Nat.le_refl _⟩, ⟨zK BK269.out⟩, ⟨zK BK270.out⟩, ⟨zK BK271.out⟩, ⟨zK BK278.out⟩, ⟨zP4 BK284.out⟩, ⟨zL HB.out⟩⟩
   ·rw [if_neg c36] at H
    have c36b0 : decide (1000 < a1_0) = false := decide_eq_false c36
    clear c36
    replace H := Option.bind_eq_some_iff.mp H
    obtain ⟨t285, A420, H⟩ := H
    replace H : (if t285 = true then ((lease_lives.f a1_3).bind fun t286 => (if t286 = true then ((lease_time.f a2).bind fun t287 => (lease_Take.j0 k a2 t277 t283 (!t287) a0_0 l0_1 l0_2 a1_0 a1_1 a1_2 a1_3 t272 t273 t274 t275 t276)) else (lease_Take.j0 k a2 t277 t283 true a0_0 l0_1 l0_2 a1_0 a1_1 a1_2 a1_3 t272 t273 t274 t275 t276))) else (lease_Take.j0 k a2 t277 t283 true a0_0 l0_1 l0_2 a1_0 a1_1 a1_2 a1_3 t272 t273 t274 t275 t276)) = some (r1, r2, r3, r4, r5) := H
    have A42 := Aside0.mk A420
    clear A420
    by_cases c43 : t285 = true
    ·subst c43
     have H1 : ((lease_lives.f a1_3).bind fun t286 => (if t286 = true then ((lease_time.f a2).bind fun t287 => (lease_Take.j0 k a2 t277 t283 (!t287) a0_0 l0_1 l0_2 a1_0 a1_1 a1_2 a1_3 t272 t273 t274 t275 t276)) else (lease_Take.j0 k a2 t277 t283 true a0_0 l0_1 l0_2 a1_0 a1_1 a1_2 a1_3 t272 t273 t274 t275 t276))) = some (r1, r2, r3, r4, r5) := by rw [if_pos rfl] at H; exact H
     clear H
     have H := H1
     clear H1
     replace H := Option.bind_eq_some_iff.mp H
     obtain ⟨t286, A440, H⟩ := H
     replace H : (if t286 = true then ((lease_time.f a2).bind fun t287 => (lease_Take.j0 k a2 t277 t283 (!t287) a0_0 l0_1 l0_2 a1_0 a1_1 a1_2 a1_3 t272 t273 t274 t275 t276)) else (lease_Take.j0 k a2 t277 t283 true a0_0 l0_1 l0_2 a1_0 a1_1 a1_2 a1_3 t272 t273 t274 t275 t276)) = some (r1, r2, r3, r4, r5) := H
     have A44 := Aside0.mk A440
     clear A440
     by_cases c45 : t286 = true
     ·subst c45
      have H1 : ((lease_time.f a2).bind fun t287 => (lease_Take.j0 k a2 t277 t283 (!t287) a0_0 l0_1 l0_2 a1_0 a1_1 a1_2 a1_3 t272 t273 t274 t275 t276)) = some (r1, r2, r3, r4, r5) := by rw [if_pos rfl] at H; exact H
      clear H
      have H := H1
      clear H1
      replace H := Option.bind_eq_some_iff.mp H
      obtain ⟨t287, A460, H⟩ := H
      replace H : (lease_Take.j0 k a2 t277 t283 (!t287) a0_0 l0_1 l0_2 a1_0 a1_1 a1_2 a1_3 t272 t273 t274 t275 t276) = some (r1, r2, r3, r4, r5) := H
      have A46 := Aside0.mk A460
      clear A460
      have H' := Aside0.mk H
      clear H
      have hnb47 := NB270_269.out
      have hnc47 := NB269_270.out
      have hnb48 := NB270_271.out
      have hnc48 := NB271_270.out
      have hnb49 := NB270_278.out
      have hnc49 := NB278_270.out
      have hnb50 := NB270_284.out
      have hnc50 := NB284_270.out
      obtain ⟨hcz51_0, hcz51_1, hcz51_2, hcz51_3, hfz51_0, hfz51_1, hfz51_2, hfz51_3⟩ := zC4 BK270.out
      go_wp2_with (first | (go_at_call 26; (with_reducible refine (text_Path.calls k a1_1 true _ A42.out).mono ?_); rintro e w52 ⟨rfl, hb⟩; have n0_ := Aside0.mk (blk_below (g := gb269) (o := .cells #[.int .i64 a0_0, .slice A0_1 l0_1.length c0_1, .slice A0_2 l0_2.length c0_2] 27 (0, 0)) (zK BK269.out) hb); have n1_ := Aside0.mk (blk_below (g := gb270) (o := .cells #[.int .i64 a1_0, .string a1_1, .bool a1_2, .int .i64 a1_3] 32 (0, 0)) (zK BK270.out) hb); have n2_ := Aside0.mk (blk_below (g := gb271) (o := .cells #[.int .i64 0, .slice none 0 0, .slice none 0 0] 27 (0, 0)) (zK BK271.out) hb); have n3_ := Aside0.mk (blk_below (g := gb278) (o := .cells #[.int .i64 t272, .string t273, .bool t274, .int .i64 t275, .int .i64 t276] 34 (0, 0)) (zK BK278.out) hb); have n4_ := Aside0.mk (blk_below (g := gb284) (o := .cells #[.int .i64 t279, .string t280, .bool t281, .int .i64 t282] 32 (0, 0)) (zP4 BK284.out) hb); have n5_ := Aside0.mk (below_step (zL HB.out) hb); revert n0_ n1_ n2_ n3_ n4_ n5_; clear BK269 BK270 BK271 BK278 BK284 HB; intro BK269 BK270 BK271 BK278 BK284 HB; (try clear hb); (try clear hb2); (try clear hk); (try clear hi); obtain ⟨hcz53_0, hcz53_1, hcz53_2, hcz53_3, hfz53_0, hfz53_1, hfz53_2, hfz53_3⟩ := zC4 BK270.out) | (go_at_call 27; (with_reducible refine (lease_lives.calls a1_3 true _ A44.out).mono ?_); rintro e w' ⟨rfl, ⟨nd, rfl⟩⟩) | (go_at_call 28; (with_reducible refine (lease_time.calls a2 t287 _ A46.out).mono ?_); rintro e w' ⟨rfl, ⟨nd, rfl⟩⟩))
      go_meet
      case rel => exact ⟨_, (!t287), zS, H', ⟨by first | omega | exact Nat.le_refl _⟩, ⟨zK BK269.out⟩, ⟨zK BK270.out⟩, ⟨zK BK271.out⟩, ⟨zK BK278.out⟩, ⟨zK BK284.out⟩, ⟨zL HB.out⟩⟩
     ·replace c45 := Bool.eq_false_iff.mpr c45
      subst c45
      have H1 : (lease_Take.j0 k a2 t277 t283 true a0_0 l0_1 l0_2 a1_0 a1_1 a1_2 a1_3 t272 t273 t274 t275 t276) = some (r1, r2, r3, r4, r5) := by rw [if_neg (show ¬ (false = true) by decide)] at H; exact H
      clear H
      have H := H1
      clear H1
      have H' := Aside0.mk H
      clear H
      have hnb54 := NB270_269.out
      have hnc54 := NB269_270.out
      have hnb55 := NB270_271.out
      have hnc55 := NB271_270.out
      have hnb56 := NB270_278.out
      have hnc56 := NB278_270.out
      have hnb57 := NB270_284.out
      have hnc57 := NB284_270.out
      obtain ⟨hcz58_0, hcz58_1, hcz58_2, hcz58_3, hfz58_0, hfz58_1, hfz58_2, hfz58_3⟩ := zC4 BK270.out
      go_wp2_with (first | (go_at_call 26; (with_reducible refine (text_Path.calls k a1_1 true _ A42.out).mono ?_); rintro e w59 ⟨rfl, hb⟩; have n0_ := Aside0.mk (blk_below (g := gb269) (o := .cells #[.int .i64 a0_0, .slice A0_1 l0_1.length c0_1, .slice A0_2 l0_2.length c0_2] 27 (0, 0)) (zK BK269.out) hb); have n1_ := Aside0.mk (blk_below (g := gb270) (o := .cells #[.int .i64 a1_0, .string a1_1, .bool a1_2, .int .i64 a1_3] 32 (0, 0)) (zK BK270.out) hb); have n2_ := Aside0.mk (blk_below (g := gb271) (o := .cells #[.int .i64 0, .slice none 0 0, .slice none 0 0] 27 (0, 0)) (zK BK271.out) hb); have n3_ := Aside0.mk (blk_below (g := gb278) (o := .cells #[.int .i64 t272, .string t273, .bool t274, .int .i64 t275, .int .i64 t276] 34 (0, 0)) (zK BK278.out) hb); have n4_ := Aside0.mk (blk_below (g := gb284) (o := .cells #[.int .i64 t279, .string t280, .bool t281, .int .i64 t282] 32 (0, 0)) (zP4 BK284.out) hb); have n5_ := Aside0.mk (below_step (zL HB.out) hb); revert n0_ n1_ n2_ n3_ n4_ n5_; clear BK269 BK270 BK271 BK278 BK284 HB; intro BK269 BK270 BK271 BK278 BK284 HB; (try clear hb); (try clear hb2); (try clear hk); (try clear hi); obtain ⟨hcz60_0, hcz60_1, hcz60_2, hcz60_3, hfz60_0, hfz60_1, hfz60_2, hfz60_3⟩ := zC4 BK270.out) | (go_at_call 27; (with_reducible refine (lease_lives.calls a1_3 false _ A44.out).mono ?_); rintro e w' ⟨rfl, ⟨nd, rfl⟩⟩))
      go_meet
      case rel => exact ⟨_, (true), zS, H', ⟨by first | omega | exact Nat.le_refl _⟩, ⟨zK BK269.out⟩, ⟨zK BK270.out⟩, ⟨zK BK271.out⟩, ⟨zK BK278.out⟩, ⟨zK BK284.out⟩, ⟨zL HB.out⟩⟩
    ·replace c43 := Bool.eq_false_iff.mpr c43
     subst c43
     have H1 : (lease_Take.j0 k a2 t277 t283 true a0_0 l0_1 l0_2 a1_0 a1_1 a1_2 a1_3 t272 t273 t274 t275 t276) = some (r1, r2, r3, r4, r5) := by rw [if_neg (show ¬ (false = true) by decide)] at H; exact H
     clear H
     have H := H1
     clear H1
     have H' := Aside0.mk H
     clear H
     have hnb61 := NB270_269.out
     have hnc61 := NB269_270.out
     have hnb62 := NB270_271.out
     have hnc62 := NB271_270.out
     have hnb63 := NB270_278.out
     have hnc63 := NB278_270.out
     have hnb64 := NB270_284.out
     have hnc64 := NB284_270.out
     obtain ⟨hcz65_0, hcz65_1, hcz65_2, hcz65_3, hfz65_0, hfz65_1, hfz65_2, hfz65_3⟩ := zC4 BK270.out
     go_wp2_with (first | (go_at_call 26; (with_reducible refine (text_Path.calls k a1_1 false _ A42.out).mono ?_); rintro e w66 ⟨rfl, hb⟩; have n0_ := Aside0.mk (blk_below (g := gb269) (o := .cells #[.int .i64 a0_0, .slice A0_1 l0_1.length c0_1, .slice A0_2 l0_2.length c0_2] 27 (0, 0)) (zK BK269.out) hb); have n1_ := Aside0.mk (blk_below (g := gb270) (o := .cells #[.int .i64 a1_0, .string a1_1, .bool a1_2, .int .i64 a1_3] 32 (0, 0)) (zK BK270.out) hb); have n2_ := Aside0.mk (blk_below (g := gb271) (o := .cells #[.int .i64 0, .slice none 0 0, .slice none 0 0] 27 (0, 0)) (zK BK271.out) hb); have n3_ := Aside0.mk (blk_below (g := gb278) (o := .cells #[.int .i64 t272, .string t273, .bool t274, .int .i64 t275, .int .i64 t276] 34 (0, 0)) (zK BK278.out) hb); have n4_ := Aside0.mk (blk_below (g := gb284) (o := .cells #[.int .i64 t279, .string t280, .bool t281, .int .i64 t282] 32 (0, 0)) (zP4 BK284.out) hb); have n5_ := Aside0.mk (below_step (zL HB.out) hb); revert n0_ n1_ n2_ n3_ n4_ n5_; clear BK269 BK270 BK271 BK278 BK284 HB; intro BK269 BK270 BK271 BK278 BK284 HB; (try clear hb); (try clear hb2); (try clear hk); (try clear hi)))
     go_meet
     case rel => exact ⟨_, (true), zS, H', ⟨by first | omega | exact Nat.le_refl _⟩, ⟨zK BK269.out⟩, ⟨zK BK270.out⟩, ⟨zK BK271.out⟩, ⟨zK BK278.out⟩, ⟨zK BK284.out⟩, ⟨zL HB.out⟩⟩
 case rest =>
  clear HC6
  try clear c1
  try clear c2
  try clear p2
  try clear c3
  try clear c4
  try clear c5
  try clear c6
  try clear c10
  try clear c11
  try clear c13
  try clear c14
  try clear c17
  try clear c18
  try clear c19
  try clear c21
  try clear c25
  try clear c26
  try clear c27
  try clear c28
  try clear c30
  try clear c30b0
  try clear c31
  try clear c32
  try clear c33
  try clear c34
  try clear c36
  try clear c36b0
  try clear c37
  try clear c38
  try clear c39
  try clear c40
  try clear c43
  try clear c45
  try clear c47
  try clear c48
  try clear c49
  try clear c50
  try clear c54
  try clear c55
  try clear c56
  try clear c57
  try clear c61
  try clear c62
  try clear c63
  try clear c64
  try clear hcz12_0
  try clear hcz12_1
  try clear hcz12_2
  try clear hcz14_0
  try clear hcz14_1
  try clear hcz14_2
  try clear hcz14_3
  try clear hcz20_0
  try clear hcz20_1
  try clear hcz20_2
  try clear hcz20_3
  try clear hcz20_4
  try clear hcz21_0
  try clear hcz21_1
  try clear hcz21_2
  try clear hcz22_0
  try clear hcz22_1
  try clear hcz22_2
  try clear hcz22_3
  try clear hcz29_0
  try clear hcz29_1
  try clear hcz29_2
  try clear hcz29_3
  try clear hcz35_0
  try clear hcz35_1
  try clear hcz35_2
  try clear hcz35_3
  try clear hcz41_0
  try clear hcz41_1
  try clear hcz41_2
  try clear hcz41_3
  try clear hcz51_0
  try clear hcz51_1
  try clear hcz51_2
  try clear hcz51_3
  try clear hcz53_0
  try clear hcz53_1
  try clear hcz53_2
  try clear hcz53_3
  try clear hcz58_0
  try clear hcz58_1
  try clear hcz58_2
  try clear hcz58_3
  try clear hcz60_0
  try clear hcz60_1
  try clear hcz60_2
  try clear hcz60_3
  try clear hcz65_0
  try clear hcz65_1
  try clear hcz65_2
  try clear hcz65_3
  try clear hfz12_0
  try clear hfz12_1
  try clear hfz12_2
  try clear hfz14_0
  try clear hfz14_1
  try clear hfz14_2
  try clear hfz14_3
  try clear hfz20_0
  try clear hfz20_1
  try clear hfz20_2
  try clear hfz20_3
  try clear hfz20_4
  try clear hfz21_0
  try clear hfz21_1
  try clear hfz21_2
  try clear hfz22_0
  try clear hfz22_1
  try clear hfz22_2
  try clear hfz22_3
  try clear hfz29_0
  try clear hfz29_1
  try clear hfz29_2
  try clear hfz29_3
  try clear hfz35_0
  try clear hfz35_1
  try clear hfz35_2
  try clear hfz35_3
  try clear hfz41_0
  try clear hfz41_1
  try clear hfz41_2
  try clear hfz41_3
  try clear hfz51_0
  try clear hfz51_1
  try clear hfz51_2
  try clear hfz51_3
  try clear hfz53_0
  try clear hfz53_1
  try clear hfz53_2
  try clear hfz53_3
  try clear hfz58_0
  try clear hfz58_1
  try clear hfz58_2
  try clear hfz58_3
  try clear hfz60_0
  try clear hfz60_1
  try clear hfz60_2
  try clear hfz60_3
  try clear hfz65_0
  try clear hfz65_1
  try clear hfz65_2
  try clear hfz65_3
  obtain ⟨kq, x29_5, rfl, HA, HJ5, BK269, BK270, BK271, BK278, BK284, HB⟩ := hcut
  cases kq with
  | zero => exact absurd HA.out (by simp [lease_Take.j0])
  | succ kj5 =>
   have H := HA.out
   clear HA
   simp only [lease_Take.j0] at H
   by_cases c67 : x29_5 = true
   ·subst c67
    have H1 : (some (0, ([] : List (S34)), ([] : List (S32)), 0, 1)) = some (r1, r2, r3, r4, r5) := by rw [if_pos rfl] at H; exact H
    clear H
    have H := H1
    clear H1
    simp only [Option.some.injEq, Prod.mk.injEq] at H
    obtain ⟨rfl, rfl, rfl, rfl, rfl⟩ := H
    have hnb68 := NB271_269.out
    have hnc68 := NB269_271.out
    have hnb69 := NB271_270.out
    have hnc69 := NB270_271.out
    have hnb70 := NB271_278.out
    have hnc70 := NB278_271.out
    have hnb71 := NB271_284.out
    have hnc71 := NB284_271.out
    obtain ⟨hcz72_0, hcz72_1, hcz72_2, hfz72_0, hfz72_1, hfz72_2⟩ := zC3 BK271.out
    go_wp2
    refine bodyPost_ret (results_ctt rfl _ _ gb271 27 #[.int .i64 0, .slice none 0 0, .slice none 0 0] (0, 0) _ rfl (zP3 BK271.out) Tryd.underlying27 rfl (by kernel_rfl)) rfl ?_
    exact ⟨_, _, zE, by first | exact Kd.R_nil _ _ _ _ _ | exact Kd.N_nil _ _ _ _ _ | exact Kd.V_nil _ _ _ _ _ | exact Kd.Q_nil _ _ _ _ _ | exact Kd.S_nil _ _ _ _ _, by first | exact Kd.R_nil _ _ _ _ _ | exact Kd.N_nil _ _ _ _ _ | exact Kd.V_nil _ _ _ _ _ | exact Kd.Q_nil _ _ _ _ _ | exact Kd.S_nil _ _ _ _ _, zL HB.out⟩
   ·replace c67 := Bool.eq_false_iff.mpr c67
    subst c67
    have H1 : (if t277 = true then (if a1_2 = true then (lease_Take.j1 kj5 a2 t277 t283 (!t274) a0_0 l0_1 l0_2 a1_0 a1_1 a1_2 a1_3) else (lease_Take.j1 kj5 a2 t277 t283 false a0_0 l0_1 l0_2 a1_0 a1_1 a1_2 a1_3)) else (lease_Take.j1 kj5 a2 t277 t283 false a0_0 l0_1 l0_2 a1_0 a1_1 a1_2 a1_3)) = some (r1, r2, r3, r4, r5) := by rw [if_neg (show ¬ (false = true) by decide)] at H; exact H
    clear H
    have H := H1
    clear H1
    have HC73 := Aside0.mk H
    clear H
    go_upto_region 5 with (fail)
    go_cut [56] (fun v56 wc => ∃ (kq : Nat) (x56_72 : Bool), v56 = .bool x56_72 ∧ Aside0 (lease_Take.j1 kq a2 t277 t283 x56_72 a0_0 l0_1 l0_2 a1_0 a1_1 a1_2 a1_3 = some (r1, r2, r3, r4, r5)) ∧ Aside0 (kq ≤ kj5) ∧ Aside0 (wc.heap[gb269]? = some (.cells #[.int .i64 a0_0, (.slice A0_1 l0_1.length c0_1), (.slice A0_2 l0_2.length c0_2)] 27 (0, 0))) ∧ Aside0 (wc.heap[gb270]? = some (.cells #[.int .i64 a1_0, .string a1_1, .bool a1_2, .int .i64 a1_3] 32 (0, 0))) ∧ Aside0 (wc.heap[gb271]? = some (.cells #[.int .i64 0, (.slice none 0 0), (.slice none 0 0)] 27 (0, 0))) ∧ Aside0 (wc.heap[gb278]? = some (.cells #[.int .i64 t272, .string t273, .bool t274, .int .i64 t275, .int .i64 t276] 34 (0, 0))) ∧ Aside0 (wc.heap[gb284]? = some (.cells #[.int .i64 t279, .string t280, .bool t281, .int .i64 t282] 32 (0, 0))) ∧ Aside0 (Below w.heap.size w wc))
    case first =>
     have H := HC73.out
     clear HC73
     by_cases c74 : t277 = true
     ·subst c74
      have H1 : (if a1_2 = true then (lease_Take.j1 kj5 a2 true t283 (!t274) a0_0 l0_1 l0_2 a1_0 a1_1 a1_2 a1_3) else (lease_Take.j1 kj5 a2 true t283 false a0_0 l0_1 l0_2 a1_0 a1_1 a1_2 a1_3)) = some (r1, r2, r3, r4, r5) := by rw [if_pos rfl] at H; exact H
      clear H
      have H := H1
      clear H1
      by_cases c75 : a1_2 = true
      ·subst c75
       have H1 : (lease_Take.j1 kj5 a2 true t283 (!t274) a0_0 l0_1 l0_2 a1_0 a1_1 true a1_3) = some (r1, r2, r3, r4, r5) := by rw [if_pos rfl] at H; exact H
       clear H
       have H := H1
       clear H1
       have H' := Aside0.mk H
       clear H
       have hnb76 := NB270_269.out
       have hnc76 := NB269_270.out
       have hnb77 := NB270_271.out
       have hnc77 := NB271_270.out
       have hnb78 := NB270_278.out
       have hnc78 := NB278_270.out
       have hnb79 := NB270_284.out
       have hnc79 := NB284_270.out
       obtain ⟨hcz80_0, hcz80_1, hcz80_2, hcz80_3, hfz80_0, hfz80_1, hfz80_2, hfz80_3⟩ := zC4 BK270.out
       have hnb81 := NB278_269.out
       have hnc81 := NB269_278.out
       have hnb82 := NB278_271.out
       have hnc82 := NB271_278.out
       have hnb83 := NB278_284.out
       have hnc83 := NB284_278.out
       obtain ⟨hcz84_0, hcz84_1, hcz84_2, hcz84_3, hcz84_4, hfz84_0, hfz84_1, hfz84_2, hfz84_3, hfz84_4⟩ := zC5 BK278.out
       go_wp2
       go_meet
       case rel => exact ⟨_, (!t274), zS, H', ⟨by have := HJ5.out; first | omega | exact Nat.le_refl _⟩, ⟨zK BK269.out⟩, ⟨zK BK270.out⟩, ⟨zK BK271.out⟩, ⟨zK BK278.out⟩, ⟨zK BK284.out⟩, ⟨zL HB.out⟩⟩
      ·replace c75 := Bool.eq_false_iff.mpr c75
       subst c75
       have H1 : (lease_Take.j1 kj5 a2 true t283 false a0_0 l0_1 l0_2 a1_0 a1_1 false a1_3) = some (r1, r2, r3, r4, r5) := by rw [if_neg (show ¬ (false = true) by decide)] at H; exact H
       clear H
       have H := H1
       clear H1
       have H' := Aside0.mk H
       clear H
       have hnb85 := NB270_269.out
       have hnc85 := NB269_270.out
       have hnb86 := NB270_271.out
       have hnc86 := NB271_270.out
       have hnb87 := NB270_278.out
       have hnc87 := NB278_270.out
       have hnb88 := NB270_284.out
       have hnc88 := NB284_270.out
       obtain ⟨hcz89_0, hcz89_1, hcz89_2, hcz89_3, hfz89_0, hfz89_1, hfz89_2, hfz89_3⟩ := zC4 BK270.out
       go_wp2
       go_meet
       case rel => exact ⟨_, (false), zS, H', ⟨by have := HJ5.out; first | omega | exact Nat.le_refl _⟩, ⟨zK BK269.out⟩, ⟨zK BK270.out⟩, ⟨zK BK271.out⟩, ⟨zK BK278.out⟩, ⟨zK BK284.out⟩, ⟨zL HB.out⟩⟩
     ·replace c74 := Bool.eq_false_iff.mpr c74
      subst c74
      have H1 : (lease_Take.j1 kj5 a2 false t283 false a0_0 l0_1 l0_2 a1_0 a1_1 a1_2 a1_3) = some (r1, r2, r3, r4, r5) := by rw [if_neg (show ¬ (false = true) by decide)] at H; exact H
      clear H
      have H := H1
      clear H1
      have H' := Aside0.mk H
      clear H
      go_wp2
      go_meet
      case rel => exact ⟨_, (false), zS, H', ⟨by have := HJ5.out; first | omega | exact Nat.le_refl _⟩, ⟨zK BK269.out⟩, ⟨zK BK270.out⟩, ⟨zK BK271.out⟩, ⟨zK BK278.out⟩, ⟨zK BK284.out⟩, ⟨zL HB.out⟩⟩
    case rest =>
     clear HC73
     try clear c1
     try clear c2
     try clear p2
     try clear c3
     try clear c4
     try clear c5
     try clear c6
     try clear c7
     try clear c8
     try clear c10
     try clear c11
     try clear c13
     try clear c14
     try clear c17
     try clear c18
     try clear c19
     try clear c21
     try clear c25
     try clear c26
     try clear c27
     try clear c28
     try clear c30
     try clear c30b0
     try clear c31
     try clear c32
     try clear c33
     try clear c34
     try clear c36
     try clear c36b0
     try clear c37
     try clear c38
     try clear c39
     try clear c40
     try clear c43
     try clear c45
     try clear c47
     try clear c48
     try clear c49
     try clear c50
     try clear c54
     try clear c55
     try clear c56
     try clear c57
     try clear c61
     try clear c62
     try clear c63
     try clear c64
     try clear c67
     try clear c68
     try clear c69
     try clear c70
     try clear c71
     try clear c74
     try clear c75
     try clear c76
     try clear c77
     try clear c78
     try clear c79
     try clear c81
     try clear c82
     try clear c83
     try clear c85
     try clear c86
     try clear c87
     try clear c88
     try clear hcz12_0
     try clear hcz12_1
     try clear hcz12_2
     try clear hcz14_0
     try clear hcz14_1
     try clear hcz14_2
     try clear hcz14_3
     try clear hcz20_0
     try clear hcz20_1
     try clear hcz20_2
     try clear hcz20_3
     try clear hcz20_4
     try clear hcz21_0
     try clear hcz21_1
     try clear hcz21_2
     try clear hcz22_0
     try clear hcz22_1
     try clear hcz22_2
     try clear hcz22_3
     try clear hcz29_0
     try clear hcz29_1
     try clear hcz29_2
     try clear hcz29_3
     try clear hcz35_0
     try clear hcz35_1
     try clear hcz35_2
     try clear hcz35_3
     try clear hcz41_0
     try clear hcz41_1
     try clear hcz41_2
     try clear hcz41_3
     try clear hcz51_0
     try clear hcz51_1
     try clear hcz51_2
     try clear hcz51_3
     try clear hcz53_0
     try clear hcz53_1
     try clear hcz53_2
     try clear hcz53_3
     try clear hcz58_0
     try clear hcz58_1
     try clear hcz58_2
     try clear hcz58_3
     try clear hcz60_0
     try clear hcz60_1
     try clear hcz60_2
     try clear hcz60_3
     try clear hcz65_0
     try clear hcz65_1
     try clear hcz65_2
     try clear hcz65_3
     try clear hcz72_0
     try clear hcz72_1
     try clear hcz72_2
     try clear hcz80_0
     try clear hcz80_1
     try clear hcz80_2
     try clear hcz80_3
     try clear hcz84_0
     try clear hcz84_1
     try clear hcz84_2
     try clear hcz84_3
     try clear hcz84_4
     try clear hcz89_0
     try clear hcz89_1
     try clear hcz89_2
     try clear hcz89_3
     try clear hfz12_0
     try clear hfz12_1
     try clear hfz12_2
     try clear hfz14_0
     try clear hfz14_1
     try clear hfz14_2
     try clear hfz14_3
     try clear hfz20_0
     try clear hfz20_1
     try clear hfz20_2
     try clear hfz20_3
     try clear hfz20_4
     try clear hfz21_0
     try clear hfz21_1
     try clear hfz21_2
     try clear hfz22_0
     try clear hfz22_1
     try clear hfz22_2
     try clear hfz22_3
     try clear hfz29_0
     try clear hfz29_1
     try clear hfz29_2
     try clear hfz29_3
     try clear hfz35_0
     try clear hfz35_1
     try clear hfz35_2
     try clear hfz35_3
     try clear hfz41_0
     try clear hfz41_1
     try clear hfz41_2
     try clear hfz41_3
     try clear hfz51_0
     try clear hfz51_1
     try clear hfz51_2
     try clear hfz51_3
     try clear hfz53_0
     try clear hfz53_1
     try clear hfz53_2
     try clear hfz53_3
     try clear hfz58_0
     try clear hfz58_1
     try clear hfz58_2
     try clear hfz58_3
     try clear hfz60_0
     try clear hfz60_1
     try clear hfz60_2
     try clear hfz60_3
     try clear hfz65_0
     try clear hfz65_1
     try clear hfz65_2
     try clear hfz65_3
     try clear hfz72_0
     try clear hfz72_1
     try clear hfz72_2
     try clear hfz80_0
     try clear hfz80_1
     try clear hfz80_2
     try clear hfz80_3
     try clear hfz84_0
     try clear hfz84_1
     try clear hfz84_2
     try clear hfz84_3
     try clear hfz84_4
     try clear hfz89_0
     try clear hfz89_1
     try clear hfz89_2
     try clear hfz89_3
     try clear p2
     obtain ⟨kq, x56_72, rfl, HA, HJ72, BK269, BK270, BK271, BK278, BK284, HB⟩ := hcut
     cases kq with
     | zero => exact absurd HA.out (by simp [lease_Take.j1])
     | succ kj72 =>
      have H := HA.out
      clear HA
      simp only [lease_Take.j1] at H
      by_cases c90 : x56_72 = true
      ·subst c90
       have H1 : (some (0, ([] : List (S34)), ([] : List (S32)), 0, 7)) = some (r1, r2, r3, r4, r5) := by rw [if_pos rfl] at H; exact H
       clear H
       have H := H1
       clear H1
       simp only [Option.some.injEq, Prod.mk.injEq] at H
       obtain ⟨rfl, rfl, rfl, rfl, rfl⟩ := H
       have hnb91 := NB271_269.out
       have hnc91 := NB269_271.out
       have hnb92 := NB271_270.out
       have hnc92 := NB270_271.out
       have hnb93 := NB271_278.out
       have hnc93 := NB278_271.out
       have hnb94 := NB271_284.out
       have hnc94 := NB284_271.out
       obtain ⟨hcz95_0, hcz95_1, hcz95_2, hfz95_0, hfz95_1, hfz95_2⟩ := zC3 BK271.out
       go_wp2
       refine bodyPost_ret (results_ctt rfl _ _ gb271 27 #[.int .i64 0, .slice none 0 0, .slice none 0 0] (0, 0) _ rfl (zP3 BK271.out) Tryd.underlying27 rfl (by kernel_rfl)) rfl ?_
       exact ⟨_, _, zE, by first | exact Kd.R_nil _ _ _ _ _ | exact Kd.N_nil _ _ _ _ _ | exact Kd.V_nil _ _ _ _ _ | exact Kd.Q_nil _ _ _ _ _ | exact Kd.S_nil _ _ _ _ _, by first | exact Kd.R_nil _ _ _ _ _ | exact Kd.N_nil _ _ _ _ _ | exact Kd.V_nil _ _ _ _ _ | exact Kd.Q_nil _ _ _ _ _ | exact Kd.S_nil _ _ _ _ _, zL HB.out⟩
      ·replace c90 := Bool.eq_false_iff.mpr c90
       subst c90
       have H1 : (if t277 = true then (some (0, ([] : List (S34)), ([] : List (S32)), 0, 5)) else (if t283 = true then (some (0, ([] : List (S34)), ([] : List (S32)), 0, 7)) else (if (l0_2.length : Int) ≥ 100 then (some (0, ([] : List (S34)), ([] : List (S32)), 0, 6)) else ((lease_Ask_29.f l0_2).bind fun t288 => ((some (([(⟨a1_0, a1_1, a1_2, a1_3⟩ : S32)] : List (S32)) : List (S32))).bind fun y291 => (if t288.length + y291.length < 3518437208883 then ((lease_Table_settle.f kj72 a0_0 l0_1 (t288 ++ y291) a2).bind fun bt297 => ((lease_Held.f kj72 bt297.1 bt297.2.1 bt297.2.2 a1_0 a1_1).bind fun bt304 => (some (bt297.1, bt297.2.1, bt297.2.2, bt304.2.2.2.1, 0)))) else (none))))))) = some (r1, r2, r3, r4, r5) := by rw [if_neg (show ¬ (false = true) by decide)] at H; exact H
       clear H
       have H := H1
       clear H1
       by_cases c96 : t277 = true
       ·subst c96
        have H1 : (some (0, ([] : List (S34)), ([] : List (S32)), 0, 5)) = some (r1, r2, r3, r4, r5) := by rw [if_pos rfl] at H; exact H
        clear H
        have H := H1
        clear H1
        simp only [Option.some.injEq, Prod.mk.injEq] at H
        obtain ⟨rfl, rfl, rfl, rfl, rfl⟩ := H
        have hnb97 := NB271_269.out
        have hnc97 := NB269_271.out
        have hnb98 := NB271_270.out
        have hnc98 := NB270_271.out
        have hnb99 := NB271_278.out
        have hnc99 := NB278_271.out
        have hnb100 := NB271_284.out
        have hnc100 := NB284_271.out
        obtain ⟨hcz101_0, hcz101_1, hcz101_2, hfz101_0, hfz101_1, hfz101_2⟩ := zC3 BK271.out
        go_wp2
        refine bodyPost_ret (results_ctt rfl _ _ gb271 27 #[.int .i64 0, .slice none 0 0, .slice none 0 0] (0, 0) _ rfl (zP3 BK271.out) Tryd.underlying27 rfl (by kernel_rfl)) rfl ?_
        exact ⟨_, _, zE, by first | exact Kd.R_nil _ _ _ _ _ | exact Kd.N_nil _ _ _ _ _ | exact Kd.V_nil _ _ _ _ _ | exact Kd.Q_nil _ _ _ _ _ | exact Kd.S_nil _ _ _ _ _, by first | exact Kd.R_nil _ _ _ _ _ | exact Kd.N_nil _ _ _ _ _ | exact Kd.V_nil _ _ _ _ _ | exact Kd.Q_nil _ _ _ _ _ | exact Kd.S_nil _ _ _ _ _, zL HB.out⟩
       ·replace c96 := Bool.eq_false_iff.mpr c96
        subst c96
        have H1 : (if t283 = true then (some (0, ([] : List (S34)), ([] : List (S32)), 0, 7)) else (if (l0_2.length : Int) ≥ 100 then (some (0, ([] : List (S34)), ([] : List (S32)), 0, 6)) else ((lease_Ask_29.f l0_2).bind fun t288 => ((some (([(⟨a1_0, a1_1, a1_2, a1_3⟩ : S32)] : List (S32)) : List (S32))).bind fun y291 => (if t288.length + y291.length < 3518437208883 then ((lease_Table_settle.f kj72 a0_0 l0_1 (t288 ++ y291) a2).bind fun bt297 => ((lease_Held.f kj72 bt297.1 bt297.2.1 bt297.2.2 a1_0 a1_1).bind fun bt304 => (some (bt297.1, bt297.2.1, bt297.2.2, bt304.2.2.2.1, 0)))) else (none)))))) = some (r1, r2, r3, r4, r5) := by rw [if_neg (show ¬ (false = true) by decide)] at H; exact H
        clear H
        have H := H1
        clear H1
        by_cases c102 : t283 = true
        ·subst c102
         have H1 : (some (0, ([] : List (S34)), ([] : List (S32)), 0, 7)) = some (r1, r2, r3, r4, r5) := by rw [if_pos rfl] at H; exact H
         clear H
         have H := H1
         clear H1
         simp only [Option.some.injEq, Prod.mk.injEq] at H
         obtain ⟨rfl, rfl, rfl, rfl, rfl⟩ := H
         have hnb103 := NB271_269.out
         have hnc103 := NB269_271.out
         have hnb104 := NB271_270.out
         have hnc104 := NB270_271.out
         have hnb105 := NB271_278.out
         have hnc105 := NB278_271.out
         have hnb106 := NB271_284.out
         have hnc106 := NB284_271.out
         obtain ⟨hcz107_0, hcz107_1, hcz107_2, hfz107_0, hfz107_1, hfz107_2⟩ := zC3 BK271.out
         go_wp2
         refine bodyPost_ret (results_ctt rfl _ _ gb271 27 #[.int .i64 0, .slice none 0 0, .slice none 0 0] (0, 0) _ rfl (zP3 BK271.out) Tryd.underlying27 rfl (by kernel_rfl)) rfl ?_
         exact ⟨_, _, zE, by first | exact Kd.R_nil _ _ _ _ _ | exact Kd.N_nil _ _ _ _ _ | exact Kd.V_nil _ _ _ _ _ | exact Kd.Q_nil _ _ _ _ _ | exact Kd.S_nil _ _ _ _ _, by first | exact Kd.R_nil _ _ _ _ _ | exact Kd.N_nil _ _ _ _ _ | exact Kd.V_nil _ _ _ _ _ | exact Kd.Q_nil _ _ _ _ _ | exact Kd.S_nil _ _ _ _ _, zL HB.out⟩
        ·replace c102 := Bool.eq_false_iff.mpr c102
         subst c102
         have H1 : (if (l0_2.length : Int) ≥ 100 then (some (0, ([] : List (S34)), ([] : List (S32)), 0, 6)) else ((lease_Ask_29.f l0_2).bind fun t288 => ((some (([(⟨a1_0, a1_1, a1_2, a1_3⟩ : S32)] : List (S32)) : List (S32))).bind fun y291 => (if t288.length + y291.length < 3518437208883 then ((lease_Table_settle.f kj72 a0_0 l0_1 (t288 ++ y291) a2).bind fun bt297 => ((lease_Held.f kj72 bt297.1 bt297.2.1 bt297.2.2 a1_0 a1_1).bind fun bt304 => (some (bt297.1, bt297.2.1, bt297.2.2, bt304.2.2.2.1, 0)))) else (none))))) = some (r1, r2, r3, r4, r5) := by rw [if_neg (show ¬ (false = true) by decide)] at H; exact H
         clear H
         have H := H1
         clear H1
         by_cases c108 : (l0_2.length : Int) ≥ 100
         ·rw [if_pos c108] at H
          have c108b0 : decide (100 ≤ (l0_2.length : Int)) = true := decide_eq_true c108
          have c108b1 : decide (100 ≤ l0_2.length) = true := decide_eq_true (by omega)
          clear c108
          simp only [Option.some.injEq, Prod.mk.injEq] at H
          obtain ⟨rfl, rfl, rfl, rfl, rfl⟩ := H
          have hnb109 := NB269_270.out
          have hnc109 := NB270_269.out
          have hnb110 := NB269_271.out
          have hnc110 := NB271_269.out
          have hnb111 := NB269_278.out
          have hnc111 := NB278_269.out
          have hnb112 := NB269_284.out
          have hnc112 := NB284_269.out
          obtain ⟨hcz113_0, hcz113_1, hcz113_2, hfz113_0, hfz113_1, hfz113_2⟩ := zC3 BK269.out
          have hnb114 := NB271_270.out
          have hnc114 := NB270_271.out
          have hnb115 := NB271_278.out
          have hnc115 := NB278_271.out
          have hnb116 := NB271_284.out
          have hnc116 := NB284_271.out
          obtain ⟨hcz117_0, hcz117_1, hcz117_2, hfz117_0, hfz117_1, hfz117_2⟩ := zC3 BK271.out
          go_wp2
          refine bodyPost_ret (results_ctt rfl _ _ gb271 27 #[.int .i64 0, .slice none 0 0, .slice none 0 0] (0, 0) _ rfl (zP3 BK271.out) Tryd.underlying27 rfl (by kernel_rfl)) rfl ?_
          exact ⟨_, _, zE, by first | exact Kd.R_nil _ _ _ _ _ | exact Kd.N_nil _ _ _ _ _ | exact Kd.V_nil _ _ _ _ _ | exact Kd.Q_nil _ _ _ _ _ | exact Kd.S_nil _ _ _ _ _, by first | exact Kd.R_nil _ _ _ _ _ | exact Kd.N_nil _ _ _ _ _ | exact Kd.V_nil _ _ _ _ _ | exact Kd.Q_nil _ _ _ _ _ | exact Kd.S_nil _ _ _ _ _, zL HB.out⟩
         ·rw [if_neg c108] at H
          have c108b0 : decide (100 ≤ (l0_2.length : Int)) = false := decide_eq_false c108
          have c108b1 : decide (100 ≤ l0_2.length) = false := decide_eq_false (by omega)
          clear c108
          replace H := Option.bind_eq_some_iff.mp H
          obtain ⟨t288, A1180, H⟩ := H
          replace H : ((some (([(⟨a1_0, a1_1, a1_2, a1_3⟩ : S32)] : List (S32)) : List (S32))).bind fun y291 => (if t288.length + y291.length < 3518437208883 then ((lease_Table_settle.f kj72 a0_0 l0_1 (t288 ++ y291) a2).bind fun bt297 => ((lease_Held.f kj72 bt297.1 bt297.2.1 bt297.2.2 a1_0 a1_1).bind fun bt304 => (some (bt297.1, bt297.2.1, bt297.2.2, bt304.2.2.2.1, 0)))) else (none))) = some (r1, r2, r3, r4, r5) := H
          have A118 := Aside0.mk A1180
          clear A1180
          obtain ⟨y291, hy291⟩ : ∃ y_ : List (S32), y_ = (([(⟨a1_0, a1_1, a1_2, a1_3⟩ : S32)] : List (S32))) := ⟨_, rfl⟩
          replace H : (if t288.length + y291.length < 3518437208883 then ((lease_Table_settle.f kj72 a0_0 l0_1 (t288 ++ y291) a2).bind fun bt297 => ((lease_Held.f kj72 bt297.1 bt297.2.1 bt297.2.2 a1_0 a1_1).bind fun bt304 => (some (bt297.1, bt297.2.1, bt297.2.2, bt304.2.2.2.1, 0)))) else (none)) = some (r1, r2, r3, r4, r5) := zH hy291 H
          have Ny291 := Aside0.mk hy291
          clear hy291
          by_cases c119 : t288.length + y291.length < 3518437208883
          ·rw [if_pos c119] at H
           have LMc119 := Aside0.mk c119
           clear c119
           obtain ⟨y294, hy294⟩ : ∃ y_ : List (S32), y_ = (t288 ++ y291) := ⟨_, rfl⟩
           replace H : ((lease_Table_settle.f kj72 a0_0 l0_1 y294 a2).bind fun bt297 => ((lease_Held.f kj72 bt297.1 bt297.2.1 bt297.2.2 a1_0 a1_1).bind fun bt304 => (some (bt297.1, bt297.2.1, bt297.2.2, bt304.2.2.2.1, 0)))) = some (r1, r2, r3, r4, r5) := zH hy294 H
           have Ny294 := Aside0.mk hy294
           clear hy294
           replace H := Option.bind_eq_some_iff.mp H
           obtain ⟨⟨t297, t298, t301⟩, A1200, H⟩ := H
           replace H : ((lease_Held.f kj72 t297 t298 t301 a1_0 a1_1).bind fun bt304 => (some (t297, t298, t301, bt304.2.2.2.1, 0))) = some (r1, r2, r3, r4, r5) := H
           have A120 := Aside0.mk A1200
           clear A1200
           replace H := Option.bind_eq_some_iff.mp H
           obtain ⟨⟨t304, t305, t306, t307, t308, t309⟩, A1210, H⟩ := H
           replace H : (some (t297, t298, t301, t307, 0)) = some (r1, r2, r3, r4, r5) := H
           have A121 := Aside0.mk A1210
           clear A1210
           simp only [Option.some.injEq, Prod.mk.injEq] at H
           obtain ⟨rfl, rfl, rfl, rfl, rfl⟩ := H
           have hnb122 := NB269_270.out
           have hnc122 := NB270_269.out
           have hnb123 := NB269_271.out
           have hnc123 := NB271_269.out
           have hnb124 := NB269_278.out
           have hnc124 := NB278_269.out
           have hnb125 := NB269_284.out
           have hnc125 := NB284_269.out
           obtain ⟨hcz126_0, hcz126_1, hcz126_2, hfz126_0, hfz126_1, hfz126_2⟩ := zC3 BK269.out
           try go_wp2
           have n0_ := Aside0.mk (blk_drew BK269.out)
           have n1_ := Aside0.mk (blk_drew BK270.out)
           have n2_ := Aside0.mk (blk_drew BK271.out)
           have n3_ := Aside0.mk (blk_drew BK278.out)
           have n4_ := Aside0.mk (blk_drew BK284.out)
           have n5_ := Aside0.mk (below_drew1 HB.out)
           clear BK269
           clear BK270
           clear BK271
           clear BK278
           clear BK284
           clear HB
           have BK269 := n0_
           have BK270 := n1_
           have BK271 := n2_
           have BK278 := n3_
           have BK284 := n4_
           have HB := n5_
           clear n0_ n1_ n2_ n3_ n4_ n5_
           refine start_ (n := 8) (S := fun w' => w'.cell? ⟨gb269, 0, none⟩ = some (.int .i64 a0_0) ∧ w'.cell? ⟨gb269, 1, none⟩ = some (.slice A0_1 l0_1.length c0_1) ∧ w'.cell? ⟨gb269, 2, none⟩ = some (.slice A0_2 l0_2.length c0_2) ∧ w'.cell? ⟨gb270, 0, none⟩ = some (.int .i64 a1_0) ∧ w'.cell? ⟨gb270, 1, none⟩ = some (.string a1_1) ∧ w'.cell? ⟨gb270, 2, none⟩ = some (.bool a1_2) ∧ w'.cell? ⟨gb270, 3, none⟩ = some (.int .i64 a1_3)) (ds := [7]) #[false, false, false, false, false, false, false, false] (by kernel_rfl) rfl rfl ⟨(blk_cell BK269.out 0).trans rfl, (blk_cell BK269.out 1).trans rfl, (blk_cell BK269.out 2).trans rfl, (blk_cell BK270.out 0).trans rfl, (blk_cell BK270.out 1).trans rfl, (blk_cell BK270.out 2).trans rfl, (blk_cell BK270.out 3).trans rfl⟩ (fun hHeld => ?_); refine with_tabW lease_Take.tab13 lease_Take.bits13 (fun HT_ HW_ => ?_)
           generalize wc.drew = w127 at BK269 BK270 BK271 BK278 BK284 HB hHeld ⊢
           refine pure_ (i := 0) (N := some 80) (v := ?_) (a' := ?_) #[true, false, false, false, false, false, false, false] rfl rfl (any_of HT_.out (by kernel_rfl)) (fun _ _ _ h => h) (Or.inl ⟨by rfl, ?_⟩) ?_ ?_
           rotate_left
           ·intro w'
            go_simp
            with_reducible rfl
           rotate_left
           ·simp only [Act.put, List.setIfInBounds_toArray, List.set_cons_zero, List.set_cons_succ, i64_w, i32_w]
            rfl
           refine take_ (i := 1) (N := some 81) (v := ?_) (a' := ?_) #[true, true, false, false, false, false, false, false] rfl rfl (take_ofW HT_.out HW_.out (by kernel_rfl)) (fun _ _ _ h => h) (Or.inl ⟨by rfl, ?_⟩) hHeld ?_ ?_
           rotate_left
           ·rintro w' ⟨s0, s1, s2, s3, s4, s5, s6⟩
            go_simp
            with_reducible rfl
           rotate_left
           ·simp only [Act.put, List.setIfInBounds_toArray, List.set_cons_zero, List.set_cons_succ, i64_w, i32_w]
            rfl
           refine take_ (i := 3) (N := some 83) (v := ?_) (a' := ?_) #[true, true, false, true, false, false, false, false] rfl rfl (take_ofW HT_.out HW_.out (by kernel_rfl)) (fun _ _ _ h => h) (Or.inl ⟨by rfl, ?_⟩) hHeld ?_ ?_
           rotate_left
           ·rintro w' ⟨s0, s1, s2, s3, s4, s5, s6⟩
            go_simp
            with_reducible rfl
           rotate_left
           ·simp only [Act.put, List.setIfInBounds_toArray, List.set_cons_zero, List.set_cons_succ, i64_w, i32_w]
            rfl
           refine join_ (σ := Value × Value) 3 #[true, true, true, true, true, false, false, false] (fun s_ => [(82, s_.1), (84, s_.2)]) (fun s_ w' => (w'.cell? ⟨gb269, 0, none⟩ = some (.int .i64 a0_0) ∧ w'.cell? ⟨gb269, 1, none⟩ = some (.slice A0_1 l0_1.length c0_1) ∧ w'.cell? ⟨gb269, 2, none⟩ = some (.slice A0_2 l0_2.length c0_2) ∧ w'.cell? ⟨gb270, 0, none⟩ = some (.int .i64 a1_0) ∧ w'.cell? ⟨gb270, 1, none⟩ = some (.string a1_1) ∧ w'.cell? ⟨gb270, 2, none⟩ = some (.bool a1_2) ∧ w'.cell? ⟨gb270, 3, none⟩ = some (.int .i64 a1_3)) ∧ (Kd.R k32 32 w' w.heap.size (fun k_ => some k_ ≠ (s_.2 : Value).ownBlock ∧ k_ ≠ gb270 ∧ k_ ≠ gb284) s_.1 t288) ∧ (Kd.R k32 32 w' w.heap.size (fun k_ => some k_ ≠ (s_.1 : Value).ownBlock ∧ k_ ≠ gb270 ∧ k_ ≠ gb284) s_.2 y291) ∧ (w'.heap[gb269]? = some (.cells #[.int .i64 a0_0, .slice A0_1 l0_1.length c0_1, .slice A0_2 l0_2.length c0_2] 27 (0, 0))) ∧ (w'.heap[gb270]? = some (.cells #[.int .i64 a1_0, .string a1_1, .bool a1_2, .int .i64 a1_3] 32 (0, 0))) ∧ (w'.heap[gb271]? = some (.cells #[.int .i64 0, .slice none 0 0, .slice none 0 0] 27 (0, 0))) ∧ (w'.heap[gb278]? = some (.cells #[.int .i64 t272, .string t273, .bool t274, .int .i64 t275, .int .i64 t276] 34 (0, 0))) ∧ (w'.heap[gb284]? = some (.cells #[.int .i64 t279, .string t280, .bool t281, .int .i64 t282] 32 (0, 0))) ∧ (Below w.heap.size w w')) ?_ ?_
           rotate_left
           ·intro hCont
            refine two_ (i := 2) (j := 4) (Ni := some 82) (Nj := some 84) #[true, true, true, true, false, false, false, false] #[true, true, false, true, true, false, false, false] rfl rfl rfl rfl (two_of HT_.out (by kernel_rfl)) (by decide) (by decide) (fun K hK => ?_) (fun K hK => ?_)
            ·skip
             refine goes_ Tryd.func29 (by kernel_rfl) rfl #[.slice A0_2 l0_2.length c0_2] (by rfl) rfl rfl zA ?_
             with_reducible refine (lease_Ask_29.calls _ _ l0_2 t288 _ ?side1 ?side2 A118.out).mono ?_
             (case side1 => repeat (first | exact (Kd.C_below HR0_2.out HB.out) | (with_reducible refine Kd.C_alloc ?_ _) | (with_reducible refine Kd.C_drewN ?_ _) | (with_reducible refine Kd.C_drew ?_)))
             (case side2 => exact HC0_2.out)
             rintro e w128 ⟨v289, rfl, ho0, hb⟩
             refine ⟨_, rfl, ?_⟩
             have n0_ := Aside0.mk (Kd.R_lower (Kd.R_newB (Kd.R_newB ho0 (g := gb270) (o := .cells #[.int .i64 a1_0, .string a1_1, .bool a1_2, .int .i64 a1_3] 32 (0, 0)) (zK BK270.out)) (g := gb284) (o := .cells #[.int .i64 t279, .string t280, .bool t281, .int .i64 t282] 32 (0, 0)) (zK BK284.out)) (below_size (zL HB.out)))
             have n1_ := Aside0.mk (blk_below (g := gb269) (o := .cells #[.int .i64 a0_0, .slice A0_1 l0_1.length c0_1, .slice A0_2 l0_2.length c0_2] 27 (0, 0)) (zK BK269.out) hb)
             have n2_ := Aside0.mk (blk_below (g := gb270) (o := .cells #[.int .i64 a1_0, .string a1_1, .bool a1_2, .int .i64 a1_3] 32 (0, 0)) (zK BK270.out) hb)
             have n3_ := Aside0.mk (blk_below (g := gb271) (o := .cells #[.int .i64 0, .slice none 0 0, .slice none 0 0] 27 (0, 0)) (zK BK271.out) hb)
             have n4_ := Aside0.mk (blk_below (g := gb278) (o := .cells #[.int .i64 t272, .string t273, .bool t274, .int .i64 t275, .int .i64 t276] 34 (0, 0)) (zK BK278.out) hb)
             have n5_ := Aside0.mk (blk_below (g := gb284) (o := .cells #[.int .i64 t279, .string t280, .bool t281, .int .i64 t282] 32 (0, 0)) (zK BK284.out) hb)
             have n6_ := Aside0.mk (below_step (zL HB.out) hb)
             clear BK269
             clear BK270
             clear BK271
             clear BK278
             clear BK284
             clear HB
             have HO290 := n0_
             have BK269 := n1_
             have BK270 := n2_
             have BK271 := n3_
             have BK278 := n4_
             have BK284 := n5_
             have HB := n6_
             clear n0_ n1_ n2_ n3_ n4_ n5_ n6_
             (try clear hb)
             (try clear hb2)
             (try clear hk)
             (try clear hi)
             (try clear ho0)
             refine hK.out _ _ ⟨(blk_cell BK269.out 0).trans rfl, (blk_cell BK269.out 1).trans rfl, (blk_cell BK269.out 2).trans rfl, (blk_cell BK270.out 0).trans rfl, (blk_cell BK270.out 1).trans rfl, (blk_cell BK270.out 2).trans rfl, (blk_cell BK270.out 3).trans rfl⟩ (fun hHeld => ?_)
             clear hK K
             refine norm_ (a' := ?_) ?_ ?_
             rotate_left
             ·show Act.put _ (some 82) _ = _
              simp only [Act.put, List.setIfInBounds_toArray, List.set_cons_zero, List.set_cons_succ, i64_w, i32_w]
              rfl
             refine one_ (i := 4) (N := some 84) #[true, true, true, true, true, false, false, false] rfl rfl (one_of HT_.out (by kernel_rfl)) (by decide) (fun K hK => ?_)
             refine Kd.R_lit_step k32 _ 32 ?hg (N := 84) ?hd (xs := ([(⟨a1_0, a1_1, a1_2, a1_3⟩ : S32)] : List (S32))) (inner := [.int .i64 a1_0, .string a1_1, .bool a1_2, .int .i64 a1_3]) (ok := fun _ => True) (okp := fun _ => True) ?hr ?hp (fun _ hk => hk) trivial (Below.refl _ _) (Nat.le_refl _) (by simp) ?_; (case hd => rfl); (case hg => rfl); (case hr => first | (go_simp; done) | (go_simp; rfl)); (case hp => exact (Reps.c4 (show Kd.M k32 _ _ _ (⟨a1_0, a1_1, a1_2, a1_3⟩ : S32) [.int .i64 a1_0, .string a1_1, .bool a1_2, .int .i64 a1_3] from (k32_mkM _ _ _ (⟨a1_0, a1_1, a1_2, a1_3⟩ : S32) )) (Reps.none _ _)))
             intro v292 w129 ho130 hb hg_ hnew_
             clear hg_ hnew_
             (first | rw [← Ny291.out] at ho130 | (simp only [Int.reduceToNat] at ho130; rw [← Ny291.out] at ho130))
             have n0_ := Aside0.mk (Kd.R_elder' (zR HO290.out) (Kd.R_base ho130) hb)
             have n1_ := Aside0.mk (Kd.R_lower (Kd.R_newB (Kd.R_newB (Kd.R_new' ho130 (Kd.R_lt (zR HO290.out))) (g := gb270) (o := .cells #[.int .i64 a1_0, .string a1_1, .bool a1_2, .int .i64 a1_3] 32 (0, 0)) (zK BK270.out)) (g := gb284) (o := .cells #[.int .i64 t279, .string t280, .bool t281, .int .i64 t282] 32 (0, 0)) (zK BK284.out)) (below_size (zL HB.out)))
             have n2_ := Aside0.mk (blk_below (g := gb269) (o := .cells #[.int .i64 a0_0, .slice A0_1 l0_1.length c0_1, .slice A0_2 l0_2.length c0_2] 27 (0, 0)) (zK BK269.out) hb)
             have n3_ := Aside0.mk (blk_below (g := gb270) (o := .cells #[.int .i64 a1_0, .string a1_1, .bool a1_2, .int .i64 a1_3] 32 (0, 0)) (zK BK270.out) hb)
             have n4_ := Aside0.mk (blk_below (g := gb271) (o := .cells #[.int .i64 0, .slice none 0 0, .slice none 0 0] 27 (0, 0)) (zK BK271.out) hb)
             have n5_ := Aside0.mk (blk_below (g := gb278) (o := .cells #[.int .i64 t272, .string t273, .bool t274, .int .i64 t275, .int .i64 t276] 34 (0, 0)) (zK BK278.out) hb)
             have n6_ := Aside0.mk (blk_below (g := gb284) (o := .cells #[.int .i64 t279, .string t280, .bool t281, .int .i64 t282] 32 (0, 0)) (zK BK284.out) hb)
             have n7_ := Aside0.mk (below_step (zL HB.out) hb)
             clear HO290
             clear BK269
             clear BK270
             clear BK271
             clear BK278
             clear BK284
             clear HB
             have HO290 := n0_
             have HO293 := n1_
             have BK269 := n2_
             have BK270 := n3_
             have BK271 := n4_
             have BK278 := n5_
             have BK284 := n6_
             have HB := n7_
             clear n0_ n1_ n2_ n3_ n4_ n5_ n6_ n7_
             clear hb ho130
             refine hK.out _ _ ⟨(blk_cell BK269.out 0).trans rfl, (blk_cell BK269.out 1).trans rfl, (blk_cell BK269.out 2).trans rfl, (blk_cell BK270.out 0).trans rfl, (blk_cell BK270.out 1).trans rfl, (blk_cell BK270.out 2).trans rfl, (blk_cell BK270.out 3).trans rfl⟩ (fun hHeld => ?_)
             clear hK K
             refine norm_ (a' := ?_) ?_ ?_
             rotate_left
             ·show Act.put _ (some 84) _ = _
              simp only [Act.put, List.setIfInBounds_toArray, List.set_cons_zero, List.set_cons_succ, i64_w, i32_w]
              rfl
             exact norm_ (by simp only [putAll, Act.put, List.setIfInBounds_toArray, List.set_cons_zero, List.set_cons_succ]) (hCont (v289, v292) _ ⟨hHeld, (by (with_reducible repeat (first | apply Kd.R_alloc | apply Kd.R_drewN | apply Kd.R_drew)); exact Kd.R_mono HO290.out (fun _ hk => ⟨hk.2, ⟨hk.1.1.2, hk.1.2⟩⟩)), (by (with_reducible repeat (first | apply Kd.R_alloc | apply Kd.R_drewN | apply Kd.R_drew)); exact Kd.R_mono HO293.out (fun _ hk => ⟨hk.1.1.2, ⟨hk.1.2, hk.2⟩⟩)), (zK BK269.out), (zK BK270.out), (zK BK271.out), (zK BK278.out), (zK BK284.out), (zL HB.out)⟩)
            ·skip
             refine Kd.R_lit_step k32 _ 32 ?hg (N := 84) ?hd (xs := ([(⟨a1_0, a1_1, a1_2, a1_3⟩ : S32)] : List (S32))) (inner := [.int .i64 a1_0, .string a1_1, .bool a1_2, .int .i64 a1_3]) (ok := fun _ => True) (okp := fun _ => True) ?hr ?hp (fun _ hk => hk) trivial (Below.refl _ _) (Nat.le_refl _) (by simp) ?_; (case hd => rfl); (case hg => rfl); (case hr => first | (go_simp; done) | (go_simp; rfl)); (case hp => exact (Reps.c4 (show Kd.M k32 _ _ _ (⟨a1_0, a1_1, a1_2, a1_3⟩ : S32) [.int .i64 a1_0, .string a1_1, .bool a1_2, .int .i64 a1_3] from (k32_mkM _ _ _ (⟨a1_0, a1_1, a1_2, a1_3⟩ : S32) )) (Reps.none _ _)))
             intro v292 w128 ho129 hb hg_ hnew_
             clear hg_ hnew_
             (first | rw [← Ny291.out] at ho129 | (simp only [Int.reduceToNat] at ho129; rw [← Ny291.out] at ho129))
             have n0_ := Aside0.mk (Kd.R_lower (Kd.R_newB (Kd.R_newB ho129 (g := gb270) (o := .cells #[.int .i64 a1_0, .string a1_1, .bool a1_2, .int .i64 a1_3] 32 (0, 0)) (zK BK270.out)) (g := gb284) (o := .cells #[.int .i64 t279, .string t280, .bool t281, .int .i64 t282] 32 (0, 0)) (zK BK284.out)) (below_size (zL HB.out)))
             have n1_ := Aside0.mk (blk_below (g := gb269) (o := .cells #[.int .i64 a0_0, .slice A0_1 l0_1.length c0_1, .slice A0_2 l0_2.length c0_2] 27 (0, 0)) (zK BK269.out) hb)
             have n2_ := Aside0.mk (blk_below (g := gb270) (o := .cells #[.int .i64 a1_0, .string a1_1, .bool a1_2, .int .i64 a1_3] 32 (0, 0)) (zK BK270.out) hb)
             have n3_ := Aside0.mk (blk_below (g := gb271) (o := .cells #[.int .i64 0, .slice none 0 0, .slice none 0 0] 27 (0, 0)) (zK BK271.out) hb)
             have n4_ := Aside0.mk (blk_below (g := gb278) (o := .cells #[.int .i64 t272, .string t273, .bool t274, .int .i64 t275, .int .i64 t276] 34 (0, 0)) (zK BK278.out) hb)
             have n5_ := Aside0.mk (blk_below (g := gb284) (o := .cells #[.int .i64 t279, .string t280, .bool t281, .int .i64 t282] 32 (0, 0)) (zK BK284.out) hb)
             have n6_ := Aside0.mk (below_step (zL HB.out) hb)
             clear BK269
             clear BK270
             clear BK271
             clear BK278
             clear BK284
             clear HB
             have HO293 := n0_
             have BK269 := n1_
             have BK270 := n2_
             have BK271 := n3_
             have BK278 := n4_
             have BK284 := n5_
             have HB := n6_
             clear n0_ n1_ n2_ n3_ n4_ n5_ n6_
             clear hb ho129
             refine hK.out _ _ ⟨(blk_cell BK269.out 0).trans rfl, (blk_cell BK269.out 1).trans rfl, (blk_cell BK269.out 2).trans rfl, (blk_cell BK270.out 0).trans rfl, (blk_cell BK270.out 1).trans rfl, (blk_cell BK270.out 2).trans rfl, (blk_cell BK270.out 3).trans rfl⟩ (fun hHeld => ?_)
             clear hK K
             refine norm_ (a' := ?_) ?_ ?_
             rotate_left
             ·show Act.put _ (some 84) _ = _
              simp only [Act.put, List.setIfInBounds_toArray, List.set_cons_zero, List.set_cons_succ, i64_w, i32_w]
              rfl
             refine one_ (i := 2) (N := some 82) #[true, true, true, true, true, false, false, false] rfl rfl (one_of HT_.out (by kernel_rfl)) (by decide) (fun K hK => ?_)
             refine goes_ Tryd.func29 (by kernel_rfl) rfl #[.slice A0_2 l0_2.length c0_2] (by rfl) rfl rfl zA ?_
             with_reducible refine (lease_Ask_29.calls _ _ l0_2 t288 _ ?side1 ?side2 A118.out).mono ?_
             (case side1 => repeat (first | exact (Kd.C_below HR0_2.out HB.out) | (with_reducible refine Kd.C_alloc ?_ _) | (with_reducible refine Kd.C_drewN ?_ _) | (with_reducible refine Kd.C_drew ?_)))
             (case side2 => exact HC0_2.out)
             rintro e w130 ⟨v289, rfl, ho0, hb⟩
             refine ⟨_, rfl, ?_⟩
             have n0_ := Aside0.mk (Kd.R_elder' (zR HO293.out) (Kd.R_base ho0) hb)
             have n1_ := Aside0.mk (Kd.R_lower (Kd.R_newB (Kd.R_newB (Kd.R_new' ho0 (Kd.R_lt (zR HO293.out))) (g := gb270) (o := .cells #[.int .i64 a1_0, .string a1_1, .bool a1_2, .int .i64 a1_3] 32 (0, 0)) (zK BK270.out)) (g := gb284) (o := .cells #[.int .i64 t279, .string t280, .bool t281, .int .i64 t282] 32 (0, 0)) (zK BK284.out)) (below_size (zL HB.out)))
             have n2_ := Aside0.mk (blk_below (g := gb269) (o := .cells #[.int .i64 a0_0, .slice A0_1 l0_1.length c0_1, .slice A0_2 l0_2.length c0_2] 27 (0, 0)) (zK BK269.out) hb)
             have n3_ := Aside0.mk (blk_below (g := gb270) (o := .cells #[.int .i64 a1_0, .string a1_1, .bool a1_2, .int .i64 a1_3] 32 (0, 0)) (zK BK270.out) hb)
             have n4_ := Aside0.mk (blk_below (g := gb271) (o := .cells #[.int .i64 0, .slice none 0 0, .slice none 0 0] 27 (0, 0)) (zK BK271.out) hb)
             have n5_ := Aside0.mk (blk_below (g := gb278) (o := .cells #[.int .i64 t272, .string t273, .bool t274, .int .i64 t275, .int .i64 t276] 34 (0, 0)) (zK BK278.out) hb)
             have n6_ := Aside0.mk (blk_below (g := gb284) (o := .cells #[.int .i64 t279, .string t280, .bool t281, .int .i64 t282] 32 (0, 0)) (zK BK284.out) hb)
             have n7_ := Aside0.mk (below_step (zL HB.out) hb)
             clear HO293
             clear BK269
             clear BK270
             clear BK271
             clear BK278
             clear BK284
             clear HB
             have HO293 := n0_
             have HO290 := n1_
             have BK269 := n2_
             have BK270 := n3_
             have BK271 := n4_
             have BK278 := n5_
             have BK284 := n6_
             have HB := n7_
             clear n0_ n1_ n2_ n3_ n4_ n5_ n6_ n7_
             (try clear hb)
             (try clear hb2)
             (try clear hk)
             (try clear hi)
             (try clear ho0)
             refine hK.out _ _ ⟨(blk_cell BK269.out 0).trans rfl, (blk_cell BK269.out 1).trans rfl, (blk_cell BK269.out 2).trans rfl, (blk_cell BK270.out 0).trans rfl, (blk_cell BK270.out 1).trans rfl, (blk_cell BK270.out 2).trans rfl, (blk_cell BK270.out 3).trans rfl⟩ (fun hHeld => ?_)
             clear hK K
             refine norm_ (a' := ?_) ?_ ?_
             rotate_left
             ·show Act.put _ (some 82) _ = _
              simp only [Act.put, List.setIfInBounds_toArray, List.set_cons_zero, List.set_cons_succ, i64_w, i32_w]
              rfl
             exact norm_ (by simp only [putAll, Act.put, List.setIfInBounds_toArray, List.set_cons_zero, List.set_cons_succ]) (hCont (v289, v292) _ ⟨hHeld, (by (with_reducible repeat (first | apply Kd.R_alloc | apply Kd.R_drewN | apply Kd.R_drew)); exact Kd.R_mono HO290.out (fun _ hk => ⟨hk.1.1.2, ⟨hk.1.2, hk.2⟩⟩)), (by (with_reducible repeat (first | apply Kd.R_alloc | apply Kd.R_drewN | apply Kd.R_drew)); exact Kd.R_mono HO293.out (fun _ hk => ⟨hk.2, ⟨hk.1.1.2, hk.1.2⟩⟩)), (zK BK269.out), (zK BK270.out), (zK BK271.out), (zK BK278.out), (zK BK284.out), (zL HB.out)⟩)
           rintro ⟨v289, v292⟩ w131 ⟨hS_, h0_, h1_, h2_, h3_, h4_, h5_, h6_, h7_⟩
           have n0_ : Aside0 (Kd.R k32 32 w131 w.heap.size (fun k_ => some k_ ≠ (v292 : Value).ownBlock ∧ k_ ≠ gb270 ∧ k_ ≠ gb284) v289 t288) := ⟨h0_⟩
           have n1_ : Aside0 (Kd.R k32 32 w131 w.heap.size (fun k_ => some k_ ≠ (v289 : Value).ownBlock ∧ k_ ≠ gb270 ∧ k_ ≠ gb284) v292 y291) := ⟨h1_⟩
           have n2_ : Aside0 (w131.heap[gb269]? = some (.cells #[.int .i64 a0_0, .slice A0_1 l0_1.length c0_1, .slice A0_2 l0_2.length c0_2] 27 (0, 0))) := ⟨h2_⟩
           have n3_ : Aside0 (w131.heap[gb270]? = some (.cells #[.int .i64 a1_0, .string a1_1, .bool a1_2, .int .i64 a1_3] 32 (0, 0))) := ⟨h3_⟩
           have n4_ : Aside0 (w131.heap[gb271]? = some (.cells #[.int .i64 0, .slice none 0 0, .slice none 0 0] 27 (0, 0))) := ⟨h4_⟩
           have n5_ : Aside0 (w131.heap[gb278]? = some (.cells #[.int .i64 t272, .string t273, .bool t274, .int .i64 t275, .int .i64 t276] 34 (0, 0))) := ⟨h5_⟩
           have n6_ : Aside0 (w131.heap[gb284]? = some (.cells #[.int .i64 t279, .string t280, .bool t281, .int .i64 t282] 32 (0, 0))) := ⟨h6_⟩
           have n7_ : Aside0 (Below w.heap.size w w131) := ⟨h7_⟩
           clear BK269
           clear BK270
           clear BK271
           clear BK278
           clear BK284
           clear HB
           clear h0_ h1_ h2_ h3_ h4_ h5_ h6_ h7_
           have HO290 := n0_
           have HO293 := n1_
           have BK269 := n2_
           have BK270 := n3_
           have BK271 := n4_
           have BK278 := n5_
           have BK284 := n6_
           have HB := n7_
           clear n0_ n1_ n2_ n3_ n4_ n5_ n6_ n7_
           have hHeld : w131.cell? ⟨gb269, 0, none⟩ = some (.int .i64 a0_0) ∧ w131.cell? ⟨gb269, 1, none⟩ = some (.slice A0_1 l0_1.length c0_1) ∧ w131.cell? ⟨gb269, 2, none⟩ = some (.slice A0_2 l0_2.length c0_2) ∧ w131.cell? ⟨gb270, 0, none⟩ = some (.int .i64 a1_0) ∧ w131.cell? ⟨gb270, 1, none⟩ = some (.string a1_1) ∧ w131.cell? ⟨gb270, 2, none⟩ = some (.bool a1_2) ∧ w131.cell? ⟨gb270, 3, none⟩ = some (.int .i64 a1_3) := hS_
           obtain ⟨Ao133, co133, eo133⟩ := Kd.R_slice HO293.out
           (first | subst eo133 | (injection eo133 with f1_ f2_ f3_; have f4_ := f1_.symm; have f5_ := f3_.symm; clear f1_ f2_ f3_; subst f4_; subst f5_))
           refine norm_ (a' := ?_) ?_ ?_
           rotate_left
           ·simp only [putAll, Act.put, List.setIfInBounds_toArray, List.set_cons_zero, List.set_cons_succ]
            rfl
           refine one_ (i := 5) (N := some 85) #[true, true, true, true, true, true, false, false] rfl rfl (one_of HT_.out (by kernel_rfl)) (by decide) (fun K hK => ?_)
           refine Kd.R_append_rows_step k32 (w0 := w) w.heap.size (by rfl) (.tmp 82) (.tmp 84) 25 32 (.agg #[(.int .i64 0), (.string ⟨#[]⟩), (.bool false), (.int .i64 0)]) 40 rfl Tryd.underlying25 info32 rfl (by decide) (by omega) v289 t288 y291 _ _ _ (fun k_ => some k_ ≠ (.slice Ao133 y291.length co133 : Value).ownBlock ∧ k_ ≠ gb270 ∧ k_ ≠ gb284) (fun _ => False) rfl rfl ?aO ?aR (fun _ _ h => h) (fun _ h => h.elim) ?aF ?aB ?aS ?aL ?_
           (case aR => repeat (first | exact (Kd.R_reads' HO293.out).2.2 | (with_reducible refine Kd.C_alloc ?_ _) | (with_reducible refine Kd.C_drewN ?_ _) | (with_reducible refine Kd.C_drew ?_)))
           (case aB => exact (zL HB.out))
           (case aF => exact (fun k_ hk => ⟨Kd.fresh' (Kd.R_lt (zR HO293.out)) k_ hk, Kd.freshB (g := gb270) (o := .cells #[.int .i64 a1_0, .string a1_1, .bool a1_2, .int .i64 a1_3] 32 (0, 0)) (zK BK270.out) k_ hk, Kd.freshB (g := gb284) (o := .cells #[.int .i64 t279, .string t280, .bool t281, .int .i64 t282] 32 (0, 0)) (zK BK284.out) k_ hk⟩))
           (case aO => exact (zR HO290.out))
           (case aS => exact (below_size (zL HB.out)))
           (case aL => have := LMc119.out; omega)
           intro v295 w132 ho hb hg hat
           rw [← Ny294.out] at ho
           have n0_ := Aside0.mk (blk_grown (g := gb269) (o := .cells #[.int .i64 a0_0, .slice A0_1 l0_1.length c0_1, .slice A0_2 l0_2.length c0_2] 27 (0, 0)) (zK BK269.out) hg (Kd.R_ne HO290.out BK269.out (by decide)))
           have n1_ := Aside0.mk (blk_grown (g := gb270) (o := .cells #[.int .i64 a1_0, .string a1_1, .bool a1_2, .int .i64 a1_3] 32 (0, 0)) (zK BK270.out) hg (Kd.R_away HO290.out (fun _ hk => hk.2.1)))
           have n2_ := Aside0.mk (blk_grown (g := gb271) (o := .cells #[.int .i64 0, .slice none 0 0, .slice none 0 0] 27 (0, 0)) (zK BK271.out) hg (Kd.R_ne HO290.out BK271.out (by decide)))
           have n3_ := Aside0.mk (blk_grown (g := gb278) (o := .cells #[.int .i64 t272, .string t273, .bool t274, .int .i64 t275, .int .i64 t276] 34 (0, 0)) (zK BK278.out) hg (Kd.R_ne HO290.out BK278.out (by decide)))
           have n4_ := Aside0.mk (blk_grown (g := gb284) (o := .cells #[.int .i64 t279, .string t280, .bool t281, .int .i64 t282] 32 (0, 0)) (zK BK284.out) hg (Kd.R_away HO290.out (fun _ hk => hk.2.2)))
           have n5_ := Aside0.mk (Kd.R_after (ok := (fun k_ => k_ ≠ gb270 ∧ k_ ≠ gb284)) (by (with_reducible repeat (first | apply Kd.R_alloc | apply Kd.R_drewN | apply Kd.R_drew)); exact Kd.R_mono HO293.out (fun _ hk => ⟨⟨hk.2.1, hk.2.2⟩, hk.1⟩)) hg hat)
           have n6_ := Aside0.mk (hb)
           have n7_ := Aside0.mk (ho)
           clear BK269
           clear BK270
           clear BK271
           clear BK278
           clear BK284
           clear HO293
           clear HB
           clear HO290
           have BK269 := n0_
           have BK270 := n1_
           have BK271 := n2_
           have BK278 := n3_
           have BK284 := n4_
           have HO293 := n5_
           have HB := n6_
           have HO296 := n7_
           clear n0_ n1_ n2_ n3_ n4_ n5_ n6_ n7_
           clear ho hb hg hat
           obtain ⟨Ao134, co134, eo134⟩ := Kd.R_slice HO296.out
           (first | subst eo134 | (injection eo134 with f1_ f2_ f3_; have f4_ := f1_.symm; have f5_ := f3_.symm; clear f1_ f2_ f3_; subst f4_; subst f5_))
           refine hK.out _ _ ⟨(blk_cell BK269.out 0).trans rfl, (blk_cell BK269.out 1).trans rfl, (blk_cell BK269.out 2).trans rfl, (blk_cell BK270.out 0).trans rfl, (blk_cell BK270.out 1).trans rfl, (blk_cell BK270.out 2).trans rfl, (blk_cell BK270.out 3).trans rfl⟩ (fun hHeld => ?_)
           clear hK K
           refine norm_ (a' := ?_) ?_ ?_
           rotate_left
           ·show Act.put _ (some 85) _ = _
            simp only [Act.put, List.setIfInBounds_toArray, List.set_cons_zero, List.set_cons_succ, i64_w, i32_w]
            rfl
           refine pure_ (i := 6) (N := some 86) (v := ?_) (a' := ?_) #[true, true, true, true, true, true, true, false] rfl rfl (any_of HT_.out (by kernel_rfl)) (fun _ _ _ h => h) (Or.inl ⟨by rfl, ?_⟩) ?_ ?_
           rotate_left
           ·intro w'
            go_simp
            with_reducible rfl
           rotate_left
           ·simp only [Act.put, List.setIfInBounds_toArray, List.set_cons_zero, List.set_cons_succ, i64_w, i32_w]
            rfl
           refine last_ (i := 7) (N := none) #[true, true, true, true, true, true, true, true] rfl rfl (one_of HT_.out (by kernel_rfl)) (by decide) (fun K hK => ?_)
           have hs135 : w132.cell? ⟨gb269, 2, none⟩ = some (.slice A0_2 l0_2.length c0_2) := (blk_cell BK269.out 2).trans rfl
           have hfs135 := blk_frozen BK269.out 2
           have hns135_1 := NB270_269.out
           have hns135_2 := NB271_269.out
           have hns135_3 := NB278_269.out
           have hns135_4 := NB284_269.out
           have hms135_1 := NB269_270.out
           have hms135_2 := NB269_271.out
           have hms135_3 := NB269_278.out
           have hms135_4 := NB269_284.out
           refine skip_ (w1 := ?_) (by rfl) rfl ?_ ?_
           rotate_left
           ·go_simp
            rfl
           refine hK.out _ _ ?_
           clear hK K
           refine done_ (done_of HT_.out (by kernel_rfl)) ?_
           obtain ⟨hcz136_0, hcz136_1, hcz136_2, hfz136_0, hfz136_1, hfz136_2⟩ := zC3 BK269.out
           try go_wp2_with (first | ((with_reducible refine gate_callee (f := 30) rfl ?_); refine goesL_ (some 89) rfl rfl Tryd.func30 (by kernel_rfl) rfl #[.agg #[.int .i64 a0_0, .slice A0_1 l0_1.length c0_1, .slice Ao134 y294.length co134], .int .i64 a2] rfl zA ?_; (with_reducible refine (lease_Table_settle.calls kj72 a0_0 _ _ l0_1 _ _ y294 a2 t297 t298 t301 _ ?side1 ?side2 ?side3 ?side4 A120.out).mono ?_); (case side1 => exact Kd.C_below HR0_1.out (zL HB.out)); (case side2 => exact HC0_1.out); (case side3 => refine (Kd.R_reads' (e := 32) (base := w.heap.size) (ok := fun k_ => (some k_ ≠ (.slice Ao133 y291.length co133 : Value).ownBlock ∧ (k_ ≠ gb270 ∧ k_ ≠ gb284))) (n := y294.length) (c := co134) ?_).2.2; exact (zT HO296.out BK269.out)); (case side4 => exact (Kd.R_reads' HO296.out).2.1); rintro e w137 ⟨v299, v302, rfl, ho0, ho1, hb⟩; refine ⟨_, rfl, ?_⟩; have n0_ := Aside0.mk (Kd.R_elder' (zT HO293.out BK269.out) (Kd.R_base ho1) hb); have n1_ := Aside0.mk (Kd.R_elder' (zT HO296.out BK269.out) (Kd.R_base ho1) hb); have n2_ := Aside0.mk (Kd.R_lower (Kd.R_newB ho0 (g := gb278) (o := .cells #[.int .i64 t272, .string t273, .bool t274, .int .i64 t275, .int .i64 t276] 34 (0, 0)) (zK BK278.out)) (below_size (zL HB.out))); have n3_ := Aside0.mk (Kd.R_lower (Kd.R_newB (Kd.R_newB (Kd.R_new' (Kd.R_new' ho1 (Kd.R_lt (zT HO293.out BK269.out))) (Kd.R_lt (zT HO296.out BK269.out))) (g := gb270) (o := .cells #[.int .i64 a1_0, .string a1_1, .bool a1_2, .int .i64 a1_3] 32 (0, 0)) (zK BK270.out)) (g := gb284) (o := .cells #[.int .i64 t279, .string t280, .bool t281, .int .i64 t282] 32 (0, 0)) (zK BK284.out)) (below_size (zL HB.out))); have n4_ := Aside0.mk (blk_below (g := gb269) (o := .cells #[.int .i64 a0_0, .slice A0_1 l0_1.length c0_1, .slice Ao134 y294.length co134] 27 (0, 0)) (by (with_reducible repeat (first | refine blk_drewN ?_ _ | refine blk_drew ?_ | refine blk_alloc ?_ _)); refine blk_put (cs := #[.int .i64 a0_0, .slice A0_1 l0_1.length c0_1, .slice A0_2 l0_2.length c0_2]) ?_ 2 _ rfl; (with_reducible repeat (first | refine blk_drewN ?_ _ | refine blk_drew ?_ | refine blk_alloc ?_ _)); exact BK269.out) hb); have n5_ := Aside0.mk (blk_below (g := gb270) (o := .cells #[.int .i64 a1_0, .string a1_1, .bool a1_2, .int .i64 a1_3] 32 (0, 0)) (zK BK270.out) hb); have n6_ := Aside0.mk (blk_below (g := gb271) (o := .cells #[.int .i64 0, .slice none 0 0, .slice none 0 0] 27 (0, 0)) (zK BK271.out) hb); have n7_ := Aside0.mk (blk_below (g := gb278) (o := .cells #[.int .i64 t272, .string t273, .bool t274, .int .i64 t275, .int .i64 t276] 34 (0, 0)) (zK BK278.out) hb); have n8_ := Aside0.mk (blk_below (g := gb284) (o := .cells #[.int .i64 t279, .string t280, .bool t281, .int .i64 t282] 32 (0, 0)) (zK BK284.out) hb); have n9_ := Aside0.mk (below_step (zL HB.out) hb); revert n0_ n1_ n2_ n3_ n4_ n5_ n6_ n7_ n8_ n9_; clear HO293 HO296 BK269 BK270 BK271 BK278 BK284 HB; intro HO293 HO296 HO300 HO303 BK269 BK270 BK271 BK278 BK284 HB; (try clear hb); (try clear hb2); (try clear hk); (try clear hi); (try clear ho0); (try clear ho1); obtain ⟨hcz138_0, hcz138_1, hcz138_2, hfz138_0, hfz138_1, hfz138_2⟩ := zC3 BK269.out; obtain ⟨Ao139, co139, eo139⟩ := Kd.R_slice HO300.out; subst eo139; obtain ⟨Ao140, co140, eo140⟩ := Kd.R_slice HO303.out; subst eo140; have hnb141 := NB270_271.out; have hnc141 := NB271_270.out; have hnb142 := NB270_278.out; have hnc142 := NB278_270.out; have hnb143 := NB270_284.out; have hnc143 := NB284_270.out; obtain ⟨hcz144_0, hcz144_1, hcz144_2, hcz144_3, hfz144_0, hfz144_1, hfz144_2, hfz144_3⟩ := zC4 BK270.out) | ((with_reducible refine gate_callee (f := 14) rfl ?_); refine goesL_ (some 96) rfl rfl Tryd.func14 (by kernel_rfl) rfl #[.agg #[.int .i64 t297, .slice Ao139 t298.length co139, .slice Ao140 t301.length co140], .int .i64 a1_0, .string a1_1] rfl zA ?_; (with_reducible refine (lease_Held.calls kj72 t297 _ _ t298 _ _ t301 a1_0 a1_1 t304 t305 t306 t307 t308 t309 _ ?side1 ?side2 ?side3 ?side4 A121.out).mono ?_); (case side1 => refine (Kd.R_reads' (e := 34) (base := w.heap.size) (ok := fun k_ => (True ∧ k_ ≠ gb278)) (n := t298.length) (c := co139) ?_).2.2; exact (zT HO300.out BK269.out)); (case side2 => exact (Kd.R_reads' HO300.out).2.1); (case side3 => refine (Kd.R_reads' (e := 32) (base := w.heap.size) (ok := fun k_ => ((((True ∧ some k_ ≠ (.slice Ao133 y291.length co133 : Value).ownBlock) ∧ some k_ ≠ (.slice Ao134 y294.length co134 : Value).ownBlock) ∧ k_ ≠ gb270) ∧ k_ ≠ gb284)) (n := t301.length) (c := co140) ?_).2.2; exact (zT HO303.out BK269.out)); (case side4 => exact (Kd.R_reads' HO303.out).2.1); rintro e w145 ⟨rfl, hb⟩; refine ⟨_, rfl, ?_⟩; have n0_ := Aside0.mk (Kd.R_below (zT HO293.out BK269.out) hb); have n1_ := Aside0.mk (Kd.R_below (zT HO296.out BK269.out) hb); have n2_ := Aside0.mk (Kd.R_below (zT HO300.out BK269.out) hb); have n3_ := Aside0.mk (Kd.R_below (zT HO303.out BK269.out) hb); have n4_ := Aside0.mk (blk_below (g := gb269) (o := .cells #[.int .i64 t297, .slice Ao139 t298.length co139, .slice Ao140 t301.length co140] 27 (0, 0)) (zP3 BK269.out) hb); have n5_ := Aside0.mk (blk_below (g := gb270) (o := .cells #[.int .i64 a1_0, .string a1_1, .bool a1_2, .int .i64 a1_3] 32 (0, 0)) (zK BK270.out) hb); have n6_ := Aside0.mk (blk_below (g := gb271) (o := .cells #[.int .i64 0, .slice none 0 0, .slice none 0 0] 27 (0, 0)) (zK BK271.out) hb); have n7_ := Aside0.mk (blk_below (g := gb278) (o := .cells #[.int .i64 t272, .string t273, .bool t274, .int .i64 t275, .int .i64 t276] 34 (0, 0)) (zK BK278.out) hb); have n8_ := Aside0.mk (blk_below (g := gb284) (o := .cells #[.int .i64 t279, .string t280, .bool t281, .int .i64 t282] 32 (0, 0)) (zK BK284.out) hb); have n9_ := Aside0.mk (below_step (zL HB.out) hb); revert n0_ n1_ n2_ n3_ n4_ n5_ n6_ n7_ n8_ n9_; clear HO293 HO296 HO300 HO303 BK269 BK270 BK271 BK278 BK284 HB; intro HO293 HO296 HO300 HO303 BK269 BK270 BK271 BK278 BK284 HB; (try clear hb); (try clear hb2); (try clear hk); (try clear hi); have hnb146 := NB278_271.out; have hnc146 := NB271_278.out; have hnb147 := NB278_284.out; have hnc147 := NB284_278.out; obtain ⟨hcz148_0, hcz148_1, hcz148_2, hcz148_3, hcz148_4, hfz148_0, hfz148_1, hfz148_2, hfz148_3, hfz148_4⟩ := zC5 BK278.out))
           have n0_ : Aside0 (Kd.R k32 32 (((((w145.setCell ⟨gb278, 0, none⟩ (.int .i64 t304)).setCell ⟨gb278, 1, none⟩ (.string t305)).setCell ⟨gb278, 2, none⟩ (.bool t306)).setCell ⟨gb278, 3, none⟩ (.int .i64 t307)).setCell ⟨gb278, 4, none⟩ (.int .i64 t308)) w.heap.size (fun k_ => some k_ ≠ (.slice Ao134 y294.length co134 : Value).ownBlock ∧ some k_ ≠ (.slice Ao140 t301.length co140 : Value).ownBlock ∧ k_ ≠ gb270 ∧ k_ ≠ gb284) (.slice Ao133 y291.length co133) y291) := ⟨by (with_reducible repeat (first | apply Kd.R_alloc | apply Kd.R_drewN | apply Kd.R_drew)); exact Kd.R_mono (zNT HO293.out BK278.out) (fun _ hk => ⟨hk.1.1.2, ⟨hk.1.2, ⟨hk.1.1.1.1, hk.1.1.1.2⟩⟩⟩)⟩
           have n1_ : Aside0 (Kd.R k32 32 (((((w145.setCell ⟨gb278, 0, none⟩ (.int .i64 t304)).setCell ⟨gb278, 1, none⟩ (.string t305)).setCell ⟨gb278, 2, none⟩ (.bool t306)).setCell ⟨gb278, 3, none⟩ (.int .i64 t307)).setCell ⟨gb278, 4, none⟩ (.int .i64 t308)) w.heap.size (fun k_ => some k_ ≠ (.slice Ao133 y291.length co133 : Value).ownBlock ∧ some k_ ≠ (.slice Ao140 t301.length co140 : Value).ownBlock ∧ k_ ≠ gb270 ∧ k_ ≠ gb284) (.slice Ao134 y294.length co134) y294) := ⟨by (with_reducible repeat (first | apply Kd.R_alloc | apply Kd.R_drewN | apply Kd.R_drew)); exact Kd.R_mono (zNT HO296.out BK278.out) (fun _ hk => ⟨hk.1.1.1, ⟨hk.1.2, ⟨hk.1.1.2.1, hk.1.1.2.2⟩⟩⟩)⟩
           have n2_ : Aside0 (Kd.R k34 34 (((((w145.setCell ⟨gb278, 0, none⟩ (.int .i64 t304)).setCell ⟨gb278, 1, none⟩ (.string t305)).setCell ⟨gb278, 2, none⟩ (.bool t306)).setCell ⟨gb278, 3, none⟩ (.int .i64 t307)).setCell ⟨gb278, 4, none⟩ (.int .i64 t308)) w.heap.size (fun k_ => k_ ≠ gb278) (.slice Ao139 t298.length co139) t298) := ⟨by (with_reducible repeat (first | apply Kd.R_alloc | apply Kd.R_drewN | apply Kd.R_drew)); exact Kd.R_mono (zNM HO300.out (g := gb278) (fun _ hk => hk.2)) (fun _ hk => hk.1.2)⟩
           have n3_ : Aside0 (Kd.R k32 32 (((((w145.setCell ⟨gb278, 0, none⟩ (.int .i64 t304)).setCell ⟨gb278, 1, none⟩ (.string t305)).setCell ⟨gb278, 2, none⟩ (.bool t306)).setCell ⟨gb278, 3, none⟩ (.int .i64 t307)).setCell ⟨gb278, 4, none⟩ (.int .i64 t308)) w.heap.size (fun k_ => some k_ ≠ (.slice Ao133 y291.length co133 : Value).ownBlock ∧ some k_ ≠ (.slice Ao134 y294.length co134 : Value).ownBlock ∧ k_ ≠ gb270 ∧ k_ ≠ gb284) (.slice Ao140 t301.length co140) t301) := ⟨by (with_reducible repeat (first | apply Kd.R_alloc | apply Kd.R_drewN | apply Kd.R_drew)); exact Kd.R_mono (zNT HO303.out BK278.out) (fun _ hk => ⟨hk.1.1.1.1.2, ⟨hk.1.1.1.2, ⟨hk.1.1.2, hk.1.2⟩⟩⟩)⟩
           have n4_ : Aside0 ((((((w145.setCell ⟨gb278, 0, none⟩ (.int .i64 t304)).setCell ⟨gb278, 1, none⟩ (.string t305)).setCell ⟨gb278, 2, none⟩ (.bool t306)).setCell ⟨gb278, 3, none⟩ (.int .i64 t307)).setCell ⟨gb278, 4, none⟩ (.int .i64 t308)).heap[gb269]? = some (.cells #[.int .i64 t297, .slice Ao139 t298.length co139, .slice Ao140 t301.length co140] 27 (0, 0))) := ⟨zK BK269.out⟩
           have n5_ : Aside0 ((((((w145.setCell ⟨gb278, 0, none⟩ (.int .i64 t304)).setCell ⟨gb278, 1, none⟩ (.string t305)).setCell ⟨gb278, 2, none⟩ (.bool t306)).setCell ⟨gb278, 3, none⟩ (.int .i64 t307)).setCell ⟨gb278, 4, none⟩ (.int .i64 t308)).heap[gb270]? = some (.cells #[.int .i64 a1_0, .string a1_1, .bool a1_2, .int .i64 a1_3] 32 (0, 0))) := ⟨zK BK270.out⟩
           have n6_ : Aside0 ((((((w145.setCell ⟨gb278, 0, none⟩ (.int .i64 t304)).setCell ⟨gb278, 1, none⟩ (.string t305)).setCell ⟨gb278, 2, none⟩ (.bool t306)).setCell ⟨gb278, 3, none⟩ (.int .i64 t307)).setCell ⟨gb278, 4, none⟩ (.int .i64 t308)).heap[gb271]? = some (.cells #[.int .i64 0, .slice none 0 0, .slice none 0 0] 27 (0, 0))) := ⟨zK BK271.out⟩
           have n7_ : Aside0 ((((((w145.setCell ⟨gb278, 0, none⟩ (.int .i64 t304)).setCell ⟨gb278, 1, none⟩ (.string t305)).setCell ⟨gb278, 2, none⟩ (.bool t306)).setCell ⟨gb278, 3, none⟩ (.int .i64 t307)).setCell ⟨gb278, 4, none⟩ (.int .i64 t308)).heap[gb278]? = some (.cells #[.int .i64 t304, .string t305, .bool t306, .int .i64 t307, .int .i64 t308] 34 (0, 0))) := ⟨zP5 BK278.out⟩
           have n8_ : Aside0 ((((((w145.setCell ⟨gb278, 0, none⟩ (.int .i64 t304)).setCell ⟨gb278, 1, none⟩ (.string t305)).setCell ⟨gb278, 2, none⟩ (.bool t306)).setCell ⟨gb278, 3, none⟩ (.int .i64 t307)).setCell ⟨gb278, 4, none⟩ (.int .i64 t308)).heap[gb284]? = some (.cells #[.int .i64 t279, .string t280, .bool t281, .int .i64 t282] 32 (0, 0))) := ⟨zK BK284.out⟩
           have n9_ : Aside0 (Below w.heap.size w (((((w145.setCell ⟨gb278, 0, none⟩ (.int .i64 t304)).setCell ⟨gb278, 1, none⟩ (.string t305)).setCell ⟨gb278, 2, none⟩ (.bool t306)).setCell ⟨gb278, 3, none⟩ (.int .i64 t307)).setCell ⟨gb278, 4, none⟩ (.int .i64 t308))) := ⟨zL HB.out⟩
           (try clear HO293)
           (try clear HO296)
           (try clear HO300)
           (try clear HO303)
           (try clear BK269)
           (try clear BK270)
           (try clear BK271)
           (try clear BK278)
           (try clear BK284)
           (try clear HB)
           generalize (((((w145.setCell ⟨gb278, 0, none⟩ (.int .i64 t304)).setCell ⟨gb278, 1, none⟩ (.string t305)).setCell ⟨gb278, 2, none⟩ (.bool t306)).setCell ⟨gb278, 3, none⟩ (.int .i64 t307)).setCell ⟨gb278, 4, none⟩ (.int .i64 t308)) = w149 at n0_ n1_ n2_ n3_ n4_ n5_ n6_ n7_ n8_ n9_ ⊢
           have HO293 := n0_
           have HO296 := n1_
           have HO300 := n2_
           have HO303 := n3_
           have BK269 := n4_
           have BK270 := n5_
           have BK271 := n6_
           have BK278 := n7_
           have BK284 := n8_
           have HB := n9_
           clear n0_ n1_ n2_ n3_ n4_ n5_ n6_ n7_ n8_ n9_
           have n0_ := Aside0.mk (Kd.R_drew HO293.out)
           have n1_ := Aside0.mk (Kd.R_drew HO296.out)
           have n2_ := Aside0.mk (Kd.R_drew HO300.out)
           have n3_ := Aside0.mk (Kd.R_drew HO303.out)
           have n4_ := Aside0.mk (blk_drew BK269.out)
           have n5_ := Aside0.mk (blk_drew BK270.out)
           have n6_ := Aside0.mk (blk_drew BK271.out)
           have n7_ := Aside0.mk (blk_drew BK278.out)
           have n8_ := Aside0.mk (blk_drew BK284.out)
           have n9_ := Aside0.mk (below_drew1 HB.out)
           clear HO293
           clear HO296
           clear HO300
           clear HO303
           clear BK269
           clear BK270
           clear BK271
           clear BK278
           clear BK284
           clear HB
           have HO293 := n0_
           have HO296 := n1_
           have HO300 := n2_
           have HO303 := n3_
           have BK269 := n4_
           have BK270 := n5_
           have BK271 := n6_
           have BK278 := n7_
           have BK284 := n8_
           have HB := n9_
           clear n0_ n1_ n2_ n3_ n4_ n5_ n6_ n7_ n8_ n9_
           refine start_ (n := 6) (S := fun w' => w'.cell? ⟨gb269, 0, none⟩ = some (.int .i64 t297) ∧ w'.cell? ⟨gb269, 1, none⟩ = some (.slice Ao139 t298.length co139) ∧ w'.cell? ⟨gb269, 2, none⟩ = some (.slice Ao140 t301.length co140) ∧ w'.cell? ⟨gb278, 0, none⟩ = some (.int .i64 t304) ∧ w'.cell? ⟨gb278, 1, none⟩ = some (.string t305) ∧ w'.cell? ⟨gb278, 2, none⟩ = some (.bool t306) ∧ w'.cell? ⟨gb278, 3, none⟩ = some (.int .i64 t307) ∧ w'.cell? ⟨gb278, 4, none⟩ = some (.int .i64 t308)) (ds := []) #[false, false, false, false, false, false] (by kernel_rfl) rfl rfl ⟨(blk_cell BK269.out 0).trans rfl, (blk_cell BK269.out 1).trans rfl, (blk_cell BK269.out 2).trans rfl, (blk_cell BK278.out 0).trans rfl, (blk_cell BK278.out 1).trans rfl, (blk_cell BK278.out 2).trans rfl, (blk_cell BK278.out 3).trans rfl, (blk_cell BK278.out 4).trans rfl⟩ (fun hHeld => ?_)
           generalize w149.drew = w150 at HO293 HO296 HO300 HO303 BK269 BK270 BK271 BK278 BK284 HB hHeld ⊢
           refine pure_ (i := 1) (N := some 100) (v := ?_) (a' := ?_) #[false, true, false, false, false, false] rfl rfl (by kernel_rfl) (fun _ _ _ h => h) (Or.inl ⟨by rfl, ?_⟩) ?_ ?_
           rotate_left
           ·intro w'
            go_simp
            with_reducible rfl
           rotate_left
           ·simp only [Act.put, List.setIfInBounds_toArray, List.set_cons_zero, List.set_cons_succ, i64_w, i32_w]
            rfl
           refine take_ (i := 0) (N := some 99) (v := ?_) (a' := ?_) #[true, true, false, false, false, false] rfl rfl (by kernel_rfl) (fun _ _ _ h => h) (Or.inl ⟨by rfl, ?_⟩) hHeld ?_ ?_
           rotate_left
           ·rintro w' ⟨s0, s1, s2, s3, s4, s5, s6, s7⟩
            go_simp
            with_reducible rfl
           rotate_left
           ·simp only [Act.put, List.setIfInBounds_toArray, List.set_cons_zero, List.set_cons_succ, i64_w, i32_w]
            rfl
           refine take_ (i := 2) (N := some 101) (v := ?_) (a' := ?_) #[true, true, true, false, false, false] rfl rfl (by kernel_rfl) (fun _ _ _ h => h) (Or.inl ⟨by rfl, ?_⟩) hHeld ?_ ?_
           rotate_left
           ·rintro w' ⟨s0, s1, s2, s3, s4, s5, s6, s7⟩
            go_simp
            with_reducible rfl
           rotate_left
           ·simp only [Act.put, List.setIfInBounds_toArray, List.set_cons_zero, List.set_cons_succ, i64_w, i32_w]
            rfl
           refine one_ (i := 3) (N := none) #[true, true, true, true, false, false] rfl rfl (by kernel_rfl) (by decide) (fun K hK => ?_)
           have hs151 : w150.cell? ⟨gb271, 0, none⟩ = some (.int .i64 0) := (blk_cell BK271.out 0).trans rfl
           have hfs151 := blk_frozen BK271.out 0
           have hns151_0 := NB269_271.out
           have hns151_1 := NB270_271.out
           have hns151_3 := NB278_271.out
           have hns151_4 := NB284_271.out
           have hms151_0 := NB271_269.out
           have hms151_1 := NB271_270.out
           have hms151_3 := NB271_278.out
           have hms151_4 := NB271_284.out
           have hs152 : w150.cell? ⟨gb271, 1, none⟩ = some (.slice none 0 0) := (blk_cell BK271.out 1).trans rfl
           have hfs152 := blk_frozen BK271.out 1
           have hns152_0 := NB269_271.out
           have hns152_1 := NB270_271.out
           have hns152_3 := NB278_271.out
           have hns152_4 := NB284_271.out
           have hms152_0 := NB271_269.out
           have hms152_1 := NB271_270.out
           have hms152_3 := NB271_278.out
           have hms152_4 := NB271_284.out
           have hs153 : w150.cell? ⟨gb271, 2, none⟩ = some (.slice none 0 0) := (blk_cell BK271.out 2).trans rfl
           have hfs153 := blk_frozen BK271.out 2
           have hns153_0 := NB269_271.out
           have hns153_1 := NB270_271.out
           have hns153_3 := NB278_271.out
           have hns153_4 := NB284_271.out
           have hms153_0 := NB271_269.out
           have hms153_1 := NB271_270.out
           have hms153_3 := NB271_278.out
           have hms153_4 := NB271_284.out
           refine skip_ (w1 := ?_) (by rfl) rfl ?_ ?_
           rotate_left
           ·go_simp
            rfl
           refine hK.out _ _ ⟨((cell_far (p := ⟨gb271, _, none⟩) NB269_271.out _).trans (((cell_far (p := ⟨gb271, _, none⟩) NB269_271.out _).trans (((cell_far (p := ⟨gb271, _, none⟩) NB269_271.out _).trans (hHeld.1)))))), ((cell_far (p := ⟨gb271, _, none⟩) NB269_271.out _).trans (((cell_far (p := ⟨gb271, _, none⟩) NB269_271.out _).trans (((cell_far (p := ⟨gb271, _, none⟩) NB269_271.out _).trans (hHeld.2.1)))))), ((cell_far (p := ⟨gb271, _, none⟩) NB269_271.out _).trans (((cell_far (p := ⟨gb271, _, none⟩) NB269_271.out _).trans (((cell_far (p := ⟨gb271, _, none⟩) NB269_271.out _).trans (hHeld.2.2.1)))))), ((cell_far (p := ⟨gb271, _, none⟩) NB278_271.out _).trans (((cell_far (p := ⟨gb271, _, none⟩) NB278_271.out _).trans (((cell_far (p := ⟨gb271, _, none⟩) NB278_271.out _).trans (hHeld.2.2.2.1)))))), ((cell_far (p := ⟨gb271, _, none⟩) NB278_271.out _).trans (((cell_far (p := ⟨gb271, _, none⟩) NB278_271.out _).trans (((cell_far (p := ⟨gb271, _, none⟩) NB278_271.out _).trans (hHeld.2.2.2.2.1)))))), ((cell_far (p := ⟨gb271, _, none⟩) NB278_271.out _).trans (((cell_far (p := ⟨gb271, _, none⟩) NB278_271.out _).trans (((cell_far (p := ⟨gb271, _, none⟩) NB278_271.out _).trans (hHeld.2.2.2.2.2.1)))))), ((cell_far (p := ⟨gb271, _, none⟩) NB278_271.out _).trans (((cell_far (p := ⟨gb271, _, none⟩) NB278_271.out _).trans (((cell_far (p := ⟨gb271, _, none⟩) NB278_271.out _).trans (hHeld.2.2.2.2.2.2.1)))))), ((cell_far (p := ⟨gb271, _, none⟩) NB278_271.out _).trans (((cell_far (p := ⟨gb271, _, none⟩) NB278_271.out _).trans (((cell_far (p := ⟨gb271, _, none⟩) NB278_271.out _).trans (hHeld.2.2.2.2.2.2.2))))))⟩ (fun hHeld => ?_)
           clear hK K
           refine pure_ (i := 4) (N := some 7) (v := ?_) (a' := ?_) #[true, true, true, true, true, false] rfl rfl (by kernel_rfl) (fun _ _ _ h => h) (Or.inl ⟨by rfl, ?_⟩) ?_ ?_
           rotate_left
           ·intro w'
            go_simp
            with_reducible rfl
           rotate_left
           ·simp only [Act.put, List.setIfInBounds_toArray, List.set_cons_zero, List.set_cons_succ, i64_w, i32_w]
            rfl
           refine pure_ (i := 5) (N := some 8) (v := ?_) (a' := ?_) #[true, true, true, true, true, true] rfl rfl (by kernel_rfl) (fun _ _ _ h => h) (Or.inl ⟨by rfl, ?_⟩) ?_ ?_
           rotate_left
           ·intro w'
            go_simp
            with_reducible rfl
           rotate_left
           ·simp only [Act.put, List.setIfInBounds_toArray, List.set_cons_zero, List.set_cons_succ, i64_w, i32_w]
            rfl
           refine done_ (by kernel_rfl) ?_
           try go_wp2
           refine bodyPost_ret (results_ctt rfl _ _ gb271 27 #[.int .i64 t297, .slice Ao139 t298.length co139, .slice Ao140 t301.length co140] (0, 0) _ rfl (zP3 BK271.out) Tryd.underlying27 rfl (by kernel_rfl)) rfl ?_
           exact ⟨_, _, zE, by (with_reducible repeat (first | apply Kd.R_alloc | apply Kd.R_drewN | apply Kd.R_drew)); exact Kd.R_mono (zNT HO300.out BK271.out) (fun _ hk => trivial), by (with_reducible repeat (first | apply Kd.R_alloc | apply Kd.R_drewN | apply Kd.R_drew)); exact Kd.R_mono (zNT HO303.out BK271.out) (fun _ hk => trivial), zL HB.out⟩
          ·rw [if_neg c119] at H
           exact absurd H (by simp)

end Go.Proofs.YtgcghjkaomgloaaDoor.PLease
