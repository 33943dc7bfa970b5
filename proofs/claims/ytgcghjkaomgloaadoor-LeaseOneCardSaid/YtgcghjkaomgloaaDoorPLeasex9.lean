-- Written by a program of this session (wip/tools/ext.py, over the kit's printer); not trusted: Lean checks it.
import Derived.Test.YtgcghjkaomgloaaDoorPLeasex0
import Derived.Test.YtgcghjkaomgloaaDoorPLeasex5
import Derived.Test.YtgcghjkaomgloaaDoorPLeasex6
import Derived.Test.YtgcghjkaomgloaaDoorPLeasex7
import Derived.Test.YtgcghjkaomgloaaDoorPLeasex8
namespace Go.Proofs.YtgcghjkaomgloaaDoor.PLease
open Go.RowKit Go.Proofs.YtgcghjkaomgloaaDoorW.PrintWords Go.Proofs.YtgcghjkaomgloaaDoorW.PrintLast Go.Proofs.YtgcghjkaomgloaaDoorW.PrintMore
attribute [local go_sem] max2_int min2_int max_two min_two max_three min_three max_four min_four   -- for this text's walks alone
set_option linter.unusedVariables false
set_option linter.unusedSimpArgs false

/-! ### cooperagelaw16_does: function 17 -/
mutual
def cooperagelaw16_does.j1 : Nat → Int → Int → Int → List (S34) → List (S32) → Int → List (S34) → List (S32) → Option (Int × (List (S34)) × (List (S32)) × Int × Int)
 | 0, _, _, _, _, _, _, _, _ => none
 | k + 1, x10, x11, x491000, x491001, x491002, x494000, x494001, x494002 => if x10 = 0 then (some (x494000, x494001, x494002, x11, x10)) else (some (x491000, x491001, x491002, wrap64 ((wrap64 ((x494001.length : Int) + (x494002.length : Int))) + x494000), x10))
def cooperagelaw16_does.j0 : Nat → Int → Int → Int → Int → Bool → Int → List (S34) → List (S32) → Int → Int → Int → Int → Int → ByteArray → Bool → Option (Int × (List (S34)) × (List (S32)) × Int × Int)
 | 0, _, _, _, _, _, _, _, _, _, _, _, _, _, _, _ => none
 | k + 1, x2, x10, x11, x14, x31, x491000, x491001, x491002, x492000, x492001, x492002, x492003, x492004, x492005, x492006 => if x31 = true then ((lease_Give.f k x491000 x491001 x491002 x492001 x492005 x492003 x2).bind fun bt495 => (cooperagelaw16_does.j1 k bt495.2.2.2 x11 x491000 x491001 x491002 bt495.1 bt495.2.1 bt495.2.2.1)) else (if x14 = 7 then ((lease_Renew.f k x491000 x491001 x491002 x492001 x492005 x492003 x492002 x2).bind fun bt503 => (cooperagelaw16_does.j1 k bt503.2.2.2 x11 x491000 x491001 x491002 bt503.1 bt503.2.1 bt503.2.2.1)) else (if x14 = 8 then ((lease_Leave.f k x491000 x491001 x491002 x492001 x2).bind fun bt511 => (cooperagelaw16_does.j1 k x10 x11 x491000 x491001 x491002 bt511.1 bt511.2.1 bt511.2.2)) else (if x14 = 9 then ((lease_Tick.f k x491000 x491001 x491002 x2).bind fun bt518 => (cooperagelaw16_does.j1 k x10 x11 x491000 x491001 x491002 bt518.1 bt518.2.1 bt518.2.2)) else ((lease_Take.f k x491000 x491001 x491002 x492001 x492005 x492006 x492002 x2).bind fun bt525 => (cooperagelaw16_does.j1 k bt525.2.2.2.2 bt525.2.2.2.1 x491000 x491001 x491002 bt525.1 bt525.2.1 bt525.2.2.1)))))
end
def cooperagelaw16_does.f (k : Nat) (a0_0 : Int) (l0_1 : List (S34)) (l0_2 : List (S32)) (a1_0 : Int) (a1_1 : Int) (a1_2 : Int) (a1_3 : Int) (a1_4 : Int) (a1_5 : ByteArray) (a1_6 : Bool) (a2 : Int) : Option (Int × (List (S34)) × (List (S32)) × Int × Int) := (cooperagelaw16_pick.f a1_0 10).bind fun t494 => (if t494 = 5 then (cooperagelaw16_does.j0 k a2 0 0 t494 (t494 == 5) a0_0 l0_1 l0_2 a1_0 a1_1 a1_2 a1_3 a1_4 a1_5 a1_6) else (cooperagelaw16_does.j0 k a2 0 0 t494 (t494 == 6) a0_0 l0_1 l0_2 a1_0 a1_1 a1_2 a1_3 a1_4 a1_5 a1_6))
theorem cooperagelaw16_does.mono_l : ∀ k, (∀ y0 y1 y2 y3 y4 y5 y6 y7, LeO (cooperagelaw16_does.j1 k y0 y1 y2 y3 y4 y5 y6 y7) (cooperagelaw16_does.j1 (k + 1) y0 y1 y2 y3 y4 y5 y6 y7)) ∧ (∀ y0 y1 y2 y3 y4 y5 y6 y7 y8 y9 y10 y11 y12 y13 y14, LeO (cooperagelaw16_does.j0 k y0 y1 y2 y3 y4 y5 y6 y7 y8 y9 y10 y11 y12 y13 y14) (cooperagelaw16_does.j0 (k + 1) y0 y1 y2 y3 y4 y5 y6 y7 y8 y9 y10 y11 y12 y13 y14))
 | 0 => ⟨fun _ _ _ _ _ _ _ _ r h => by simp [cooperagelaw16_does.j1] at h, fun _ _ _ _ _ _ _ _ _ _ _ _ _ _ _ r h => by simp [cooperagelaw16_does.j0] at h⟩
 | k + 1 => by
  obtain ⟨ih0, ih1⟩ := cooperagelaw16_does.mono_l k
  refine ⟨?_, ?_⟩
  ·intro y0 y1 y2 y3 y4 y5 y6 y7
   unfold cooperagelaw16_does.j1
   repeat' first
   | (with_reducible exact ih0 _ _ _ _ _ _ _ _)
   | (with_reducible exact ih1 _ _ _ _ _ _ _ _ _ _ _ _ _ _ _)
   | (with_reducible exact lease_Give.mono _ _ _ _ _ _ _ _)
   | (with_reducible exact lease_Leave.mono _ _ _ _ _ _)
   | (with_reducible exact lease_Renew.mono _ _ _ _ _ _ _ _ _)
   | (with_reducible exact lease_Take.mono _ _ _ _ _ _ _ _ _)
   | (with_reducible exact lease_Tick.mono _ _ _ _ _)
   | (with_reducible exact LeO.refl _)
   | (with_reducible exact LeO.none _)
   | (with_reducible refine LeO.ite ?_ ?_)
   | (with_reducible refine LeO.bind ?_ (fun _ => ?_))
   | exact ih0 _ _ _ _ _ _ _ _
   | exact ih1 _ _ _ _ _ _ _ _ _ _ _ _ _ _ _
   | exact lease_Give.mono _ _ _ _ _ _ _ _
   | exact lease_Leave.mono _ _ _ _ _ _
   | exact lease_Renew.mono _ _ _ _ _ _ _ _ _
   | exact lease_Take.mono _ _ _ _ _ _ _ _ _
   | exact lease_Tick.mono _ _ _ _ _
   | exact LeO.none _
   | refine LeO.ite ?_ ?_
   | refine LeO.bind ?_ (fun _ => ?_)
  ·intro y0 y1 y2 y3 y4 y5 y6 y7 y8 y9 y10 y11 y12 y13 y14
   unfold cooperagelaw16_does.j0
   repeat' first
   | (with_reducible exact ih0 _ _ _ _ _ _ _ _)
   | (with_reducible exact ih1 _ _ _ _ _ _ _ _ _ _ _ _ _ _ _)
   | (with_reducible exact lease_Give.mono _ _ _ _ _ _ _ _)
   | (with_reducible exact lease_Leave.mono _ _ _ _ _ _)
   | (with_reducible exact lease_Renew.mono _ _ _ _ _ _ _ _ _)
   | (with_reducible exact lease_Take.mono _ _ _ _ _ _ _ _ _)
   | (with_reducible exact lease_Tick.mono _ _ _ _ _)
   | (with_reducible exact LeO.refl _)
   | (with_reducible exact LeO.none _)
   | (with_reducible refine LeO.ite ?_ ?_)
   | (with_reducible refine LeO.bind ?_ (fun _ => ?_))
   | exact ih0 _ _ _ _ _ _ _ _
   | exact ih1 _ _ _ _ _ _ _ _ _ _ _ _ _ _ _
   | exact lease_Give.mono _ _ _ _ _ _ _ _
   | exact lease_Leave.mono _ _ _ _ _ _
   | exact lease_Renew.mono _ _ _ _ _ _ _ _ _
   | exact lease_Take.mono _ _ _ _ _ _ _ _ _
   | exact lease_Tick.mono _ _ _ _ _
   | exact LeO.none _
   | refine LeO.ite ?_ ?_
   | refine LeO.bind ?_ (fun _ => ?_)
theorem cooperagelaw16_does.mono : ∀ a0 a1 a2 a3 a4 a5 a6 a7 a8 a9 a10 k, LeO (cooperagelaw16_does.f k a0 a1 a2 a3 a4 a5 a6 a7 a8 a9 a10) (cooperagelaw16_does.f (k + 1) a0 a1 a2 a3 a4 a5 a6 a7 a8 a9 a10) := by
 intro a0 a1 a2 a3 a4 a5 a6 a7 a8 a9 a10 k
 obtain ⟨ih0, ih1⟩ := cooperagelaw16_does.mono_l k
 unfold cooperagelaw16_does.f
 repeat' first
   | (with_reducible exact ih0 _ _ _ _ _ _ _ _)
   | (with_reducible exact ih1 _ _ _ _ _ _ _ _ _ _ _ _ _ _ _)
   | (with_reducible exact lease_Give.mono _ _ _ _ _ _ _ _)
   | (with_reducible exact lease_Leave.mono _ _ _ _ _ _)
   | (with_reducible exact lease_Renew.mono _ _ _ _ _ _ _ _ _)
   | (with_reducible exact lease_Take.mono _ _ _ _ _ _ _ _ _)
   | (with_reducible exact lease_Tick.mono _ _ _ _ _)
   | (with_reducible exact LeO.refl _)
   | (with_reducible exact LeO.none _)
   | (with_reducible refine LeO.ite ?_ ?_)
   | (with_reducible refine LeO.bind ?_ (fun _ => ?_))
   | exact ih0 _ _ _ _ _ _ _ _
   | exact ih1 _ _ _ _ _ _ _ _ _ _ _ _ _ _ _
   | exact lease_Give.mono _ _ _ _ _ _ _ _
   | exact lease_Leave.mono _ _ _ _ _ _
   | exact lease_Renew.mono _ _ _ _ _ _ _ _ _
   | exact lease_Take.mono _ _ _ _ _ _ _ _ _
   | exact lease_Tick.mono _ _ _ _ _
   | exact LeO.none _
   | refine LeO.ite ?_ ?_
   | refine LeO.bind ?_ (fun _ => ?_)
def cooperagelaw16_does.T16 : Bool × List (List Nat × List Nat) := (true, [([], []), ([], []), ([1], [1]), ([2], [2]), ([], []), ([4], [4]), ([5], [5]), ([3, 6], [3, 6]), ([], []), ([8], [8]), ([7, 9], [7, 9]), ([], []), ([0, 0], [0]), ([10, 12, 0, 1, 2, 3, 4, 5, 6, 7, 8, 9, 10, 12], [10]), ([11, 13, 0, 1, 2, 3, 4, 5, 6, 7, 8, 9, 10, 11, 12, 13], [11])])
def cooperagelaw16_does.B16 : List Nat := [0, 0, 2, 6, 0, 16, 48, 126, 0, 256, 1022, 0, 1, 6143, 16383]
theorem cooperagelaw16_does.tab16 : rtab .any (opsOf Tryd.f17 16) = cooperagelaw16_does.T16 := by kernel_rfl
theorem cooperagelaw16_does.bits16 : waitsOk cooperagelaw16_does.T16.2 cooperagelaw16_does.B16 = true := by kernel_rfl
set_option maxHeartbeats 8000000 in
set_option maxRecDepth 100000 in
theorem cooperagelaw16_does.calls (k : Nat) (a0_0 : Int) (P0_1_ : Nat → Prop) (A0_1 : Option Addr) (c0_1 : Nat) (l0_1 : List (S34)) (P0_2_ : Nat → Prop) (A0_2 : Option Addr) (c0_2 : Nat) (l0_2 : List (S32)) (a1_0 : Int) (a1_1 : Int) (a1_2 : Int) (a1_3 : Int) (a1_4 : Int) (a1_5 : ByteArray) (a1_6 : Bool) (a2 : Int) (r1 : Int) (r2 : List (S34)) (r3 : List (S32)) (r4 : Int) (r5 : Int) (w : World) (hs0_1 : Kd.V k34 34 w w.heap.size (fun k_ => P0_1_ k_) (.slice A0_1 l0_1.length c0_1) l0_1) (hs0_2 : Kd.V k32 32 w w.heap.size (fun k_ => P0_2_ k_) (.slice A0_2 l0_2.length c0_2) l0_2) (h : cooperagelaw16_does.f k a0_0 l0_1 l0_2 a1_0 a1_1 a1_2 a1_3 a1_4 a1_5 a1_6 a2 = some (r1, r2, r3, r4, r5)) :
  Calls Tryd.prog 17 #[.agg #[.int .i64 a0_0, .slice A0_1 l0_1.length c0_1, .slice A0_2 l0_2.length c0_2], .agg #[.int .i64 a1_0, .int .i64 a1_1, .int .i64 a1_2, .int .i64 a1_3, .int .i64 a1_4, .string a1_5, .bool a1_6], .int .i64 a2] w fun e w' => ∃ v1_ v2_ : Value, e = .returned (.tuple #[.agg #[.int .i64 r1, v1_, v2_], .int .i64 r4, .int .i64 r5]) ∧ Kd.V k34 34 w' w.heap.size (fun k_ => ((P0_1_ k_ ∨ P0_2_ k_) ∨ w.heap.size ≤ k_)) v1_ r2 ∧ Kd.V k32 32 w' w.heap.size (fun k_ => ((P0_1_ k_ ∨ P0_2_ k_) ∨ w.heap.size ≤ k_)) v2_ r3 ∧ Below w.heap.size w w' := by
 have hu27 := Tryd.underlying27
 have hu52 := Tryd.underlying52
 have hu32 := Tryd.underlying32
 have HO0_1 := Aside0.mk (show Kd.V k34 34 w w.heap.size (fun k_ => ((P0_1_ k_ ∨ P0_2_ k_) ∨ w.heap.size ≤ k_)) (.slice A0_1 l0_1.length c0_1) l0_1 from Kd.V_mono hs0_1 (fun k_ hk => .inl (.inl hk)))
 have HO0_2 := Aside0.mk (show Kd.V k32 32 w w.heap.size (fun k_ => ((P0_1_ k_ ∨ P0_2_ k_) ∨ w.heap.size ≤ k_)) (.slice A0_2 l0_2.length c0_2) l0_2 from Kd.V_mono hs0_2 (fun k_ hk => .inl (.inr hk)))
 have HB := Aside0.mk (Below.refl w.heap.size w)
 have H : ((cooperagelaw16_pick.f a1_0 10).bind fun t494 => (if t494 = 5 then (cooperagelaw16_does.j0 k a2 0 0 t494 (t494 == 5) a0_0 l0_1 l0_2 a1_0 a1_1 a1_2 a1_3 a1_4 a1_5 a1_6) else (cooperagelaw16_does.j0 k a2 0 0 t494 (t494 == 6) a0_0 l0_1 l0_2 a1_0 a1_1 a1_2 a1_3 a1_4 a1_5 a1_6))) = some (r1, r2, r3, r4, r5) := h
 clear h
 replace H := Option.bind_eq_some_iff.mp H
 obtain ⟨t494, A40, H⟩ := H
 replace H : (if t494 = 5 then (cooperagelaw16_does.j0 k a2 0 0 t494 (t494 == 5) a0_0 l0_1 l0_2 a1_0 a1_1 a1_2 a1_3 a1_4 a1_5 a1_6) else (cooperagelaw16_does.j0 k a2 0 0 t494 (t494 == 6) a0_0 l0_1 l0_2 a1_0 a1_1 a1_2 a1_3 a1_4 a1_5 a1_6)) = some (r1, r2, r3, r4, r5) := H
 have A4 := Aside0.mk A40
 clear A40
 have HC5 := Aside0.mk H
 clear H
 go_enter Tryd.func17, Tryd.ntmps17
 go_upto_block 0 with (first | ((with_reducible refine gate_dst (N := 3) rfl ?_); refine box_event ?hg (N := 3) ?hd (cs := #[.int .i64 a0_0, .slice A0_1 l0_1.length c0_1, .slice A0_2 l0_2.length c0_2]) (t := 27) ?hr ?_; (case hd => rfl); (case hg => rfl); (case hr => first | (go_simp; done) | (go_simp; rfl)); intro gb490 hg w6 hbox hb; have n0_ := Aside0.mk (Kd.V_below (Kd.V_elderB (zV HO0_1.out) gb490 (Nat.le_of_eq hg.symm)) hb); have n1_ := Aside0.mk (Kd.V_below (Kd.V_elderB (zV HO0_2.out) gb490 (Nat.le_of_eq hg.symm)) hb); have n2_ := Aside0.mk (below_step (zL HB.out) hb); have n3_ := Aside0.mk (hbox); have n4_ := Aside0.mk (zG hg (zL HB.out)); have n5_ := Aside0.mk (zG hg (zL HB.out)); revert n0_ n1_ n2_ n3_ n4_ n5_; clear HO0_1 HO0_2 HB; intro HO0_1 HO0_2 HB BK490 GW490 GE490; clear hb hbox hg) | ((with_reducible refine gate_dst (N := 4) rfl ?_); refine box_event ?hg (N := 4) ?hd (cs := #[.int .i64 a1_0, .int .i64 a1_1, .int .i64 a1_2, .int .i64 a1_3, .int .i64 a1_4, .string a1_5, .bool a1_6]) (t := 52) ?hr ?_; (case hd => rfl); (case hg => rfl); (case hr => first | (go_simp; done) | (go_simp; rfl)); intro gb491 hg w7 hbox hb; have n0_ := Aside0.mk (Kd.V_below (Kd.V_elderB (zV HO0_1.out) gb491 (Nat.le_of_eq hg.symm)) hb); have n1_ := Aside0.mk (Kd.V_below (Kd.V_elderB (zV HO0_2.out) gb491 (Nat.le_of_eq hg.symm)) hb); have n2_ := Aside0.mk (blk_below (g := gb490) (o := .cells #[.int .i64 a0_0, .slice A0_1 l0_1.length c0_1, .slice A0_2 l0_2.length c0_2] 27 (0, 0)) (zK BK490.out) hb); have n3_ := Aside0.mk (below_step (zL HB.out) hb); have n4_ := Aside0.mk (hbox); have n5_ := Aside0.mk (zG hg (zL HB.out)); have n6_ := Aside0.mk (zG hg (zL HB.out)); have n7_ := Aside0.mk (zN (g := gb490) (o := .cells #[.int .i64 a0_0, .slice A0_1 l0_1.length c0_1, .slice A0_2 l0_2.length c0_2] 27 (0, 0)) hg (zK BK490.out)); have n8_ := Aside0.mk (zO (g := gb490) (o := .cells #[.int .i64 a0_0, .slice A0_1 l0_1.length c0_1, .slice A0_2 l0_2.length c0_2] 27 (0, 0)) hg (zK BK490.out)); revert n0_ n1_ n2_ n3_ n4_ n5_ n6_ n7_ n8_; clear HO0_1 HO0_2 BK490 HB; intro HO0_1 HO0_2 BK490 HB BK491 GW491 GE491 NB490_491 NB491_490; clear hb hbox hg) | ((with_reducible refine gate_dst (N := 6) rfl ?_); refine box_event ?hg (N := 6) ?hd (cs := #[.int .i64 0, .slice none 0 0, .slice none 0 0]) (t := 27) ?hr ?_; (case hd => rfl); (case hg => rfl); (case hr => first | (go_simp; done) | (go_simp; rfl)); intro gb492 hg w8 hbox hb; have n0_ := Aside0.mk (Kd.V_below (Kd.V_elderB (zV HO0_1.out) gb492 (Nat.le_of_eq hg.symm)) hb); have n1_ := Aside0.mk (Kd.V_below (Kd.V_elderB (zV HO0_2.out) gb492 (Nat.le_of_eq hg.symm)) hb); have n2_ := Aside0.mk (blk_below (g := gb490) (o := .cells #[.int .i64 a0_0, .slice A0_1 l0_1.length c0_1, .slice A0_2 l0_2.length c0_2] 27 (0, 0)) (zK BK490.out) hb); have n3_ := Aside0.mk (blk_below (g := gb491) (o := .cells #[.int .i64 a1_0, .int .i64 a1_1, .int .i64 a1_2, .int .i64 a1_3, .int .i64 a1_4, .string a1_5, .bool a1_6] 52 (0, 0)) (zK BK491.out) hb); have n4_ := Aside0.mk (below_step (zL HB.out) hb); have n5_ := Aside0.mk (hbox); have n6_ := Aside0.mk (zG hg (zL HB.out)); have n7_ := Aside0.mk (zG hg (zL HB.out)); have n8_ := Aside0.mk (zN (g := gb490) (o := .cells #[.int .i64 a0_0, .slice A0_1 l0_1.length c0_1, .slice A0_2 l0_2.length c0_2] 27 (0, 0)) hg (zK BK490.out)); have n9_ := Aside0.mk (zO (g := gb490) (o := .cells #[.int .i64 a0_0, .slice A0_1 l0_1.length c0_1, .slice A0_2 l0_2.length c0_2] 27 (0, 0)) hg (zK BK490.out)); have n10_ := Aside0.mk (zN (g := gb491) (o := .cells #[.int .i64 a1_0, .int .i64 a1_1, .int .i64 a1_2, .int .i64 a1_3, .int .i64 a1_4, .string a1_5, .bool a1_6] 52 (0, 0)) hg (zK BK491.out)); have n11_ := Aside0.mk (zO (g := gb491) (o := .cells #[.int .i64 a1_0, .int .i64 a1_1, .int .i64 a1_2, .int .i64 a1_3, .int .i64 a1_4, .string a1_5, .bool a1_6] 52 (0, 0)) hg (zK BK491.out)); revert n0_ n1_ n2_ n3_ n4_ n5_ n6_ n7_ n8_ n9_ n10_ n11_; clear HO0_1 HO0_2 BK490 BK491 HB; intro HO0_1 HO0_2 BK490 BK491 HB BK492 GW492 GE492 NB490_492 NB492_490 NB491_492 NB492_491; clear hb hbox hg) | ((with_reducible refine gate_dst (N := 9) rfl ?_); refine box_event ?hg (N := 9) ?hd (cs := #[.int .i64 0, .slice none 0 0, .slice none 0 0]) (t := 27) ?hr ?_; (case hd => rfl); (case hg => rfl); (case hr => first | (go_simp; done) | (go_simp; rfl)); intro gb493 hg w9 hbox hb; have n0_ := Aside0.mk (Kd.V_below (Kd.V_elderB (zV HO0_1.out) gb493 (Nat.le_of_eq hg.symm)) hb); have n1_ := Aside0.mk (Kd.V_below (Kd.V_elderB (zV HO0_2.out) gb493 (Nat.le_of_eq hg.symm)) hb); have n2_ := Aside0.mk (blk_below (g := gb490) (o := .cells #[.int .i64 a0_0, .slice A0_1 l0_1.length c0_1, .slice A0_2 l0_2.length c0_2] 27 (0, 0)) (zK BK490.out) hb); have n3_ := Aside0.mk (blk_below (g := gb491) (o := .cells #[.int .i64 a1_0, .int .i64 a1_1, .int .i64 a1_2, .int .i64 a1_3, .int .i64 a1_4, .string a1_5, .bool a1_6] 52 (0, 0)) (zK BK491.out) hb); have n4_ := Aside0.mk (blk_below (g := gb492) (o := .cells #[.int .i64 0, .slice none 0 0, .slice none 0 0] 27 (0, 0)) (zK BK492.out) hb); have n5_ := Aside0.mk (below_step (zL HB.out) hb); have n6_ := Aside0.mk (hbox); have n7_ := Aside0.mk (zG hg (zL HB.out)); have n8_ := Aside0.mk (zG hg (zL HB.out)); have n9_ := Aside0.mk (zN (g := gb490) (o := .cells #[.int .i64 a0_0, .slice A0_1 l0_1.length c0_1, .slice A0_2 l0_2.length c0_2] 27 (0, 0)) hg (zK BK490.out)); have n10_ := Aside0.mk (zO (g := gb490) (o := .cells #[.int .i64 a0_0, .slice A0_1 l0_1.length c0_1, .slice A0_2 l0_2.length c0_2] 27 (0, 0)) hg (zK BK490.out)); have n11_ := Aside0.mk (zN (g := gb491) (o := .cells #[.int .i64 a1_0, .int .i64 a1_1, .int .i64 a1_2, .int .i64 a1_3, .int .i64 a1_4, .string a1_5, .bool a1_6] 52 (0, 0)) hg (zK BK491.out)); have n12_ := Aside0.mk (zO (g := gb491) (o := .cells #[.int .i64 a1_0, .int .i64 a1_1, .int .i64 a1_2, .int .i64 a1_3, .int .i64 a1_4, .string a1_5, .bool a1_6] 52 (0, 0)) hg (zK BK491.out)); have n13_ := Aside0.mk (zN (g := gb492) (o := .cells #[.int .i64 0, .slice none 0 0, .slice none 0 0] 27 (0, 0)) hg (zK BK492.out)); have n14_ := Aside0.mk (zO (g := gb492) (o := .cells #[.int .i64 0, .slice none 0 0, .slice none 0 0] 27 (0, 0)) hg (zK BK492.out)); revert n0_ n1_ n2_ n3_ n4_ n5_ n6_ n7_ n8_ n9_ n10_ n11_ n12_ n13_ n14_; clear HO0_1 HO0_2 BK490 BK491 BK492 HB; intro HO0_1 HO0_2 BK490 BK491 BK492 HB BK493 GW493 GE493 NB490_493 NB493_490 NB491_493 NB493_491 NB492_493 NB493_492; clear hb hbox hg; have hnb10 := NB491_490.out; have hnc10 := NB490_491.out; have hnb11 := NB491_492.out; have hnc11 := NB492_491.out; have hnb12 := NB491_493.out; have hnc12 := NB493_491.out; obtain ⟨hcz13_0, hcz13_1, hcz13_2, hcz13_3, hcz13_4, hcz13_5, hcz13_6, hfz13_0, hfz13_1, hfz13_2, hfz13_3, hfz13_4, hfz13_5, hfz13_6⟩ := zC7 BK491.out) | ((with_reducible refine gate_callee (f := 13) rfl ?_); refine goesL_ (some 14) rfl rfl Tryd.func13 (by kernel_rfl) rfl #[.int .i64 a1_0, .int .i64 10] rfl zA ?_; (with_reducible refine (cooperagelaw16_pick.calls a1_0 10 t494 _ A4.out).mono ?_); rintro e w' ⟨rfl, ⟨nd, rfl⟩⟩; refine ⟨_, rfl, ?_⟩))
 (try simp only [Act.put, List.setIfInBounds_toArray, List.set_cons_zero, List.set_cons_succ])
 go_cut [10, 11] (fun v10 v11 wc => ∃ (kq : Nat) (x10_4 : Int) (x11_4 : Int) (x494000_4 : Int) (x494001_4 : List (S34)) (x494002_4 : List (S32)) (u494001 : Value) (u494002 : Value), v10 = .int .i64 x10_4 ∧ v11 = .int .i64 x11_4 ∧ Aside0 (cooperagelaw16_does.j1 kq x10_4 x11_4 a0_0 l0_1 l0_2 x494000_4 x494001_4 x494002_4 = some (r1, r2, r3, r4, r5)) ∧ Aside0 (kq ≤ k) ∧ Aside0 (Kd.V k34 34 wc w.heap.size (fun k_ => ((P0_1_ k_ ∨ P0_2_ k_) ∨ w.heap.size ≤ k_) ∧ k_ ≠ gb490 ∧ k_ ≠ gb491 ∧ k_ ≠ gb492 ∧ k_ ≠ gb493) (.slice A0_1 l0_1.length c0_1) l0_1) ∧ Aside0 (Kd.V k32 32 wc w.heap.size (fun k_ => ((P0_1_ k_ ∨ P0_2_ k_) ∨ w.heap.size ≤ k_) ∧ k_ ≠ gb490 ∧ k_ ≠ gb491 ∧ k_ ≠ gb492 ∧ k_ ≠ gb493) (.slice A0_2 l0_2.length c0_2) l0_2) ∧ Aside0 (Kd.V k34 34 wc w.heap.size (fun k_ => ((P0_1_ k_ ∨ P0_2_ k_) ∨ w.heap.size ≤ k_) ∧ k_ ≠ gb490 ∧ k_ ≠ gb491 ∧ k_ ≠ gb492 ∧ k_ ≠ gb493) u494001 x494001_4) ∧ Aside0 (Kd.V k32 32 wc w.heap.size (fun k_ => ((P0_1_ k_ ∨ P0_2_ k_) ∨ w.heap.size ≤ k_) ∧ k_ ≠ gb490 ∧ k_ ≠ gb491 ∧ k_ ≠ gb492 ∧ k_ ≠ gb493) u494002 x494002_4) ∧ Aside0 (wc.heap[gb490]? = some (.cells #[.int .i64 a0_0, (.slice A0_1 l0_1.length c0_1), (.slice A0_2 l0_2.length c0_2)] 27 (0, 0))) ∧ Aside0 (wc.heap[gb491]? = some (.cells #[.int .i64 a1_0, .int .i64 a1_1, .int .i64 a1_2, .int .i64 a1_3, .int .i64 a1_4, .string a1_5, .bool a1_6] 52 (0, 0))) ∧ Aside0 (wc.heap[gb492]? = some (.cells #[.int .i64 0, (.slice none 0 0), (.slice none 0 0)] 27 (0, 0))) ∧ Aside0 (wc.heap[gb493]? = some (.cells #[.int .i64 x494000_4, u494001, u494002] 27 (0, 0))) ∧ Aside0 (Below w.heap.size w wc))
 case first =>
  have H := HC5.out
  clear HC5
  have HC14 := Aside0.mk H
  clear H
  go_upto_if 31 with (fail)
  go_cut [31] (fun v31 wc => ∃ (kq : Nat) (x31_13 : Bool), v31 = .bool x31_13 ∧ Aside0 (cooperagelaw16_does.j0 kq a2 0 0 t494 x31_13 a0_0 l0_1 l0_2 a1_0 a1_1 a1_2 a1_3 a1_4 a1_5 a1_6 = some (r1, r2, r3, r4, r5)) ∧ Aside0 (kq ≤ k) ∧ Aside0 (Kd.V k34 34 wc w.heap.size (fun k_ => ((P0_1_ k_ ∨ P0_2_ k_) ∨ w.heap.size ≤ k_) ∧ k_ ≠ gb490 ∧ k_ ≠ gb491 ∧ k_ ≠ gb492 ∧ k_ ≠ gb493) (.slice A0_1 l0_1.length c0_1) l0_1) ∧ Aside0 (Kd.V k32 32 wc w.heap.size (fun k_ => ((P0_1_ k_ ∨ P0_2_ k_) ∨ w.heap.size ≤ k_) ∧ k_ ≠ gb490 ∧ k_ ≠ gb491 ∧ k_ ≠ gb492 ∧ k_ ≠ gb493) (.slice A0_2 l0_2.length c0_2) l0_2) ∧ Aside0 (wc.heap[gb490]? = some (.cells #[.int .i64 a0_0, (.slice A0_1 l0_1.length c0_1), (.slice A0_2 l0_2.length c0_2)] 27 (0, 0))) ∧ Aside0 (wc.heap[gb491]? = some (.cells #[.int .i64 a1_0, .int .i64 a1_1, .int .i64 a1_2, .int .i64 a1_3, .int .i64 a1_4, .string a1_5, .bool a1_6] 52 (0, 0))) ∧ Aside0 (wc.heap[gb492]? = some (.cells #[.int .i64 0, (.slice none 0 0), (.slice none 0 0)] 27 (0, 0))) ∧ Aside0 (wc.heap[gb493]? = some (.cells #[.int .i64 0, (.slice none 0 0), (.slice none 0 0)] 27 (0, 0))) ∧ Aside0 (Below w.heap.size w wc))
  case first =>
   have H := HC14.out
   clear HC14
   by_cases c15 : t494 = 5
   ·rw [if_pos c15] at H
    have c15b0 : (t494 == 5) = true := beq_iff_eq.mpr c15
    have c15b1 : (t494 != 5) = false := bne_eq_false_iff_eq.mpr c15
    clear c15
    (first | rw [c15b0] | (simp only [i64_w, i32_w]; rw [c15b0]) | skip)
    have H' := Aside0.mk H
    clear H
    go_wp2
    go_meet
    case rel => exact ⟨_, ((t494 == 5)), zS, H', ⟨by first | omega | exact Nat.le_refl _⟩, ⟨by (with_reducible repeat (first | apply Kd.V_alloc | apply Kd.V_drewN | apply Kd.V_drew)); exact Kd.V_mono HO0_1.out (fun _ hk => ⟨hk.1.1.1.1, ⟨hk.1.1.1.2, ⟨hk.1.1.2, ⟨hk.1.2, hk.2⟩⟩⟩⟩)⟩, ⟨by (with_reducible repeat (first | apply Kd.V_alloc | apply Kd.V_drewN | apply Kd.V_drew)); exact Kd.V_mono HO0_2.out (fun _ hk => ⟨hk.1.1.1.1, ⟨hk.1.1.1.2, ⟨hk.1.1.2, ⟨hk.1.2, hk.2⟩⟩⟩⟩)⟩, ⟨zK BK490.out⟩, ⟨zK BK491.out⟩, ⟨zK BK492.out⟩, ⟨zK BK493.out⟩, ⟨zL HB.out⟩⟩
   ·rw [if_neg c15] at H
    have c15b0 : (t494 == 5) = false := beq_eq_false_iff_ne.mpr c15
    have c15b1 : (t494 != 5) = true := bne_iff_ne.mpr c15
    (first | rw [c15b0] | (simp only [i64_w, i32_w]; rw [c15b0]) | skip)
    have H' := Aside0.mk H
    clear H
    go_wp2
    go_meet
    case rel => exact ⟨_, ((t494 == 6)), zS, H', ⟨by first | omega | exact Nat.le_refl _⟩, ⟨by (with_reducible repeat (first | apply Kd.V_alloc | apply Kd.V_drewN | apply Kd.V_drew)); exact Kd.V_mono HO0_1.out (fun _ hk => ⟨hk.1.1.1.1, ⟨hk.1.1.1.2, ⟨hk.1.1.2, ⟨hk.1.2, hk.2⟩⟩⟩⟩)⟩, ⟨by (with_reducible repeat (first | apply Kd.V_alloc | apply Kd.V_drewN | apply Kd.V_drew)); exact Kd.V_mono HO0_2.out (fun _ hk => ⟨hk.1.1.1.1, ⟨hk.1.1.1.2, ⟨hk.1.1.2, ⟨hk.1.2, hk.2⟩⟩⟩⟩)⟩, ⟨zK BK490.out⟩, ⟨zK BK491.out⟩, ⟨zK BK492.out⟩, ⟨zK BK493.out⟩, ⟨zL HB.out⟩⟩
  case rest =>
   clear HC14
   try clear c1
   try clear p2
   try clear c10
   try clear c11
   try clear c12
   try clear c13
   try clear c15
   try clear c15b0
   try clear c15b1
   try clear hcz13_0
   try clear hcz13_1
   try clear hcz13_2
   try clear hcz13_3
   try clear hcz13_4
   try clear hcz13_5
   try clear hcz13_6
   try clear hfz13_0
   try clear hfz13_1
   try clear hfz13_2
   try clear hfz13_3
   try clear hfz13_4
   try clear hfz13_5
   try clear hfz13_6
   obtain ⟨kq, x31_13, rfl, HA, HJ13, HO_491001, HO_491002, BK490, BK491, BK492, BK493, HB⟩ := hcut
   cases kq with
   | zero => exact absurd HA.out (by simp [cooperagelaw16_does.j0])
   | succ kj13 =>
    have H := HA.out
    clear HA
    simp only [cooperagelaw16_does.j0] at H
    by_cases c16 : x31_13 = true
    ·subst c16
     have H1 : ((lease_Give.f kj13 a0_0 l0_1 l0_2 a1_1 a1_5 a1_3 a2).bind fun bt495 => (cooperagelaw16_does.j1 kj13 bt495.2.2.2 0 a0_0 l0_1 l0_2 bt495.1 bt495.2.1 bt495.2.2.1)) = some (r1, r2, r3, r4, r5) := by rw [if_pos rfl] at H; exact H
     clear H
     have H := H1
     clear H1
     replace H := Option.bind_eq_some_iff.mp H
     obtain ⟨⟨t495, t496, t499, t502⟩, A170, H⟩ := H
     replace H : (cooperagelaw16_does.j1 kj13 t502 0 a0_0 l0_1 l0_2 t495 t496 t499) = some (r1, r2, r3, r4, r5) := H
     have A17 := Aside0.mk A170
     clear A170
     have H' := Aside0.mk H
     clear H
     have hnb18 := NB490_491.out
     have hnc18 := NB491_490.out
     have hnb19 := NB490_492.out
     have hnc19 := NB492_490.out
     have hnb20 := NB490_493.out
     have hnc20 := NB493_490.out
     obtain ⟨hcz21_0, hcz21_1, hcz21_2, hfz21_0, hfz21_1, hfz21_2⟩ := zC3 BK490.out
     have hnb22 := NB491_492.out
     have hnc22 := NB492_491.out
     have hnb23 := NB491_493.out
     have hnc23 := NB493_491.out
     obtain ⟨hcz24_0, hcz24_1, hcz24_2, hcz24_3, hcz24_4, hcz24_5, hcz24_6, hfz24_0, hfz24_1, hfz24_2, hfz24_3, hfz24_4, hfz24_5, hfz24_6⟩ := zC7 BK491.out
     go_wp2_with (first | ((with_reducible refine gate_callee (f := 12) rfl ?_); refine goesL_ (some 43) rfl rfl Tryd.func12 (by kernel_rfl) rfl #[.agg #[.int .i64 a0_0, .slice A0_1 l0_1.length c0_1, .slice A0_2 l0_2.length c0_2], .int .i64 a1_1, .string a1_5, .int .i64 a1_3, .int .i64 a2] rfl zA ?_; (with_reducible refine (lease_Give.calls kj13 a0_0 _ _ l0_1 _ _ l0_2 a1_1 a1_5 a1_3 a2 t495 t496 t499 t502 _ ?side1 ?side2 ?side3 ?side4 A17.out).mono ?_); (case side1 => repeat (first | exact (Kd.V_reads' HO_491001.out).2.2 | (with_reducible refine Kd.C_alloc ?_ _) | (with_reducible refine Kd.C_drewN ?_ _) | (with_reducible refine Kd.C_drew ?_))); (case side2 => exact (Kd.V_reads' HO_491001.out).2.1); (case side3 => repeat (first | exact (Kd.V_reads' HO_491002.out).2.2 | (with_reducible refine Kd.C_alloc ?_ _) | (with_reducible refine Kd.C_drewN ?_ _) | (with_reducible refine Kd.C_drew ?_))); (case side4 => exact (Kd.V_reads' HO_491002.out).2.1); rintro e w25 ⟨v497, v500, rfl, ho0, ho1, hb⟩; refine ⟨_, rfl, ?_⟩; have n0_ := Aside0.mk (Kd.V_mono (Kd.V_told (Kd.V_told (Kd.V_old (zV HO_491001.out) hb) (Kd.R_base ho0)) (Kd.R_base ho1)) (fun _ h_ => h_.1)); have n1_ := Aside0.mk (Kd.V_mono (Kd.V_told (Kd.V_told (Kd.V_old (zV HO_491002.out) hb) (Kd.R_base ho0)) (Kd.R_base ho1)) (fun _ h_ => h_.1)); have n2_ := Aside0.mk (Kd.R_lower (Kd.R_newM (M := fun k_ => (w.heap.size ≤ k_)) ho0 (below_size (zL HB.out)) (fun k_ h_ => h_)) (below_size (zL HB.out))); have n3_ := Aside0.mk (Kd.R_lower (Kd.R_newM (M := fun k_ => (w.heap.size ≤ k_)) ho1 (below_size (zL HB.out)) (fun k_ h_ => h_)) (below_size (zL HB.out))); have n4_ := Aside0.mk (blk_below (g := gb490) (o := .cells #[.int .i64 a0_0, .slice A0_1 l0_1.length c0_1, .slice A0_2 l0_2.length c0_2] 27 (0, 0)) (zK BK490.out) hb); have n5_ := Aside0.mk (blk_below (g := gb491) (o := .cells #[.int .i64 a1_0, .int .i64 a1_1, .int .i64 a1_2, .int .i64 a1_3, .int .i64 a1_4, .string a1_5, .bool a1_6] 52 (0, 0)) (zK BK491.out) hb); have n6_ := Aside0.mk (blk_below (g := gb492) (o := .cells #[.int .i64 0, .slice none 0 0, .slice none 0 0] 27 (0, 0)) (zK BK492.out) hb); have n7_ := Aside0.mk (blk_below (g := gb493) (o := .cells #[.int .i64 0, .slice none 0 0, .slice none 0 0] 27 (0, 0)) (zK BK493.out) hb); have n8_ := Aside0.mk (below_step (zL HB.out) hb); revert n0_ n1_ n2_ n3_ n4_ n5_ n6_ n7_ n8_; clear HO_491001 HO_491002 BK490 BK491 BK492 BK493 HB; intro HO_491001 HO_491002 HO498 HO501 BK490 BK491 BK492 BK493 HB; (try clear hb); (try clear hb2); (try clear hk); (try clear hi); (try clear ho0); (try clear ho1); have hnb26 := NB493_492.out; have hnc26 := NB492_493.out; obtain ⟨hcz27_0, hcz27_1, hcz27_2, hfz27_0, hfz27_1, hfz27_2⟩ := zC3 BK493.out; obtain ⟨Ao28, co28, eo28⟩ := Kd.R_slice HO498.out; subst eo28; obtain ⟨Ao29, co29, eo29⟩ := Kd.R_slice HO501.out; subst eo29))
     go_meet
     case rel => exact ⟨_, (t502), (0), (t495), (t496), (t499), (.slice Ao28 t496.length co28), (.slice Ao29 t499.length co29), zS, zS, H', ⟨by have := HJ13.out; first | omega | exact Nat.le_refl _⟩, ⟨by (with_reducible repeat (first | apply Kd.V_alloc | apply Kd.V_drewN | apply Kd.V_drew)); exact Kd.V_mono (zNV HO_491001.out (g := gb493) (fun _ hk => hk.1.1.2.2.2.2)) (fun _ hk => ⟨hk.1.1.1.1, ⟨hk.1.1.1.2.1, ⟨hk.1.1.1.2.2.1, ⟨hk.1.1.1.2.2.2.1, hk.1.1.1.2.2.2.2⟩⟩⟩⟩)⟩, ⟨by (with_reducible repeat (first | apply Kd.V_alloc | apply Kd.V_drewN | apply Kd.V_drew)); exact Kd.V_mono (zNV HO_491002.out (g := gb493) (fun _ hk => hk.1.1.2.2.2.2)) (fun _ hk => ⟨hk.1.1.1.1, ⟨hk.1.1.1.2.1, ⟨hk.1.1.1.2.2.1, ⟨hk.1.1.1.2.2.2.1, hk.1.1.1.2.2.2.2⟩⟩⟩⟩)⟩, ⟨Kd.V_mono (Kd.R_V (zNT (Kd.R_types (Kd.R_types (Kd.R_types (Kd.R_types HO498.out BK490.out (by decide)) BK491.out (by decide)) BK492.out (by decide)) BK493.out (by decide)) BK493.out)) (fun k_ hk => ⟨.inr (hk.1.1.1.1.1.1), ⟨hk.1.1.1.1.2, ⟨hk.1.1.1.2, ⟨hk.1.1.2, hk.1.2⟩⟩⟩⟩)⟩, ⟨Kd.V_mono (Kd.R_V (zNT (Kd.R_types (Kd.R_types (Kd.R_types (Kd.R_types HO501.out BK490.out (by decide)) BK491.out (by decide)) BK492.out (by decide)) BK493.out (by decide)) BK493.out)) (fun k_ hk => ⟨.inr (hk.1.1.1.1.1.1), ⟨hk.1.1.1.1.2, ⟨hk.1.1.1.2, ⟨hk.1.1.2, hk.1.2⟩⟩⟩⟩)⟩, ⟨zK BK490.out⟩, ⟨zK BK491.out⟩, ⟨zK BK492.out⟩, ⟨zP3 BK493.out⟩, ⟨zL HB.out⟩⟩
    ·replace c16 := Bool.eq_false_iff.mpr c16
     subst c16
     have H1 : (if t494 = 7 then ((lease_Renew.f kj13 a0_0 l0_1 l0_2 a1_1 a1_5 a1_3 a1_2 a2).bind fun bt503 => (cooperagelaw16_does.j1 kj13 bt503.2.2.2 0 a0_0 l0_1 l0_2 bt503.1 bt503.2.1 bt503.2.2.1)) else (if t494 = 8 then ((lease_Leave.f kj13 a0_0 l0_1 l0_2 a1_1 a2).bind fun bt511 => (cooperagelaw16_does.j1 kj13 0 0 a0_0 l0_1 l0_2 bt511.1 bt511.2.1 bt511.2.2)) else (if t494 = 9 then ((lease_Tick.f kj13 a0_0 l0_1 l0_2 a2).bind fun bt518 => (cooperagelaw16_does.j1 kj13 0 0 a0_0 l0_1 l0_2 bt518.1 bt518.2.1 bt518.2.2)) else ((lease_Take.f kj13 a0_0 l0_1 l0_2 a1_1 a1_5 a1_6 a1_2 a2).bind fun bt525 => (cooperagelaw16_does.j1 kj13 bt525.2.2.2.2 bt525.2.2.2.1 a0_0 l0_1 l0_2 bt525.1 bt525.2.1 bt525.2.2.1))))) = some (r1, r2, r3, r4, r5) := by rw [if_neg (show ¬ (false = true) by decide)] at H; exact H
     clear H
     have H := H1
     clear H1
     by_cases c30 : t494 = 7
     ·rw [if_pos c30] at H
      have c30b0 : (t494 == 7) = true := beq_iff_eq.mpr c30
      have c30b1 : (t494 != 7) = false := bne_eq_false_iff_eq.mpr c30
      clear c30
      replace H := Option.bind_eq_some_iff.mp H
      obtain ⟨⟨t503, t504, t507, t510⟩, A310, H⟩ := H
      replace H : (cooperagelaw16_does.j1 kj13 t510 0 a0_0 l0_1 l0_2 t503 t504 t507) = some (r1, r2, r3, r4, r5) := H
      have A31 := Aside0.mk A310
      clear A310
      have H' := Aside0.mk H
      clear H
      have hnb32 := NB490_491.out
      have hnc32 := NB491_490.out
      have hnb33 := NB490_492.out
      have hnc33 := NB492_490.out
      have hnb34 := NB490_493.out
      have hnc34 := NB493_490.out
      obtain ⟨hcz35_0, hcz35_1, hcz35_2, hfz35_0, hfz35_1, hfz35_2⟩ := zC3 BK490.out
      have hnb36 := NB491_492.out
      have hnc36 := NB492_491.out
      have hnb37 := NB491_493.out
      have hnc37 := NB493_491.out
      obtain ⟨hcz38_0, hcz38_1, hcz38_2, hcz38_3, hcz38_4, hcz38_5, hcz38_6, hfz38_0, hfz38_1, hfz38_2, hfz38_3, hfz38_4, hfz38_5, hfz38_6⟩ := zC7 BK491.out
      go_wp2_with (first | ((with_reducible refine gate_callee (f := 25) rfl ?_); refine goesL_ (some 59) rfl rfl Tryd.func25 (by kernel_rfl) rfl #[.agg #[.int .i64 a0_0, .slice A0_1 l0_1.length c0_1, .slice A0_2 l0_2.length c0_2], .int .i64 a1_1, .string a1_5, .int .i64 a1_3, .int .i64 a1_2, .int .i64 a2] rfl zA ?_; (with_reducible refine (lease_Renew.calls kj13 a0_0 _ _ l0_1 (fun k_ => (((P0_1_ k_ ∨ P0_2_ k_) ∨ w.heap.size ≤ k_) ∧ (k_ ≠ gb490 ∧ (k_ ≠ gb491 ∧ (k_ ≠ gb492 ∧ k_ ≠ gb493))))) _ _ l0_2 a1_1 a1_5 a1_3 a1_2 a2 t503 t504 t507 t510 _ ?side1 ?side2 ?side3 A31.out).mono ?_); (case side1 => repeat (first | exact (Kd.V_reads' HO_491001.out).2.2 | (with_reducible refine Kd.C_alloc ?_ _) | (with_reducible refine Kd.C_drewN ?_ _) | (with_reducible refine Kd.C_drew ?_))); (case side2 => exact (Kd.V_reads' HO_491001.out).2.1); (case side3 => exact HO_491002.out); rintro e w39 ⟨v505, v508, rfl, ho0, ho1, hb⟩; refine ⟨_, rfl, ?_⟩; have n0_ := Aside0.mk (Kd.V_elder' (zV HO_491001.out) (Kd.R_base ho0) hb); have n1_ := Aside0.mk (Kd.V_elder' (zV HO_491002.out) (Kd.R_base ho0) hb); have n2_ := Aside0.mk (Kd.R_lower (Kd.R_newM (M := fun k_ => (w.heap.size ≤ k_)) (Kd.R_mono (ok' := fun k_ => True) ho0 (fun _ hk_ => trivial)) (below_size (zL HB.out)) (fun k_ h_ => h_)) (below_size (zL HB.out))); have n3_ := Aside0.mk (Kd.V_lower (Kd.V_mono (ok' := fun k_ => ((P0_1_ k_ ∨ P0_2_ k_) ∨ w.heap.size ≤ k_) ∧ some k_ ≠ (v505 : Value).ownBlock ∧ k_ ≠ gb490 ∧ k_ ≠ gb491 ∧ k_ ≠ gb492 ∧ k_ ≠ gb493) ho1 (fun k_ hk_ => ⟨Or.elim hk_.1 (fun hs_ => hs_.1) (fun hn_ => (.inr (Nat.le_trans (below_size (zL HB.out)) hn_))), hk_.2, Or.elim hk_.1 (fun hs_ => hs_.2.1) (fun hn_ => (Kd.freshB (g := gb490) (o := .cells #[.int .i64 a0_0, .slice A0_1 l0_1.length c0_1, .slice A0_2 l0_2.length c0_2] 27 (0, 0)) (zK BK490.out) k_ hn_)), Or.elim hk_.1 (fun hs_ => hs_.2.2.1) (fun hn_ => (Kd.freshB (g := gb491) (o := .cells #[.int .i64 a1_0, .int .i64 a1_1, .int .i64 a1_2, .int .i64 a1_3, .int .i64 a1_4, .string a1_5, .bool a1_6] 52 (0, 0)) (zK BK491.out) k_ hn_)), Or.elim hk_.1 (fun hs_ => hs_.2.2.2.1) (fun hn_ => (Kd.freshB (g := gb492) (o := .cells #[.int .i64 0, .slice none 0 0, .slice none 0 0] 27 (0, 0)) (zK BK492.out) k_ hn_)), Or.elim hk_.1 (fun hs_ => hs_.2.2.2.2) (fun hn_ => (Kd.freshB (g := gb493) (o := .cells #[.int .i64 0, .slice none 0 0, .slice none 0 0] 27 (0, 0)) (zK BK493.out) k_ hn_))⟩)) (below_size (zL HB.out))); have n4_ := Aside0.mk (blk_below (g := gb490) (o := .cells #[.int .i64 a0_0, .slice A0_1 l0_1.length c0_1, .slice A0_2 l0_2.length c0_2] 27 (0, 0)) (zK BK490.out) hb); have n5_ := Aside0.mk (blk_below (g := gb491) (o := .cells #[.int .i64 a1_0, .int .i64 a1_1, .int .i64 a1_2, .int .i64 a1_3, .int .i64 a1_4, .string a1_5, .bool a1_6] 52 (0, 0)) (zK BK491.out) hb); have n6_ := Aside0.mk (blk_below (g := gb492) (o := .cells #[.int .i64 0, .slice none 0 0, .slice none 0 0] 27 (0, 0)) (zK BK492.out) hb); have n7_ := Aside0.mk (blk_below (g := gb493) (o := .cells #[.int .i64 0, .slice none 0 0, .slice none 0 0] 27 (0, 0)) (zK BK493.out) hb); have n8_ := Aside0.mk (below_step (zL HB.out) hb); revert n0_ n1_ n2_ n3_ n4_ n5_ n6_ n7_ n8_; clear HO_491001 HO_491002 BK490 BK491 BK492 BK493 HB; intro HO_491001 HO_491002 HO506 HO509 BK490 BK491 BK492 BK493 HB; (try clear hb); (try clear hb2); (try clear hk); (try clear hi); (try clear ho0); (try clear ho1); have hnb40 := NB493_492.out; have hnc40 := NB492_493.out; obtain ⟨hcz41_0, hcz41_1, hcz41_2, hfz41_0, hfz41_1, hfz41_2⟩ := zC3 BK493.out; obtain ⟨Ao42, co42, eo42⟩ := Kd.R_slice HO506.out; subst eo42; obtain ⟨Ao43, co43, eo43⟩ := Kd.V_slice HO509.out; subst eo43))
      go_meet
      case rel => exact ⟨_, (t510), (0), (t503), (t504), (t507), (.slice Ao42 t504.length co42), (.slice Ao43 t507.length co43), zS, zS, H', ⟨by have := HJ13.out; first | omega | exact Nat.le_refl _⟩, ⟨by (with_reducible repeat (first | apply Kd.V_alloc | apply Kd.V_drewN | apply Kd.V_drew)); exact Kd.V_mono (zNV HO_491001.out (g := gb493) (fun _ hk => hk.1.2.2.2.2)) (fun _ hk => ⟨hk.1.1.1, ⟨hk.1.1.2.1, ⟨hk.1.1.2.2.1, ⟨hk.1.1.2.2.2.1, hk.1.1.2.2.2.2⟩⟩⟩⟩)⟩, ⟨by (with_reducible repeat (first | apply Kd.V_alloc | apply Kd.V_drewN | apply Kd.V_drew)); exact Kd.V_mono (zNV HO_491002.out (g := gb493) (fun _ hk => hk.1.2.2.2.2)) (fun _ hk => ⟨hk.1.1.1, ⟨hk.1.1.2.1, ⟨hk.1.1.2.2.1, ⟨hk.1.1.2.2.2.1, hk.1.1.2.2.2.2⟩⟩⟩⟩)⟩, ⟨Kd.V_mono (Kd.R_V (zNT (Kd.R_types (Kd.R_types (Kd.R_types (Kd.R_types HO506.out BK490.out (by decide)) BK491.out (by decide)) BK492.out (by decide)) BK493.out (by decide)) BK493.out)) (fun k_ hk => ⟨.inr (hk.1.1.1.1.1.1), ⟨hk.1.1.1.1.2, ⟨hk.1.1.1.2, ⟨hk.1.1.2, hk.1.2⟩⟩⟩⟩)⟩, ⟨by (with_reducible repeat (first | apply Kd.V_alloc | apply Kd.V_drewN | apply Kd.V_drew)); exact Kd.V_mono (zNV HO509.out (g := gb493) (fun _ hk => hk.2.2.2.2.2)) (fun _ hk => ⟨hk.1.1, ⟨hk.1.2.2.1, ⟨hk.1.2.2.2.1, ⟨hk.1.2.2.2.2.1, hk.1.2.2.2.2.2⟩⟩⟩⟩)⟩, ⟨zK BK490.out⟩, ⟨zK BK491.out⟩, ⟨zK BK492.out⟩, ⟨zP3 BK493.out⟩, ⟨zL HB.out⟩⟩
     ·rw [if_neg c30] at H
      have c30b0 : (t494 == 7) = false := beq_eq_false_iff_ne.mpr c30
      have c30b1 : (t494 != 7) = true := bne_iff_ne.mpr c30
      by_cases c44 : t494 = 8
      ·rw [if_pos c44] at H
       have c44b0 : (t494 == 8) = true := beq_iff_eq.mpr c44
       have c44b1 : (t494 != 8) = false := bne_eq_false_iff_eq.mpr c44
       clear c44
       replace H := Option.bind_eq_some_iff.mp H
       obtain ⟨⟨t511, t512, t515⟩, A450, H⟩ := H
       replace H : (cooperagelaw16_does.j1 kj13 0 0 a0_0 l0_1 l0_2 t511 t512 t515) = some (r1, r2, r3, r4, r5) := H
       have A45 := Aside0.mk A450
       clear A450
       have H' := Aside0.mk H
       clear H
       have hnb46 := NB490_491.out
       have hnc46 := NB491_490.out
       have hnb47 := NB490_492.out
       have hnc47 := NB492_490.out
       have hnb48 := NB490_493.out
       have hnc48 := NB493_490.out
       obtain ⟨hcz49_0, hcz49_1, hcz49_2, hfz49_0, hfz49_1, hfz49_2⟩ := zC3 BK490.out
       have hnb50 := NB491_492.out
       have hnc50 := NB492_491.out
       have hnb51 := NB491_493.out
       have hnc51 := NB493_491.out
       obtain ⟨hcz52_0, hcz52_1, hcz52_2, hcz52_3, hcz52_4, hcz52_5, hcz52_6, hfz52_0, hfz52_1, hfz52_2, hfz52_3, hfz52_4, hfz52_5, hfz52_6⟩ := zC7 BK491.out
       go_wp2_with (first | ((with_reducible refine gate_callee (f := 15) rfl ?_); refine goesL_ (some 68) rfl rfl Tryd.func15 (by kernel_rfl) rfl #[.agg #[.int .i64 a0_0, .slice A0_1 l0_1.length c0_1, .slice A0_2 l0_2.length c0_2], .int .i64 a1_1, .int .i64 a2] rfl zA ?_; (with_reducible refine (lease_Leave.calls kj13 a0_0 (fun k_ => (((P0_1_ k_ ∨ P0_2_ k_) ∨ w.heap.size ≤ k_) ∧ (k_ ≠ gb490 ∧ (k_ ≠ gb491 ∧ (k_ ≠ gb492 ∧ k_ ≠ gb493))))) _ _ l0_1 (fun k_ => (((P0_1_ k_ ∨ P0_2_ k_) ∨ w.heap.size ≤ k_) ∧ (k_ ≠ gb490 ∧ (k_ ≠ gb491 ∧ (k_ ≠ gb492 ∧ k_ ≠ gb493))))) _ _ l0_2 a1_1 a2 t511 t512 t515 _ ?side1 ?side2 A45.out).mono ?_); (case side1 => exact HO_491001.out); (case side2 => exact HO_491002.out); rintro e w53 ⟨v513, v516, rfl, ho0, ho1, hb⟩; refine ⟨_, rfl, ?_⟩; have n0_ := Aside0.mk (Kd.V_below (zV HO_491001.out) hb); have n1_ := Aside0.mk (Kd.V_below (zV HO_491002.out) hb); have n2_ := Aside0.mk (Kd.V_lower (Kd.V_mono (ok' := fun k_ => ((P0_1_ k_ ∨ P0_2_ k_) ∨ w.heap.size ≤ k_) ∧ k_ ≠ gb490 ∧ k_ ≠ gb491 ∧ k_ ≠ gb492 ∧ k_ ≠ gb493) ho0 (fun k_ hk_ => ⟨Or.elim hk_ (fun hs_ => Or.elim hs_ (fun hs_ => hs_.1) (fun hs_ => hs_.1)) (fun hn_ => (.inr (Nat.le_trans (below_size (zL HB.out)) hn_))), Or.elim hk_ (fun hs_ => Or.elim hs_ (fun hs_ => hs_.2.1) (fun hs_ => hs_.2.1)) (fun hn_ => (Kd.freshB (g := gb490) (o := .cells #[.int .i64 a0_0, .slice A0_1 l0_1.length c0_1, .slice A0_2 l0_2.length c0_2] 27 (0, 0)) (zK BK490.out) k_ hn_)), Or.elim hk_ (fun hs_ => Or.elim hs_ (fun hs_ => hs_.2.2.1) (fun hs_ => hs_.2.2.1)) (fun hn_ => (Kd.freshB (g := gb491) (o := .cells #[.int .i64 a1_0, .int .i64 a1_1, .int .i64 a1_2, .int .i64 a1_3, .int .i64 a1_4, .string a1_5, .bool a1_6] 52 (0, 0)) (zK BK491.out) k_ hn_)), Or.elim hk_ (fun hs_ => Or.elim hs_ (fun hs_ => hs_.2.2.2.1) (fun hs_ => hs_.2.2.2.1)) (fun hn_ => (Kd.freshB (g := gb492) (o := .cells #[.int .i64 0, .slice none 0 0, .slice none 0 0] 27 (0, 0)) (zK BK492.out) k_ hn_)), Or.elim hk_ (fun hs_ => Or.elim hs_ (fun hs_ => hs_.2.2.2.2) (fun hs_ => hs_.2.2.2.2)) (fun hn_ => (Kd.freshB (g := gb493) (o := .cells #[.int .i64 0, .slice none 0 0, .slice none 0 0] 27 (0, 0)) (zK BK493.out) k_ hn_))⟩)) (below_size (zL HB.out))); have n3_ := Aside0.mk (Kd.V_lower (Kd.V_mono (ok' := fun k_ => ((P0_1_ k_ ∨ P0_2_ k_) ∨ w.heap.size ≤ k_) ∧ k_ ≠ gb490 ∧ k_ ≠ gb491 ∧ k_ ≠ gb492 ∧ k_ ≠ gb493) ho1 (fun k_ hk_ => ⟨Or.elim hk_ (fun hs_ => Or.elim hs_ (fun hs_ => hs_.1) (fun hs_ => hs_.1)) (fun hn_ => (.inr (Nat.le_trans (below_size (zL HB.out)) hn_))), Or.elim hk_ (fun hs_ => Or.elim hs_ (fun hs_ => hs_.2.1) (fun hs_ => hs_.2.1)) (fun hn_ => (Kd.freshB (g := gb490) (o := .cells #[.int .i64 a0_0, .slice A0_1 l0_1.length c0_1, .slice A0_2 l0_2.length c0_2] 27 (0, 0)) (zK BK490.out) k_ hn_)), Or.elim hk_ (fun hs_ => Or.elim hs_ (fun hs_ => hs_.2.2.1) (fun hs_ => hs_.2.2.1)) (fun hn_ => (Kd.freshB (g := gb491) (o := .cells #[.int .i64 a1_0, .int .i64 a1_1, .int .i64 a1_2, .int .i64 a1_3, .int .i64 a1_4, .string a1_5, .bool a1_6] 52 (0, 0)) (zK BK491.out) k_ hn_)), Or.elim hk_ (fun hs_ => Or.elim hs_ (fun hs_ => hs_.2.2.2.1) (fun hs_ => hs_.2.2.2.1)) (fun hn_ => (Kd.freshB (g := gb492) (o := .cells #[.int .i64 0, .slice none 0 0, .slice none 0 0] 27 (0, 0)) (zK BK492.out) k_ hn_)), Or.elim hk_ (fun hs_ => Or.elim hs_ (fun hs_ => hs_.2.2.2.2) (fun hs_ => hs_.2.2.2.2)) (fun hn_ => (Kd.freshB (g := gb493) (o := .cells #[.int .i64 0, .slice none 0 0, .slice none 0 0] 27 (0, 0)) (zK BK493.out) k_ hn_))⟩)) (below_size (zL HB.out))); have n4_ := Aside0.mk (blk_below (g := gb490) (o := .cells #[.int .i64 a0_0, .slice A0_1 l0_1.length c0_1, .slice A0_2 l0_2.length c0_2] 27 (0, 0)) (zK BK490.out) hb); have n5_ := Aside0.mk (blk_below (g := gb491) (o := .cells #[.int .i64 a1_0, .int .i64 a1_1, .int .i64 a1_2, .int .i64 a1_3, .int .i64 a1_4, .string a1_5, .bool a1_6] 52 (0, 0)) (zK BK491.out) hb); have n6_ := Aside0.mk (blk_below (g := gb492) (o := .cells #[.int .i64 0, .slice none 0 0, .slice none 0 0] 27 (0, 0)) (zK BK492.out) hb); have n7_ := Aside0.mk (blk_below (g := gb493) (o := .cells #[.int .i64 0, .slice none 0 0, .slice none 0 0] 27 (0, 0)) (zK BK493.out) hb); have n8_ := Aside0.mk (below_step (zL HB.out) hb); revert n0_ n1_ n2_ n3_ n4_ n5_ n6_ n7_ n8_; clear HO_491001 HO_491002 BK490 BK491 BK492 BK493 HB; intro HO_491001 HO_491002 HO514 HO517 BK490 BK491 BK492 BK493 HB; (try clear hb); (try clear hb2); (try clear hk); (try clear hi); (try clear ho0); (try clear ho1); have hnb54 := NB493_492.out; have hnc54 := NB492_493.out; obtain ⟨hcz55_0, hcz55_1, hcz55_2, hfz55_0, hfz55_1, hfz55_2⟩ := zC3 BK493.out; obtain ⟨Ao56, co56, eo56⟩ := Kd.V_slice HO514.out; subst eo56; obtain ⟨Ao57, co57, eo57⟩ := Kd.V_slice HO517.out; subst eo57))
       go_meet
       case rel => exact ⟨_, (0), (0), (t511), (t512), (t515), (.slice Ao56 t512.length co56), (.slice Ao57 t515.length co57), zS, zS, H', ⟨by have := HJ13.out; first | omega | exact Nat.le_refl _⟩, ⟨by (with_reducible repeat (first | apply Kd.V_alloc | apply Kd.V_drewN | apply Kd.V_drew)); exact Kd.V_mono (zNV HO_491001.out (g := gb493) (fun _ hk => hk.2.2.2.2)) (fun _ hk => ⟨hk.1.1, ⟨hk.1.2.1, ⟨hk.1.2.2.1, ⟨hk.1.2.2.2.1, hk.1.2.2.2.2⟩⟩⟩⟩)⟩, ⟨by (with_reducible repeat (first | apply Kd.V_alloc | apply Kd.V_drewN | apply Kd.V_drew)); exact Kd.V_mono (zNV HO_491002.out (g := gb493) (fun _ hk => hk.2.2.2.2)) (fun _ hk => ⟨hk.1.1, ⟨hk.1.2.1, ⟨hk.1.2.2.1, ⟨hk.1.2.2.2.1, hk.1.2.2.2.2⟩⟩⟩⟩)⟩, ⟨by (with_reducible repeat (first | apply Kd.V_alloc | apply Kd.V_drewN | apply Kd.V_drew)); exact Kd.V_mono (zNV HO514.out (g := gb493) (fun _ hk => hk.2.2.2.2)) (fun _ hk => ⟨hk.1.1, ⟨hk.1.2.1, ⟨hk.1.2.2.1, ⟨hk.1.2.2.2.1, hk.1.2.2.2.2⟩⟩⟩⟩)⟩, ⟨by (with_reducible repeat (first | apply Kd.V_alloc | apply Kd.V_drewN | apply Kd.V_drew)); exact Kd.V_mono (zNV HO517.out (g := gb493) (fun _ hk => hk.2.2.2.2)) (fun _ hk => ⟨hk.1.1, ⟨hk.1.2.1, ⟨hk.1.2.2.1, ⟨hk.1.2.2.2.1, hk.1.2.2.2.2⟩⟩⟩⟩)⟩, ⟨zK BK490.out⟩, ⟨zK BK491.out⟩, ⟨zK BK492.out⟩, ⟨zP3 BK493.out⟩, ⟨zL HB.out⟩⟩
      ·rw [if_neg c44] at H
       have c44b0 : (t494 == 8) = false := beq_eq_false_iff_ne.mpr c44
       have c44b1 : (t494 != 8) = true := bne_iff_ne.mpr c44
       by_cases c58 : t494 = 9
       ·rw [if_pos c58] at H
        have c58b0 : (t494 == 9) = true := beq_iff_eq.mpr c58
        have c58b1 : (t494 != 9) = false := bne_eq_false_iff_eq.mpr c58
        clear c58
        replace H := Option.bind_eq_some_iff.mp H
        obtain ⟨⟨t518, t519, t522⟩, A590, H⟩ := H
        replace H : (cooperagelaw16_does.j1 kj13 0 0 a0_0 l0_1 l0_2 t518 t519 t522) = some (r1, r2, r3, r4, r5) := H
        have A59 := Aside0.mk A590
        clear A590
        have H' := Aside0.mk H
        clear H
        have hnb60 := NB490_491.out
        have hnc60 := NB491_490.out
        have hnb61 := NB490_492.out
        have hnc61 := NB492_490.out
        have hnb62 := NB490_493.out
        have hnc62 := NB493_490.out
        obtain ⟨hcz63_0, hcz63_1, hcz63_2, hfz63_0, hfz63_1, hfz63_2⟩ := zC3 BK490.out
        go_wp2_with (first | ((with_reducible refine gate_callee (f := 11) rfl ?_); refine goesL_ (some 73) rfl rfl Tryd.func11 (by kernel_rfl) rfl #[.agg #[.int .i64 a0_0, .slice A0_1 l0_1.length c0_1, .slice A0_2 l0_2.length c0_2], .int .i64 a2] rfl zA ?_; (with_reducible refine (lease_Tick.calls kj13 a0_0 (fun k_ => (((P0_1_ k_ ∨ P0_2_ k_) ∨ w.heap.size ≤ k_) ∧ (k_ ≠ gb490 ∧ (k_ ≠ gb491 ∧ (k_ ≠ gb492 ∧ k_ ≠ gb493))))) _ _ l0_1 (fun k_ => (((P0_1_ k_ ∨ P0_2_ k_) ∨ w.heap.size ≤ k_) ∧ (k_ ≠ gb490 ∧ (k_ ≠ gb491 ∧ (k_ ≠ gb492 ∧ k_ ≠ gb493))))) _ _ l0_2 a2 t518 t519 t522 _ ?side1 ?side2 A59.out).mono ?_); (case side1 => exact HO_491001.out); (case side2 => exact HO_491002.out); rintro e w64 ⟨v520, v523, rfl, ho0, ho1, hb⟩; refine ⟨_, rfl, ?_⟩; have n0_ := Aside0.mk (Kd.V_below (zV HO_491001.out) hb); have n1_ := Aside0.mk (Kd.V_below (zV HO_491002.out) hb); have n2_ := Aside0.mk (Kd.V_lower (Kd.V_mono (ok' := fun k_ => ((P0_1_ k_ ∨ P0_2_ k_) ∨ w.heap.size ≤ k_) ∧ k_ ≠ gb490 ∧ k_ ≠ gb491 ∧ k_ ≠ gb492 ∧ k_ ≠ gb493) ho0 (fun k_ hk_ => ⟨Or.elim hk_ (fun hs_ => Or.elim hs_ (fun hs_ => hs_.1) (fun hs_ => hs_.1)) (fun hn_ => (.inr (Nat.le_trans (below_size (zL HB.out)) hn_))), Or.elim hk_ (fun hs_ => Or.elim hs_ (fun hs_ => hs_.2.1) (fun hs_ => hs_.2.1)) (fun hn_ => (Kd.freshB (g := gb490) (o := .cells #[.int .i64 a0_0, .slice A0_1 l0_1.length c0_1, .slice A0_2 l0_2.length c0_2] 27 (0, 0)) (zK BK490.out) k_ hn_)), Or.elim hk_ (fun hs_ => Or.elim hs_ (fun hs_ => hs_.2.2.1) (fun hs_ => hs_.2.2.1)) (fun hn_ => (Kd.freshB (g := gb491) (o := .cells #[.int .i64 a1_0, .int .i64 a1_1, .int .i64 a1_2, .int .i64 a1_3, .int .i64 a1_4, .string a1_5, .bool a1_6] 52 (0, 0)) (zK BK491.out) k_ hn_)), Or.elim hk_ (fun hs_ => Or.elim hs_ (fun hs_ => hs_.2.2.2.1) (fun hs_ => hs_.2.2.2.1)) (fun hn_ => (Kd.freshB (g := gb492) (o := .cells #[.int .i64 0, .slice none 0 0, .slice none 0 0] 27 (0, 0)) (zK BK492.out) k_ hn_)), Or.elim hk_ (fun hs_ => Or.elim hs_ (fun hs_ => hs_.2.2.2.2) (fun hs_ => hs_.2.2.2.2)) (fun hn_ => (Kd.freshB (g := gb493) (o := .cells #[.int .i64 0, .slice none 0 0, .slice none 0 0] 27 (0, 0)) (zK BK493.out) k_ hn_))⟩)) (below_size (zL HB.out))); have n3_ := Aside0.mk (Kd.V_lower (Kd.V_mono (ok' := fun k_ => ((P0_1_ k_ ∨ P0_2_ k_) ∨ w.heap.size ≤ k_) ∧ k_ ≠ gb490 ∧ k_ ≠ gb491 ∧ k_ ≠ gb492 ∧ k_ ≠ gb493) ho1 (fun k_ hk_ => ⟨Or.elim hk_ (fun hs_ => Or.elim hs_ (fun hs_ => hs_.1) (fun hs_ => hs_.1)) (fun hn_ => (.inr (Nat.le_trans (below_size (zL HB.out)) hn_))), Or.elim hk_ (fun hs_ => Or.elim hs_ (fun hs_ => hs_.2.1) (fun hs_ => hs_.2.1)) (fun hn_ => (Kd.freshB (g := gb490) (o := .cells #[.int .i64 a0_0, .slice A0_1 l0_1.length c0_1, .slice A0_2 l0_2.length c0_2] 27 (0, 0)) (zK BK490.out) k_ hn_)), Or.elim hk_ (fun hs_ => Or.elim hs_ (fun hs_ => hs_.2.2.1) (fun hs_ => hs_.2.2.1)) (fun hn_ => (Kd.freshB (g := gb491) (o := .cells #[.int .i64 a1_0, .int .i64 a1_1, .int .i64 a1_2, .int .i64 a1_3, .int .i64 a1_4, .string a1_5, .bool a1_6] 52 (0, 0)) (zK BK491.out) k_ hn_)), Or.elim hk_ (fun hs_ => Or.elim hs_ (fun hs_ => hs_.2.2.2.1) (fun hs_ => hs_.2.2.2.1)) (fun hn_ => (Kd.freshB (g := gb492) (o := .cells #[.int .i64 0, .slice none 0 0, .slice none 0 0] 27 (0, 0)) (zK BK492.out) k_ hn_)), Or.elim hk_ (fun hs_ => Or.elim hs_ (fun hs_ => hs_.2.2.2.2) (fun hs_ => hs_.2.2.2.2)) (fun hn_ => (Kd.freshB (g := gb493) (o := .cells #[.int .i64 0, .slice none 0 0, .slice none 0 0] 27 (0, 0)) (zK BK493.out) k_ hn_))⟩)) (below_size (zL HB.out))); have n4_ := Aside0.mk (blk_below (g := gb490) (o := .cells #[.int .i64 a0_0, .slice A0_1 l0_1.length c0_1, .slice A0_2 l0_2.length c0_2] 27 (0, 0)) (zK BK490.out) hb); have n5_ := Aside0.mk (blk_below (g := gb491) (o := .cells #[.int .i64 a1_0, .int .i64 a1_1, .int .i64 a1_2, .int .i64 a1_3, .int .i64 a1_4, .string a1_5, .bool a1_6] 52 (0, 0)) (zK BK491.out) hb); have n6_ := Aside0.mk (blk_below (g := gb492) (o := .cells #[.int .i64 0, .slice none 0 0, .slice none 0 0] 27 (0, 0)) (zK BK492.out) hb); have n7_ := Aside0.mk (blk_below (g := gb493) (o := .cells #[.int .i64 0, .slice none 0 0, .slice none 0 0] 27 (0, 0)) (zK BK493.out) hb); have n8_ := Aside0.mk (below_step (zL HB.out) hb); revert n0_ n1_ n2_ n3_ n4_ n5_ n6_ n7_ n8_; clear HO_491001 HO_491002 BK490 BK491 BK492 BK493 HB; intro HO_491001 HO_491002 HO521 HO524 BK490 BK491 BK492 BK493 HB; (try clear hb); (try clear hb2); (try clear hk); (try clear hi); (try clear ho0); (try clear ho1); have hnb65 := NB493_491.out; have hnc65 := NB491_493.out; have hnb66 := NB493_492.out; have hnc66 := NB492_493.out; obtain ⟨hcz67_0, hcz67_1, hcz67_2, hfz67_0, hfz67_1, hfz67_2⟩ := zC3 BK493.out; obtain ⟨Ao68, co68, eo68⟩ := Kd.V_slice HO521.out; subst eo68; obtain ⟨Ao69, co69, eo69⟩ := Kd.V_slice HO524.out; subst eo69))
        go_meet
        case rel => exact ⟨_, (0), (0), (t518), (t519), (t522), (.slice Ao68 t519.length co68), (.slice Ao69 t522.length co69), zS, zS, H', ⟨by have := HJ13.out; first | omega | exact Nat.le_refl _⟩, ⟨by (with_reducible repeat (first | apply Kd.V_alloc | apply Kd.V_drewN | apply Kd.V_drew)); exact Kd.V_mono (zNV HO_491001.out (g := gb493) (fun _ hk => hk.2.2.2.2)) (fun _ hk => ⟨hk.1.1, ⟨hk.1.2.1, ⟨hk.1.2.2.1, ⟨hk.1.2.2.2.1, hk.1.2.2.2.2⟩⟩⟩⟩)⟩, ⟨by (with_reducible repeat (first | apply Kd.V_alloc | apply Kd.V_drewN | apply Kd.V_drew)); exact Kd.V_mono (zNV HO_491002.out (g := gb493) (fun _ hk => hk.2.2.2.2)) (fun _ hk => ⟨hk.1.1, ⟨hk.1.2.1, ⟨hk.1.2.2.1, ⟨hk.1.2.2.2.1, hk.1.2.2.2.2⟩⟩⟩⟩)⟩, ⟨by (with_reducible repeat (first | apply Kd.V_alloc | apply Kd.V_drewN | apply Kd.V_drew)); exact Kd.V_mono (zNV HO521.out (g := gb493) (fun _ hk => hk.2.2.2.2)) (fun _ hk => ⟨hk.1.1, ⟨hk.1.2.1, ⟨hk.1.2.2.1, ⟨hk.1.2.2.2.1, hk.1.2.2.2.2⟩⟩⟩⟩)⟩, ⟨by (with_reducible repeat (first | apply Kd.V_alloc | apply Kd.V_drewN | apply Kd.V_drew)); exact Kd.V_mono (zNV HO524.out (g := gb493) (fun _ hk => hk.2.2.2.2)) (fun _ hk => ⟨hk.1.1, ⟨hk.1.2.1, ⟨hk.1.2.2.1, ⟨hk.1.2.2.2.1, hk.1.2.2.2.2⟩⟩⟩⟩)⟩, ⟨zK BK490.out⟩, ⟨zK BK491.out⟩, ⟨zK BK492.out⟩, ⟨zP3 BK493.out⟩, ⟨zL HB.out⟩⟩
       ·rw [if_neg c58] at H
        have c58b0 : (t494 == 9) = false := beq_eq_false_iff_ne.mpr c58
        have c58b1 : (t494 != 9) = true := bne_iff_ne.mpr c58
        replace H := Option.bind_eq_some_iff.mp H
        obtain ⟨⟨t525, t526, t529, t532, t533⟩, A700, H⟩ := H
        replace H : (cooperagelaw16_does.j1 kj13 t533 t532 a0_0 l0_1 l0_2 t525 t526 t529) = some (r1, r2, r3, r4, r5) := H
        have A70 := Aside0.mk A700
        clear A700
        have H' := Aside0.mk H
        clear H
        have hnb71 := NB490_491.out
        have hnc71 := NB491_490.out
        have hnb72 := NB490_492.out
        have hnc72 := NB492_490.out
        have hnb73 := NB490_493.out
        have hnc73 := NB493_490.out
        obtain ⟨hcz74_0, hcz74_1, hcz74_2, hfz74_0, hfz74_1, hfz74_2⟩ := zC3 BK490.out
        have hnb75 := NB491_492.out
        have hnc75 := NB492_491.out
        have hnb76 := NB491_493.out
        have hnc76 := NB493_491.out
        obtain ⟨hcz77_0, hcz77_1, hcz77_2, hcz77_3, hcz77_4, hcz77_5, hcz77_6, hfz77_0, hfz77_1, hfz77_2, hfz77_3, hfz77_4, hfz77_5, hfz77_6⟩ := zC7 BK491.out
        go_wp2_with (first | ((with_reducible refine gate_callee (f := 10) rfl ?_); refine goesL_ (some 27) rfl rfl Tryd.func10 (by kernel_rfl) rfl #[.agg #[.int .i64 a0_0, .slice A0_1 l0_1.length c0_1, .slice A0_2 l0_2.length c0_2], .agg #[.int .i64 a1_1, .string a1_5, .bool a1_6, .int .i64 a1_2], .int .i64 a2] rfl zA ?_; (with_reducible refine (lease_Take.calls kj13 a0_0 _ _ l0_1 _ _ l0_2 a1_1 a1_5 a1_6 a1_2 a2 t525 t526 t529 t532 t533 _ ?side1 ?side2 ?side3 ?side4 A70.out).mono ?_); (case side1 => repeat (first | exact (Kd.V_reads' HO_491001.out).2.2 | (with_reducible refine Kd.C_alloc ?_ _) | (with_reducible refine Kd.C_drewN ?_ _) | (with_reducible refine Kd.C_drew ?_))); (case side2 => exact (Kd.V_reads' HO_491001.out).2.1); (case side3 => repeat (first | exact (Kd.V_reads' HO_491002.out).2.2 | (with_reducible refine Kd.C_alloc ?_ _) | (with_reducible refine Kd.C_drewN ?_ _) | (with_reducible refine Kd.C_drew ?_))); (case side4 => exact (Kd.V_reads' HO_491002.out).2.1); rintro e w78 ⟨v527, v530, rfl, ho0, ho1, hb⟩; refine ⟨_, rfl, ?_⟩; have n0_ := Aside0.mk (Kd.V_mono (Kd.V_told (Kd.V_told (Kd.V_old (zV HO_491001.out) hb) (Kd.R_base ho0)) (Kd.R_base ho1)) (fun _ h_ => h_.1)); have n1_ := Aside0.mk (Kd.V_mono (Kd.V_told (Kd.V_told (Kd.V_old (zV HO_491002.out) hb) (Kd.R_base ho0)) (Kd.R_base ho1)) (fun _ h_ => h_.1)); have n2_ := Aside0.mk (Kd.R_lower (Kd.R_newM (M := fun k_ => (w.heap.size ≤ k_)) ho0 (below_size (zL HB.out)) (fun k_ h_ => h_)) (below_size (zL HB.out))); have n3_ := Aside0.mk (Kd.R_lower (Kd.R_newM (M := fun k_ => (w.heap.size ≤ k_)) ho1 (below_size (zL HB.out)) (fun k_ h_ => h_)) (below_size (zL HB.out))); have n4_ := Aside0.mk (blk_below (g := gb490) (o := .cells #[.int .i64 a0_0, .slice A0_1 l0_1.length c0_1, .slice A0_2 l0_2.length c0_2] 27 (0, 0)) (zK BK490.out) hb); have n5_ := Aside0.mk (blk_below (g := gb491) (o := .cells #[.int .i64 a1_0, .int .i64 a1_1, .int .i64 a1_2, .int .i64 a1_3, .int .i64 a1_4, .string a1_5, .bool a1_6] 52 (0, 0)) (zK BK491.out) hb); have n6_ := Aside0.mk (blk_below (g := gb492) (o := .cells #[.int .i64 0, .slice none 0 0, .slice none 0 0] 27 (0, 0)) (zK BK492.out) hb); have n7_ := Aside0.mk (blk_below (g := gb493) (o := .cells #[.int .i64 0, .slice none 0 0, .slice none 0 0] 27 (0, 0)) (zK BK493.out) hb); have n8_ := Aside0.mk (below_step (zL HB.out) hb); revert n0_ n1_ n2_ n3_ n4_ n5_ n6_ n7_ n8_; clear HO_491001 HO_491002 BK490 BK491 BK492 BK493 HB; intro HO_491001 HO_491002 HO528 HO531 BK490 BK491 BK492 BK493 HB; (try clear hb); (try clear hb2); (try clear hk); (try clear hi); (try clear ho0); (try clear ho1); have hnb79 := NB493_492.out; have hnc79 := NB492_493.out; obtain ⟨hcz80_0, hcz80_1, hcz80_2, hfz80_0, hfz80_1, hfz80_2⟩ := zC3 BK493.out; obtain ⟨Ao81, co81, eo81⟩ := Kd.R_slice HO528.out; subst eo81; obtain ⟨Ao82, co82, eo82⟩ := Kd.R_slice HO531.out; subst eo82))
        go_meet
        case rel => exact ⟨_, (t533), (t532), (t525), (t526), (t529), (.slice Ao81 t526.length co81), (.slice Ao82 t529.length co82), zS, zS, H', ⟨by have := HJ13.out; first | omega | exact Nat.le_refl _⟩, ⟨by (with_reducible repeat (first | apply Kd.V_alloc | apply Kd.V_drewN | apply Kd.V_drew)); exact Kd.V_mono (zNV HO_491001.out (g := gb493) (fun _ hk => hk.1.1.2.2.2.2)) (fun _ hk => ⟨hk.1.1.1.1, ⟨hk.1.1.1.2.1, ⟨hk.1.1.1.2.2.1, ⟨hk.1.1.1.2.2.2.1, hk.1.1.1.2.2.2.2⟩⟩⟩⟩)⟩, ⟨by (with_reducible repeat (first | apply Kd.V_alloc | apply Kd.V_drewN | apply Kd.V_drew)); exact Kd.V_mono (zNV HO_491002.out (g := gb493) (fun _ hk => hk.1.1.2.2.2.2)) (fun _ hk => ⟨hk.1.1.1.1, ⟨hk.1.1.1.2.1, ⟨hk.1.1.1.2.2.1, ⟨hk.1.1.1.2.2.2.1, hk.1.1.1.2.2.2.2⟩⟩⟩⟩)⟩, ⟨Kd.V_mono (Kd.R_V (zNT (Kd.R_types (Kd.R_types (Kd.R_types (Kd.R_types HO528.out BK490.out (by decide)) BK491.out (by decide)) BK492.out (by decide)) BK493.out (by decide)) BK493.out)) (fun k_ hk => ⟨.inr (hk.1.1.1.1.1.1), ⟨hk.1.1.1.1.2, ⟨hk.1.1.1.2, ⟨hk.1.1.2, hk.1.2⟩⟩⟩⟩)⟩, ⟨Kd.V_mono (Kd.R_V (zNT (Kd.R_types (Kd.R_types (Kd.R_types (Kd.R_types HO531.out BK490.out (by decide)) BK491.out (by decide)) BK492.out (by decide)) BK493.out (by decide)) BK493.out)) (fun k_ hk => ⟨.inr (hk.1.1.1.1.1.1), ⟨hk.1.1.1.1.2, ⟨hk.1.1.1.2, ⟨hk.1.1.2, hk.1.2⟩⟩⟩⟩)⟩, ⟨zK BK490.out⟩, ⟨zK BK491.out⟩, ⟨zK BK492.out⟩, ⟨zP3 BK493.out⟩, ⟨zL HB.out⟩⟩
 case rest =>
  clear HC5
  try clear c1
  try clear c2
  try clear p2
  try clear c3
  try clear c4
  try clear c5
  try clear c6
  try clear c7
  try clear c10
  try clear c11
  try clear c12
  try clear c13
  try clear c15
  try clear c15b0
  try clear c15b1
  try clear c16
  try clear c17
  try clear c18
  try clear c19
  try clear c20
  try clear c22
  try clear c23
  try clear c25
  try clear c26
  try clear c30
  try clear c30b0
  try clear c30b1
  try clear c32
  try clear c33
  try clear c34
  try clear c36
  try clear c37
  try clear c40
  try clear c44
  try clear c44b0
  try clear c44b1
  try clear c46
  try clear c47
  try clear c48
  try clear c50
  try clear c51
  try clear c54
  try clear c58
  try clear c58b0
  try clear c58b1
  try clear c60
  try clear c61
  try clear c62
  try clear c65
  try clear c66
  try clear c71
  try clear c72
  try clear c73
  try clear c75
  try clear c76
  try clear c79
  try clear hcz13_0
  try clear hcz13_1
  try clear hcz13_2
  try clear hcz13_3
  try clear hcz13_4
  try clear hcz13_5
  try clear hcz13_6
  try clear hcz21_0
  try clear hcz21_1
  try clear hcz21_2
  try clear hcz24_0
  try clear hcz24_1
  try clear hcz24_2
  try clear hcz24_3
  try clear hcz24_4
  try clear hcz24_5
  try clear hcz24_6
  try clear hcz27_0
  try clear hcz27_1
  try clear hcz27_2
  try clear hcz35_0
  try clear hcz35_1
  try clear hcz35_2
  try clear hcz38_0
  try clear hcz38_1
  try clear hcz38_2
  try clear hcz38_3
  try clear hcz38_4
  try clear hcz38_5
  try clear hcz38_6
  try clear hcz41_0
  try clear hcz41_1
  try clear hcz41_2
  try clear hcz49_0
  try clear hcz49_1
  try clear hcz49_2
  try clear hcz52_0
  try clear hcz52_1
  try clear hcz52_2
  try clear hcz52_3
  try clear hcz52_4
  try clear hcz52_5
  try clear hcz52_6
  try clear hcz55_0
  try clear hcz55_1
  try clear hcz55_2
  try clear hcz63_0
  try clear hcz63_1
  try clear hcz63_2
  try clear hcz67_0
  try clear hcz67_1
  try clear hcz67_2
  try clear hcz74_0
  try clear hcz74_1
  try clear hcz74_2
  try clear hcz77_0
  try clear hcz77_1
  try clear hcz77_2
  try clear hcz77_3
  try clear hcz77_4
  try clear hcz77_5
  try clear hcz77_6
  try clear hcz80_0
  try clear hcz80_1
  try clear hcz80_2
  try clear hfz13_0
  try clear hfz13_1
  try clear hfz13_2
  try clear hfz13_3
  try clear hfz13_4
  try clear hfz13_5
  try clear hfz13_6
  try clear hfz21_0
  try clear hfz21_1
  try clear hfz21_2
  try clear hfz24_0
  try clear hfz24_1
  try clear hfz24_2
  try clear hfz24_3
  try clear hfz24_4
  try clear hfz24_5
  try clear hfz24_6
  try clear hfz27_0
  try clear hfz27_1
  try clear hfz27_2
  try clear hfz35_0
  try clear hfz35_1
  try clear hfz35_2
  try clear hfz38_0
  try clear hfz38_1
  try clear hfz38_2
  try clear hfz38_3
  try clear hfz38_4
  try clear hfz38_5
  try clear hfz38_6
  try clear hfz41_0
  try clear hfz41_1
  try clear hfz41_2
  try clear hfz49_0
  try clear hfz49_1
  try clear hfz49_2
  try clear hfz52_0
  try clear hfz52_1
  try clear hfz52_2
  try clear hfz52_3
  try clear hfz52_4
  try clear hfz52_5
  try clear hfz52_6
  try clear hfz55_0
  try clear hfz55_1
  try clear hfz55_2
  try clear hfz63_0
  try clear hfz63_1
  try clear hfz63_2
  try clear hfz67_0
  try clear hfz67_1
  try clear hfz67_2
  try clear hfz74_0
  try clear hfz74_1
  try clear hfz74_2
  try clear hfz77_0
  try clear hfz77_1
  try clear hfz77_2
  try clear hfz77_3
  try clear hfz77_4
  try clear hfz77_5
  try clear hfz77_6
  try clear hfz80_0
  try clear hfz80_1
  try clear hfz80_2
  try clear p2
  obtain ⟨kq, x10_4, x11_4, x494000_4, x494001_4, x494002_4, u494001, u494002, rfl, rfl, HA, HJ4, HO_491001, HO_491002, HO_494001, HO_494002, BK490, BK491, BK492, BK493, HB⟩ := hcut
  cases kq with
  | zero => exact absurd HA.out (by simp [cooperagelaw16_does.j1])
  | succ kj4 =>
   have H := HA.out
   clear HA
   simp only [cooperagelaw16_does.j1] at H
   by_cases c83 : x10_4 = 0
   ·rw [if_pos c83] at H
    have c83b0 : (x10_4 == 0) = true := beq_iff_eq.mpr c83
    have c83b1 : (x10_4 != 0) = false := bne_eq_false_iff_eq.mpr c83
    clear c83
    simp only [Option.some.injEq, Prod.mk.injEq] at H
    obtain ⟨rfl, rfl, rfl, rfl, rfl⟩ := H
    have hnb84 := NB493_490.out
    have hnc84 := NB490_493.out
    have hnb85 := NB493_491.out
    have hnc85 := NB491_493.out
    have hnb86 := NB493_492.out
    have hnc86 := NB492_493.out
    obtain ⟨hcz87_0, hcz87_1, hcz87_2, hfz87_0, hfz87_1, hfz87_2⟩ := zC3 BK493.out
    have hnb88 := NB492_490.out
    have hnc88 := NB490_492.out
    have hnb89 := NB492_491.out
    have hnc89 := NB491_492.out
    obtain ⟨hcz90_0, hcz90_1, hcz90_2, hfz90_0, hfz90_1, hfz90_2⟩ := zC3 BK492.out
    obtain ⟨Ao91, co91, eo91⟩ := Kd.V_slice HO_494001.out
    subst eo91
    obtain ⟨Ao92, co92, eo92⟩ := Kd.V_slice HO_494002.out
    subst eo92
    go_wp2
    refine bodyPost_ret (results_ctt rfl _ _ gb492 27 #[.int .i64 x494000_4, .slice Ao91 x494001_4.length co91, .slice Ao92 x494002_4.length co92] (0, 0) _ rfl (zP3 BK492.out) Tryd.underlying27 rfl (by kernel_rfl)) rfl ?_
    exact ⟨_, _, zE, by (with_reducible repeat (first | apply Kd.V_alloc | apply Kd.V_drewN | apply Kd.V_drew)); exact Kd.V_mono (zNV HO_494001.out (g := gb492) (fun _ hk => hk.2.2.2.1)) (fun _ hk => hk.1.1), by (with_reducible repeat (first | apply Kd.V_alloc | apply Kd.V_drewN | apply Kd.V_drew)); exact Kd.V_mono (zNV HO_494002.out (g := gb492) (fun _ hk => hk.2.2.2.1)) (fun _ hk => hk.1.1), zL HB.out⟩
   ·rw [if_neg c83] at H
    have c83b0 : (x10_4 == 0) = false := beq_eq_false_iff_ne.mpr c83
    have c83b1 : (x10_4 != 0) = true := bne_iff_ne.mpr c83
    simp only [Option.some.injEq, Prod.mk.injEq] at H
    obtain ⟨rfl, rfl, rfl, rfl, rfl⟩ := H
    try go_wp2
    have n0_ := Aside0.mk (Kd.V_drew HO_491001.out)
    have n1_ := Aside0.mk (Kd.V_drew HO_491002.out)
    have n2_ := Aside0.mk (Kd.V_drew HO_494001.out)
    have n3_ := Aside0.mk (Kd.V_drew HO_494002.out)
    have n4_ := Aside0.mk (blk_drew BK490.out)
    have n5_ := Aside0.mk (blk_drew BK491.out)
    have n6_ := Aside0.mk (blk_drew BK492.out)
    have n7_ := Aside0.mk (blk_drew BK493.out)
    have n8_ := Aside0.mk (below_drew1 HB.out)
    clear HO_491001
    clear HO_491002
    clear HO_494001
    clear HO_494002
    clear BK490
    clear BK491
    clear BK492
    clear BK493
    clear HB
    have HO_491001 := n0_
    have HO_491002 := n1_
    have HO_494001 := n2_
    have HO_494002 := n3_
    have BK490 := n4_
    have BK491 := n5_
    have BK492 := n6_
    have BK493 := n7_
    have HB := n8_
    clear n0_ n1_ n2_ n3_ n4_ n5_ n6_ n7_ n8_
    obtain ⟨Ao94, co94, eo94⟩ := Kd.V_slice HO_494001.out
    (first | subst eo94 | (injection eo94 with f1_ f2_ f3_; have f4_ := f1_.symm; have f5_ := f3_.symm; clear f1_ f2_ f3_; subst f4_; subst f5_))
    obtain ⟨Ao95, co95, eo95⟩ := Kd.V_slice HO_494002.out
    (first | subst eo95 | (injection eo95 with f1_ f2_ f3_; have f4_ := f1_.symm; have f5_ := f3_.symm; clear f1_ f2_ f3_; subst f4_; subst f5_))
    refine start_ (n := 15) (S := fun w' => w'.cell? ⟨gb490, 0, none⟩ = some (.int .i64 a0_0) ∧ w'.cell? ⟨gb490, 1, none⟩ = some (.slice A0_1 l0_1.length c0_1) ∧ w'.cell? ⟨gb490, 2, none⟩ = some (.slice A0_2 l0_2.length c0_2) ∧ w'.cell? ⟨gb493, 0, none⟩ = some (.int .i64 x494000_4) ∧ w'.cell? ⟨gb493, 1, none⟩ = some (.slice Ao94 x494001_4.length co94) ∧ w'.cell? ⟨gb493, 2, none⟩ = some (.slice Ao95 x494002_4.length co95)) (ds := []) #[false, false, false, false, false, false, false, false, false, false, false, false, false, false, false] (by kernel_rfl) rfl rfl ⟨(blk_cell BK490.out 0).trans rfl, (blk_cell BK490.out 1).trans rfl, (blk_cell BK490.out 2).trans rfl, (blk_cell BK493.out 0).trans rfl, (blk_cell BK493.out 1).trans rfl, (blk_cell BK493.out 2).trans rfl⟩ (fun hHeld => ?_); refine with_tabW cooperagelaw16_does.tab16 cooperagelaw16_does.bits16 (fun HT_ HW_ => ?_)
    generalize wc.drew = w93 at HO_491001 HO_491002 HO_494001 HO_494002 BK490 BK491 BK492 BK493 HB hHeld ⊢
    refine pure_ (i := 1) (N := some 77) (v := ?_) (a' := ?_) #[false, true, false, false, false, false, false, false, false, false, false, false, false, false, false] rfl rfl (any_of HT_.out (by kernel_rfl)) (fun _ _ _ h => h) (Or.inl ⟨by rfl, ?_⟩) ?_ ?_
    rotate_left
    ·intro w'
     go_simp
     with_reducible rfl
    rotate_left
    ·simp only [Act.put, List.setIfInBounds_toArray, List.set_cons_zero, List.set_cons_succ, i64_w, i32_w]
     rfl
    refine pure_ (i := 4) (N := some 80) (v := ?_) (a' := ?_) #[false, true, false, false, true, false, false, false, false, false, false, false, false, false, false] rfl rfl (any_of HT_.out (by kernel_rfl)) (fun _ _ _ h => h) (Or.inl ⟨by rfl, ?_⟩) ?_ ?_
    rotate_left
    ·intro w'
     go_simp
     with_reducible rfl
    rotate_left
    ·simp only [Act.put, List.setIfInBounds_toArray, List.set_cons_zero, List.set_cons_succ, i64_w, i32_w]
     rfl
    refine pure_ (i := 8) (N := some 84) (v := ?_) (a' := ?_) #[false, true, false, false, true, false, false, false, true, false, false, false, false, false, false] rfl rfl (any_of HT_.out (by kernel_rfl)) (fun _ _ _ h => h) (Or.inl ⟨by rfl, ?_⟩) ?_ ?_
    rotate_left
    ·intro w'
     go_simp
     with_reducible rfl
    rotate_left
    ·simp only [Act.put, List.setIfInBounds_toArray, List.set_cons_zero, List.set_cons_succ, i64_w, i32_w]
     rfl
    refine pure_ (i := 11) (N := some 87) (v := ?_) (a' := ?_) #[false, true, false, false, true, false, false, false, true, false, false, true, false, false, false] rfl rfl (any_of HT_.out (by kernel_rfl)) (fun _ _ _ h => h) (Or.inl ⟨by rfl, ?_⟩) ?_ ?_
    rotate_left
    ·intro w'
     go_simp
     with_reducible rfl
    rotate_left
    ·simp only [Act.put, List.setIfInBounds_toArray, List.set_cons_zero, List.set_cons_succ, i64_w, i32_w]
     rfl
    refine take_ (i := 0) (N := some 76) (v := ?_) (a' := ?_) #[true, true, false, false, true, false, false, false, true, false, false, true, false, false, false] rfl rfl (take_ofW HT_.out HW_.out (by kernel_rfl)) (fun _ _ _ h => h) (Or.inl ⟨by rfl, ?_⟩) hHeld ?_ ?_
    rotate_left
    ·rintro w' ⟨s0, s1, s2, s3, s4, s5⟩
     go_simp
     with_reducible rfl
    rotate_left
    ·simp only [Act.put, List.setIfInBounds_toArray, List.set_cons_zero, List.set_cons_succ, i64_w, i32_w]
     rfl
    refine take_ (i := 2) (N := some 78) (v := ?_) (a' := ?_) #[true, true, true, false, true, false, false, false, true, false, false, true, false, false, false] rfl rfl (take_ofW HT_.out HW_.out (by kernel_rfl)) (fun _ _ _ h => h) (Or.inl ⟨by rfl, ?_⟩) hHeld ?_ ?_
    rotate_left
    ·rintro w' ⟨s0, s1, s2, s3, s4, s5⟩
     go_simp
     with_reducible rfl
    rotate_left
    ·simp only [Act.put, List.setIfInBounds_toArray, List.set_cons_zero, List.set_cons_succ, i64_w, i32_w]
     rfl
    refine pure_ (i := 3) (N := some 79) (v := ?_) (a' := ?_) #[true, true, true, true, true, false, false, false, true, false, false, true, false, false, false] rfl rfl (any_of HT_.out (by kernel_rfl)) (fun _ _ _ h => h) (Or.inl ⟨by rfl, ?_⟩) ?_ ?_
    rotate_left
    ·intro w'
     go_simp
     with_reducible rfl
    rotate_left
    ·simp only [Act.put, List.setIfInBounds_toArray, List.set_cons_zero, List.set_cons_succ, i64_w, i32_w]
     rfl
    refine take_ (i := 5) (N := some 81) (v := ?_) (a' := ?_) #[true, true, true, true, true, true, false, false, true, false, false, true, false, false, false] rfl rfl (take_ofW HT_.out HW_.out (by kernel_rfl)) (fun _ _ _ h => h) (Or.inl ⟨by rfl, ?_⟩) hHeld ?_ ?_
    rotate_left
    ·rintro w' ⟨s0, s1, s2, s3, s4, s5⟩
     go_simp
     with_reducible rfl
    rotate_left
    ·simp only [Act.put, List.setIfInBounds_toArray, List.set_cons_zero, List.set_cons_succ, i64_w, i32_w]
     rfl
    refine pure_ (i := 6) (N := some 82) (v := ?_) (a' := ?_) #[true, true, true, true, true, true, true, false, true, false, false, true, false, false, false] rfl rfl (any_of HT_.out (by kernel_rfl)) (fun _ _ _ h => h) (Or.inl ⟨by rfl, ?_⟩) ?_ ?_
    rotate_left
    ·intro w'
     go_simp
     with_reducible rfl
    rotate_left
    ·simp only [Act.put, List.setIfInBounds_toArray, List.set_cons_zero, List.set_cons_succ, i64_w, i32_w]
     rfl
    refine pure_ (i := 7) (N := some 83) (v := ?_) (a' := ?_) #[true, true, true, true, true, true, true, true, true, false, false, true, false, false, false] rfl rfl (any_of HT_.out (by kernel_rfl)) (fun _ _ _ h => h) (Or.inl ⟨by rfl, ?_⟩) ?_ ?_
    rotate_left
    ·intro w'
     go_simp
     with_reducible rfl
    rotate_left
    ·simp only [Act.put, List.setIfInBounds_toArray, List.set_cons_zero, List.set_cons_succ, i64_w, i32_w]
     rfl
    refine take_ (i := 9) (N := some 85) (v := ?_) (a' := ?_) #[true, true, true, true, true, true, true, true, true, true, false, true, false, false, false] rfl rfl (take_ofW HT_.out HW_.out (by kernel_rfl)) (fun _ _ _ h => h) (Or.inl ⟨by rfl, ?_⟩) hHeld ?_ ?_
    rotate_left
    ·rintro w' ⟨s0, s1, s2, s3, s4, s5⟩
     go_simp
     with_reducible rfl
    rotate_left
    ·simp only [Act.put, List.setIfInBounds_toArray, List.set_cons_zero, List.set_cons_succ, i64_w, i32_w]
     rfl
    refine pure_ (i := 10) (N := some 86) (v := ?_) (a' := ?_) #[true, true, true, true, true, true, true, true, true, true, true, true, false, false, false] rfl rfl (any_of HT_.out (by kernel_rfl)) (fun _ _ _ h => h) (Or.inl ⟨by rfl, ?_⟩) ?_ ?_
    rotate_left
    ·intro w'
     go_simp
     with_reducible rfl
    rotate_left
    ·simp only [Act.put, List.setIfInBounds_toArray, List.set_cons_zero, List.set_cons_succ, i64_w, i32_w]
     rfl
    refine one_ (i := 12) (N := none) #[true, true, true, true, true, true, true, true, true, true, true, true, true, false, false] rfl rfl (one_of HT_.out (by kernel_rfl)) (by decide) (fun K hK => ?_)
    have hs96 : w93.cell? ⟨gb492, 0, none⟩ = some (.int .i64 0) := (blk_cell BK492.out 0).trans rfl
    have hfs96 := blk_frozen BK492.out 0
    have hns96_0 := NB490_492.out
    have hns96_1 := NB491_492.out
    have hns96_3 := NB493_492.out
    have hms96_0 := NB492_490.out
    have hms96_1 := NB492_491.out
    have hms96_3 := NB492_493.out
    have hs97 : w93.cell? ⟨gb492, 1, none⟩ = some (.slice none 0 0) := (blk_cell BK492.out 1).trans rfl
    have hfs97 := blk_frozen BK492.out 1
    have hns97_0 := NB490_492.out
    have hns97_1 := NB491_492.out
    have hns97_3 := NB493_492.out
    have hms97_0 := NB492_490.out
    have hms97_1 := NB492_491.out
    have hms97_3 := NB492_493.out
    have hs98 : w93.cell? ⟨gb492, 2, none⟩ = some (.slice none 0 0) := (blk_cell BK492.out 2).trans rfl
    have hfs98 := blk_frozen BK492.out 2
    have hns98_0 := NB490_492.out
    have hns98_1 := NB491_492.out
    have hns98_3 := NB493_492.out
    have hms98_0 := NB492_490.out
    have hms98_1 := NB492_491.out
    have hms98_3 := NB492_493.out
    refine skip_ (w1 := ?_) (by rfl) rfl ?_ ?_
    rotate_left
    ·go_simp
     rfl
    refine hK.out _ _ ⟨((cell_far (p := ⟨gb492, _, none⟩) NB490_492.out _).trans (((cell_far (p := ⟨gb492, _, none⟩) NB490_492.out _).trans (((cell_far (p := ⟨gb492, _, none⟩) NB490_492.out _).trans (hHeld.1)))))), ((cell_far (p := ⟨gb492, _, none⟩) NB490_492.out _).trans (((cell_far (p := ⟨gb492, _, none⟩) NB490_492.out _).trans (((cell_far (p := ⟨gb492, _, none⟩) NB490_492.out _).trans (hHeld.2.1)))))), ((cell_far (p := ⟨gb492, _, none⟩) NB490_492.out _).trans (((cell_far (p := ⟨gb492, _, none⟩) NB490_492.out _).trans (((cell_far (p := ⟨gb492, _, none⟩) NB490_492.out _).trans (hHeld.2.2.1)))))), ((cell_far (p := ⟨gb492, _, none⟩) NB493_492.out _).trans (((cell_far (p := ⟨gb492, _, none⟩) NB493_492.out _).trans (((cell_far (p := ⟨gb492, _, none⟩) NB493_492.out _).trans (hHeld.2.2.2.1)))))), ((cell_far (p := ⟨gb492, _, none⟩) NB493_492.out _).trans (((cell_far (p := ⟨gb492, _, none⟩) NB493_492.out _).trans (((cell_far (p := ⟨gb492, _, none⟩) NB493_492.out _).trans (hHeld.2.2.2.2.1)))))), ((cell_far (p := ⟨gb492, _, none⟩) NB493_492.out _).trans (((cell_far (p := ⟨gb492, _, none⟩) NB493_492.out _).trans (((cell_far (p := ⟨gb492, _, none⟩) NB493_492.out _).trans (hHeld.2.2.2.2.2))))))⟩ (fun hHeld => ?_)
    clear hK K
    refine pure_ (i := 13) (N := some 7) (v := ?_) (a' := ?_) #[true, true, true, true, true, true, true, true, true, true, true, true, true, true, false] rfl rfl (any_of HT_.out (by kernel_rfl)) (fun _ _ _ h => h) (Or.inl ⟨by rfl, ?_⟩) ?_ ?_
    rotate_left
    ·intro w'
     go_simp
     with_reducible rfl
    rotate_left
    ·simp only [Act.put, List.setIfInBounds_toArray, List.set_cons_zero, List.set_cons_succ, i64_w, i32_w]
     rfl
    refine pure_ (i := 14) (N := some 8) (v := ?_) (a' := ?_) #[true, true, true, true, true, true, true, true, true, true, true, true, true, true, true] rfl rfl (any_of HT_.out (by kernel_rfl)) (fun _ _ _ h => h) (Or.inl ⟨by rfl, ?_⟩) ?_ ?_
    rotate_left
    ·intro w'
     go_simp
     with_reducible rfl
    rotate_left
    ·simp only [Act.put, List.setIfInBounds_toArray, List.set_cons_zero, List.set_cons_succ, i64_w, i32_w]
     rfl
    refine done_ (done_of HT_.out (by kernel_rfl)) ?_
    try go_wp2
    refine bodyPost_ret (results_ctt rfl _ _ gb492 27 #[.int .i64 a0_0, .slice A0_1 l0_1.length c0_1, .slice A0_2 l0_2.length c0_2] (0, 0) _ rfl (zP3 BK492.out) Tryd.underlying27 rfl (by kernel_rfl)) rfl ?_
    exact ⟨_, _, zE, by (with_reducible repeat (first | apply Kd.V_alloc | apply Kd.V_drewN | apply Kd.V_drew)); exact Kd.V_mono (zNV HO_491001.out (g := gb492) (fun _ hk => hk.2.2.2.1)) (fun _ hk => hk.1.1), by (with_reducible repeat (first | apply Kd.V_alloc | apply Kd.V_drewN | apply Kd.V_drew)); exact Kd.V_mono (zNV HO_491002.out (g := gb492) (fun _ hk => hk.2.2.2.1)) (fun _ hk => hk.1.1), zL HB.out⟩

-- NOT PRINTED: function 6 (cooperagelaw16_LeaseOne)

end Go.Proofs.YtgcghjkaomgloaaDoor.PLease
