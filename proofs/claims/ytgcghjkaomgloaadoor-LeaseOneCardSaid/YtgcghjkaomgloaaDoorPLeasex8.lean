-- Written by a program of this session (wip/tools/ext.py, over the kit's printer); not trusted: Lean checks it.
import Derived.Test.YtgcghjkaomgloaaDoorPLeasex0
import Derived.Test.YtgcghjkaomgloaaDoorPLeasex2
import Derived.Test.YtgcghjkaomgloaaDoorPLeasex6
namespace Go.Proofs.YtgcghjkaomgloaaDoor.PLease
open Go.RowKit Go.Proofs.YtgcghjkaomgloaaDoorW.PrintWords Go.Proofs.YtgcghjkaomgloaaDoorW.PrintLast Go.Proofs.YtgcghjkaomgloaaDoorW.PrintMore
attribute [local go_sem] max2_int min2_int max_two min_two max_three min_three max_four min_four   -- for this text's walks alone
set_option linter.unusedVariables false
set_option linter.unusedSimpArgs false

/-! ### lease_Renew: function 25 -/
mutual
def lease_Renew.j0 : Nat → Int → ByteArray → Int → Int → Int → Bool → Int → List (S34) → List (S32) → Option (Int × (List (S34)) × (List (S32)) × Int)
 | 0, _, _, _, _, _, _, _, _, _ => none
 | k + 1, x1, x2, x3, x4, x5, x16, x480000, x480001, x480002 => if x16 = true then (some (0, ([] : List (S34)), ([] : List (S32)), 1)) else ((lease_Valid.f k x480000 x480001 x480002 x1 x2 x3).bind fun t483 => (if t483 = true then ((lease_Lease_46.f x480001).bind fun t484 => (lease_Renew.l0 k x1 x2 x4 x5 (t484.length : Int) 0 x480000 t484 x480002)) else (some (0, ([] : List (S34)), ([] : List (S32)), 8))))
def lease_Renew.l0 : Nat → Int → ByteArray → Int → Int → Int → Int → Int → List (S34) → List (S32) → Option (Int × (List (S34)) × (List (S32)) × Int)
 | 0, _, _, _, _, _, _, _, _, _ => none
 | k + 1, x1, x2, x4, x5, x40, x41, x480000, x480001, x480002 => if x41 < x40 then (if 0 ≤ x41 then (if x41 < (x480001.length : Int) then (if ((rd_T34 x480001 x41).f0) = x1 then (if ((rd_T34 x480001 x41).f1).toList = x2.toList then (lease_Renew.l0 k x1 x2 x4 x5 x40 (wrap64 (x41 + 1)) x480000 (x480001.set (x41 : Int).toNat (⟨(rd_T34 x480001 x41).f0, (rd_T34 x480001 x41).f1, (rd_T34 x480001 x41).f2, (rd_T34 x480001 x41).f3, wrap64 (x5 + x4)⟩ : S34)) x480002) else (lease_Renew.l0 k x1 x2 x4 x5 x40 (wrap64 (x41 + 1)) x480000 x480001 x480002)) else (lease_Renew.l0 k x1 x2 x4 x5 x40 (wrap64 (x41 + 1)) x480000 x480001 x480002)) else (none)) else (none)) else (some (x480000, x480001, x480002, 0))
end
def lease_Renew.f (k : Nat) (a0_0 : Int) (l0_1 : List (S34)) (l0_2 : List (S32)) (a1 : Int) (a2 : ByteArray) (a3 : Int) (a4 : Int) (a5 : Int) : Option (Int × (List (S34)) × (List (S32)) × Int) := (lease_lives.f a4).bind fun t481 => (if t481 = true then ((lease_time.f a5).bind fun t482 => (lease_Renew.j0 k a1 a2 a3 a4 a5 (!t482) a0_0 l0_1 l0_2)) else (lease_Renew.j0 k a1 a2 a3 a4 a5 true a0_0 l0_1 l0_2))
theorem lease_Renew.mono_l : ∀ k, (∀ y0 y1 y2 y3 y4 y5 y6 y7 y8, LeO (lease_Renew.j0 k y0 y1 y2 y3 y4 y5 y6 y7 y8) (lease_Renew.j0 (k + 1) y0 y1 y2 y3 y4 y5 y6 y7 y8)) ∧ (∀ y0 y1 y2 y3 y4 y5 y6 y7 y8, LeO (lease_Renew.l0 k y0 y1 y2 y3 y4 y5 y6 y7 y8) (lease_Renew.l0 (k + 1) y0 y1 y2 y3 y4 y5 y6 y7 y8))
 | 0 => ⟨fun _ _ _ _ _ _ _ _ _ r h => by simp [lease_Renew.j0] at h, fun _ _ _ _ _ _ _ _ _ r h => by simp [lease_Renew.l0] at h⟩
 | k + 1 => by
  obtain ⟨ih0, ih1⟩ := lease_Renew.mono_l k
  refine ⟨?_, ?_⟩
  ·intro y0 y1 y2 y3 y4 y5 y6 y7 y8
   unfold lease_Renew.j0
   repeat' first
   | (with_reducible exact ih0 _ _ _ _ _ _ _ _ _)
   | (with_reducible exact ih1 _ _ _ _ _ _ _ _ _)
   | (with_reducible exact lease_Valid.mono _ _ _ _ _ _ _)
   | (with_reducible exact LeO.refl _)
   | (with_reducible exact LeO.none _)
   | (with_reducible refine LeO.ite ?_ ?_)
   | (with_reducible refine LeO.bind ?_ (fun _ => ?_))
   | exact ih0 _ _ _ _ _ _ _ _ _
   | exact ih1 _ _ _ _ _ _ _ _ _
   | exact lease_Valid.mono _ _ _ _ _ _ _
   | exact LeO.none _
   | refine LeO.ite ?_ ?_
   | refine LeO.bind ?_ (fun _ => ?_)
  ·intro y0 y1 y2 y3 y4 y5 y6 y7 y8
   unfold lease_Renew.l0
   repeat' first
   | (with_reducible exact ih0 _ _ _ _ _ _ _ _ _)
   | (with_reducible exact ih1 _ _ _ _ _ _ _ _ _)
   | (with_reducible exact lease_Valid.mono _ _ _ _ _ _ _)
   | (with_reducible exact LeO.refl _)
   | (with_reducible exact LeO.none _)
   | (with_reducible refine LeO.ite ?_ ?_)
   | (with_reducible refine LeO.bind ?_ (fun _ => ?_))
   | exact ih0 _ _ _ _ _ _ _ _ _
   | exact ih1 _ _ _ _ _ _ _ _ _
   | exact lease_Valid.mono _ _ _ _ _ _ _
   | exact LeO.none _
   | refine LeO.ite ?_ ?_
   | refine LeO.bind ?_ (fun _ => ?_)
theorem lease_Renew.mono : ∀ a0 a1 a2 a3 a4 a5 a6 a7 k, LeO (lease_Renew.f k a0 a1 a2 a3 a4 a5 a6 a7) (lease_Renew.f (k + 1) a0 a1 a2 a3 a4 a5 a6 a7) := by
 intro a0 a1 a2 a3 a4 a5 a6 a7 k
 obtain ⟨ih0, ih1⟩ := lease_Renew.mono_l k
 unfold lease_Renew.f
 repeat' first
   | (with_reducible exact ih0 _ _ _ _ _ _ _ _ _)
   | (with_reducible exact ih1 _ _ _ _ _ _ _ _ _)
   | (with_reducible exact lease_Valid.mono _ _ _ _ _ _ _)
   | (with_reducible exact LeO.refl _)
   | (with_reducible exact LeO.none _)
   | (with_reducible refine LeO.ite ?_ ?_)
   | (with_reducible refine LeO.bind ?_ (fun _ => ?_))
   | exact ih0 _ _ _ _ _ _ _ _ _
   | exact ih1 _ _ _ _ _ _ _ _ _
   | exact lease_Valid.mono _ _ _ _ _ _ _
   | exact LeO.none _
   | refine LeO.ite ?_ ?_
   | refine LeO.bind ?_ (fun _ => ?_)
set_option maxHeartbeats 8000000 in
set_option maxRecDepth 100000 in
theorem lease_Renew.calls (k : Nat) (a0_0 : Int) (A0_1 : Option Addr) (c0_1 : Nat) (l0_1 : List (S34)) (P0_2_ : Nat → Prop) (A0_2 : Option Addr) (c0_2 : Nat) (l0_2 : List (S32)) (a1 : Int) (a2 : ByteArray) (a3 : Int) (a4 : Int) (a5 : Int) (r1 : Int) (r2 : List (S34)) (r3 : List (S32)) (r4 : Int) (w : World) (hr0_1 : Kd.C k34 w A0_1 l0_1.length l0_1) (hc0_1 : l0_1.length ≤ c0_1) (hs0_2 : Kd.V k32 32 w w.heap.size (fun k_ => P0_2_ k_) (.slice A0_2 l0_2.length c0_2) l0_2) (h : lease_Renew.f k a0_0 l0_1 l0_2 a1 a2 a3 a4 a5 = some (r1, r2, r3, r4)) :
  Calls Tryd.prog 25 #[.agg #[.int .i64 a0_0, .slice A0_1 l0_1.length c0_1, .slice A0_2 l0_2.length c0_2], .int .i64 a1, .string a2, .int .i64 a3, .int .i64 a4, .int .i64 a5] w fun e w' => ∃ v1_ v2_ : Value, e = .returned (.tuple #[.agg #[.int .i64 r1, v1_, v2_], .int .i64 r4]) ∧ Kd.R k34 34 w' w.heap.size (fun k_ => (w.heap.size ≤ k_)) v1_ r2 ∧ Kd.V k32 32 w' w.heap.size (fun k_ => (P0_2_ k_ ∨ w.heap.size ≤ k_) ∧ some k_ ≠ (v1_ : Value).ownBlock) v2_ r3 ∧ Below w.heap.size w w' := by
 have hu27 := Tryd.underlying27
 have hu34 := Tryd.underlying34
 have HR0_1 := Aside0.mk hr0_1
 have HC0_1 := Aside0.mk hc0_1
 clear hr0_1 hc0_1
 have HO0_2 := Aside0.mk (show Kd.V k32 32 w w.heap.size (fun k_ => (P0_2_ k_ ∨ w.heap.size ≤ k_)) (.slice A0_2 l0_2.length c0_2) l0_2 from Kd.V_mono hs0_2 (fun k_ hk => .inl hk))
 have HB := Aside0.mk (Below.refl w.heap.size w)
 have H : ((lease_lives.f a4).bind fun t481 => (if t481 = true then ((lease_time.f a5).bind fun t482 => (lease_Renew.j0 k a1 a2 a3 a4 a5 (!t482) a0_0 l0_1 l0_2)) else (lease_Renew.j0 k a1 a2 a3 a4 a5 true a0_0 l0_1 l0_2))) = some (r1, r2, r3, r4) := h
 clear h
 have HC7 := Aside0.mk H
 clear H
 go_enter Tryd.func25, Tryd.ntmps25
 go_upto_region 1 with (first | ((with_reducible refine gate_dst (N := 6) rfl ?_); refine box_event ?hg (N := 6) ?hd (cs := #[.int .i64 a0_0, .slice A0_1 l0_1.length c0_1, .slice A0_2 l0_2.length c0_2]) (t := 27) ?hr ?_; (case hd => rfl); (case hg => rfl); (case hr => first | (go_simp; done) | (go_simp; rfl)); intro gb479 hg w8 hbox hb; have n0_ := Aside0.mk (Kd.V_below (Kd.V_elderB (zV HO0_2.out) gb479 (Nat.le_of_eq hg.symm)) hb); have n1_ := Aside0.mk (below_step (zL HB.out) hb); have n2_ := Aside0.mk (hbox); have n3_ := Aside0.mk (zG hg (zL HB.out)); have n4_ := Aside0.mk (zG hg (zL HB.out)); revert n0_ n1_ n2_ n3_ n4_; clear HO0_2 HB; intro HO0_2 HB BK479 GW479 GE479; clear hb hbox hg) | ((with_reducible refine gate_dst (N := 12) rfl ?_); refine box_event ?hg (N := 12) ?hd (cs := #[.int .i64 0, .slice none 0 0, .slice none 0 0]) (t := 27) ?hr ?_; (case hd => rfl); (case hg => rfl); (case hr => first | (go_simp; done) | (go_simp; rfl)); intro gb480 hg w9 hbox hb; have n0_ := Aside0.mk (Kd.V_below (Kd.V_elderB (zV HO0_2.out) gb480 (Nat.le_of_eq hg.symm)) hb); have n1_ := Aside0.mk (blk_below (g := gb479) (o := .cells #[.int .i64 a0_0, .slice A0_1 l0_1.length c0_1, .slice A0_2 l0_2.length c0_2] 27 (0, 0)) (zK BK479.out) hb); have n2_ := Aside0.mk (below_step (zL HB.out) hb); have n3_ := Aside0.mk (hbox); have n4_ := Aside0.mk (zG hg (zL HB.out)); have n5_ := Aside0.mk (zG hg (zL HB.out)); have n6_ := Aside0.mk (zN (g := gb479) (o := .cells #[.int .i64 a0_0, .slice A0_1 l0_1.length c0_1, .slice A0_2 l0_2.length c0_2] 27 (0, 0)) hg (zK BK479.out)); have n7_ := Aside0.mk (zO (g := gb479) (o := .cells #[.int .i64 a0_0, .slice A0_1 l0_1.length c0_1, .slice A0_2 l0_2.length c0_2] 27 (0, 0)) hg (zK BK479.out)); revert n0_ n1_ n2_ n3_ n4_ n5_ n6_ n7_; clear HO0_2 BK479 HB; intro HO0_2 BK479 HB BK480 GW480 GE480 NB479_480 NB480_479; clear hb hbox hg))
 (try simp only [Act.put, List.setIfInBounds_toArray, List.set_cons_zero, List.set_cons_succ])
 go_cut [16] (fun v16 wc => ∃ (kq : Nat) (x16_6 : Bool), v16 = .bool x16_6 ∧ Aside0 (lease_Renew.j0 kq a1 a2 a3 a4 a5 x16_6 a0_0 l0_1 l0_2 = some (r1, r2, r3, r4)) ∧ Aside0 (kq ≤ k) ∧ Aside0 (Kd.V k32 32 wc w.heap.size (fun k_ => (P0_2_ k_ ∨ w.heap.size ≤ k_) ∧ k_ ≠ gb479 ∧ k_ ≠ gb480) (.slice A0_2 l0_2.length c0_2) l0_2) ∧ Aside0 (wc.heap[gb479]? = some (.cells #[.int .i64 a0_0, (.slice A0_1 l0_1.length c0_1), (.slice A0_2 l0_2.length c0_2)] 27 (0, 0))) ∧ Aside0 (wc.heap[gb480]? = some (.cells #[.int .i64 0, (.slice none 0 0), (.slice none 0 0)] 27 (0, 0))) ∧ Aside0 (Below w.heap.size w wc))
 case first =>
  have H := HC7.out
  clear HC7
  replace H := Option.bind_eq_some_iff.mp H
  obtain ⟨t481, A100, H⟩ := H
  replace H : (if t481 = true then ((lease_time.f a5).bind fun t482 => (lease_Renew.j0 k a1 a2 a3 a4 a5 (!t482) a0_0 l0_1 l0_2)) else (lease_Renew.j0 k a1 a2 a3 a4 a5 true a0_0 l0_1 l0_2)) = some (r1, r2, r3, r4) := H
  have A10 := Aside0.mk A100
  clear A100
  by_cases c11 : t481 = true
  ·subst c11
   have H1 : ((lease_time.f a5).bind fun t482 => (lease_Renew.j0 k a1 a2 a3 a4 a5 (!t482) a0_0 l0_1 l0_2)) = some (r1, r2, r3, r4) := by rw [if_pos rfl] at H; exact H
   clear H
   have H := H1
   clear H1
   replace H := Option.bind_eq_some_iff.mp H
   obtain ⟨t482, A120, H⟩ := H
   replace H : (lease_Renew.j0 k a1 a2 a3 a4 a5 (!t482) a0_0 l0_1 l0_2) = some (r1, r2, r3, r4) := H
   have A12 := Aside0.mk A120
   clear A120
   have H' := Aside0.mk H
   clear H
   go_wp2_with (first | ((with_reducible refine gate_callee (f := 27) rfl ?_); refine goesL_ (some 18) rfl rfl Tryd.func27 (by kernel_rfl) rfl #[.int .i64 a4] rfl zA ?_; (with_reducible refine (lease_lives.calls a4 true _ A10.out).mono ?_); rintro e w' ⟨rfl, ⟨nd, rfl⟩⟩; refine ⟨_, rfl, ?_⟩) | (go_at_call 28; (with_reducible refine (lease_time.calls a5 t482 _ A12.out).mono ?_); rintro e w' ⟨rfl, ⟨nd, rfl⟩⟩))
   go_meet
   case rel => exact ⟨_, (!t482), zS, H', ⟨by first | omega | exact Nat.le_refl _⟩, ⟨by (with_reducible repeat (first | apply Kd.V_alloc | apply Kd.V_drewN | apply Kd.V_drew)); exact Kd.V_mono HO0_2.out (fun _ hk => ⟨hk.1.1, ⟨hk.1.2, hk.2⟩⟩)⟩, ⟨zK BK479.out⟩, ⟨zK BK480.out⟩, ⟨zL HB.out⟩⟩
  ·replace c11 := Bool.eq_false_iff.mpr c11
   subst c11
   have H1 : (lease_Renew.j0 k a1 a2 a3 a4 a5 true a0_0 l0_1 l0_2) = some (r1, r2, r3, r4) := by rw [if_neg (show ¬ (false = true) by decide)] at H; exact H
   clear H
   have H := H1
   clear H1
   have H' := Aside0.mk H
   clear H
   go_wp2_with (first | ((with_reducible refine gate_callee (f := 27) rfl ?_); refine goesL_ (some 18) rfl rfl Tryd.func27 (by kernel_rfl) rfl #[.int .i64 a4] rfl zA ?_; (with_reducible refine (lease_lives.calls a4 false _ A10.out).mono ?_); rintro e w' ⟨rfl, ⟨nd, rfl⟩⟩; refine ⟨_, rfl, ?_⟩))
   go_meet
   case rel => exact ⟨_, (true), zS, H', ⟨by first | omega | exact Nat.le_refl _⟩, ⟨by (with_reducible repeat (first | apply Kd.V_alloc | apply Kd.V_drewN | apply Kd.V_drew)); exact Kd.V_mono HO0_2.out (fun _ hk => ⟨hk.1.1, ⟨hk.1.2, hk.2⟩⟩)⟩, ⟨zK BK479.out⟩, ⟨zK BK480.out⟩, ⟨zL HB.out⟩⟩
 case rest =>
  clear HC7
  try clear c1
  try clear c2
  try clear p2
  try clear c11
  obtain ⟨kq, x16_6, rfl, HA, HJ6, HO_480002, BK479, BK480, HB⟩ := hcut
  cases kq with
  | zero => exact absurd HA.out (by simp [lease_Renew.j0])
  | succ kj6 =>
   have H := HA.out
   clear HA
   simp only [lease_Renew.j0] at H
   by_cases c13 : x16_6 = true
   ·subst c13
    have H1 : (some (0, ([] : List (S34)), ([] : List (S32)), 1)) = some (r1, r2, r3, r4) := by rw [if_pos rfl] at H; exact H
    clear H
    have H := H1
    clear H1
    simp only [Option.some.injEq, Prod.mk.injEq] at H
    obtain ⟨rfl, rfl, rfl, rfl⟩ := H
    have hnb14 := NB480_479.out
    have hnc14 := NB479_480.out
    obtain ⟨hcz15_0, hcz15_1, hcz15_2, hfz15_0, hfz15_1, hfz15_2⟩ := zC3 BK480.out
    go_wp2
    refine bodyPost_ret (results_ct rfl _ _ gb480 27 #[.int .i64 0, .slice none 0 0, .slice none 0 0] (0, 0) _ rfl (zP3 BK480.out) Tryd.underlying27 rfl (by kernel_rfl)) rfl ?_
    exact ⟨_, _, zE, by first | exact Kd.R_nil _ _ _ _ _ | exact Kd.N_nil _ _ _ _ _ | exact Kd.V_nil _ _ _ _ _ | exact Kd.Q_nil _ _ _ _ _ | exact Kd.S_nil _ _ _ _ _, Kd.V_nil _ _ _ _ _, zL HB.out⟩
   ·replace c13 := Bool.eq_false_iff.mpr c13
    subst c13
    have H1 : ((lease_Valid.f kj6 a0_0 l0_1 l0_2 a1 a2 a3).bind fun t483 => (if t483 = true then ((lease_Lease_46.f l0_1).bind fun t484 => (lease_Renew.l0 kj6 a1 a2 a4 a5 (t484.length : Int) 0 a0_0 t484 l0_2)) else (some (0, ([] : List (S34)), ([] : List (S32)), 8)))) = some (r1, r2, r3, r4) := by rw [if_neg (show ¬ (false = true) by decide)] at H; exact H
    clear H
    have H := H1
    clear H1
    replace H := Option.bind_eq_some_iff.mp H
    obtain ⟨t483, A160, H⟩ := H
    replace H : (if t483 = true then ((lease_Lease_46.f l0_1).bind fun t484 => (lease_Renew.l0 kj6 a1 a2 a4 a5 (t484.length : Int) 0 a0_0 t484 l0_2)) else (some (0, ([] : List (S34)), ([] : List (S32)), 8))) = some (r1, r2, r3, r4) := H
    have A16 := Aside0.mk A160
    clear A160
    by_cases c17 : t483 = true
    ·subst c17
     have H1 : ((lease_Lease_46.f l0_1).bind fun t484 => (lease_Renew.l0 kj6 a1 a2 a4 a5 (t484.length : Int) 0 a0_0 t484 l0_2)) = some (r1, r2, r3, r4) := by rw [if_pos rfl] at H; exact H
     clear H
     have H := H1
     clear H1
     replace H := Option.bind_eq_some_iff.mp H
     obtain ⟨t484, A180, H⟩ := H
     replace H : (lease_Renew.l0 kj6 a1 a2 a4 a5 (t484.length : Int) 0 a0_0 t484 l0_2) = some (r1, r2, r3, r4) := H
     have A18 := Aside0.mk A180
     clear A180
     have H' := Aside0.mk H
     clear H
     have hnb19 := NB479_480.out
     have hnc19 := NB480_479.out
     obtain ⟨hcz20_0, hcz20_1, hcz20_2, hfz20_0, hfz20_1, hfz20_2⟩ := zC3 BK479.out
     go_wp2_with (first | ((with_reducible refine gate_callee (f := 23) rfl ?_); refine goesL_ (some 31) rfl rfl Tryd.func23 (by kernel_rfl) rfl #[.agg #[.int .i64 a0_0, .slice A0_1 l0_1.length c0_1, .slice A0_2 l0_2.length c0_2], .int .i64 a1, .string a2, .int .i64 a3] rfl zA ?_; (with_reducible refine (lease_Valid.calls kj6 a0_0 _ _ l0_1 _ _ l0_2 a1 a2 a3 true _ ?side1 ?side2 ?side3 ?side4 A16.out).mono ?_); (case side1 => repeat (first | exact (Kd.C_below HR0_1.out HB.out) | (with_reducible refine Kd.C_alloc ?_ _) | (with_reducible refine Kd.C_drewN ?_ _) | (with_reducible refine Kd.C_drew ?_))); (case side2 => exact HC0_1.out); (case side3 => repeat (first | exact (Kd.V_reads' HO_480002.out).2.2 | (with_reducible refine Kd.C_alloc ?_ _) | (with_reducible refine Kd.C_drewN ?_ _) | (with_reducible refine Kd.C_drew ?_))); (case side4 => exact (Kd.V_reads' HO_480002.out).2.1); rintro e w21 ⟨rfl, hb⟩; refine ⟨_, rfl, ?_⟩; have n0_ := Aside0.mk (Kd.V_below (zV HO_480002.out) hb); have n1_ := Aside0.mk (blk_below (g := gb479) (o := .cells #[.int .i64 a0_0, .slice A0_1 l0_1.length c0_1, .slice A0_2 l0_2.length c0_2] 27 (0, 0)) (zK BK479.out) hb); have n2_ := Aside0.mk (blk_below (g := gb480) (o := .cells #[.int .i64 0, .slice none 0 0, .slice none 0 0] 27 (0, 0)) (zK BK480.out) hb); have n3_ := Aside0.mk (below_step (zL HB.out) hb); revert n0_ n1_ n2_ n3_; clear HO_480002 BK479 BK480 HB; intro HO_480002 BK479 BK480 HB; (try clear hb); (try clear hb2); (try clear hk); (try clear hi); obtain ⟨hcz22_0, hcz22_1, hcz22_2, hfz22_0, hfz22_1, hfz22_2⟩ := zC3 BK479.out) | ((with_reducible refine gate_callee (f := 46) rfl ?_); refine goesL_ (some 36) rfl rfl Tryd.func46 (by kernel_rfl) rfl #[.slice A0_1 l0_1.length c0_1] rfl zA ?_; (with_reducible refine (lease_Lease_46.calls _ _ l0_1 t484 _ ?side1 ?side2 A18.out).mono ?_); (case side1 => repeat (first | exact (Kd.C_below HR0_1.out HB.out) | (with_reducible refine Kd.C_alloc ?_ _) | (with_reducible refine Kd.C_drewN ?_ _) | (with_reducible refine Kd.C_drew ?_))); (case side2 => exact HC0_1.out); rintro e w23 ⟨v485, rfl, ho0, hb⟩; refine ⟨_, rfl, ?_⟩; have n0_ := Aside0.mk (Kd.V_elder' (zV HO_480002.out) (Kd.R_base ho0) hb); have n1_ := Aside0.mk (Kd.R_lower (Kd.R_newM (M := fun k_ => (w.heap.size ≤ k_)) ho0 (below_size (zL HB.out)) (fun k_ h_ => h_)) (below_size (zL HB.out))); have n2_ := Aside0.mk (blk_below (g := gb479) (o := .cells #[.int .i64 a0_0, .slice A0_1 l0_1.length c0_1, .slice A0_2 l0_2.length c0_2] 27 (0, 0)) (zK BK479.out) hb); have n3_ := Aside0.mk (blk_below (g := gb480) (o := .cells #[.int .i64 0, .slice none 0 0, .slice none 0 0] 27 (0, 0)) (zK BK480.out) hb); have n4_ := Aside0.mk (below_step (zL HB.out) hb); revert n0_ n1_ n2_ n3_ n4_; clear HO_480002 BK479 BK480 HB; intro HO_480002 HO486 BK479 BK480 HB; (try clear hb); (try clear hb2); (try clear hk); (try clear hi); (try clear ho0); obtain ⟨Ao24, co24, eo24⟩ := Kd.R_slice HO486.out; subst eo24; obtain ⟨hcz25_0, hcz25_1, hcz25_2, hfz25_0, hfz25_1, hfz25_2⟩ := zC3 BK479.out))
     go_loopg [41] kj6 (fun kq v41 w' => ∃ (x41_2 : Int) (x480001_2 : List (S34)) (u480001 : Value), Aside0 (u480001 = (.slice Ao24 t484.length co24)) ∧ v41 = .int .i64 x41_2 ∧ Aside0 (lease_Renew.l0 kq a1 a2 a4 a5 (t484.length : Int) x41_2 a0_0 x480001_2 l0_2 = some (r1, r2, r3, r4)) ∧ Aside0 (kq ≤ kj6) ∧ Aside0 (Kd.R k34 34 w' w.heap.size (fun k_ => (w.heap.size ≤ k_)) u480001 x480001_2) ∧ Aside0 (Kd.V k32 32 w' w.heap.size (fun k_ => (P0_2_ k_ ∨ w.heap.size ≤ k_) ∧ some k_ ≠ (u480001 : Value).ownBlock ∧ k_ ≠ gb479 ∧ k_ ≠ gb480) (.slice A0_2 l0_2.length c0_2) l0_2) ∧ Aside0 (w'.heap[gb479]? = some (.cells #[.int .i64 a0_0, u480001, (.slice A0_2 l0_2.length c0_2)] 27 (0, 0))) ∧ Aside0 (w'.heap[gb480]? = some (.cells #[.int .i64 0, (.slice none 0 0), (.slice none 0 0)] 27 (0, 0))) ∧ Aside0 (Below w.heap.size w w'))
     case atStart => exact ⟨(0), (t484), (.slice Ao24 t484.length co24), ⟨rfl⟩, zS, H', ⟨Nat.le_refl _⟩, ⟨by (with_reducible repeat (first | apply Kd.R_alloc | apply Kd.R_drewN | apply Kd.R_drew)); exact Kd.R_mono (zNT HO486.out BK479.out) (fun _ hk => hk.1.1)⟩, ⟨by (with_reducible repeat (first | apply Kd.V_alloc | apply Kd.V_drewN | apply Kd.V_drew)); exact Kd.V_mono (zNV HO_480002.out (g := gb479) (fun _ hk => hk.1.2.1)) (fun _ hk => ⟨hk.1.1.1, ⟨hk.1.2, ⟨hk.1.1.2.1, hk.1.1.2.2⟩⟩⟩)⟩, ⟨by (with_reducible repeat (first | refine blk_drewN ?_ _ | refine blk_drew ?_ | refine blk_alloc ?_ _)); refine blk_put (cs := #[.int .i64 a0_0, .slice A0_1 l0_1.length c0_1, .slice A0_2 l0_2.length c0_2]) ?_ 1 _ rfl; (with_reducible repeat (first | refine blk_drewN ?_ _ | refine blk_drew ?_ | refine blk_alloc ?_ _)); exact BK479.out⟩, ⟨zK BK480.out⟩, ⟨zL HB.out⟩⟩
     case round =>
      clear H'
      try clear c1
      try clear c2
      try clear p2
      try clear c4
      try clear c11
      try clear c13
      try clear c14
      try clear c17
      try clear c19
      try clear c23
      try clear c25
      try clear hcz15_0
      try clear hcz15_1
      try clear hcz15_2
      try clear hcz20_0
      try clear hcz20_1
      try clear hcz20_2
      try clear hcz22_0
      try clear hcz22_1
      try clear hcz22_2
      try clear hcz25_0
      try clear hcz25_1
      try clear hcz25_2
      try clear hfz15_0
      try clear hfz15_1
      try clear hfz15_2
      try clear hfz20_0
      try clear hfz20_1
      try clear hfz20_2
      try clear hfz22_0
      try clear hfz22_1
      try clear hfz22_2
      try clear hfz25_0
      try clear hfz25_1
      try clear hfz25_2
      try clear p2
      obtain ⟨x41_2, x480001_2, u480001, hu39, rfl, HA, HK2, HO_480001, HO_480002, BK479, BK480, HB⟩ := hrel
      cases gk with
      | zero => exact absurd HA.out (by simp [lease_Renew.l0])
      | succ k2 =>
       have H := HA.out
       clear HA
       simp only [lease_Renew.l0] at H
       by_cases c26 : x41_2 < (t484.length : Int)
       ·rw [if_pos c26] at H
        have c26b0 : decide (x41_2 < (t484.length : Int)) = true := decide_eq_true c26
        clear c26
        by_cases c27 : 0 ≤ x41_2
        ·rw [if_pos c27] at H
         have c27b0 : decide (0 ≤ x41_2) = true := decide_eq_true c27
         clear c27
         by_cases c28 : x41_2 < (x480001_2.length : Int)
         ·rw [if_pos c28] at H
          have c28b0 : decide (x41_2 < (x480001_2.length : Int)) = true := decide_eq_true c28
          clear c28
          by_cases c29 : ((rd_T34 x480001_2 x41_2).f0) = a1
          ·rw [if_pos c29] at H
           have c29b0 : (((rd_T34 x480001_2 x41_2).f0) == a1) = true := beq_iff_eq.mpr c29
           have c29b1 : (((rd_T34 x480001_2 x41_2).f0) != a1) = false := bne_eq_false_iff_eq.mpr c29
           clear c29
           by_cases c30 : ((rd_T34 x480001_2 x41_2).f1).toList = a2.toList
           ·rw [if_pos c30] at H
            have c30b0 : (((rd_T34 x480001_2 x41_2).f1).toList == a2.toList) = true := beq_iff_eq.mpr c30
            have c30b1 : (((rd_T34 x480001_2 x41_2).f1).toList != a2.toList) = false := bne_eq_false_iff_eq.mpr c30
            clear c30
            obtain ⟨y489, hy489⟩ : ∃ y_ : List (S34), y_ = (x480001_2.set (x41_2 : Int).toNat (⟨(rd_T34 x480001_2 x41_2).f0, (rd_T34 x480001_2 x41_2).f1, (rd_T34 x480001_2 x41_2).f2, (rd_T34 x480001_2 x41_2).f3, wrap64 (a5 + a4)⟩ : S34)) := ⟨_, rfl⟩
            replace H : (lease_Renew.l0 k2 a1 a2 a4 a5 (t484.length : Int) (wrap64 (x41_2 + 1)) a0_0 y489 l0_2) = some (r1, r2, r3, r4) := zH hy489 H
            have Ny489 := Aside0.mk hy489
            clear hy489
            have H' := Aside0.mk H
            clear H
            obtain ⟨Ao32, co32, eo32⟩ := Kd.R_slice HO_480001.out
            subst eo32
            rw [← hu39.out]
            have p487 : 0 ≤ (x41_2 : Int) := zD
            have q487 : x41_2 < (x480001_2.length : Int) := zD
            obtain ⟨ad487, e487, hx487_0, hx487_1, hx487_2, hx487_3, hx487_4⟩ := at_T34 (Kd.R_reads' HO_480001.out).2.2 x41_2 p487 q487
            cases e487
            replace p487 := eq_true p487
            replace q487 := eq_true q487
            go_wp2_with (first | ((with_reducible refine gate_dst (N := 15) rfl ?_); refine box_event ?hg (N := 15) ?hd (cs := #[.int .i64 0, .string (⟨#[]⟩ : ByteArray), .bool false, .int .i64 0, .int .i64 0]) (t := 34) ?hr ?_; (case hd => rfl); (case hg => rfl); (case hr => first | (go_simp; done) | (go_simp; rfl)); intro gb488 hg w33 hbox hb; have n0_ := Aside0.mk (Kd.R_below (Kd.R_elderB (zR HO_480001.out) gb488 (Nat.le_of_eq hg.symm)) hb); have n1_ := Aside0.mk (Kd.V_below (Kd.V_elderB (zV HO_480002.out) gb488 (Nat.le_of_eq hg.symm)) hb); have n2_ := Aside0.mk (blk_below (g := gb479) (o := .cells #[.int .i64 a0_0, .slice (some ad487) x480001_2.length co32, .slice A0_2 l0_2.length c0_2] 27 (0, 0)) (zK BK479.out) hb); have n3_ := Aside0.mk (blk_below (g := gb480) (o := .cells #[.int .i64 0, .slice none 0 0, .slice none 0 0] 27 (0, 0)) (zK BK480.out) hb); have n4_ := Aside0.mk (below_step (zL HB.out) hb); have n5_ := Aside0.mk (hbox); have n6_ := Aside0.mk (zG hg (zL HB.out)); have n7_ := Aside0.mk (zG hg (zL HB.out)); have n8_ := Aside0.mk (zN (g := gb479) (o := .cells #[.int .i64 a0_0, .slice (some ad487) x480001_2.length co32, .slice A0_2 l0_2.length c0_2] 27 (0, 0)) hg (zK BK479.out)); have n9_ := Aside0.mk (zO (g := gb479) (o := .cells #[.int .i64 a0_0, .slice (some ad487) x480001_2.length co32, .slice A0_2 l0_2.length c0_2] 27 (0, 0)) hg (zK BK479.out)); have n10_ := Aside0.mk (zN (g := gb480) (o := .cells #[.int .i64 0, .slice none 0 0, .slice none 0 0] 27 (0, 0)) hg (zK BK480.out)); have n11_ := Aside0.mk (zO (g := gb480) (o := .cells #[.int .i64 0, .slice none 0 0, .slice none 0 0] 27 (0, 0)) hg (zK BK480.out)); revert n0_ n1_ n2_ n3_ n4_ n5_ n6_ n7_ n8_ n9_ n10_ n11_; clear HO_480001 HO_480002 BK479 BK480 HB; intro HO_480001 HO_480002 BK479 BK480 HB BK488 GW488 GE488 NB479_488 NB488_479 NB480_488 NB488_480; clear hb hbox hg; have hnb34 := NB488_479.out; have hnc34 := NB479_488.out; have hnb35 := NB488_480.out; have hnc35 := NB480_488.out; obtain ⟨hcz36_0, hcz36_1, hcz36_2, hcz36_3, hcz36_4, hfz36_0, hfz36_1, hfz36_2, hfz36_3, hfz36_4⟩ := zC5 BK488.out) | ((with_reducible refine gate_store (t := 34) (p := 15) rfl ?_); refine store_event (t := 34) (p := 15) (v := ?vo_w37) (w1 := (((((w33.setCell ⟨gb488, 0, none⟩ (.int .i64 ((rd_T34 x480001_2 x41_2).f0))).setCell ⟨gb488, 1, none⟩ (.string ((rd_T34 x480001_2 x41_2).f1))).setCell ⟨gb488, 2, none⟩ (.bool ((rd_T34 x480001_2 x41_2).f2))).setCell ⟨gb488, 3, none⟩ (.int .i64 ((rd_T34 x480001_2 x41_2).f3))).setCell ⟨gb488, 4, none⟩ (.int .i64 ((rd_T34 x480001_2 x41_2).f4)))) ?hg ?ho ?hn ?hr ?_; (case ho => rfl); (case hg => rfl); (case hn => rfl); (case hr => first | (go_simp; done) | (go_simp; rfl)); intro w37 hw; have n0_ : Aside0 (Kd.R k34 34 w37 w.heap.size (fun k_ => (w.heap.size ≤ k_) ∧ k_ ≠ gb488) (.slice (some ad487) x480001_2.length co32) x480001_2) := ⟨(by rw [hw]; exact (by (with_reducible repeat (first | apply Kd.R_alloc | apply Kd.R_drewN | apply Kd.R_drew)); exact Kd.R_mono (zNM HO_480001.out (g := gb488) (fun _ hk => hk.2)) (fun _ hk => ⟨hk.1.1, hk.1.2⟩)))⟩; have n1_ : Aside0 (Kd.V k32 32 w37 w.heap.size (fun k_ => (P0_2_ k_ ∨ w.heap.size ≤ k_) ∧ some k_ ≠ (.slice (some ad487) x480001_2.length co32 : Value).ownBlock ∧ k_ ≠ gb479 ∧ k_ ≠ gb480 ∧ k_ ≠ gb488) (.slice A0_2 l0_2.length c0_2) l0_2) := ⟨(by rw [hw]; exact (by (with_reducible repeat (first | apply Kd.V_alloc | apply Kd.V_drewN | apply Kd.V_drew)); exact Kd.V_mono (zNV HO_480002.out (g := gb488) (fun _ hk => hk.2)) (fun _ hk => ⟨hk.1.1.1, ⟨hk.1.1.2.1, ⟨hk.1.1.2.2.1, ⟨hk.1.1.2.2.2, hk.1.2⟩⟩⟩⟩)))⟩; have n2_ : Aside0 (w37.heap[gb479]? = some (.cells #[.int .i64 a0_0, .slice (some ad487) x480001_2.length co32, .slice A0_2 l0_2.length c0_2] 27 (0, 0))) := ⟨(by rw [hw]; exact (zK BK479.out))⟩; have n3_ : Aside0 (w37.heap[gb480]? = some (.cells #[.int .i64 0, .slice none 0 0, .slice none 0 0] 27 (0, 0))) := ⟨(by rw [hw]; exact (zK BK480.out))⟩; have n4_ : Aside0 (w37.heap[gb488]? = some (.cells #[.int .i64 ((rd_T34 x480001_2 x41_2).f0), .string ((rd_T34 x480001_2 x41_2).f1), .bool ((rd_T34 x480001_2 x41_2).f2), .int .i64 ((rd_T34 x480001_2 x41_2).f3), .int .i64 ((rd_T34 x480001_2 x41_2).f4)] 34 (0, 0))) := ⟨(by rw [hw]; exact (zP5 BK488.out))⟩; have n5_ : Aside0 (Below w.heap.size w w37) := ⟨(by rw [hw]; exact (zL HB.out))⟩; clear hw; revert n0_ n1_ n2_ n3_ n4_ n5_; clear HO_480001 HO_480002 BK479 BK480 BK488 HB; intro HO_480001 HO_480002 BK479 BK480 BK488 HB; obtain ⟨hcz38_0, hcz38_1, hcz38_2, hcz38_3, hcz38_4, hfz38_0, hfz38_1, hfz38_2, hfz38_3, hfz38_4⟩ := zC5 BK488.out; have hnb39 := NB479_480.out; have hnc39 := NB480_479.out; obtain ⟨hcz40_0, hcz40_1, hcz40_2, hfz40_0, hfz40_1, hfz40_2⟩ := zC3 BK479.out; have p31 : 0 ≤ (x41_2 : Int) := zD; have q31 : (x41_2 : Int) < ((x480001_2.length : Int) : Int) := zD; obtain ⟨go31, co31, eo31, gb31, gl31, cl31, HG31⟩ := Kd.R_form HO_480001.out (by omega); (first | cases eo31 | (injection eo31 with ea_ en_ ec_; (first | subst ea_ | (injection ea_ with ea_; subst ea_)); subst ec_; clear en_)); have GB31 := Aside0.mk gb31; have GG31 := Aside0.mk HG31; clear gb31 gl31 HG31; (first | simp only [add_plain] at hx487_0 | skip); (first | simp only [add_plain] at hx487_1 | skip); (first | simp only [add_plain] at hx487_2 | skip); (first | simp only [add_plain] at hx487_3 | skip); (first | simp only [add_plain] at hx487_4 | skip); obtain ⟨ce31, hcl31, hM31, hcc31, hfr31⟩ := Kd.R_elem HO_480001.out z34 (x41_2 : Int) p31 q31; obtain rfl := k34_openM hM31; have hx31_0 : w37.cell? ⟨go31, (x41_2 : Int).toNat * 5, none⟩ = some (.int .i64 ((rd_T34 x480001_2 x41_2).f0)) := hcc31 0 _ rfl; have hx31_1 : w37.cell? ⟨go31, (x41_2 : Int).toNat * 5 + 1, none⟩ = some (.string ((rd_T34 x480001_2 x41_2).f1)) := hcc31 1 _ rfl; have hx31_2 : w37.cell? ⟨go31, (x41_2 : Int).toNat * 5 + 2, none⟩ = some (.bool ((rd_T34 x480001_2 x41_2).f2)) := hcc31 2 _ rfl; have hx31_3 : w37.cell? ⟨go31, (x41_2 : Int).toNat * 5 + 3, none⟩ = some (.int .i64 ((rd_T34 x480001_2 x41_2).f3)) := hcc31 3 _ rfl; have hx31_4 : w37.cell? ⟨go31, (x41_2 : Int).toNat * 5 + 4, none⟩ = some (.int .i64 ((rd_T34 x480001_2 x41_2).f4)) := hcc31 4 _ rfl; have hf31_0 : w37.frozen? ⟨go31, (x41_2 : Int).toNat * 5, none⟩ = false := hfr31 0; have hf31_1 : w37.frozen? ⟨go31, (x41_2 : Int).toNat * 5 + 1, none⟩ = false := hfr31 1; have hf31_2 : w37.frozen? ⟨go31, (x41_2 : Int).toNat * 5 + 2, none⟩ = false := hfr31 2; have hf31_3 : w37.frozen? ⟨go31, (x41_2 : Int).toNat * 5 + 3, none⟩ = false := hfr31 3; have hf31_4 : w37.frozen? ⟨go31, (x41_2 : Int).toNat * 5 + 4, none⟩ = false := hfr31 4; clear hcl31 hcc31 hfr31 hM31; replace p31 := eq_true p31; replace q31 := eq_true q31; have HX41 := Aside0.mk (show Kd.R k34 34 w37 w.heap.size (fun k_ => (w.heap.size ≤ k_) ∧ k_ ≠ gb488) (.slice (some ⟨go31, 0, none⟩) x480001_2.length co32) x480001_2 from (zR HO_480001.out)); obtain ⟨ce41, hcl41, hM41, hcc41, hfr41⟩ := Kd.R_elem HX41.out z34 (x41_2 : Int) zD (by have h_ : (x41_2 : Int) < ((x480001_2.length : Int) : Int) := zD; first | exact h_ | (have e_ := (Kd.R_reads' HO_480001.out).1; omega) | simpa using h_); obtain rfl := k34_openM hM41; have HP41 := Kd.R_seg HX41.out (x41_2 : Int) zD (by have h_ : (x41_2 : Int) < ((x480001_2.length : Int) : Int) := zD; first | exact h_ | (have e_ := (Kd.R_reads' HO_480001.out).1; omega) | simpa using h_) (seg := [.int .i64 (wrap64 (a5 + a4))]) (j := 4) hcl41 hcc41 (show 5 ≤ 5 from by decide) (x' := (⟨(rd_T34 x480001_2 x41_2).f0, (rd_T34 x480001_2 x41_2).f1, (rd_T34 x480001_2 x41_2).f2, (rd_T34 x480001_2 x41_2).f3, wrap64 (a5 + a4)⟩ : S34)) (k34_mkM _ _ _ (⟨(rd_T34 x480001_2 x41_2).f0, (rd_T34 x480001_2 x41_2).f1, (rd_T34 x480001_2 x41_2).f2, (rd_T34 x480001_2 x41_2).f3, wrap64 (a5 + a4)⟩ : S34) ) (fun _ hk => hk); have hx41_4 := hcc41 4 _ rfl; (try simp only [show (k34).sz = 5 from rfl, Nat.mul_one, Nat.add_zero] at hx41_4); have hf41_4 := hfr41 4; (try simp only [show (k34).sz = 5 from rfl, Nat.mul_one, Nat.add_zero] at hf41_4); clear hcl41 hcc41 hfr41 hM41) | ((with_reducible refine gate_store (t := 3) (p := 63) rfl ?_); refine store_event (t := 3) (p := 63) (v := ?vo_w42) (w1 := (w37.setCell ⟨go31, (x41_2 : Int).toNat * 5 + 4, none⟩ (.int .i64 (wrap64 (a5 + a4))))) ?hg ?ho ?hn ?hr ?_; (case ho => rfl); (case hg => rfl); (case hn => rfl); (case hr => first | (go_simp; done) | (go_simp; rfl)); intro w42 hw; have hg : w37.grownBy w42 (some go31) := (by rw [hw]; exact HP41.2); have hp_ : Kd.R k34 34 w42 w.heap.size (fun k_ => (w.heap.size ≤ k_) ∧ k_ ≠ gb488) (.slice (some ⟨go31, 0, none⟩) x480001_2.length co32) y489 := (by rw [hw, Ny489.out]; exact HP41.1); clear HP41; have n0_ := Aside0.mk (hp_); have n1_ := Aside0.mk (Kd.V_afterv (v := (.slice (some ⟨go31, 0, none⟩) x480001_2.length co32)) (v1 := (.slice (some ⟨go31, 0, none⟩) x480001_2.length co32)) (ok := (fun k_ => (P0_2_ k_ ∨ w.heap.size ≤ k_) ∧ k_ ≠ gb479 ∧ k_ ≠ gb480 ∧ k_ ≠ gb488)) (by (with_reducible repeat (first | apply Kd.V_alloc | apply Kd.V_drewN | apply Kd.V_drew)); exact Kd.V_mono HO_480002.out (fun _ hk => ⟨⟨hk.1, ⟨hk.2.2.1, ⟨hk.2.2.2.1, hk.2.2.2.2⟩⟩⟩, hk.2.1⟩)) hg (.inl rfl)); have n2_ := Aside0.mk (blk_grown (g := gb479) (o := .cells #[.int .i64 a0_0, .slice (some ⟨go31, 0, none⟩) x480001_2.length co32, .slice A0_2 l0_2.length c0_2] 27 (0, 0)) (zK BK479.out) hg (Kd.R_ne HO_480001.out BK479.out (by decide))); have n3_ := Aside0.mk (blk_grown (g := gb480) (o := .cells #[.int .i64 0, .slice none 0 0, .slice none 0 0] 27 (0, 0)) (zK BK480.out) hg (Kd.R_ne HO_480001.out BK480.out (by decide))); have n4_ := Aside0.mk (blk_grown (g := gb488) (o := .cells #[.int .i64 ((rd_T34 x480001_2 x41_2).f0), .string ((rd_T34 x480001_2 x41_2).f1), .bool ((rd_T34 x480001_2 x41_2).f2), .int .i64 ((rd_T34 x480001_2 x41_2).f3), .int .i64 ((rd_T34 x480001_2 x41_2).f4)] 34 (0, 0)) (zK BK488.out) hg (Kd.R_away HO_480001.out (fun _ hk => hk.2))); have n5_ := Aside0.mk ((by rw [hw]; exact below_set (HB.out) GB31.out : Below w.heap.size w w42)); revert n0_ n1_ n2_ n3_ n4_ n5_; clear HO_480001 HO_480002 BK479 BK480 BK488 HB; intro HO_480001 HO_480002 BK479 BK480 BK488 HB; clear hg hw hp_))
            rw [hu39.out]
            go_roundg k2
            case measure => have := HJ6.out; have := HK2.out; omega
            case rel => exact ⟨(wrap64 (x41_2 + 1)), (y489), (.slice (some ⟨go31, 0, none⟩) x480001_2.length co32), hu39, zS, H', ⟨by have := HJ6.out; have := HK2.out; omega⟩, ⟨by (with_reducible repeat (first | apply Kd.R_alloc | apply Kd.R_drewN | apply Kd.R_drew)); exact Kd.R_mono HO_480001.out (fun _ hk => hk.1)⟩, ⟨by (with_reducible repeat (first | apply Kd.V_alloc | apply Kd.V_drewN | apply Kd.V_drew)); exact Kd.V_mono HO_480002.out (fun _ hk => ⟨hk.1.1, ⟨hk.2, ⟨hk.1.2.1, hk.1.2.2.1⟩⟩⟩)⟩, ⟨zK BK479.out⟩, ⟨zK BK480.out⟩, ⟨zL HB.out⟩⟩
           ·rw [if_neg c30] at H
            have c30b0 : (((rd_T34 x480001_2 x41_2).f1).toList == a2.toList) = false := beq_eq_false_iff_ne.mpr c30
            have c30b1 : (((rd_T34 x480001_2 x41_2).f1).toList != a2.toList) = true := bne_iff_ne.mpr c30
            have H' := Aside0.mk H
            clear H
            obtain ⟨Ao43, co43, eo43⟩ := Kd.R_slice HO_480001.out
            subst eo43
            rw [← hu39.out]
            have p487 : 0 ≤ (x41_2 : Int) := zD
            have q487 : x41_2 < (x480001_2.length : Int) := zD
            obtain ⟨ad487, e487, hx487_0, hx487_1, hx487_2, hx487_3, hx487_4⟩ := at_T34 (Kd.R_reads' HO_480001.out).2.2 x41_2 p487 q487
            cases e487
            replace p487 := eq_true p487
            replace q487 := eq_true q487
            go_wp2_with (first | ((with_reducible refine gate_dst (N := 15) rfl ?_); refine box_event ?hg (N := 15) ?hd (cs := #[.int .i64 0, .string (⟨#[]⟩ : ByteArray), .bool false, .int .i64 0, .int .i64 0]) (t := 34) ?hr ?_; (case hd => rfl); (case hg => rfl); (case hr => first | (go_simp; done) | (go_simp; rfl)); intro gb488 hg w44 hbox hb; have n0_ := Aside0.mk (Kd.R_below (Kd.R_elderB (zR HO_480001.out) gb488 (Nat.le_of_eq hg.symm)) hb); have n1_ := Aside0.mk (Kd.V_below (Kd.V_elderB (zV HO_480002.out) gb488 (Nat.le_of_eq hg.symm)) hb); have n2_ := Aside0.mk (blk_below (g := gb479) (o := .cells #[.int .i64 a0_0, .slice (some ad487) x480001_2.length co43, .slice A0_2 l0_2.length c0_2] 27 (0, 0)) (zK BK479.out) hb); have n3_ := Aside0.mk (blk_below (g := gb480) (o := .cells #[.int .i64 0, .slice none 0 0, .slice none 0 0] 27 (0, 0)) (zK BK480.out) hb); have n4_ := Aside0.mk (below_step (zL HB.out) hb); have n5_ := Aside0.mk (hbox); have n6_ := Aside0.mk (zG hg (zL HB.out)); have n7_ := Aside0.mk (zG hg (zL HB.out)); have n8_ := Aside0.mk (zN (g := gb479) (o := .cells #[.int .i64 a0_0, .slice (some ad487) x480001_2.length co43, .slice A0_2 l0_2.length c0_2] 27 (0, 0)) hg (zK BK479.out)); have n9_ := Aside0.mk (zO (g := gb479) (o := .cells #[.int .i64 a0_0, .slice (some ad487) x480001_2.length co43, .slice A0_2 l0_2.length c0_2] 27 (0, 0)) hg (zK BK479.out)); have n10_ := Aside0.mk (zN (g := gb480) (o := .cells #[.int .i64 0, .slice none 0 0, .slice none 0 0] 27 (0, 0)) hg (zK BK480.out)); have n11_ := Aside0.mk (zO (g := gb480) (o := .cells #[.int .i64 0, .slice none 0 0, .slice none 0 0] 27 (0, 0)) hg (zK BK480.out)); revert n0_ n1_ n2_ n3_ n4_ n5_ n6_ n7_ n8_ n9_ n10_ n11_; clear HO_480001 HO_480002 BK479 BK480 HB; intro HO_480001 HO_480002 BK479 BK480 HB BK488 GW488 GE488 NB479_488 NB488_479 NB480_488 NB488_480; clear hb hbox hg; have hnb45 := NB488_479.out; have hnc45 := NB479_488.out; have hnb46 := NB488_480.out; have hnc46 := NB480_488.out; obtain ⟨hcz47_0, hcz47_1, hcz47_2, hcz47_3, hcz47_4, hfz47_0, hfz47_1, hfz47_2, hfz47_3, hfz47_4⟩ := zC5 BK488.out))
            rw [hu39.out]
            go_roundg k2
            case measure => have := HJ6.out; have := HK2.out; omega
            case rel => exact ⟨(wrap64 (x41_2 + 1)), (x480001_2), (.slice (some ad487) x480001_2.length co43), hu39, zS, H', ⟨by have := HJ6.out; have := HK2.out; omega⟩, ⟨by (with_reducible repeat (first | apply Kd.R_alloc | apply Kd.R_drewN | apply Kd.R_drew)); exact Kd.R_mono (zNM HO_480001.out (g := gb488) (fun _ hk => hk.2)) (fun _ hk => hk.1.1)⟩, ⟨by (with_reducible repeat (first | apply Kd.V_alloc | apply Kd.V_drewN | apply Kd.V_drew)); exact Kd.V_mono (zNV HO_480002.out (g := gb488) (fun _ hk => hk.2)) (fun _ hk => ⟨hk.1.1.1, ⟨hk.1.1.2.1, ⟨hk.1.1.2.2.1, hk.1.1.2.2.2⟩⟩⟩)⟩, ⟨zK BK479.out⟩, ⟨zK BK480.out⟩, ⟨zL HB.out⟩⟩
          ·rw [if_neg c29] at H
           have c29b0 : (((rd_T34 x480001_2 x41_2).f0) == a1) = false := beq_eq_false_iff_ne.mpr c29
           have c29b1 : (((rd_T34 x480001_2 x41_2).f0) != a1) = true := bne_iff_ne.mpr c29
           have H' := Aside0.mk H
           clear H
           obtain ⟨Ao48, co48, eo48⟩ := Kd.R_slice HO_480001.out
           subst eo48
           rw [← hu39.out]
           have p487 : 0 ≤ (x41_2 : Int) := zD
           have q487 : x41_2 < (x480001_2.length : Int) := zD
           obtain ⟨ad487, e487, hx487_0, hx487_1, hx487_2, hx487_3, hx487_4⟩ := at_T34 (Kd.R_reads' HO_480001.out).2.2 x41_2 p487 q487
           cases e487
           replace p487 := eq_true p487
           replace q487 := eq_true q487
           go_wp2_with (first | ((with_reducible refine gate_dst (N := 15) rfl ?_); refine box_event ?hg (N := 15) ?hd (cs := #[.int .i64 0, .string (⟨#[]⟩ : ByteArray), .bool false, .int .i64 0, .int .i64 0]) (t := 34) ?hr ?_; (case hd => rfl); (case hg => rfl); (case hr => first | (go_simp; done) | (go_simp; rfl)); intro gb488 hg w49 hbox hb; have n0_ := Aside0.mk (Kd.R_below (Kd.R_elderB (zR HO_480001.out) gb488 (Nat.le_of_eq hg.symm)) hb); have n1_ := Aside0.mk (Kd.V_below (Kd.V_elderB (zV HO_480002.out) gb488 (Nat.le_of_eq hg.symm)) hb); have n2_ := Aside0.mk (blk_below (g := gb479) (o := .cells #[.int .i64 a0_0, .slice (some ad487) x480001_2.length co48, .slice A0_2 l0_2.length c0_2] 27 (0, 0)) (zK BK479.out) hb); have n3_ := Aside0.mk (blk_below (g := gb480) (o := .cells #[.int .i64 0, .slice none 0 0, .slice none 0 0] 27 (0, 0)) (zK BK480.out) hb); have n4_ := Aside0.mk (below_step (zL HB.out) hb); have n5_ := Aside0.mk (hbox); have n6_ := Aside0.mk (zG hg (zL HB.out)); have n7_ := Aside0.mk (zG hg (zL HB.out)); have n8_ := Aside0.mk (zN (g := gb479) (o := .cells #[.int .i64 a0_0, .slice (some ad487) x480001_2.length co48, .slice A0_2 l0_2.length c0_2] 27 (0, 0)) hg (zK BK479.out)); have n9_ := Aside0.mk (zO (g := gb479) (o := .cells #[.int .i64 a0_0, .slice (some ad487) x480001_2.length co48, .slice A0_2 l0_2.length c0_2] 27 (0, 0)) hg (zK BK479.out)); have n10_ := Aside0.mk (zN (g := gb480) (o := .cells #[.int .i64 0, .slice none 0 0, .slice none 0 0] 27 (0, 0)) hg (zK BK480.out)); have n11_ := Aside0.mk (zO (g := gb480) (o := .cells #[.int .i64 0, .slice none 0 0, .slice none 0 0] 27 (0, 0)) hg (zK BK480.out)); revert n0_ n1_ n2_ n3_ n4_ n5_ n6_ n7_ n8_ n9_ n10_ n11_; clear HO_480001 HO_480002 BK479 BK480 HB; intro HO_480001 HO_480002 BK479 BK480 HB BK488 GW488 GE488 NB479_488 NB488_479 NB480_488 NB488_480; clear hb hbox hg; have hnb50 := NB488_479.out; have hnc50 := NB479_488.out; have hnb51 := NB488_480.out; have hnc51 := NB480_488.out; obtain ⟨hcz52_0, hcz52_1, hcz52_2, hcz52_3, hcz52_4, hfz52_0, hfz52_1, hfz52_2, hfz52_3, hfz52_4⟩ := zC5 BK488.out))
           rw [hu39.out]
           go_roundg k2
           case measure => have := HJ6.out; have := HK2.out; omega
           case rel => exact ⟨(wrap64 (x41_2 + 1)), (x480001_2), (.slice (some ad487) x480001_2.length co48), hu39, zS, H', ⟨by have := HJ6.out; have := HK2.out; omega⟩, ⟨by (with_reducible repeat (first | apply Kd.R_alloc | apply Kd.R_drewN | apply Kd.R_drew)); exact Kd.R_mono (zNM HO_480001.out (g := gb488) (fun _ hk => hk.2)) (fun _ hk => hk.1.1)⟩, ⟨by (with_reducible repeat (first | apply Kd.V_alloc | apply Kd.V_drewN | apply Kd.V_drew)); exact Kd.V_mono (zNV HO_480002.out (g := gb488) (fun _ hk => hk.2)) (fun _ hk => ⟨hk.1.1.1, ⟨hk.1.1.2.1, ⟨hk.1.1.2.2.1, hk.1.1.2.2.2⟩⟩⟩)⟩, ⟨zK BK479.out⟩, ⟨zK BK480.out⟩, ⟨zL HB.out⟩⟩
         ·rw [if_neg c28] at H
          exact absurd H (by simp)
        ·rw [if_neg c27] at H
         exact absurd H (by simp)
       ·rw [if_neg c26] at H
        have c26b0 : decide (x41_2 < (t484.length : Int)) = false := decide_eq_false c26
        clear c26
        simp only [Option.some.injEq, Prod.mk.injEq] at H
        obtain ⟨rfl, rfl, rfl, rfl⟩ := H
        have hnb53 := NB479_480.out
        have hnc53 := NB480_479.out
        obtain ⟨hcz54_0, hcz54_1, hcz54_2, hfz54_0, hfz54_1, hfz54_2⟩ := zC3 BK479.out
        obtain ⟨hcz55_0, hcz55_1, hcz55_2, hfz55_0, hfz55_1, hfz55_2⟩ := zC3 BK480.out
        obtain ⟨Ao56, co56, eo56⟩ := Kd.R_slice HO_480001.out
        subst eo56
        rw [← hu39.out]
        go_wp2
        refine bodyPost_ret (results_ct rfl _ _ gb480 27 #[.int .i64 a0_0, .slice Ao56 x480001_2.length co56, .slice A0_2 l0_2.length c0_2] (0, 0) _ rfl (zP3 BK480.out) Tryd.underlying27 rfl (by kernel_rfl)) rfl ?_
        exact ⟨_, _, zE, by (with_reducible repeat (first | apply Kd.R_alloc | apply Kd.R_drewN | apply Kd.R_drew)); exact Kd.R_mono (zNT HO_480001.out BK480.out) (fun _ hk => hk.1), by (with_reducible repeat (first | apply Kd.V_alloc | apply Kd.V_drewN | apply Kd.V_drew)); exact Kd.V_mono (zNV HO_480002.out (g := gb480) (fun _ hk => hk.2.2.2)) (fun _ hk => ⟨hk.1.1, hk.1.2.1⟩), zL HB.out⟩
    ·replace c17 := Bool.eq_false_iff.mpr c17
     subst c17
     have H1 : (some (0, ([] : List (S34)), ([] : List (S32)), 8)) = some (r1, r2, r3, r4) := by rw [if_neg (show ¬ (false = true) by decide)] at H; exact H
     clear H
     have H := H1
     clear H1
     simp only [Option.some.injEq, Prod.mk.injEq] at H
     obtain ⟨rfl, rfl, rfl, rfl⟩ := H
     have hnb57 := NB479_480.out
     have hnc57 := NB480_479.out
     obtain ⟨hcz58_0, hcz58_1, hcz58_2, hfz58_0, hfz58_1, hfz58_2⟩ := zC3 BK479.out
     go_wp2_with (first | ((with_reducible refine gate_callee (f := 23) rfl ?_); refine goesL_ (some 31) rfl rfl Tryd.func23 (by kernel_rfl) rfl #[.agg #[.int .i64 a0_0, .slice A0_1 l0_1.length c0_1, .slice A0_2 l0_2.length c0_2], .int .i64 a1, .string a2, .int .i64 a3] rfl zA ?_; (with_reducible refine (lease_Valid.calls kj6 a0_0 _ _ l0_1 _ _ l0_2 a1 a2 a3 false _ ?side1 ?side2 ?side3 ?side4 A16.out).mono ?_); (case side1 => repeat (first | exact (Kd.C_below HR0_1.out HB.out) | (with_reducible refine Kd.C_alloc ?_ _) | (with_reducible refine Kd.C_drewN ?_ _) | (with_reducible refine Kd.C_drew ?_))); (case side2 => exact HC0_1.out); (case side3 => repeat (first | exact (Kd.V_reads' HO_480002.out).2.2 | (with_reducible refine Kd.C_alloc ?_ _) | (with_reducible refine Kd.C_drewN ?_ _) | (with_reducible refine Kd.C_drew ?_))); (case side4 => exact (Kd.V_reads' HO_480002.out).2.1); rintro e w59 ⟨rfl, hb⟩; refine ⟨_, rfl, ?_⟩; have n0_ := Aside0.mk (Kd.V_below (zV HO_480002.out) hb); have n1_ := Aside0.mk (blk_below (g := gb479) (o := .cells #[.int .i64 a0_0, .slice A0_1 l0_1.length c0_1, .slice A0_2 l0_2.length c0_2] 27 (0, 0)) (zK BK479.out) hb); have n2_ := Aside0.mk (blk_below (g := gb480) (o := .cells #[.int .i64 0, .slice none 0 0, .slice none 0 0] 27 (0, 0)) (zK BK480.out) hb); have n3_ := Aside0.mk (below_step (zL HB.out) hb); revert n0_ n1_ n2_ n3_; clear HO_480002 BK479 BK480 HB; intro HO_480002 BK479 BK480 HB; (try clear hb); (try clear hb2); (try clear hk); (try clear hi); obtain ⟨hcz60_0, hcz60_1, hcz60_2, hfz60_0, hfz60_1, hfz60_2⟩ := zC3 BK480.out))
     refine bodyPost_ret (results_ct rfl _ _ gb480 27 #[.int .i64 0, .slice none 0 0, .slice none 0 0] (0, 0) _ rfl (zP3 BK480.out) Tryd.underlying27 rfl (by kernel_rfl)) rfl ?_
     exact ⟨_, _, zE, by first | exact Kd.R_nil _ _ _ _ _ | exact Kd.N_nil _ _ _ _ _ | exact Kd.V_nil _ _ _ _ _ | exact Kd.Q_nil _ _ _ _ _ | exact Kd.S_nil _ _ _ _ _, Kd.V_nil _ _ _ _ _, zL HB.out⟩

end Go.Proofs.YtgcghjkaomgloaaDoor.PLease
