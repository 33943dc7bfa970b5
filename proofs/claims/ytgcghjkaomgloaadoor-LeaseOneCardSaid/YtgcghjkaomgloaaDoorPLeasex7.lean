-- Written by a program of this session (wip/tools/ext.py, over the kit's printer); not trusted: Lean checks it.
import Derived.Test.YtgcghjkaomgloaaDoorPLeasex0
import Derived.Test.YtgcghjkaomgloaaDoorPLeasex2
import Derived.Test.YtgcghjkaomgloaaDoorPLeasex4
import Derived.Test.YtgcghjkaomgloaaDoorPLeasex6
namespace Go.Proofs.YtgcghjkaomgloaaDoor.PLease
open Go.RowKit Go.Proofs.YtgcghjkaomgloaaDoorW.PrintWords Go.Proofs.YtgcghjkaomgloaaDoorW.PrintLast Go.Proofs.YtgcghjkaomgloaaDoorW.PrintMore
attribute [local go_sem] max2_int min2_int max_two min_two max_three min_three max_four min_four   -- for this text's walks alone
set_option linter.unusedVariables false
set_option linter.unusedSimpArgs false

/-! ### lease_Lease_31_at32: function 31 -/
def lease_Lease_31_at32.l0 : Nat → List (S34) → List (S34) → List (S34) → Int → Int → Int → Option ((List (S34)) × (List (S34)))
 | 0, _, _, _, _, _, _ => none
 | k + 1, x4, x5, x8, x9, x10, x450000 => if x10 < x9 then (if 0 ≤ x10 then (if x10 < (x8.length : Int) then ((lease_Tick_1.f ((rd_T34 x8 x10).f0) ((rd_T34 x8 x10).f1) ((rd_T34 x8 x10).f2) ((rd_T34 x8 x10).f3) ((rd_T34 x8 x10).f4) x450000).bind fun t452 => (if t452 = true then (if x4.length < 2932031007402 then (lease_Lease_31_at32.l0 k (x4 ++ [(⟨(rd_T34 x8 x10).f0, (rd_T34 x8 x10).f1, (rd_T34 x8 x10).f2, (rd_T34 x8 x10).f3, (rd_T34 x8 x10).f4⟩ : S34)]) x5 x8 x9 (wrap64 (x10 + 1)) x450000) else (none)) else (if x5.length < 2932031007402 then (lease_Lease_31_at32.l0 k x4 (x5 ++ [(⟨(rd_T34 x8 x10).f0, (rd_T34 x8 x10).f1, (rd_T34 x8 x10).f2, (rd_T34 x8 x10).f3, (rd_T34 x8 x10).f4⟩ : S34)]) x8 x9 (wrap64 (x10 + 1)) x450000) else (none)))) else (none)) else (none)) else (some (x4, x5))
def lease_Lease_31_at32.f (k : Nat) (l0 : List (S34)) (a1_0 : Int) : Option ((List (S34)) × (List (S34))) := lease_Lease_31_at32.l0 k ([] : List (S34)) ([] : List (S34)) l0 (l0.length : Int) 0 a1_0
theorem lease_Lease_31_at32.mono_l : ∀ k, (∀ y0 y1 y2 y3 y4 y5, LeO (lease_Lease_31_at32.l0 k y0 y1 y2 y3 y4 y5) (lease_Lease_31_at32.l0 (k + 1) y0 y1 y2 y3 y4 y5))
 | 0 => fun _ _ _ _ _ _ r h => by simp [lease_Lease_31_at32.l0] at h
 | k + 1 => by
  have ih0 := lease_Lease_31_at32.mono_l k
  ·intro y0 y1 y2 y3 y4 y5
   unfold lease_Lease_31_at32.l0
   repeat' first
   | (with_reducible exact ih0 _ _ _ _ _ _)
   | (with_reducible exact LeO.refl _)
   | (with_reducible exact LeO.none _)
   | (with_reducible refine LeO.ite ?_ ?_)
   | (with_reducible refine LeO.bind ?_ (fun _ => ?_))
   | exact ih0 _ _ _ _ _ _
   | exact LeO.none _
   | refine LeO.ite ?_ ?_
   | refine LeO.bind ?_ (fun _ => ?_)
theorem lease_Lease_31_at32.mono : ∀ a0 a1 k, LeO (lease_Lease_31_at32.f k a0 a1) (lease_Lease_31_at32.f (k + 1) a0 a1) := by
 intro a0 a1 k
 have ih0 := lease_Lease_31_at32.mono_l k
 unfold lease_Lease_31_at32.f
 repeat' first
   | (with_reducible exact ih0 _ _ _ _ _ _)
   | (with_reducible exact LeO.refl _)
   | (with_reducible exact LeO.none _)
   | (with_reducible refine LeO.ite ?_ ?_)
   | (with_reducible refine LeO.bind ?_ (fun _ => ?_))
   | exact ih0 _ _ _ _ _ _
   | exact LeO.none _
   | refine LeO.ite ?_ ?_
   | refine LeO.bind ?_ (fun _ => ?_)
set_option maxHeartbeats 8000000 in
set_option maxRecDepth 100000 in
theorem lease_Lease_31_at32.calls (k : Nat) (A0 : Option Addr) (c0 : Nat) (l0 : List (S34)) (g1_0 : Nat) (a1_0 : Int) (r1 : List (S34)) (r2 : List (S34)) (w : World) (hr0 : Kd.C k34 w A0 l0.length l0) (hc0 : l0.length ≤ c0) (hb1_0 : w.heap[g1_0]? = some (.cells #[.int .i64 a1_0] 3 (0, 0))) (h : lease_Lease_31_at32.f k l0 a1_0 = some (r1, r2)) :
  Calls Tryd.prog 31 #[.slice A0 l0.length c0, .func (.func 32) #[] #[.pointer (some ⟨g1_0, 0, none⟩)]] w fun e w' => ∃ v0_ v1_ : Value, e = .returned (.tuple #[v0_, v1_]) ∧ Kd.R k34 34 w' w.heap.size (fun k_ => some k_ ≠ (v1_ : Value).ownBlock) v0_ r1 ∧ Kd.R k34 34 w' w.heap.size (fun k_ => some k_ ≠ (v0_ : Value).ownBlock) v1_ r2 ∧ Below w.heap.size w w' := by
 have hu34 := Tryd.underlying34
 have HR0 := Aside0.mk hr0
 have HC0 := Aside0.mk hc0
 clear hr0 hc0
 have BK449 := Aside0.mk hb1_0
 clear hb1_0
 have HB := Aside0.mk (Below.refl w.heap.size w)
 have H : (lease_Lease_31_at32.l0 k ([] : List (S34)) ([] : List (S34)) l0 (l0.length : Int) 0 a1_0) = some (r1, r2) := h
 clear h
 have H' := Aside0.mk H
 clear H
 go_enter Tryd.func31, Tryd.ntmps31
 go_wp2
 go_loopg [4, 5, 10] k (fun kq v4 v5 v10 w' => ∃ (x4_1 : List (S34)) (x5_1 : List (S34)) (x10_1 : Int), v10 = .int .i64 x10_1 ∧ Aside0 (lease_Lease_31_at32.l0 kq x4_1 x5_1 l0 (l0.length : Int) x10_1 a1_0 = some (r1, r2)) ∧ Aside0 (kq ≤ k) ∧ Aside0 (Kd.R k34 34 w' w.heap.size (fun k_ => some k_ ≠ (v5 : Value).ownBlock) v4 x4_1) ∧ Aside0 (Kd.R k34 34 w' w.heap.size (fun k_ => some k_ ≠ (v4 : Value).ownBlock) v5 x5_1) ∧ Aside0 (w'.heap[g1_0]? = some (.cells #[.int .i64 a1_0] 3 (0, 0))) ∧ Aside0 (Below w.heap.size w w'))
 case atStart => exact ⟨(([] : List (S34))), (([] : List (S34))), (0), zS, H', ⟨Nat.le_refl _⟩, ⟨by first | exact Kd.R_nil _ _ _ _ _ | exact Kd.N_nil _ _ _ _ _ | exact Kd.V_nil _ _ _ _ _ | exact Kd.Q_nil _ _ _ _ _ | exact Kd.S_nil _ _ _ _ _⟩, ⟨by first | exact Kd.R_nil _ _ _ _ _ | exact Kd.N_nil _ _ _ _ _ | exact Kd.V_nil _ _ _ _ _ | exact Kd.Q_nil _ _ _ _ _ | exact Kd.S_nil _ _ _ _ _⟩, ⟨zK BK449.out⟩, ⟨zL HB.out⟩⟩
 case round =>
  clear H'
  try clear p2
  obtain ⟨x4_1, x5_1, x10_1, rfl, HA, HK1, HO_4, HO_5, BK449, HB⟩ := hrel
  cases gk with
  | zero => exact absurd HA.out (by simp [lease_Lease_31_at32.l0])
  | succ k1 =>
   have H := HA.out
   clear HA
   simp only [lease_Lease_31_at32.l0] at H
   by_cases c3 : x10_1 < (l0.length : Int)
   ·rw [if_pos c3] at H
    have c3b0 : decide (x10_1 < (l0.length : Int)) = true := decide_eq_true c3
    clear c3
    by_cases c4 : 0 ≤ x10_1
    ·rw [if_pos c4] at H
     have c4b0 : decide (0 ≤ x10_1) = true := decide_eq_true c4
     clear c4
     by_cases c5 : x10_1 < (l0.length : Int)
     ·rw [if_pos c5] at H
      have c5b0 : decide (x10_1 < (l0.length : Int)) = true := decide_eq_true c5
      clear c5
      replace H := Option.bind_eq_some_iff.mp H
      obtain ⟨t452, A60, H⟩ := H
      replace H : (if t452 = true then (if x4_1.length < 2932031007402 then (lease_Lease_31_at32.l0 k1 (x4_1 ++ [(⟨(rd_T34 l0 x10_1).f0, (rd_T34 l0 x10_1).f1, (rd_T34 l0 x10_1).f2, (rd_T34 l0 x10_1).f3, (rd_T34 l0 x10_1).f4⟩ : S34)]) x5_1 l0 (l0.length : Int) (wrap64 (x10_1 + 1)) a1_0) else (none)) else (if x5_1.length < 2932031007402 then (lease_Lease_31_at32.l0 k1 x4_1 (x5_1 ++ [(⟨(rd_T34 l0 x10_1).f0, (rd_T34 l0 x10_1).f1, (rd_T34 l0 x10_1).f2, (rd_T34 l0 x10_1).f3, (rd_T34 l0 x10_1).f4⟩ : S34)]) l0 (l0.length : Int) (wrap64 (x10_1 + 1)) a1_0) else (none))) = some (r1, r2) := H
      have A6 := Aside0.mk A60
      clear A60
      by_cases c7 : t452 = true
      ·subst c7
       have H1 : (if x4_1.length < 2932031007402 then (lease_Lease_31_at32.l0 k1 (x4_1 ++ [(⟨(rd_T34 l0 x10_1).f0, (rd_T34 l0 x10_1).f1, (rd_T34 l0 x10_1).f2, (rd_T34 l0 x10_1).f3, (rd_T34 l0 x10_1).f4⟩ : S34)]) x5_1 l0 (l0.length : Int) (wrap64 (x10_1 + 1)) a1_0) else (none)) = some (r1, r2) := by rw [if_pos rfl] at H; exact H
       clear H
       have H := H1
       clear H1
       by_cases c8 : x4_1.length < 2932031007402
       ·rw [if_pos c8] at H
        have LMc8 := Aside0.mk c8
        clear c8
        obtain ⟨y453, hy453⟩ : ∃ y_ : List (S34), y_ = (x4_1 ++ [(⟨(rd_T34 l0 x10_1).f0, (rd_T34 l0 x10_1).f1, (rd_T34 l0 x10_1).f2, (rd_T34 l0 x10_1).f3, (rd_T34 l0 x10_1).f4⟩ : S34)]) := ⟨_, rfl⟩
        replace H : (lease_Lease_31_at32.l0 k1 y453 x5_1 l0 (l0.length : Int) (wrap64 (x10_1 + 1)) a1_0) = some (r1, r2) := zH hy453 H
        have Ny453 := Aside0.mk hy453
        clear hy453
        have H' := Aside0.mk H
        clear H
        have p450 : 0 ≤ (x10_1 : Int) := zD
        have q450 : x10_1 < (l0.length : Int) := zD
        obtain ⟨ad450, e450, hx450_0, hx450_1, hx450_2, hx450_3, hx450_4⟩ := at_T34 HR0.out x10_1 p450 q450
        cases e450
        replace hx450_0 := zX HB.out hx450_0
        replace hx450_1 := zX HB.out hx450_1
        replace hx450_2 := zX HB.out hx450_2
        replace hx450_3 := zX HB.out hx450_3
        replace hx450_4 := zX HB.out hx450_4
        replace p450 := eq_true p450
        replace q450 := eq_true q450
        go_wp2_with (first | ((with_reducible refine gate_dst (N := 7) rfl ?_); refine box_event ?hg (N := 7) ?hd (cs := #[.int .i64 0, .string (⟨#[]⟩ : ByteArray), .bool false, .int .i64 0, .int .i64 0]) (t := 34) ?hr ?_; (case hd => rfl); (case hg => rfl); (case hr => first | (go_simp; done) | (go_simp; rfl)); intro gb451 hg w9 hbox hb; have n0_ := Aside0.mk (Kd.R_below (Kd.R_elderB (zR HO_4.out) gb451 (Nat.le_of_eq hg.symm)) hb); have n1_ := Aside0.mk (Kd.R_below (Kd.R_elderB (zR HO_5.out) gb451 (Nat.le_of_eq hg.symm)) hb); have n2_ := Aside0.mk (blk_below (g := g1_0) (o := .cells #[.int .i64 a1_0] 3 (0, 0)) (zK BK449.out) hb); have n3_ := Aside0.mk (below_step (zL HB.out) hb); have n4_ := Aside0.mk (hbox); have n5_ := Aside0.mk (zG hg (zL HB.out)); have n6_ := Aside0.mk (zG hg (zL HB.out)); have n7_ := Aside0.mk (zN (g := g1_0) (o := .cells #[.int .i64 a1_0] 3 (0, 0)) hg (zK BK449.out)); have n8_ := Aside0.mk (zO (g := g1_0) (o := .cells #[.int .i64 a1_0] 3 (0, 0)) hg (zK BK449.out)); revert n0_ n1_ n2_ n3_ n4_ n5_ n6_ n7_ n8_; clear HO_4 HO_5 BK449 HB; intro HO_4 HO_5 BK449 HB BK451 GW451 GE451 NB449_451 NB451_449; clear hb hbox hg; have hnb10 := NB451_449.out; have hnc10 := NB449_451.out; obtain ⟨hcz11_0, hcz11_1, hcz11_2, hcz11_3, hcz11_4, hfz11_0, hfz11_1, hfz11_2, hfz11_3, hfz11_4⟩ := zC5 BK451.out) | (go_at_call 32; (with_reducible refine (lease_Tick_1.calls ((rd_T34 l0 x10_1).f0) ((rd_T34 l0 x10_1).f1) ((rd_T34 l0 x10_1).f2) ((rd_T34 l0 x10_1).f3) ((rd_T34 l0 x10_1).f4) g1_0 a1_0 true _ ?side1 A6.out).mono ?_); (case side1 => exact zK BK449.out); rintro e w12 ⟨rfl, hb⟩; have n0_ := Aside0.mk (Kd.R_below (zM HO_4.out (g := gb451) (fun _ hk => hk.2)) hb); have n1_ := Aside0.mk (Kd.R_below (zM HO_5.out (g := gb451) (fun _ hk => hk.2)) hb); have n2_ := Aside0.mk (blk_below (g := g1_0) (o := .cells #[.int .i64 a1_0] 3 (0, 0)) (zK BK449.out) hb); have n3_ := Aside0.mk (blk_below (g := gb451) (o := .cells #[.int .i64 ((rd_T34 l0 x10_1).f0), .string ((rd_T34 l0 x10_1).f1), .bool ((rd_T34 l0 x10_1).f2), .int .i64 ((rd_T34 l0 x10_1).f3), .int .i64 ((rd_T34 l0 x10_1).f4)] 34 (0, 0)) (zP5 BK451.out) hb); have n4_ := Aside0.mk (below_step (zL HB.out) hb); revert n0_ n1_ n2_ n3_ n4_; clear HO_4 HO_5 BK449 BK451 HB; intro HO_4 HO_5 BK449 BK451 HB; (try clear hb); (try clear hb2); (try clear hk); (try clear hi); obtain ⟨hcz13_0, hcz13_1, hcz13_2, hcz13_3, hcz13_4, hfz13_0, hfz13_1, hfz13_2, hfz13_3, hfz13_4⟩ := zC5 BK451.out) | ((with_reducible refine gate_builtin (b := .append) (xs := #[.tmp 17, .tmp 19]) rfl ?_); at_builtin; refine Kd.R_append k34 (w0 := w) w.heap.size rfl (.tmp 17) (.tmp 19) 24 34 (.agg #[(.int .i64 0), (.string ⟨#[]⟩), (.bool false), (.int .i64 0), (.int .i64 0)]) 48 rfl Tryd.underlying24 info34 rfl (by decide) (by omega) u4 x4_1 (⟨(rd_T34 l0 x10_1).f0, (rd_T34 l0 x10_1).f1, (rd_T34 l0 x10_1).f2, (rd_T34 l0 x10_1).f3, (rd_T34 l0 x10_1).f4⟩ : S34) [.int .i64 ((rd_T34 l0 x10_1).f0), .string ((rd_T34 l0 x10_1).f1), .bool ((rd_T34 l0 x10_1).f2), .int .i64 ((rd_T34 l0 x10_1).f3), .int .i64 ((rd_T34 l0 x10_1).f4)] (fun k_ => some k_ ≠ (u5 : Value).ownBlock ∧ k_ ≠ gb451) (fun _ => False) rfl rfl ?aP (fun _ hk => hk.elim) ?aF ?aO ?aB ?aS ?aL ?_; (case aP => exact k34_mkM _ _ _ (⟨(rd_T34 l0 x10_1).f0, (rd_T34 l0 x10_1).f1, (rd_T34 l0 x10_1).f2, (rd_T34 l0 x10_1).f3, (rd_T34 l0 x10_1).f4⟩ : S34)); (case aB => exact (zL HB.out)); (case aF => exact (fun k_ hk => ⟨Kd.fresh' (Kd.R_lt (zR HO_5.out)) k_ hk, Kd.freshB (g := gb451) (o := .cells #[.int .i64 ((rd_T34 l0 x10_1).f0), .string ((rd_T34 l0 x10_1).f1), .bool ((rd_T34 l0 x10_1).f2), .int .i64 ((rd_T34 l0 x10_1).f3), .int .i64 ((rd_T34 l0 x10_1).f4)] 34 (0, 0)) (zK BK451.out) k_ hk⟩)); (case aO => exact (zR HO_4.out)); (case aS => exact (below_size (zL HB.out))); (case aL => have := LMc8.out; omega); intro v454 w14 ho hb hg hat; rw [← Ny453.out] at ho; have n0_ := Aside0.mk (Kd.R_after (ok := (fun k_ => k_ ≠ gb451)) (by (with_reducible repeat (first | apply Kd.R_alloc | apply Kd.R_drewN | apply Kd.R_drew)); exact Kd.R_mono HO_5.out (fun _ hk => ⟨hk.2, hk.1⟩)) hg hat); have n1_ := Aside0.mk (blk_grown (g := g1_0) (o := .cells #[.int .i64 a1_0] 3 (0, 0)) (zK BK449.out) hg (Kd.R_ne HO_4.out BK449.out (by decide))); have n2_ := Aside0.mk (blk_grown (g := gb451) (o := .cells #[.int .i64 ((rd_T34 l0 x10_1).f0), .string ((rd_T34 l0 x10_1).f1), .bool ((rd_T34 l0 x10_1).f2), .int .i64 ((rd_T34 l0 x10_1).f3), .int .i64 ((rd_T34 l0 x10_1).f4)] 34 (0, 0)) (zK BK451.out) hg (Kd.R_away HO_4.out (fun _ hk => hk.2))); have n3_ := Aside0.mk (hb); have n4_ := Aside0.mk (ho); revert n0_ n1_ n2_ n3_ n4_; clear HO_5 BK449 BK451 HB HO_4; intro HO_5 BK449 BK451 HB HO455; clear ho hb hg hat))
        go_roundg k1
        case measure => have := HK1.out; omega
        case rel => exact ⟨(y453), (x5_1), (wrap64 (x10_1 + 1)), zS, H', ⟨by have := HK1.out; omega⟩, ⟨by (with_reducible repeat (first | apply Kd.R_alloc | apply Kd.R_drewN | apply Kd.R_drew)); exact Kd.R_mono HO455.out (fun _ hk => hk.1)⟩, ⟨by (with_reducible repeat (first | apply Kd.R_alloc | apply Kd.R_drewN | apply Kd.R_drew)); exact Kd.R_mono HO_5.out (fun _ hk => hk.2)⟩, ⟨zK BK449.out⟩, ⟨zL HB.out⟩⟩
       ·rw [if_neg c8] at H
        exact absurd H (by simp)
      ·replace c7 := Bool.eq_false_iff.mpr c7
       subst c7
       have H1 : (if x5_1.length < 2932031007402 then (lease_Lease_31_at32.l0 k1 x4_1 (x5_1 ++ [(⟨(rd_T34 l0 x10_1).f0, (rd_T34 l0 x10_1).f1, (rd_T34 l0 x10_1).f2, (rd_T34 l0 x10_1).f3, (rd_T34 l0 x10_1).f4⟩ : S34)]) l0 (l0.length : Int) (wrap64 (x10_1 + 1)) a1_0) else (none)) = some (r1, r2) := by rw [if_neg (show ¬ (false = true) by decide)] at H; exact H
       clear H
       have H := H1
       clear H1
       by_cases c15 : x5_1.length < 2932031007402
       ·rw [if_pos c15] at H
        have LMc15 := Aside0.mk c15
        clear c15
        obtain ⟨y456, hy456⟩ : ∃ y_ : List (S34), y_ = (x5_1 ++ [(⟨(rd_T34 l0 x10_1).f0, (rd_T34 l0 x10_1).f1, (rd_T34 l0 x10_1).f2, (rd_T34 l0 x10_1).f3, (rd_T34 l0 x10_1).f4⟩ : S34)]) := ⟨_, rfl⟩
        replace H : (lease_Lease_31_at32.l0 k1 x4_1 y456 l0 (l0.length : Int) (wrap64 (x10_1 + 1)) a1_0) = some (r1, r2) := zH hy456 H
        have Ny456 := Aside0.mk hy456
        clear hy456
        have H' := Aside0.mk H
        clear H
        have p450 : 0 ≤ (x10_1 : Int) := zD
        have q450 : x10_1 < (l0.length : Int) := zD
        obtain ⟨ad450, e450, hx450_0, hx450_1, hx450_2, hx450_3, hx450_4⟩ := at_T34 HR0.out x10_1 p450 q450
        cases e450
        replace hx450_0 := zX HB.out hx450_0
        replace hx450_1 := zX HB.out hx450_1
        replace hx450_2 := zX HB.out hx450_2
        replace hx450_3 := zX HB.out hx450_3
        replace hx450_4 := zX HB.out hx450_4
        replace p450 := eq_true p450
        replace q450 := eq_true q450
        go_wp2_with (first | ((with_reducible refine gate_dst (N := 7) rfl ?_); refine box_event ?hg (N := 7) ?hd (cs := #[.int .i64 0, .string (⟨#[]⟩ : ByteArray), .bool false, .int .i64 0, .int .i64 0]) (t := 34) ?hr ?_; (case hd => rfl); (case hg => rfl); (case hr => first | (go_simp; done) | (go_simp; rfl)); intro gb451 hg w16 hbox hb; have n0_ := Aside0.mk (Kd.R_below (Kd.R_elderB (zR HO_4.out) gb451 (Nat.le_of_eq hg.symm)) hb); have n1_ := Aside0.mk (Kd.R_below (Kd.R_elderB (zR HO_5.out) gb451 (Nat.le_of_eq hg.symm)) hb); have n2_ := Aside0.mk (blk_below (g := g1_0) (o := .cells #[.int .i64 a1_0] 3 (0, 0)) (zK BK449.out) hb); have n3_ := Aside0.mk (below_step (zL HB.out) hb); have n4_ := Aside0.mk (hbox); have n5_ := Aside0.mk (zG hg (zL HB.out)); have n6_ := Aside0.mk (zG hg (zL HB.out)); have n7_ := Aside0.mk (zN (g := g1_0) (o := .cells #[.int .i64 a1_0] 3 (0, 0)) hg (zK BK449.out)); have n8_ := Aside0.mk (zO (g := g1_0) (o := .cells #[.int .i64 a1_0] 3 (0, 0)) hg (zK BK449.out)); revert n0_ n1_ n2_ n3_ n4_ n5_ n6_ n7_ n8_; clear HO_4 HO_5 BK449 HB; intro HO_4 HO_5 BK449 HB BK451 GW451 GE451 NB449_451 NB451_449; clear hb hbox hg; have hnb17 := NB451_449.out; have hnc17 := NB449_451.out; obtain ⟨hcz18_0, hcz18_1, hcz18_2, hcz18_3, hcz18_4, hfz18_0, hfz18_1, hfz18_2, hfz18_3, hfz18_4⟩ := zC5 BK451.out) | (go_at_call 32; (with_reducible refine (lease_Tick_1.calls ((rd_T34 l0 x10_1).f0) ((rd_T34 l0 x10_1).f1) ((rd_T34 l0 x10_1).f2) ((rd_T34 l0 x10_1).f3) ((rd_T34 l0 x10_1).f4) g1_0 a1_0 false _ ?side1 A6.out).mono ?_); (case side1 => exact zK BK449.out); rintro e w19 ⟨rfl, hb⟩; have n0_ := Aside0.mk (Kd.R_below (zM HO_4.out (g := gb451) (fun _ hk => hk.2)) hb); have n1_ := Aside0.mk (Kd.R_below (zM HO_5.out (g := gb451) (fun _ hk => hk.2)) hb); have n2_ := Aside0.mk (blk_below (g := g1_0) (o := .cells #[.int .i64 a1_0] 3 (0, 0)) (zK BK449.out) hb); have n3_ := Aside0.mk (blk_below (g := gb451) (o := .cells #[.int .i64 ((rd_T34 l0 x10_1).f0), .string ((rd_T34 l0 x10_1).f1), .bool ((rd_T34 l0 x10_1).f2), .int .i64 ((rd_T34 l0 x10_1).f3), .int .i64 ((rd_T34 l0 x10_1).f4)] 34 (0, 0)) (zP5 BK451.out) hb); have n4_ := Aside0.mk (below_step (zL HB.out) hb); revert n0_ n1_ n2_ n3_ n4_; clear HO_4 HO_5 BK449 BK451 HB; intro HO_4 HO_5 BK449 BK451 HB; (try clear hb); (try clear hb2); (try clear hk); (try clear hi); obtain ⟨hcz20_0, hcz20_1, hcz20_2, hcz20_3, hcz20_4, hfz20_0, hfz20_1, hfz20_2, hfz20_3, hfz20_4⟩ := zC5 BK451.out) | ((with_reducible refine gate_builtin (b := .append) (xs := #[.tmp 21, .tmp 23]) rfl ?_); at_builtin; refine Kd.R_append k34 (w0 := w) w.heap.size rfl (.tmp 21) (.tmp 23) 24 34 (.agg #[(.int .i64 0), (.string ⟨#[]⟩), (.bool false), (.int .i64 0), (.int .i64 0)]) 48 rfl Tryd.underlying24 info34 rfl (by decide) (by omega) u5 x5_1 (⟨(rd_T34 l0 x10_1).f0, (rd_T34 l0 x10_1).f1, (rd_T34 l0 x10_1).f2, (rd_T34 l0 x10_1).f3, (rd_T34 l0 x10_1).f4⟩ : S34) [.int .i64 ((rd_T34 l0 x10_1).f0), .string ((rd_T34 l0 x10_1).f1), .bool ((rd_T34 l0 x10_1).f2), .int .i64 ((rd_T34 l0 x10_1).f3), .int .i64 ((rd_T34 l0 x10_1).f4)] (fun k_ => some k_ ≠ (u4 : Value).ownBlock ∧ k_ ≠ gb451) (fun _ => False) rfl rfl ?aP (fun _ hk => hk.elim) ?aF ?aO ?aB ?aS ?aL ?_; (case aP => exact k34_mkM _ _ _ (⟨(rd_T34 l0 x10_1).f0, (rd_T34 l0 x10_1).f1, (rd_T34 l0 x10_1).f2, (rd_T34 l0 x10_1).f3, (rd_T34 l0 x10_1).f4⟩ : S34)); (case aB => exact (zL HB.out)); (case aF => exact (fun k_ hk => ⟨Kd.fresh' (Kd.R_lt (zR HO_4.out)) k_ hk, Kd.freshB (g := gb451) (o := .cells #[.int .i64 ((rd_T34 l0 x10_1).f0), .string ((rd_T34 l0 x10_1).f1), .bool ((rd_T34 l0 x10_1).f2), .int .i64 ((rd_T34 l0 x10_1).f3), .int .i64 ((rd_T34 l0 x10_1).f4)] 34 (0, 0)) (zK BK451.out) k_ hk⟩)); (case aO => exact (zR HO_5.out)); (case aS => exact (below_size (zL HB.out))); (case aL => have := LMc15.out; omega); intro v457 w21 ho hb hg hat; rw [← Ny456.out] at ho; have n0_ := Aside0.mk (Kd.R_after (ok := (fun k_ => k_ ≠ gb451)) (by (with_reducible repeat (first | apply Kd.R_alloc | apply Kd.R_drewN | apply Kd.R_drew)); exact Kd.R_mono HO_4.out (fun _ hk => ⟨hk.2, hk.1⟩)) hg hat); have n1_ := Aside0.mk (blk_grown (g := g1_0) (o := .cells #[.int .i64 a1_0] 3 (0, 0)) (zK BK449.out) hg (Kd.R_ne HO_5.out BK449.out (by decide))); have n2_ := Aside0.mk (blk_grown (g := gb451) (o := .cells #[.int .i64 ((rd_T34 l0 x10_1).f0), .string ((rd_T34 l0 x10_1).f1), .bool ((rd_T34 l0 x10_1).f2), .int .i64 ((rd_T34 l0 x10_1).f3), .int .i64 ((rd_T34 l0 x10_1).f4)] 34 (0, 0)) (zK BK451.out) hg (Kd.R_away HO_5.out (fun _ hk => hk.2))); have n3_ := Aside0.mk (hb); have n4_ := Aside0.mk (ho); revert n0_ n1_ n2_ n3_ n4_; clear HO_4 BK449 BK451 HB HO_5; intro HO_4 BK449 BK451 HB HO458; clear ho hb hg hat))
        go_roundg k1
        case measure => have := HK1.out; omega
        case rel => exact ⟨(x4_1), (y456), (wrap64 (x10_1 + 1)), zS, H', ⟨by have := HK1.out; omega⟩, ⟨by (with_reducible repeat (first | apply Kd.R_alloc | apply Kd.R_drewN | apply Kd.R_drew)); exact Kd.R_mono HO_4.out (fun _ hk => hk.2)⟩, ⟨by (with_reducible repeat (first | apply Kd.R_alloc | apply Kd.R_drewN | apply Kd.R_drew)); exact Kd.R_mono HO458.out (fun _ hk => hk.1)⟩, ⟨zK BK449.out⟩, ⟨zL HB.out⟩⟩
       ·rw [if_neg c15] at H
        exact absurd H (by simp)
     ·rw [if_neg c5] at H
      exact absurd H (by simp)
    ·rw [if_neg c4] at H
     exact absurd H (by simp)
   ·rw [if_neg c3] at H
    have c3b0 : decide (x10_1 < (l0.length : Int)) = false := decide_eq_false c3
    clear c3
    simp only [Option.some.injEq, Prod.mk.injEq] at H
    obtain ⟨rfl, rfl⟩ := H
    go_wp2
    go_ret2
    exact ⟨_, _, zE, by (with_reducible repeat (first | apply Kd.R_alloc | apply Kd.R_drewN | apply Kd.R_drew)); exact HO_4.out, by (with_reducible repeat (first | apply Kd.R_alloc | apply Kd.R_drewN | apply Kd.R_drew)); exact HO_5.out, zL HB.out⟩

/-! ### lease_Tick: function 11 -/
def lease_Tick.f (k : Nat) (a0_0 : Int) (l0_1 : List (S34)) (l0_2 : List (S32)) (a1 : Int) : Option (Int × (List (S34)) × (List (S32))) := (lease_time.f a1).bind fun t439 => (if t439 = true then ((lease_Lease_31_at32.f k l0_1 a1).bind fun bt441 => ((lease_Table_settle.f k a0_0 bt441.2 l0_2 a1).bind fun bt447 => (some (bt447.1, bt447.2.1, bt447.2.2)))) else (some (a0_0, l0_1, l0_2)))
theorem lease_Tick.mono : ∀ a0 a1 a2 a3 k, LeO (lease_Tick.f k a0 a1 a2 a3) (lease_Tick.f (k + 1) a0 a1 a2 a3) := by
 intro a0 a1 a2 a3 k
 unfold lease_Tick.f
 repeat' first
   | (with_reducible exact lease_Lease_31_at32.mono _ _ _)
   | (with_reducible exact lease_Table_settle.mono _ _ _ _ _)
   | (with_reducible exact LeO.refl _)
   | (with_reducible exact LeO.none _)
   | (with_reducible refine LeO.ite ?_ ?_)
   | (with_reducible refine LeO.bind ?_ (fun _ => ?_))
   | exact lease_Lease_31_at32.mono _ _ _
   | exact lease_Table_settle.mono _ _ _ _ _
   | exact LeO.none _
   | refine LeO.ite ?_ ?_
   | refine LeO.bind ?_ (fun _ => ?_)
set_option maxHeartbeats 8000000 in
set_option maxRecDepth 100000 in
theorem lease_Tick.calls (k : Nat) (a0_0 : Int) (P0_1_ : Nat → Prop) (A0_1 : Option Addr) (c0_1 : Nat) (l0_1 : List (S34)) (P0_2_ : Nat → Prop) (A0_2 : Option Addr) (c0_2 : Nat) (l0_2 : List (S32)) (a1 : Int) (r1 : Int) (r2 : List (S34)) (r3 : List (S32)) (w : World) (hs0_1 : Kd.V k34 34 w w.heap.size (fun k_ => P0_1_ k_) (.slice A0_1 l0_1.length c0_1) l0_1) (hs0_2 : Kd.V k32 32 w w.heap.size (fun k_ => P0_2_ k_) (.slice A0_2 l0_2.length c0_2) l0_2) (h : lease_Tick.f k a0_0 l0_1 l0_2 a1 = some (r1, r2, r3)) :
  Calls Tryd.prog 11 #[.agg #[.int .i64 a0_0, .slice A0_1 l0_1.length c0_1, .slice A0_2 l0_2.length c0_2], .int .i64 a1] w fun e w' => ∃ v1_ v2_ : Value, e = .returned (.agg #[.int .i64 r1, v1_, v2_]) ∧ Kd.V k34 34 w' w.heap.size (fun k_ => ((P0_1_ k_ ∨ P0_2_ k_) ∨ w.heap.size ≤ k_)) v1_ r2 ∧ Kd.V k32 32 w' w.heap.size (fun k_ => ((P0_1_ k_ ∨ P0_2_ k_) ∨ w.heap.size ≤ k_)) v2_ r3 ∧ Below w.heap.size w w' := by
 have hu27 := Tryd.underlying27
 have HO0_1 := Aside0.mk (show Kd.V k34 34 w w.heap.size (fun k_ => ((P0_1_ k_ ∨ P0_2_ k_) ∨ w.heap.size ≤ k_)) (.slice A0_1 l0_1.length c0_1) l0_1 from Kd.V_mono hs0_1 (fun k_ hk => .inl (.inl hk)))
 have HO0_2 := Aside0.mk (show Kd.V k32 32 w w.heap.size (fun k_ => ((P0_1_ k_ ∨ P0_2_ k_) ∨ w.heap.size ≤ k_)) (.slice A0_2 l0_2.length c0_2) l0_2 from Kd.V_mono hs0_2 (fun k_ hk => .inl (.inr hk)))
 have HB := Aside0.mk (Below.refl w.heap.size w)
 have H : ((lease_time.f a1).bind fun t439 => (if t439 = true then ((lease_Lease_31_at32.f k l0_1 a1).bind fun bt441 => ((lease_Table_settle.f k a0_0 bt441.2 l0_2 a1).bind fun bt447 => (some (bt447.1, bt447.2.1, bt447.2.2)))) else (some (a0_0, l0_1, l0_2)))) = some (r1, r2, r3) := h
 clear h
 replace H := Option.bind_eq_some_iff.mp H
 obtain ⟨t439, A30, H⟩ := H
 replace H : (if t439 = true then ((lease_Lease_31_at32.f k l0_1 a1).bind fun bt441 => ((lease_Table_settle.f k a0_0 bt441.2 l0_2 a1).bind fun bt447 => (some (bt447.1, bt447.2.1, bt447.2.2)))) else (some (a0_0, l0_1, l0_2))) = some (r1, r2, r3) := H
 have A3 := Aside0.mk A30
 clear A30
 by_cases c4 : t439 = true
 ·subst c4
  have H1 : ((lease_Lease_31_at32.f k l0_1 a1).bind fun bt441 => ((lease_Table_settle.f k a0_0 bt441.2 l0_2 a1).bind fun bt447 => (some (bt447.1, bt447.2.1, bt447.2.2)))) = some (r1, r2, r3) := by rw [if_pos rfl] at H; exact H
  clear H
  have H := H1
  clear H1
  replace H := Option.bind_eq_some_iff.mp H
  obtain ⟨⟨t441, t442⟩, A50, H⟩ := H
  replace H : ((lease_Table_settle.f k a0_0 t442 l0_2 a1).bind fun bt447 => (some (bt447.1, bt447.2.1, bt447.2.2))) = some (r1, r2, r3) := H
  have A5 := Aside0.mk A50
  clear A50
  replace H := Option.bind_eq_some_iff.mp H
  obtain ⟨⟨t447, t448, t451⟩, A60, H⟩ := H
  replace H : (some (t447, t448, t451)) = some (r1, r2, r3) := H
  have A6 := Aside0.mk A60
  clear A60
  simp only [Option.some.injEq, Prod.mk.injEq] at H
  obtain ⟨rfl, rfl, rfl⟩ := H
  go_enter Tryd.func11, Tryd.ntmps11
  go_wp2_with (first | ((with_reducible refine gate_dst (N := 2) rfl ?_); refine box_event ?hg (N := 2) ?hd (cs := #[.int .i64 a0_0, .slice A0_1 l0_1.length c0_1, .slice A0_2 l0_2.length c0_2]) (t := 27) ?hr ?_; (case hd => rfl); (case hg => rfl); (case hr => first | (go_simp; done) | (go_simp; rfl)); intro gb436 hg w7 hbox hb; have n0_ := Aside0.mk (Kd.V_below (Kd.V_elderB (zV HO0_1.out) gb436 (Nat.le_of_eq hg.symm)) hb); have n1_ := Aside0.mk (Kd.V_below (Kd.V_elderB (zV HO0_2.out) gb436 (Nat.le_of_eq hg.symm)) hb); have n2_ := Aside0.mk (below_step (zL HB.out) hb); have n3_ := Aside0.mk (hbox); have n4_ := Aside0.mk (zG hg (zL HB.out)); have n5_ := Aside0.mk (zG hg (zL HB.out)); revert n0_ n1_ n2_ n3_ n4_ n5_; clear HO0_1 HO0_2 HB; intro HO0_1 HO0_2 HB BK436 GW436 GE436; clear hb hbox hg) | ((with_reducible refine gate_dst (N := 3) rfl ?_); refine box_event ?hg (N := 3) ?hd (cs := #[.int .i64 a1]) (t := 3) ?hr ?_; (case hd => rfl); (case hg => rfl); (case hr => first | (go_simp; done) | (go_simp; rfl)); intro gb437 hg w8 hbox hb; have n0_ := Aside0.mk (Kd.V_below (Kd.V_elderB (zV HO0_1.out) gb437 (Nat.le_of_eq hg.symm)) hb); have n1_ := Aside0.mk (Kd.V_below (Kd.V_elderB (zV HO0_2.out) gb437 (Nat.le_of_eq hg.symm)) hb); have n2_ := Aside0.mk (blk_below (g := gb436) (o := .cells #[.int .i64 a0_0, .slice A0_1 l0_1.length c0_1, .slice A0_2 l0_2.length c0_2] 27 (0, 0)) (zK BK436.out) hb); have n3_ := Aside0.mk (below_step (zL HB.out) hb); have n4_ := Aside0.mk (hbox); have n5_ := Aside0.mk (zG hg (zL HB.out)); have n6_ := Aside0.mk (zG hg (zL HB.out)); have n7_ := Aside0.mk (zN (g := gb436) (o := .cells #[.int .i64 a0_0, .slice A0_1 l0_1.length c0_1, .slice A0_2 l0_2.length c0_2] 27 (0, 0)) hg (zK BK436.out)); have n8_ := Aside0.mk (zO (g := gb436) (o := .cells #[.int .i64 a0_0, .slice A0_1 l0_1.length c0_1, .slice A0_2 l0_2.length c0_2] 27 (0, 0)) hg (zK BK436.out)); revert n0_ n1_ n2_ n3_ n4_ n5_ n6_ n7_ n8_; clear HO0_1 HO0_2 BK436 HB; intro HO0_1 HO0_2 BK436 HB BK437 GW437 GE437 NB436_437 NB437_436; clear hb hbox hg) | ((with_reducible refine gate_dst (N := 4) rfl ?_); refine box_event ?hg (N := 4) ?hd (cs := #[.int .i64 0, .slice none 0 0, .slice none 0 0]) (t := 27) ?hr ?_; (case hd => rfl); (case hg => rfl); (case hr => first | (go_simp; done) | (go_simp; rfl)); intro gb438 hg w9 hbox hb; have n0_ := Aside0.mk (Kd.V_below (Kd.V_elderB (zV HO0_1.out) gb438 (Nat.le_of_eq hg.symm)) hb); have n1_ := Aside0.mk (Kd.V_below (Kd.V_elderB (zV HO0_2.out) gb438 (Nat.le_of_eq hg.symm)) hb); have n2_ := Aside0.mk (blk_below (g := gb436) (o := .cells #[.int .i64 a0_0, .slice A0_1 l0_1.length c0_1, .slice A0_2 l0_2.length c0_2] 27 (0, 0)) (zK BK436.out) hb); have n3_ := Aside0.mk (blk_below (g := gb437) (o := .cells #[.int .i64 a1] 3 (0, 0)) (zK BK437.out) hb); have n4_ := Aside0.mk (below_step (zL HB.out) hb); have n5_ := Aside0.mk (hbox); have n6_ := Aside0.mk (zG hg (zL HB.out)); have n7_ := Aside0.mk (zG hg (zL HB.out)); have n8_ := Aside0.mk (zN (g := gb436) (o := .cells #[.int .i64 a0_0, .slice A0_1 l0_1.length c0_1, .slice A0_2 l0_2.length c0_2] 27 (0, 0)) hg (zK BK436.out)); have n9_ := Aside0.mk (zO (g := gb436) (o := .cells #[.int .i64 a0_0, .slice A0_1 l0_1.length c0_1, .slice A0_2 l0_2.length c0_2] 27 (0, 0)) hg (zK BK436.out)); have n10_ := Aside0.mk (zN (g := gb437) (o := .cells #[.int .i64 a1] 3 (0, 0)) hg (zK BK437.out)); have n11_ := Aside0.mk (zO (g := gb437) (o := .cells #[.int .i64 a1] 3 (0, 0)) hg (zK BK437.out)); revert n0_ n1_ n2_ n3_ n4_ n5_ n6_ n7_ n8_ n9_ n10_ n11_; clear HO0_1 HO0_2 BK436 BK437 HB; intro HO0_1 HO0_2 BK436 BK437 HB BK438 GW438 GE438 NB436_438 NB438_436 NB437_438 NB438_437; clear hb hbox hg; have hnb10 := NB437_436.out; have hnc10 := NB436_437.out; have hnb11 := NB437_438.out; have hnc11 := NB438_437.out; obtain ⟨hcz12_0, hfz12_0⟩ := zC1 BK437.out) | ((with_reducible refine gate_callee (f := 28) rfl ?_); refine goesL_ (some 6) rfl rfl Tryd.func28 (by kernel_rfl) rfl #[.int .i64 a1] rfl zA ?_; (with_reducible refine (lease_time.calls a1 true _ A3.out).mono ?_); rintro e w' ⟨rfl, ⟨nd, rfl⟩⟩; refine ⟨_, rfl, ?_⟩; (try (rw [drewN_self w9]; generalize hq_ : World.drewN w9 _ = w9; have n0_ : Aside0 (Kd.V k34 34 w9 w.heap.size (fun k_ => ((P0_1_ k_ ∨ P0_2_ k_) ∨ w.heap.size ≤ k_) ∧ k_ ≠ gb436 ∧ k_ ≠ gb437 ∧ k_ ≠ gb438) (.slice A0_1 l0_1.length c0_1) l0_1) := ⟨by rw [← hq_]; exact (by (with_reducible repeat (first | apply Kd.V_alloc | apply Kd.V_drewN | apply Kd.V_drew)); exact Kd.V_mono HO0_1.out (fun _ hk => ⟨hk.1.1.1, ⟨hk.1.1.2, ⟨hk.1.2, hk.2⟩⟩⟩))⟩; have n1_ : Aside0 (Kd.V k32 32 w9 w.heap.size (fun k_ => ((P0_1_ k_ ∨ P0_2_ k_) ∨ w.heap.size ≤ k_) ∧ k_ ≠ gb436 ∧ k_ ≠ gb437 ∧ k_ ≠ gb438) (.slice A0_2 l0_2.length c0_2) l0_2) := ⟨by rw [← hq_]; exact (by (with_reducible repeat (first | apply Kd.V_alloc | apply Kd.V_drewN | apply Kd.V_drew)); exact Kd.V_mono HO0_2.out (fun _ hk => ⟨hk.1.1.1, ⟨hk.1.1.2, ⟨hk.1.2, hk.2⟩⟩⟩))⟩; have n2_ : Aside0 (w9.heap[gb436]? = some (.cells #[.int .i64 a0_0, .slice A0_1 l0_1.length c0_1, .slice A0_2 l0_2.length c0_2] 27 (0, 0))) := ⟨by rw [← hq_]; exact (zK BK436.out)⟩; have n3_ : Aside0 (w9.heap[gb437]? = some (.cells #[.int .i64 a1] 3 (0, 0))) := ⟨by rw [← hq_]; exact (zK BK437.out)⟩; have n4_ : Aside0 (w9.heap[gb438]? = some (.cells #[.int .i64 0, .slice none 0 0, .slice none 0 0] 27 (0, 0))) := ⟨by rw [← hq_]; exact (zK BK438.out)⟩; have n5_ : Aside0 (Below w.heap.size w w9) := ⟨by rw [← hq_]; exact (zL HB.out)⟩; clear HO0_1 HO0_2 BK436 BK437 BK438 HB hq_; have HO0_1 := n0_; have HO0_2 := n1_; have BK436 := n2_; have BK437 := n3_; have BK438 := n4_; have HB := n5_; clear n0_ n1_ n2_ n3_ n4_ n5_)); have hnb13 := NB436_438.out; have hnc13 := NB438_436.out; obtain ⟨hcz14_0, hcz14_1, hcz14_2, hfz14_0, hfz14_1, hfz14_2⟩ := zC3 BK436.out) | ((with_reducible refine gate_callee (f := 31) rfl ?_); refine goesL_ (some 13) rfl rfl Tryd.func31 (by kernel_rfl) rfl #[.slice A0_1 l0_1.length c0_1, .func (.func 32) #[] #[.pointer (some ⟨gb437, 0, none⟩)]] rfl zA ?_; (with_reducible refine (lease_Lease_31_at32.calls k _ _ l0_1 gb437 a1 t441 t442 _ ?side1 ?side2 ?side3 A5.out).mono ?_); (case side1 => repeat (first | exact (Kd.V_reads' HO0_1.out).2.2 | (with_reducible refine Kd.C_alloc ?_ _) | (with_reducible refine Kd.C_drewN ?_ _) | (with_reducible refine Kd.C_drew ?_))); (case side2 => exact (Kd.V_reads' HO0_1.out).2.1); (case side3 => exact zK BK437.out); rintro e w15 ⟨v443, v445, rfl, ho0, ho1, hb⟩; refine ⟨_, rfl, ?_⟩; have n0_ := Aside0.mk (Kd.V_mono (Kd.V_told (Kd.V_told (Kd.V_old (zV HO0_1.out) hb) (Kd.R_base ho0)) (Kd.R_base ho1)) (fun _ h_ => h_.1)); have n1_ := Aside0.mk (Kd.V_mono (Kd.V_told (Kd.V_told (Kd.V_old (zV HO0_2.out) hb) (Kd.R_base ho0)) (Kd.R_base ho1)) (fun _ h_ => h_.1)); have n2_ := Aside0.mk (Kd.R_lower (Kd.R_newM (M := fun k_ => (w.heap.size ≤ k_)) ho0 (below_size (zL HB.out)) (fun k_ h_ => h_)) (below_size (zL HB.out))); have n3_ := Aside0.mk (Kd.R_lower (Kd.R_newM (M := fun k_ => (w.heap.size ≤ k_)) ho1 (below_size (zL HB.out)) (fun k_ h_ => h_)) (below_size (zL HB.out))); have n4_ := Aside0.mk (blk_below (g := gb436) (o := .cells #[.int .i64 a0_0, .slice A0_1 l0_1.length c0_1, .slice A0_2 l0_2.length c0_2] 27 (0, 0)) (zK BK436.out) hb); have n5_ := Aside0.mk (blk_below (g := gb437) (o := .cells #[.int .i64 a1] 3 (0, 0)) (zK BK437.out) hb); have n6_ := Aside0.mk (blk_below (g := gb438) (o := .cells #[.int .i64 0, .slice none 0 0, .slice none 0 0] 27 (0, 0)) (zK BK438.out) hb); have n7_ := Aside0.mk (below_step (zL HB.out) hb); revert n0_ n1_ n2_ n3_ n4_ n5_ n6_ n7_; clear HO0_1 HO0_2 BK436 BK437 BK438 HB; intro HO0_1 HO0_2 HO444 HO446 BK436 BK437 BK438 HB; (try clear hb); (try clear hb2); (try clear hk); (try clear hi); (try clear ho0); (try clear ho1); obtain ⟨Ao16, co16, eo16⟩ := Kd.R_slice HO446.out; subst eo16; obtain ⟨hcz17_0, hcz17_1, hcz17_2, hfz17_0, hfz17_1, hfz17_2⟩ := zC3 BK436.out; obtain ⟨hcz18_0, hfz18_0⟩ := zC1 BK437.out) | ((with_reducible refine gate_callee (f := 30) rfl ?_); refine goesL_ (some 19) rfl rfl Tryd.func30 (by kernel_rfl) rfl #[.agg #[.int .i64 a0_0, .slice Ao16 t442.length co16, .slice A0_2 l0_2.length c0_2], .int .i64 a1] rfl zA ?_; (with_reducible refine (lease_Table_settle.calls k a0_0 _ _ t442 _ _ l0_2 a1 t447 t448 t451 _ ?side1 ?side2 ?side3 ?side4 A6.out).mono ?_); (case side1 => refine (Kd.R_reads' (e := 34) (base := w.heap.size) (ok := fun k_ => ((w.heap.size ≤ k_) ∧ some k_ ≠ (v443 : Value).ownBlock)) (n := t442.length) (c := co16) ?_).2.2; exact (zT HO446.out BK436.out)); (case side2 => exact (Kd.R_reads' HO446.out).2.1); (case side3 => refine (Kd.V_reads' (e := 32) (base := w.heap.size) (ok := fun k_ => (((((P0_1_ k_ ∨ P0_2_ k_) ∨ w.heap.size ≤ k_) ∧ (k_ ≠ gb436 ∧ (k_ ≠ gb437 ∧ k_ ≠ gb438))) ∧ some k_ ≠ (v443 : Value).ownBlock) ∧ some k_ ≠ (.slice Ao16 t442.length co16 : Value).ownBlock)) (n := l0_2.length) (c := c0_2) ?_).2.2; exact (zMV HO0_2.out (g := gb436) (fun _ hk => hk.1.1.2.1))); (case side4 => exact (Kd.V_reads' HO0_2.out).2.1); rintro e w19 ⟨v449, v452, rfl, ho0, ho1, hb⟩; refine ⟨_, rfl, ?_⟩; have n0_ := Aside0.mk (Kd.V_mono (Kd.V_told (Kd.V_told (Kd.V_old (zMV HO0_1.out (g := gb436) (fun _ hk => hk.1.1.2.1)) hb) (Kd.R_base ho0)) (Kd.R_base ho1)) (fun _ h_ => h_.1)); have n1_ := Aside0.mk (Kd.V_mono (Kd.V_told (Kd.V_told (Kd.V_old (zMV HO0_2.out (g := gb436) (fun _ hk => hk.1.1.2.1)) hb) (Kd.R_base ho0)) (Kd.R_base ho1)) (fun _ h_ => h_.1)); have n2_ := Aside0.mk (Kd.R_elder' (zT HO444.out BK436.out) (Kd.R_base ho0) hb); have n3_ := Aside0.mk (Kd.R_elder' (zT HO446.out BK436.out) (Kd.R_base ho0) hb); have n4_ := Aside0.mk (Kd.R_lower (Kd.R_new' (Kd.R_new' (Kd.R_newM (M := fun k_ => (w.heap.size ≤ k_)) ho0 (below_size (zL HB.out)) (fun k_ h_ => h_)) (Kd.R_lt (zT HO444.out BK436.out))) (Kd.R_lt (zT HO446.out BK436.out))) (below_size (zL HB.out))); have n5_ := Aside0.mk (Kd.R_lower (Kd.R_newM (M := fun k_ => (w.heap.size ≤ k_)) ho1 (below_size (zL HB.out)) (fun k_ h_ => h_)) (below_size (zL HB.out))); have n6_ := Aside0.mk (blk_below (g := gb436) (o := .cells #[.int .i64 a0_0, .slice Ao16 t442.length co16, .slice A0_2 l0_2.length c0_2] 27 (0, 0)) (by (with_reducible repeat (first | refine blk_drewN ?_ _ | refine blk_drew ?_ | refine blk_alloc ?_ _)); refine blk_put (cs := #[.int .i64 a0_0, .slice A0_1 l0_1.length c0_1, .slice A0_2 l0_2.length c0_2]) ?_ 1 _ rfl; (with_reducible repeat (first | refine blk_drewN ?_ _ | refine blk_drew ?_ | refine blk_alloc ?_ _)); exact BK436.out) hb); have n7_ := Aside0.mk (blk_below (g := gb437) (o := .cells #[.int .i64 a1] 3 (0, 0)) (zK BK437.out) hb); have n8_ := Aside0.mk (blk_below (g := gb438) (o := .cells #[.int .i64 0, .slice none 0 0, .slice none 0 0] 27 (0, 0)) (zK BK438.out) hb); have n9_ := Aside0.mk (below_step (zL HB.out) hb); revert n0_ n1_ n2_ n3_ n4_ n5_ n6_ n7_ n8_ n9_; clear HO0_1 HO0_2 HO444 HO446 BK436 BK437 BK438 HB; intro HO0_1 HO0_2 HO444 HO446 HO450 HO453 BK436 BK437 BK438 HB; (try clear hb); (try clear hb2); (try clear hk); (try clear hi); (try clear ho0); (try clear ho1); obtain ⟨hcz20_0, hcz20_1, hcz20_2, hfz20_0, hfz20_1, hfz20_2⟩ := zC3 BK438.out; obtain ⟨Ao21, co21, eo21⟩ := Kd.R_slice HO450.out; subst eo21; obtain ⟨Ao22, co22, eo22⟩ := Kd.R_slice HO453.out; subst eo22))
  refine bodyPost_ret (results_cell_row rfl _ _ gb438 27 #[.int .i64 t447, .slice Ao21 t448.length co21, .slice Ao22 t451.length co22] (0, 0) _ rfl (zP3 BK438.out) Tryd.underlying27 rfl (by kernel_rfl)) rfl ?_
  exact ⟨_, _, zE, Kd.V_mono (Kd.R_V (by (with_reducible repeat (first | apply Kd.R_alloc | apply Kd.R_drewN | apply Kd.R_drew)); exact Kd.R_mono (zNT HO450.out BK438.out) (fun _ hk => hk.1.1.1.1))) (fun k_ hk => by first | exact ⟨(.inr (hk.1)), hk.2⟩ | exact (.inr (hk))), Kd.V_mono (Kd.R_V (by (with_reducible repeat (first | apply Kd.R_alloc | apply Kd.R_drewN | apply Kd.R_drew)); exact Kd.R_mono (zNT HO453.out BK438.out) (fun _ hk => hk.1.1))) (fun k_ hk => by first | exact ⟨(.inr (hk.1)), hk.2⟩ | exact (.inr (hk))), zL HB.out⟩
 ·replace c4 := Bool.eq_false_iff.mpr c4
  subst c4
  have H1 : (some (a0_0, l0_1, l0_2)) = some (r1, r2, r3) := by rw [if_neg (show ¬ (false = true) by decide)] at H; exact H
  clear H
  have H := H1
  clear H1
  simp only [Option.some.injEq, Prod.mk.injEq] at H
  obtain ⟨rfl, rfl, rfl⟩ := H
  go_enter Tryd.func11, Tryd.ntmps11
  go_wp2_with (first | ((with_reducible refine gate_dst (N := 2) rfl ?_); refine box_event ?hg (N := 2) ?hd (cs := #[.int .i64 a0_0, .slice A0_1 l0_1.length c0_1, .slice A0_2 l0_2.length c0_2]) (t := 27) ?hr ?_; (case hd => rfl); (case hg => rfl); (case hr => first | (go_simp; done) | (go_simp; rfl)); intro gb436 hg w23 hbox hb; have n0_ := Aside0.mk (Kd.V_below (Kd.V_elderB (zV HO0_1.out) gb436 (Nat.le_of_eq hg.symm)) hb); have n1_ := Aside0.mk (Kd.V_below (Kd.V_elderB (zV HO0_2.out) gb436 (Nat.le_of_eq hg.symm)) hb); have n2_ := Aside0.mk (below_step (zL HB.out) hb); have n3_ := Aside0.mk (hbox); have n4_ := Aside0.mk (zG hg (zL HB.out)); have n5_ := Aside0.mk (zG hg (zL HB.out)); revert n0_ n1_ n2_ n3_ n4_ n5_; clear HO0_1 HO0_2 HB; intro HO0_1 HO0_2 HB BK436 GW436 GE436; clear hb hbox hg) | ((with_reducible refine gate_dst (N := 3) rfl ?_); refine box_event ?hg (N := 3) ?hd (cs := #[.int .i64 a1]) (t := 3) ?hr ?_; (case hd => rfl); (case hg => rfl); (case hr => first | (go_simp; done) | (go_simp; rfl)); intro gb437 hg w24 hbox hb; have n0_ := Aside0.mk (Kd.V_below (Kd.V_elderB (zV HO0_1.out) gb437 (Nat.le_of_eq hg.symm)) hb); have n1_ := Aside0.mk (Kd.V_below (Kd.V_elderB (zV HO0_2.out) gb437 (Nat.le_of_eq hg.symm)) hb); have n2_ := Aside0.mk (blk_below (g := gb436) (o := .cells #[.int .i64 a0_0, .slice A0_1 l0_1.length c0_1, .slice A0_2 l0_2.length c0_2] 27 (0, 0)) (zK BK436.out) hb); have n3_ := Aside0.mk (below_step (zL HB.out) hb); have n4_ := Aside0.mk (hbox); have n5_ := Aside0.mk (zG hg (zL HB.out)); have n6_ := Aside0.mk (zG hg (zL HB.out)); have n7_ := Aside0.mk (zN (g := gb436) (o := .cells #[.int .i64 a0_0, .slice A0_1 l0_1.length c0_1, .slice A0_2 l0_2.length c0_2] 27 (0, 0)) hg (zK BK436.out)); have n8_ := Aside0.mk (zO (g := gb436) (o := .cells #[.int .i64 a0_0, .slice A0_1 l0_1.length c0_1, .slice A0_2 l0_2.length c0_2] 27 (0, 0)) hg (zK BK436.out)); revert n0_ n1_ n2_ n3_ n4_ n5_ n6_ n7_ n8_; clear HO0_1 HO0_2 BK436 HB; intro HO0_1 HO0_2 BK436 HB BK437 GW437 GE437 NB436_437 NB437_436; clear hb hbox hg) | ((with_reducible refine gate_dst (N := 4) rfl ?_); refine box_event ?hg (N := 4) ?hd (cs := #[.int .i64 0, .slice none 0 0, .slice none 0 0]) (t := 27) ?hr ?_; (case hd => rfl); (case hg => rfl); (case hr => first | (go_simp; done) | (go_simp; rfl)); intro gb438 hg w25 hbox hb; have n0_ := Aside0.mk (Kd.V_below (Kd.V_elderB (zV HO0_1.out) gb438 (Nat.le_of_eq hg.symm)) hb); have n1_ := Aside0.mk (Kd.V_below (Kd.V_elderB (zV HO0_2.out) gb438 (Nat.le_of_eq hg.symm)) hb); have n2_ := Aside0.mk (blk_below (g := gb436) (o := .cells #[.int .i64 a0_0, .slice A0_1 l0_1.length c0_1, .slice A0_2 l0_2.length c0_2] 27 (0, 0)) (zK BK436.out) hb); have n3_ := Aside0.mk (blk_below (g := gb437) (o := .cells #[.int .i64 a1] 3 (0, 0)) (zK BK437.out) hb); have n4_ := Aside0.mk (below_step (zL HB.out) hb); have n5_ := Aside0.mk (hbox); have n6_ := Aside0.mk (zG hg (zL HB.out)); have n7_ := Aside0.mk (zG hg (zL HB.out)); have n8_ := Aside0.mk (zN (g := gb436) (o := .cells #[.int .i64 a0_0, .slice A0_1 l0_1.length c0_1, .slice A0_2 l0_2.length c0_2] 27 (0, 0)) hg (zK BK436.out)); have n9_ := Aside0.mk (zO (g := gb436) (o := .cells #[.int .i64 a0_0, .slice A0_1 l0_1.length c0_1, .slice A0_2 l0_2.length c0_2] 27 (0, 0)) hg (zK BK436.out)); have n10_ := Aside0.mk (zN (g := gb437) (o := .cells #[.int .i64 a1] 3 (0, 0)) hg (zK BK437.out)); have n11_ := Aside0.mk (zO (g := gb437) (o := .cells #[.int .i64 a1] 3 (0, 0)) hg (zK BK437.out)); revert n0_ n1_ n2_ n3_ n4_ n5_ n6_ n7_ n8_ n9_ n10_ n11_; clear HO0_1 HO0_2 BK436 BK437 HB; intro HO0_1 HO0_2 BK436 BK437 HB BK438 GW438 GE438 NB436_438 NB438_436 NB437_438 NB438_437; clear hb hbox hg; have hnb26 := NB437_436.out; have hnc26 := NB436_437.out; have hnb27 := NB437_438.out; have hnc27 := NB438_437.out; obtain ⟨hcz28_0, hfz28_0⟩ := zC1 BK437.out) | ((with_reducible refine gate_callee (f := 28) rfl ?_); refine goesL_ (some 6) rfl rfl Tryd.func28 (by kernel_rfl) rfl #[.int .i64 a1] rfl zA ?_; (with_reducible refine (lease_time.calls a1 false _ A3.out).mono ?_); rintro e w' ⟨rfl, ⟨nd, rfl⟩⟩; refine ⟨_, rfl, ?_⟩; (try (rw [drewN_self w25]; generalize hq_ : World.drewN w25 _ = w25; have n0_ : Aside0 (Kd.V k34 34 w25 w.heap.size (fun k_ => ((P0_1_ k_ ∨ P0_2_ k_) ∨ w.heap.size ≤ k_) ∧ k_ ≠ gb436 ∧ k_ ≠ gb437 ∧ k_ ≠ gb438) (.slice A0_1 l0_1.length c0_1) l0_1) := ⟨by rw [← hq_]; exact (by (with_reducible repeat (first | apply Kd.V_alloc | apply Kd.V_drewN | apply Kd.V_drew)); exact Kd.V_mono HO0_1.out (fun _ hk => ⟨hk.1.1.1, ⟨hk.1.1.2, ⟨hk.1.2, hk.2⟩⟩⟩))⟩; have n1_ : Aside0 (Kd.V k32 32 w25 w.heap.size (fun k_ => ((P0_1_ k_ ∨ P0_2_ k_) ∨ w.heap.size ≤ k_) ∧ k_ ≠ gb436 ∧ k_ ≠ gb437 ∧ k_ ≠ gb438) (.slice A0_2 l0_2.length c0_2) l0_2) := ⟨by rw [← hq_]; exact (by (with_reducible repeat (first | apply Kd.V_alloc | apply Kd.V_drewN | apply Kd.V_drew)); exact Kd.V_mono HO0_2.out (fun _ hk => ⟨hk.1.1.1, ⟨hk.1.1.2, ⟨hk.1.2, hk.2⟩⟩⟩))⟩; have n2_ : Aside0 (w25.heap[gb436]? = some (.cells #[.int .i64 a0_0, .slice A0_1 l0_1.length c0_1, .slice A0_2 l0_2.length c0_2] 27 (0, 0))) := ⟨by rw [← hq_]; exact (zK BK436.out)⟩; have n3_ : Aside0 (w25.heap[gb437]? = some (.cells #[.int .i64 a1] 3 (0, 0))) := ⟨by rw [← hq_]; exact (zK BK437.out)⟩; have n4_ : Aside0 (w25.heap[gb438]? = some (.cells #[.int .i64 0, .slice none 0 0, .slice none 0 0] 27 (0, 0))) := ⟨by rw [← hq_]; exact (zK BK438.out)⟩; have n5_ : Aside0 (Below w.heap.size w w25) := ⟨by rw [← hq_]; exact (zL HB.out)⟩; clear HO0_1 HO0_2 BK436 BK437 BK438 HB hq_; have HO0_1 := n0_; have HO0_2 := n1_; have BK436 := n2_; have BK437 := n3_; have BK438 := n4_; have HB := n5_; clear n0_ n1_ n2_ n3_ n4_ n5_)); have hnb29 := NB436_438.out; have hnc29 := NB438_436.out; obtain ⟨hcz30_0, hcz30_1, hcz30_2, hfz30_0, hfz30_1, hfz30_2⟩ := zC3 BK436.out; obtain ⟨hcz31_0, hcz31_1, hcz31_2, hfz31_0, hfz31_1, hfz31_2⟩ := zC3 BK438.out))
  refine bodyPost_ret (results_cell_row rfl _ _ gb438 27 #[.int .i64 a0_0, .slice A0_1 l0_1.length c0_1, .slice A0_2 l0_2.length c0_2] (0, 0) _ rfl (zP3 BK438.out) Tryd.underlying27 rfl (by kernel_rfl)) rfl ?_
  exact ⟨_, _, zE, by (with_reducible repeat (first | apply Kd.V_alloc | apply Kd.V_drewN | apply Kd.V_drew)); exact Kd.V_mono (zNV HO0_1.out (g := gb438) (fun _ hk => hk.2.2.2)) (fun _ hk => hk.1.1), by (with_reducible repeat (first | apply Kd.V_alloc | apply Kd.V_drewN | apply Kd.V_drew)); exact Kd.V_mono (zNV HO0_2.out (g := gb438) (fun _ hk => hk.2.2.2)) (fun _ hk => hk.1.1), zL HB.out⟩

/-! ### lease_Leave_1: function 35 -/
def lease_Leave_1.f (a0_0 : Int) (a0_1 : ByteArray) (a0_2 : Bool) (a0_3 : Int) (a0_4 : Int) (a1_0 : Int) : Option (Bool) := some (a0_0 == a1_0)
set_option maxHeartbeats 8000000 in
set_option maxRecDepth 100000 in
theorem lease_Leave_1.calls (a0_0 : Int) (a0_1 : ByteArray) (a0_2 : Bool) (a0_3 : Int) (a0_4 : Int) (g1_0 : Nat) (a1_0 : Int) (r : Bool) (w : World) (hb1_0 : w.heap[g1_0]? = some (.cells #[.int .i64 a1_0] 3 (0, 0))) (h : lease_Leave_1.f a0_0 a0_1 a0_2 a0_3 a0_4 a1_0 = some r) :
  Calls Tryd.prog 35 #[.agg #[.int .i64 a0_0, .string a0_1, .bool a0_2, .int .i64 a0_3, .int .i64 a0_4], .pointer (some ⟨g1_0, 0, none⟩)] w fun e w' => e = .returned (.bool r) ∧ Below w.heap.size w w' := by
 have hu34 := Tryd.underlying34
 have BK464 := Aside0.mk hb1_0
 clear hb1_0
 have HB := Aside0.mk (Below.refl w.heap.size w)
 have H : (some (a0_0 == a1_0)) = some r := h
 clear h
 obtain rfl := Option.some.inj H
 go_enter Tryd.func35, Tryd.ntmps35
 go_wp2_with (first | ((with_reducible refine gate_dst (N := 2) rfl ?_); refine box_event ?hg (N := 2) ?hd (cs := #[.int .i64 a0_0, .string a0_1, .bool a0_2, .int .i64 a0_3, .int .i64 a0_4]) (t := 34) ?hr ?_; (case hd => rfl); (case hg => rfl); (case hr => first | (go_simp; done) | (go_simp; rfl)); intro gb465 hg w3 hbox hb; have n0_ := Aside0.mk (blk_below (g := g1_0) (o := .cells #[.int .i64 a1_0] 3 (0, 0)) (zK BK464.out) hb); have n1_ := Aside0.mk (below_step (zL HB.out) hb); have n2_ := Aside0.mk (hbox); have n3_ := Aside0.mk (zG hg (zL HB.out)); have n4_ := Aside0.mk (zG hg (zL HB.out)); have n5_ := Aside0.mk (zN (g := g1_0) (o := .cells #[.int .i64 a1_0] 3 (0, 0)) hg (zK BK464.out)); have n6_ := Aside0.mk (zO (g := g1_0) (o := .cells #[.int .i64 a1_0] 3 (0, 0)) hg (zK BK464.out)); revert n0_ n1_ n2_ n3_ n4_ n5_ n6_; clear BK464 HB; intro BK464 HB BK465 GW465 GE465 NB464_465 NB465_464; clear hb hbox hg; have hnb4 := NB465_464.out; have hnc4 := NB464_465.out; obtain ⟨hcz5_0, hcz5_1, hcz5_2, hcz5_3, hcz5_4, hfz5_0, hfz5_1, hfz5_2, hfz5_3, hfz5_4⟩ := zC5 BK465.out; obtain ⟨hcz6_0, hfz6_0⟩ := zC1 BK464.out))
 go_ret
 exact ⟨zE, zL HB.out⟩

/-! ### lease_Lease_31_at35: function 31 -/
def lease_Lease_31_at35.l0 : Nat → List (S34) → List (S34) → List (S34) → Int → Int → Int → Option ((List (S34)) × (List (S34)))
 | 0, _, _, _, _, _, _ => none
 | k + 1, x4, x5, x8, x9, x10, x468000 => if x10 < x9 then (if 0 ≤ x10 then (if x10 < (x8.length : Int) then ((lease_Leave_1.f ((rd_T34 x8 x10).f0) ((rd_T34 x8 x10).f1) ((rd_T34 x8 x10).f2) ((rd_T34 x8 x10).f3) ((rd_T34 x8 x10).f4) x468000).bind fun t470 => (if t470 = true then (if x4.length < 2932031007402 then (lease_Lease_31_at35.l0 k (x4 ++ [(⟨(rd_T34 x8 x10).f0, (rd_T34 x8 x10).f1, (rd_T34 x8 x10).f2, (rd_T34 x8 x10).f3, (rd_T34 x8 x10).f4⟩ : S34)]) x5 x8 x9 (wrap64 (x10 + 1)) x468000) else (none)) else (if x5.length < 2932031007402 then (lease_Lease_31_at35.l0 k x4 (x5 ++ [(⟨(rd_T34 x8 x10).f0, (rd_T34 x8 x10).f1, (rd_T34 x8 x10).f2, (rd_T34 x8 x10).f3, (rd_T34 x8 x10).f4⟩ : S34)]) x8 x9 (wrap64 (x10 + 1)) x468000) else (none)))) else (none)) else (none)) else (some (x4, x5))
def lease_Lease_31_at35.f (k : Nat) (l0 : List (S34)) (a1_0 : Int) : Option ((List (S34)) × (List (S34))) := lease_Lease_31_at35.l0 k ([] : List (S34)) ([] : List (S34)) l0 (l0.length : Int) 0 a1_0
theorem lease_Lease_31_at35.mono_l : ∀ k, (∀ y0 y1 y2 y3 y4 y5, LeO (lease_Lease_31_at35.l0 k y0 y1 y2 y3 y4 y5) (lease_Lease_31_at35.l0 (k + 1) y0 y1 y2 y3 y4 y5))
 | 0 => fun _ _ _ _ _ _ r h => by simp [lease_Lease_31_at35.l0] at h
 | k + 1 => by
  have ih0 := lease_Lease_31_at35.mono_l k
  ·intro y0 y1 y2 y3 y4 y5
   unfold lease_Lease_31_at35.l0
   repeat' first
   | (with_reducible exact ih0 _ _ _ _ _ _)
   | (with_reducible exact LeO.refl _)
   | (with_reducible exact LeO.none _)
   | (with_reducible refine LeO.ite ?_ ?_)
   | (with_reducible refine LeO.bind ?_ (fun _ => ?_))
   | exact ih0 _ _ _ _ _ _
   | exact LeO.none _
   | refine LeO.ite ?_ ?_
   | refine LeO.bind ?_ (fun _ => ?_)
theorem lease_Lease_31_at35.mono : ∀ a0 a1 k, LeO (lease_Lease_31_at35.f k a0 a1) (lease_Lease_31_at35.f (k + 1) a0 a1) := by
 intro a0 a1 k
 have ih0 := lease_Lease_31_at35.mono_l k
 unfold lease_Lease_31_at35.f
 repeat' first
   | (with_reducible exact ih0 _ _ _ _ _ _)
   | (with_reducible exact LeO.refl _)
   | (with_reducible exact LeO.none _)
   | (with_reducible refine LeO.ite ?_ ?_)
   | (with_reducible refine LeO.bind ?_ (fun _ => ?_))
   | exact ih0 _ _ _ _ _ _
   | exact LeO.none _
   | refine LeO.ite ?_ ?_
   | refine LeO.bind ?_ (fun _ => ?_)
set_option maxHeartbeats 8000000 in
set_option maxRecDepth 100000 in
theorem lease_Lease_31_at35.calls (k : Nat) (A0 : Option Addr) (c0 : Nat) (l0 : List (S34)) (g1_0 : Nat) (a1_0 : Int) (r1 : List (S34)) (r2 : List (S34)) (w : World) (hr0 : Kd.C k34 w A0 l0.length l0) (hc0 : l0.length ≤ c0) (hb1_0 : w.heap[g1_0]? = some (.cells #[.int .i64 a1_0] 3 (0, 0))) (h : lease_Lease_31_at35.f k l0 a1_0 = some (r1, r2)) :
  Calls Tryd.prog 31 #[.slice A0 l0.length c0, .func (.func 35) #[] #[.pointer (some ⟨g1_0, 0, none⟩)]] w fun e w' => ∃ v0_ v1_ : Value, e = .returned (.tuple #[v0_, v1_]) ∧ Kd.R k34 34 w' w.heap.size (fun k_ => some k_ ≠ (v1_ : Value).ownBlock) v0_ r1 ∧ Kd.R k34 34 w' w.heap.size (fun k_ => some k_ ≠ (v0_ : Value).ownBlock) v1_ r2 ∧ Below w.heap.size w w' := by
 have hu34 := Tryd.underlying34
 have HR0 := Aside0.mk hr0
 have HC0 := Aside0.mk hc0
 clear hr0 hc0
 have BK467 := Aside0.mk hb1_0
 clear hb1_0
 have HB := Aside0.mk (Below.refl w.heap.size w)
 have H : (lease_Lease_31_at35.l0 k ([] : List (S34)) ([] : List (S34)) l0 (l0.length : Int) 0 a1_0) = some (r1, r2) := h
 clear h
 have H' := Aside0.mk H
 clear H
 go_enter Tryd.func31, Tryd.ntmps31
 go_wp2
 go_loopg [4, 5, 10] k (fun kq v4 v5 v10 w' => ∃ (x4_1 : List (S34)) (x5_1 : List (S34)) (x10_1 : Int), v10 = .int .i64 x10_1 ∧ Aside0 (lease_Lease_31_at35.l0 kq x4_1 x5_1 l0 (l0.length : Int) x10_1 a1_0 = some (r1, r2)) ∧ Aside0 (kq ≤ k) ∧ Aside0 (Kd.R k34 34 w' w.heap.size (fun k_ => some k_ ≠ (v5 : Value).ownBlock) v4 x4_1) ∧ Aside0 (Kd.R k34 34 w' w.heap.size (fun k_ => some k_ ≠ (v4 : Value).ownBlock) v5 x5_1) ∧ Aside0 (w'.heap[g1_0]? = some (.cells #[.int .i64 a1_0] 3 (0, 0))) ∧ Aside0 (Below w.heap.size w w'))
 case atStart => exact ⟨(([] : List (S34))), (([] : List (S34))), (0), zS, H', ⟨Nat.le_refl _⟩, ⟨by first | exact Kd.R_nil _ _ _ _ _ | exact Kd.N_nil _ _ _ _ _ | exact Kd.V_nil _ _ _ _ _ | exact Kd.Q_nil _ _ _ _ _ | exact Kd.S_nil _ _ _ _ _⟩, ⟨by first | exact Kd.R_nil _ _ _ _ _ | exact Kd.N_nil _ _ _ _ _ | exact Kd.V_nil _ _ _ _ _ | exact Kd.Q_nil _ _ _ _ _ | exact Kd.S_nil _ _ _ _ _⟩, ⟨zK BK467.out⟩, ⟨zL HB.out⟩⟩
 case round =>
  clear H'
  try clear p2
  obtain ⟨x4_1, x5_1, x10_1, rfl, HA, HK1, HO_4, HO_5, BK467, HB⟩ := hrel
  cases gk with
  | zero => exact absurd HA.out (by simp [lease_Lease_31_at35.l0])
  | succ k1 =>
   have H := HA.out
   clear HA
   simp only [lease_Lease_31_at35.l0] at H
   by_cases c3 : x10_1 < (l0.length : Int)
   ·rw [if_pos c3] at H
    have c3b0 : decide (x10_1 < (l0.length : Int)) = true := decide_eq_true c3
    clear c3
    by_cases c4 : 0 ≤ x10_1
    ·rw [if_pos c4] at H
     have c4b0 : decide (0 ≤ x10_1) = true := decide_eq_true c4
     clear c4
     by_cases c5 : x10_1 < (l0.length : Int)
     ·rw [if_pos c5] at H
      have c5b0 : decide (x10_1 < (l0.length : Int)) = true := decide_eq_true c5
      clear c5
      replace H := Option.bind_eq_some_iff.mp H
      obtain ⟨t470, A60, H⟩ := H
      replace H : (if t470 = true then (if x4_1.length < 2932031007402 then (lease_Lease_31_at35.l0 k1 (x4_1 ++ [(⟨(rd_T34 l0 x10_1).f0, (rd_T34 l0 x10_1).f1, (rd_T34 l0 x10_1).f2, (rd_T34 l0 x10_1).f3, (rd_T34 l0 x10_1).f4⟩ : S34)]) x5_1 l0 (l0.length : Int) (wrap64 (x10_1 + 1)) a1_0) else (none)) else (if x5_1.length < 2932031007402 then (lease_Lease_31_at35.l0 k1 x4_1 (x5_1 ++ [(⟨(rd_T34 l0 x10_1).f0, (rd_T34 l0 x10_1).f1, (rd_T34 l0 x10_1).f2, (rd_T34 l0 x10_1).f3, (rd_T34 l0 x10_1).f4⟩ : S34)]) l0 (l0.length : Int) (wrap64 (x10_1 + 1)) a1_0) else (none))) = some (r1, r2) := H
      have A6 := Aside0.mk A60
      clear A60
      by_cases c7 : t470 = true
      ·subst c7
       have H1 : (if x4_1.length < 2932031007402 then (lease_Lease_31_at35.l0 k1 (x4_1 ++ [(⟨(rd_T34 l0 x10_1).f0, (rd_T34 l0 x10_1).f1, (rd_T34 l0 x10_1).f2, (rd_T34 l0 x10_1).f3, (rd_T34 l0 x10_1).f4⟩ : S34)]) x5_1 l0 (l0.length : Int) (wrap64 (x10_1 + 1)) a1_0) else (none)) = some (r1, r2) := by rw [if_pos rfl] at H; exact H
       clear H
       have H := H1
       clear H1
       by_cases c8 : x4_1.length < 2932031007402
       ·rw [if_pos c8] at H
        have LMc8 := Aside0.mk c8
        clear c8
        obtain ⟨y471, hy471⟩ : ∃ y_ : List (S34), y_ = (x4_1 ++ [(⟨(rd_T34 l0 x10_1).f0, (rd_T34 l0 x10_1).f1, (rd_T34 l0 x10_1).f2, (rd_T34 l0 x10_1).f3, (rd_T34 l0 x10_1).f4⟩ : S34)]) := ⟨_, rfl⟩
        replace H : (lease_Lease_31_at35.l0 k1 y471 x5_1 l0 (l0.length : Int) (wrap64 (x10_1 + 1)) a1_0) = some (r1, r2) := zH hy471 H
        have Ny471 := Aside0.mk hy471
        clear hy471
        have H' := Aside0.mk H
        clear H
        have p468 : 0 ≤ (x10_1 : Int) := zD
        have q468 : x10_1 < (l0.length : Int) := zD
        obtain ⟨ad468, e468, hx468_0, hx468_1, hx468_2, hx468_3, hx468_4⟩ := at_T34 HR0.out x10_1 p468 q468
        cases e468
        replace hx468_0 := zX HB.out hx468_0
        replace hx468_1 := zX HB.out hx468_1
        replace hx468_2 := zX HB.out hx468_2
        replace hx468_3 := zX HB.out hx468_3
        replace hx468_4 := zX HB.out hx468_4
        replace p468 := eq_true p468
        replace q468 := eq_true q468
        go_wp2_with (first | ((with_reducible refine gate_dst (N := 7) rfl ?_); refine box_event ?hg (N := 7) ?hd (cs := #[.int .i64 0, .string (⟨#[]⟩ : ByteArray), .bool false, .int .i64 0, .int .i64 0]) (t := 34) ?hr ?_; (case hd => rfl); (case hg => rfl); (case hr => first | (go_simp; done) | (go_simp; rfl)); intro gb469 hg w9 hbox hb; have n0_ := Aside0.mk (Kd.R_below (Kd.R_elderB (zR HO_4.out) gb469 (Nat.le_of_eq hg.symm)) hb); have n1_ := Aside0.mk (Kd.R_below (Kd.R_elderB (zR HO_5.out) gb469 (Nat.le_of_eq hg.symm)) hb); have n2_ := Aside0.mk (blk_below (g := g1_0) (o := .cells #[.int .i64 a1_0] 3 (0, 0)) (zK BK467.out) hb); have n3_ := Aside0.mk (below_step (zL HB.out) hb); have n4_ := Aside0.mk (hbox); have n5_ := Aside0.mk (zG hg (zL HB.out)); have n6_ := Aside0.mk (zG hg (zL HB.out)); have n7_ := Aside0.mk (zN (g := g1_0) (o := .cells #[.int .i64 a1_0] 3 (0, 0)) hg (zK BK467.out)); have n8_ := Aside0.mk (zO (g := g1_0) (o := .cells #[.int .i64 a1_0] 3 (0, 0)) hg (zK BK467.out)); revert n0_ n1_ n2_ n3_ n4_ n5_ n6_ n7_ n8_; clear HO_4 HO_5 BK467 HB; intro HO_4 HO_5 BK467 HB BK469 GW469 GE469 NB467_469 NB469_467; clear hb hbox hg; have hnb10 := NB469_467.out; have hnc10 := NB467_469.out; obtain ⟨hcz11_0, hcz11_1, hcz11_2, hcz11_3, hcz11_4, hfz11_0, hfz11_1, hfz11_2, hfz11_3, hfz11_4⟩ := zC5 BK469.out) | (go_at_call 35; (with_reducible refine (lease_Leave_1.calls ((rd_T34 l0 x10_1).f0) ((rd_T34 l0 x10_1).f1) ((rd_T34 l0 x10_1).f2) ((rd_T34 l0 x10_1).f3) ((rd_T34 l0 x10_1).f4) g1_0 a1_0 true _ ?side1 A6.out).mono ?_); (case side1 => exact zK BK467.out); rintro e w12 ⟨rfl, hb⟩; have n0_ := Aside0.mk (Kd.R_below (zM HO_4.out (g := gb469) (fun _ hk => hk.2)) hb); have n1_ := Aside0.mk (Kd.R_below (zM HO_5.out (g := gb469) (fun _ hk => hk.2)) hb); have n2_ := Aside0.mk (blk_below (g := g1_0) (o := .cells #[.int .i64 a1_0] 3 (0, 0)) (zK BK467.out) hb); have n3_ := Aside0.mk (blk_below (g := gb469) (o := .cells #[.int .i64 ((rd_T34 l0 x10_1).f0), .string ((rd_T34 l0 x10_1).f1), .bool ((rd_T34 l0 x10_1).f2), .int .i64 ((rd_T34 l0 x10_1).f3), .int .i64 ((rd_T34 l0 x10_1).f4)] 34 (0, 0)) (zP5 BK469.out) hb); have n4_ := Aside0.mk (below_step (zL HB.out) hb); revert n0_ n1_ n2_ n3_ n4_; clear HO_4 HO_5 BK467 BK469 HB; intro HO_4 HO_5 BK467 BK469 HB; (try clear hb); (try clear hb2); (try clear hk); (try clear hi); obtain ⟨hcz13_0, hcz13_1, hcz13_2, hcz13_3, hcz13_4, hfz13_0, hfz13_1, hfz13_2, hfz13_3, hfz13_4⟩ := zC5 BK469.out) | ((with_reducible refine gate_builtin (b := .append) (xs := #[.tmp 17, .tmp 19]) rfl ?_); at_builtin; refine Kd.R_append k34 (w0 := w) w.heap.size rfl (.tmp 17) (.tmp 19) 24 34 (.agg #[(.int .i64 0), (.string ⟨#[]⟩), (.bool false), (.int .i64 0), (.int .i64 0)]) 48 rfl Tryd.underlying24 info34 rfl (by decide) (by omega) u4 x4_1 (⟨(rd_T34 l0 x10_1).f0, (rd_T34 l0 x10_1).f1, (rd_T34 l0 x10_1).f2, (rd_T34 l0 x10_1).f3, (rd_T34 l0 x10_1).f4⟩ : S34) [.int .i64 ((rd_T34 l0 x10_1).f0), .string ((rd_T34 l0 x10_1).f1), .bool ((rd_T34 l0 x10_1).f2), .int .i64 ((rd_T34 l0 x10_1).f3), .int .i64 ((rd_T34 l0 x10_1).f4)] (fun k_ => some k_ ≠ (u5 : Value).ownBlock ∧ k_ ≠ gb469) (fun _ => False) rfl rfl ?aP (fun _ hk => hk.elim) ?aF ?aO ?aB ?aS ?aL ?_; (case aP => exact k34_mkM _ _ _ (⟨(rd_T34 l0 x10_1).f0, (rd_T34 l0 x10_1).f1, (rd_T34 l0 x10_1).f2, (rd_T34 l0 x10_1).f3, (rd_T34 l0 x10_1).f4⟩ : S34)); (case aB => exact (zL HB.out)); (case aF => exact (fun k_ hk => ⟨Kd.fresh' (Kd.R_lt (zR HO_5.out)) k_ hk, Kd.freshB (g := gb469) (o := .cells #[.int .i64 ((rd_T34 l0 x10_1).f0), .string ((rd_T34 l0 x10_1).f1), .bool ((rd_T34 l0 x10_1).f2), .int .i64 ((rd_T34 l0 x10_1).f3), .int .i64 ((rd_T34 l0 x10_1).f4)] 34 (0, 0)) (zK BK469.out) k_ hk⟩)); (case aO => exact (zR HO_4.out)); (case aS => exact (below_size (zL HB.out))); (case aL => have := LMc8.out; omega); intro v472 w14 ho hb hg hat; rw [← Ny471.out] at ho; have n0_ := Aside0.mk (Kd.R_after (ok := (fun k_ => k_ ≠ gb469)) (by (with_reducible repeat (first | apply Kd.R_alloc | apply Kd.R_drewN | apply Kd.R_drew)); exact Kd.R_mono HO_5.out (fun _ hk => ⟨hk.2, hk.1⟩)) hg hat); have n1_ := Aside0.mk (blk_grown (g := g1_0) (o := .cells #[.int .i64 a1_0] 3 (0, 0)) (zK BK467.out) hg (Kd.R_ne HO_4.out BK467.out (by decide))); have n2_ := Aside0.mk (blk_grown (g := gb469) (o := .cells #[.int .i64 ((rd_T34 l0 x10_1).f0), .string ((rd_T34 l0 x10_1).f1), .bool ((rd_T34 l0 x10_1).f2), .int .i64 ((rd_T34 l0 x10_1).f3), .int .i64 ((rd_T34 l0 x10_1).f4)] 34 (0, 0)) (zK BK469.out) hg (Kd.R_away HO_4.out (fun _ hk => hk.2))); have n3_ := Aside0.mk (hb); have n4_ := Aside0.mk (ho); revert n0_ n1_ n2_ n3_ n4_; clear HO_5 BK467 BK469 HB HO_4; intro HO_5 BK467 BK469 HB HO473; clear ho hb hg hat))
        go_roundg k1
        case measure => have := HK1.out; omega
        case rel => exact ⟨(y471), (x5_1), (wrap64 (x10_1 + 1)), zS, H', ⟨by have := HK1.out; omega⟩, ⟨by (with_reducible repeat (first | apply Kd.R_alloc | apply Kd.R_drewN | apply Kd.R_drew)); exact Kd.R_mono HO473.out (fun _ hk => hk.1)⟩, ⟨by (with_reducible repeat (first | apply Kd.R_alloc | apply Kd.R_drewN | apply Kd.R_drew)); exact Kd.R_mono HO_5.out (fun _ hk => hk.2)⟩, ⟨zK BK467.out⟩, ⟨zL HB.out⟩⟩
       ·rw [if_neg c8] at H
        exact absurd H (by simp)
      ·replace c7 := Bool.eq_false_iff.mpr c7
       subst c7
       have H1 : (if x5_1.length < 2932031007402 then (lease_Lease_31_at35.l0 k1 x4_1 (x5_1 ++ [(⟨(rd_T34 l0 x10_1).f0, (rd_T34 l0 x10_1).f1, (rd_T34 l0 x10_1).f2, (rd_T34 l0 x10_1).f3, (rd_T34 l0 x10_1).f4⟩ : S34)]) l0 (l0.length : Int) (wrap64 (x10_1 + 1)) a1_0) else (none)) = some (r1, r2) := by rw [if_neg (show ¬ (false = true) by decide)] at H; exact H
       clear H
       have H := H1
       clear H1
       by_cases c15 : x5_1.length < 2932031007402
       ·rw [if_pos c15] at H
        have LMc15 := Aside0.mk c15
        clear c15
        obtain ⟨y474, hy474⟩ : ∃ y_ : List (S34), y_ = (x5_1 ++ [(⟨(rd_T34 l0 x10_1).f0, (rd_T34 l0 x10_1).f1, (rd_T34 l0 x10_1).f2, (rd_T34 l0 x10_1).f3, (rd_T34 l0 x10_1).f4⟩ : S34)]) := ⟨_, rfl⟩
        replace H : (lease_Lease_31_at35.l0 k1 x4_1 y474 l0 (l0.length : Int) (wrap64 (x10_1 + 1)) a1_0) = some (r1, r2) := zH hy474 H
        have Ny474 := Aside0.mk hy474
        clear hy474
        have H' := Aside0.mk H
        clear H
        have p468 : 0 ≤ (x10_1 : Int) := zD
        have q468 : x10_1 < (l0.length : Int) := zD
        obtain ⟨ad468, e468, hx468_0, hx468_1, hx468_2, hx468_3, hx468_4⟩ := at_T34 HR0.out x10_1 p468 q468
        cases e468
        replace hx468_0 := zX HB.out hx468_0
        replace hx468_1 := zX HB.out hx468_1
        replace hx468_2 := zX HB.out hx468_2
        replace hx468_3 := zX HB.out hx468_3
        replace hx468_4 := zX HB.out hx468_4
        replace p468 := eq_true p468
        replace q468 := eq_true q468
        go_wp2_with (first | ((with_reducible refine gate_dst (N := 7) rfl ?_); refine box_event ?hg (N := 7) ?hd (cs := #[.int .i64 0, .string (⟨#[]⟩ : ByteArray), .bool false, .int .i64 0, .int .i64 0]) (t := 34) ?hr ?_; (case hd => rfl); (case hg => rfl); (case hr => first | (go_simp; done) | (go_simp; rfl)); intro gb469 hg w16 hbox hb; have n0_ := Aside0.mk (Kd.R_below (Kd.R_elderB (zR HO_4.out) gb469 (Nat.le_of_eq hg.symm)) hb); have n1_ := Aside0.mk (Kd.R_below (Kd.R_elderB (zR HO_5.out) gb469 (Nat.le_of_eq hg.symm)) hb); have n2_ := Aside0.mk (blk_below (g := g1_0) (o := .cells #[.int .i64 a1_0] 3 (0, 0)) (zK BK467.out) hb); have n3_ := Aside0.mk (below_step (zL HB.out) hb); have n4_ := Aside0.mk (hbox); have n5_ := Aside0.mk (zG hg (zL HB.out)); have n6_ := Aside0.mk (zG hg (zL HB.out)); have n7_ := Aside0.mk (zN (g := g1_0) (o := .cells #[.int .i64 a1_0] 3 (0, 0)) hg (zK BK467.out)); have n8_ := Aside0.mk (zO (g := g1_0) (o := .cells #[.int .i64 a1_0] 3 (0, 0)) hg (zK BK467.out)); revert n0_ n1_ n2_ n3_ n4_ n5_ n6_ n7_ n8_; clear HO_4 HO_5 BK467 HB; intro HO_4 HO_5 BK467 HB BK469 GW469 GE469 NB467_469 NB469_467; clear hb hbox hg; have hnb17 := NB469_467.out; have hnc17 := NB467_469.out; obtain ⟨hcz18_0, hcz18_1, hcz18_2, hcz18_3, hcz18_4, hfz18_0, hfz18_1, hfz18_2, hfz18_3, hfz18_4⟩ := zC5 BK469.out) | (go_at_call 35; (with_reducible refine (lease_Leave_1.calls ((rd_T34 l0 x10_1).f0) ((rd_T34 l0 x10_1).f1) ((rd_T34 l0 x10_1).f2) ((rd_T34 l0 x10_1).f3) ((rd_T34 l0 x10_1).f4) g1_0 a1_0 false _ ?side1 A6.out).mono ?_); (case side1 => exact zK BK467.out); rintro e w19 ⟨rfl, hb⟩; have n0_ := Aside0.mk (Kd.R_below (zM HO_4.out (g := gb469) (fun _ hk => hk.2)) hb); have n1_ := Aside0.mk (Kd.R_below (zM HO_5.out (g := gb469) (fun _ hk => hk.2)) hb); have n2_ := Aside0.mk (blk_below (g := g1_0) (o := .cells #[.int .i64 a1_0] 3 (0, 0)) (zK BK467.out) hb); have n3_ := Aside0.mk (blk_below (g := gb469) (o := .cells #[.int .i64 ((rd_T34 l0 x10_1).f0), .string ((rd_T34 l0 x10_1).f1), .bool ((rd_T34 l0 x10_1).f2), .int .i64 ((rd_T34 l0 x10_1).f3), .int .i64 ((rd_T34 l0 x10_1).f4)] 34 (0, 0)) (zP5 BK469.out) hb); have n4_ := Aside0.mk (below_step (zL HB.out) hb); revert n0_ n1_ n2_ n3_ n4_; clear HO_4 HO_5 BK467 BK469 HB; intro HO_4 HO_5 BK467 BK469 HB; (try clear hb); (try clear hb2); (try clear hk); (try clear hi); obtain ⟨hcz20_0, hcz20_1, hcz20_2, hcz20_3, hcz20_4, hfz20_0, hfz20_1, hfz20_2, hfz20_3, hfz20_4⟩ := zC5 BK469.out) | ((with_reducible refine gate_builtin (b := .append) (xs := #[.tmp 21, .tmp 23]) rfl ?_); at_builtin; refine Kd.R_append k34 (w0 := w) w.heap.size rfl (.tmp 21) (.tmp 23) 24 34 (.agg #[(.int .i64 0), (.string ⟨#[]⟩), (.bool false), (.int .i64 0), (.int .i64 0)]) 48 rfl Tryd.underlying24 info34 rfl (by decide) (by omega) u5 x5_1 (⟨(rd_T34 l0 x10_1).f0, (rd_T34 l0 x10_1).f1, (rd_T34 l0 x10_1).f2, (rd_T34 l0 x10_1).f3, (rd_T34 l0 x10_1).f4⟩ : S34) [.int .i64 ((rd_T34 l0 x10_1).f0), .string ((rd_T34 l0 x10_1).f1), .bool ((rd_T34 l0 x10_1).f2), .int .i64 ((rd_T34 l0 x10_1).f3), .int .i64 ((rd_T34 l0 x10_1).f4)] (fun k_ => some k_ ≠ (u4 : Value).ownBlock ∧ k_ ≠ gb469) (fun _ => False) rfl rfl ?aP (fun _ hk => hk.elim) ?aF ?aO ?aB ?aS ?aL ?_; (case aP => exact k34_mkM _ _ _ (⟨(rd_T34 l0 x10_1).f0, (rd_T34 l0 x10_1).f1, (rd_T34 l0 x10_1).f2, (rd_T34 l0 x10_1).f3, (rd_T34 l0 x10_1).f4⟩ : S34)); (case aB => exact (zL HB.out)); (case aF => exact (fun k_ hk => ⟨Kd.fresh' (Kd.R_lt (zR HO_4.out)) k_ hk, Kd.freshB (g := gb469) (o := .cells #[.int .i64 ((rd_T34 l0 x10_1).f0), .string ((rd_T34 l0 x10_1).f1), .bool ((rd_T34 l0 x10_1).f2), .int .i64 ((rd_T34 l0 x10_1).f3), .int .i64 ((rd_T34 l0 x10_1).f4)] 34 (0, 0)) (zK BK469.out) k_ hk⟩)); (case aO => exact (zR HO_5.out)); (case aS => exact (below_size (zL HB.out))); (case aL => have := LMc15.out; omega); intro v475 w21 ho hb hg hat; rw [← Ny474.out] at ho; have n0_ := Aside0.mk (Kd.R_after (ok := (fun k_ => k_ ≠ gb469)) (by (with_reducible repeat (first | apply Kd.R_alloc | apply Kd.R_drewN | apply Kd.R_drew)); exact Kd.R_mono HO_4.out (fun _ hk => ⟨hk.2, hk.1⟩)) hg hat); have n1_ := Aside0.mk (blk_grown (g := g1_0) (o := .cells #[.int .i64 a1_0] 3 (0, 0)) (zK BK467.out) hg (Kd.R_ne HO_5.out BK467.out (by decide))); have n2_ := Aside0.mk (blk_grown (g := gb469) (o := .cells #[.int .i64 ((rd_T34 l0 x10_1).f0), .string ((rd_T34 l0 x10_1).f1), .bool ((rd_T34 l0 x10_1).f2), .int .i64 ((rd_T34 l0 x10_1).f3), .int .i64 ((rd_T34 l0 x10_1).f4)] 34 (0, 0)) (zK BK469.out) hg (Kd.R_away HO_5.out (fun _ hk => hk.2))); have n3_ := Aside0.mk (hb); have n4_ := Aside0.mk (ho); revert n0_ n1_ n2_ n3_ n4_; clear HO_4 BK467 BK469 HB HO_5; intro HO_4 BK467 BK469 HB HO476; clear ho hb hg hat))
        go_roundg k1
        case measure => have := HK1.out; omega
        case rel => exact ⟨(x4_1), (y474), (wrap64 (x10_1 + 1)), zS, H', ⟨by have := HK1.out; omega⟩, ⟨by (with_reducible repeat (first | apply Kd.R_alloc | apply Kd.R_drewN | apply Kd.R_drew)); exact Kd.R_mono HO_4.out (fun _ hk => hk.2)⟩, ⟨by (with_reducible repeat (first | apply Kd.R_alloc | apply Kd.R_drewN | apply Kd.R_drew)); exact Kd.R_mono HO476.out (fun _ hk => hk.1)⟩, ⟨zK BK467.out⟩, ⟨zL HB.out⟩⟩
       ·rw [if_neg c15] at H
        exact absurd H (by simp)
     ·rw [if_neg c5] at H
      exact absurd H (by simp)
    ·rw [if_neg c4] at H
     exact absurd H (by simp)
   ·rw [if_neg c3] at H
    have c3b0 : decide (x10_1 < (l0.length : Int)) = false := decide_eq_false c3
    clear c3
    simp only [Option.some.injEq, Prod.mk.injEq] at H
    obtain ⟨rfl, rfl⟩ := H
    go_wp2
    go_ret2
    exact ⟨_, _, zE, by (with_reducible repeat (first | apply Kd.R_alloc | apply Kd.R_drewN | apply Kd.R_drew)); exact HO_4.out, by (with_reducible repeat (first | apply Kd.R_alloc | apply Kd.R_drewN | apply Kd.R_drew)); exact HO_5.out, zL HB.out⟩

/-! ### lease_Leave_2: function 37 -/
def lease_Leave_2.f (a0_0 : Int) (a0_1 : ByteArray) (a0_2 : Bool) (a0_3 : Int) (a1_0 : Int) : Option (Bool) := some (a0_0 == a1_0)
set_option maxHeartbeats 8000000 in
set_option maxRecDepth 100000 in
theorem lease_Leave_2.calls (a0_0 : Int) (a0_1 : ByteArray) (a0_2 : Bool) (a0_3 : Int) (g1_0 : Nat) (a1_0 : Int) (r : Bool) (w : World) (hb1_0 : w.heap[g1_0]? = some (.cells #[.int .i64 a1_0] 3 (0, 0))) (h : lease_Leave_2.f a0_0 a0_1 a0_2 a0_3 a1_0 = some r) :
  Calls Tryd.prog 37 #[.agg #[.int .i64 a0_0, .string a0_1, .bool a0_2, .int .i64 a0_3], .pointer (some ⟨g1_0, 0, none⟩)] w fun e w' => e = .returned (.bool r) ∧ Below w.heap.size w w' := by
 have hu32 := Tryd.underlying32
 have BK494 := Aside0.mk hb1_0
 clear hb1_0
 have HB := Aside0.mk (Below.refl w.heap.size w)
 have H : (some (a0_0 == a1_0)) = some r := h
 clear h
 obtain rfl := Option.some.inj H
 go_enter Tryd.func37, Tryd.ntmps37
 go_wp2_with (first | ((with_reducible refine gate_dst (N := 2) rfl ?_); refine box_event ?hg (N := 2) ?hd (cs := #[.int .i64 a0_0, .string a0_1, .bool a0_2, .int .i64 a0_3]) (t := 32) ?hr ?_; (case hd => rfl); (case hg => rfl); (case hr => first | (go_simp; done) | (go_simp; rfl)); intro gb495 hg w3 hbox hb; have n0_ := Aside0.mk (blk_below (g := g1_0) (o := .cells #[.int .i64 a1_0] 3 (0, 0)) (zK BK494.out) hb); have n1_ := Aside0.mk (below_step (zL HB.out) hb); have n2_ := Aside0.mk (hbox); have n3_ := Aside0.mk (zG hg (zL HB.out)); have n4_ := Aside0.mk (zG hg (zL HB.out)); have n5_ := Aside0.mk (zN (g := g1_0) (o := .cells #[.int .i64 a1_0] 3 (0, 0)) hg (zK BK494.out)); have n6_ := Aside0.mk (zO (g := g1_0) (o := .cells #[.int .i64 a1_0] 3 (0, 0)) hg (zK BK494.out)); revert n0_ n1_ n2_ n3_ n4_ n5_ n6_; clear BK494 HB; intro BK494 HB BK495 GW495 GE495 NB494_495 NB495_494; clear hb hbox hg; have hnb4 := NB495_494.out; have hnc4 := NB494_495.out; obtain ⟨hcz5_0, hcz5_1, hcz5_2, hcz5_3, hfz5_0, hfz5_1, hfz5_2, hfz5_3⟩ := zC4 BK495.out; obtain ⟨hcz6_0, hfz6_0⟩ := zC1 BK494.out))
 go_ret
 exact ⟨zE, zL HB.out⟩

/-! ### lease_Ask_36_at37: function 36 -/
def lease_Ask_36_at37.l0 : Nat → List (S32) → List (S32) → List (S32) → Int → Int → Int → Option ((List (S32)) × (List (S32)))
 | 0, _, _, _, _, _, _ => none
 | k + 1, x4, x5, x8, x9, x10, x498000 => if x10 < x9 then (if 0 ≤ x10 then (if x10 < (x8.length : Int) then ((lease_Leave_2.f ((rd_T32 x8 x10).f0) ((rd_T32 x8 x10).f1) ((rd_T32 x8 x10).f2) ((rd_T32 x8 x10).f3) x498000).bind fun t500 => (if t500 = true then (if x4.length < 3518437208883 then (lease_Ask_36_at37.l0 k (x4 ++ [(⟨(rd_T32 x8 x10).f0, (rd_T32 x8 x10).f1, (rd_T32 x8 x10).f2, (rd_T32 x8 x10).f3⟩ : S32)]) x5 x8 x9 (wrap64 (x10 + 1)) x498000) else (none)) else (if x5.length < 3518437208883 then (lease_Ask_36_at37.l0 k x4 (x5 ++ [(⟨(rd_T32 x8 x10).f0, (rd_T32 x8 x10).f1, (rd_T32 x8 x10).f2, (rd_T32 x8 x10).f3⟩ : S32)]) x8 x9 (wrap64 (x10 + 1)) x498000) else (none)))) else (none)) else (none)) else (some (x4, x5))
def lease_Ask_36_at37.f (k : Nat) (l0 : List (S32)) (a1_0 : Int) : Option ((List (S32)) × (List (S32))) := lease_Ask_36_at37.l0 k ([] : List (S32)) ([] : List (S32)) l0 (l0.length : Int) 0 a1_0
theorem lease_Ask_36_at37.mono_l : ∀ k, (∀ y0 y1 y2 y3 y4 y5, LeO (lease_Ask_36_at37.l0 k y0 y1 y2 y3 y4 y5) (lease_Ask_36_at37.l0 (k + 1) y0 y1 y2 y3 y4 y5))
 | 0 => fun _ _ _ _ _ _ r h => by simp [lease_Ask_36_at37.l0] at h
 | k + 1 => by
  have ih0 := lease_Ask_36_at37.mono_l k
  ·intro y0 y1 y2 y3 y4 y5
   unfold lease_Ask_36_at37.l0
   repeat' first
   | (with_reducible exact ih0 _ _ _ _ _ _)
   | (with_reducible exact LeO.refl _)
   | (with_reducible exact LeO.none _)
   | (with_reducible refine LeO.ite ?_ ?_)
   | (with_reducible refine LeO.bind ?_ (fun _ => ?_))
   | exact ih0 _ _ _ _ _ _
   | exact LeO.none _
   | refine LeO.ite ?_ ?_
   | refine LeO.bind ?_ (fun _ => ?_)
theorem lease_Ask_36_at37.mono : ∀ a0 a1 k, LeO (lease_Ask_36_at37.f k a0 a1) (lease_Ask_36_at37.f (k + 1) a0 a1) := by
 intro a0 a1 k
 have ih0 := lease_Ask_36_at37.mono_l k
 unfold lease_Ask_36_at37.f
 repeat' first
   | (with_reducible exact ih0 _ _ _ _ _ _)
   | (with_reducible exact LeO.refl _)
   | (with_reducible exact LeO.none _)
   | (with_reducible refine LeO.ite ?_ ?_)
   | (with_reducible refine LeO.bind ?_ (fun _ => ?_))
   | exact ih0 _ _ _ _ _ _
   | exact LeO.none _
   | refine LeO.ite ?_ ?_
   | refine LeO.bind ?_ (fun _ => ?_)
set_option maxHeartbeats 8000000 in
set_option maxRecDepth 100000 in
theorem lease_Ask_36_at37.calls (k : Nat) (A0 : Option Addr) (c0 : Nat) (l0 : List (S32)) (g1_0 : Nat) (a1_0 : Int) (r1 : List (S32)) (r2 : List (S32)) (w : World) (hr0 : Kd.C k32 w A0 l0.length l0) (hc0 : l0.length ≤ c0) (hb1_0 : w.heap[g1_0]? = some (.cells #[.int .i64 a1_0] 3 (0, 0))) (h : lease_Ask_36_at37.f k l0 a1_0 = some (r1, r2)) :
  Calls Tryd.prog 36 #[.slice A0 l0.length c0, .func (.func 37) #[] #[.pointer (some ⟨g1_0, 0, none⟩)]] w fun e w' => ∃ v0_ v1_ : Value, e = .returned (.tuple #[v0_, v1_]) ∧ Kd.R k32 32 w' w.heap.size (fun k_ => some k_ ≠ (v1_ : Value).ownBlock) v0_ r1 ∧ Kd.R k32 32 w' w.heap.size (fun k_ => some k_ ≠ (v0_ : Value).ownBlock) v1_ r2 ∧ Below w.heap.size w w' := by
 have hu32 := Tryd.underlying32
 have HR0 := Aside0.mk hr0
 have HC0 := Aside0.mk hc0
 clear hr0 hc0
 have BK497 := Aside0.mk hb1_0
 clear hb1_0
 have HB := Aside0.mk (Below.refl w.heap.size w)
 have H : (lease_Ask_36_at37.l0 k ([] : List (S32)) ([] : List (S32)) l0 (l0.length : Int) 0 a1_0) = some (r1, r2) := h
 clear h
 have H' := Aside0.mk H
 clear H
 go_enter Tryd.func36, Tryd.ntmps36
 go_wp2
 go_loopg [4, 5, 10] k (fun kq v4 v5 v10 w' => ∃ (x4_1 : List (S32)) (x5_1 : List (S32)) (x10_1 : Int), v10 = .int .i64 x10_1 ∧ Aside0 (lease_Ask_36_at37.l0 kq x4_1 x5_1 l0 (l0.length : Int) x10_1 a1_0 = some (r1, r2)) ∧ Aside0 (kq ≤ k) ∧ Aside0 (Kd.R k32 32 w' w.heap.size (fun k_ => some k_ ≠ (v5 : Value).ownBlock) v4 x4_1) ∧ Aside0 (Kd.R k32 32 w' w.heap.size (fun k_ => some k_ ≠ (v4 : Value).ownBlock) v5 x5_1) ∧ Aside0 (w'.heap[g1_0]? = some (.cells #[.int .i64 a1_0] 3 (0, 0))) ∧ Aside0 (Below w.heap.size w w'))
 case atStart => exact ⟨(([] : List (S32))), (([] : List (S32))), (0), zS, H', ⟨Nat.le_refl _⟩, ⟨by first | exact Kd.R_nil _ _ _ _ _ | exact Kd.N_nil _ _ _ _ _ | exact Kd.V_nil _ _ _ _ _ | exact Kd.Q_nil _ _ _ _ _ | exact Kd.S_nil _ _ _ _ _⟩, ⟨by first | exact Kd.R_nil _ _ _ _ _ | exact Kd.N_nil _ _ _ _ _ | exact Kd.V_nil _ _ _ _ _ | exact Kd.Q_nil _ _ _ _ _ | exact Kd.S_nil _ _ _ _ _⟩, ⟨zK BK497.out⟩, ⟨zL HB.out⟩⟩
 case round =>
  clear H'
  try clear p2
  obtain ⟨x4_1, x5_1, x10_1, rfl, HA, HK1, HO_4, HO_5, BK497, HB⟩ := hrel
  cases gk with
  | zero => exact absurd HA.out (by simp [lease_Ask_36_at37.l0])
  | succ k1 =>
   have H := HA.out
   clear HA
   simp only [lease_Ask_36_at37.l0] at H
   by_cases c3 : x10_1 < (l0.length : Int)
   ·rw [if_pos c3] at H
    have c3b0 : decide (x10_1 < (l0.length : Int)) = true := decide_eq_true c3
    clear c3
    by_cases c4 : 0 ≤ x10_1
    ·rw [if_pos c4] at H
     have c4b0 : decide (0 ≤ x10_1) = true := decide_eq_true c4
     clear c4
     by_cases c5 : x10_1 < (l0.length : Int)
     ·rw [if_pos c5] at H
      have c5b0 : decide (x10_1 < (l0.length : Int)) = true := decide_eq_true c5
      clear c5
      replace H := Option.bind_eq_some_iff.mp H
      obtain ⟨t500, A60, H⟩ := H
      replace H : (if t500 = true then (if x4_1.length < 3518437208883 then (lease_Ask_36_at37.l0 k1 (x4_1 ++ [(⟨(rd_T32 l0 x10_1).f0, (rd_T32 l0 x10_1).f1, (rd_T32 l0 x10_1).f2, (rd_T32 l0 x10_1).f3⟩ : S32)]) x5_1 l0 (l0.length : Int) (wrap64 (x10_1 + 1)) a1_0) else (none)) else (if x5_1.length < 3518437208883 then (lease_Ask_36_at37.l0 k1 x4_1 (x5_1 ++ [(⟨(rd_T32 l0 x10_1).f0, (rd_T32 l0 x10_1).f1, (rd_T32 l0 x10_1).f2, (rd_T32 l0 x10_1).f3⟩ : S32)]) l0 (l0.length : Int) (wrap64 (x10_1 + 1)) a1_0) else (none))) = some (r1, r2) := H
      have A6 := Aside0.mk A60
      clear A60
      by_cases c7 : t500 = true
      ·subst c7
       have H1 : (if x4_1.length < 3518437208883 then (lease_Ask_36_at37.l0 k1 (x4_1 ++ [(⟨(rd_T32 l0 x10_1).f0, (rd_T32 l0 x10_1).f1, (rd_T32 l0 x10_1).f2, (rd_T32 l0 x10_1).f3⟩ : S32)]) x5_1 l0 (l0.length : Int) (wrap64 (x10_1 + 1)) a1_0) else (none)) = some (r1, r2) := by rw [if_pos rfl] at H; exact H
       clear H
       have H := H1
       clear H1
       by_cases c8 : x4_1.length < 3518437208883
       ·rw [if_pos c8] at H
        have LMc8 := Aside0.mk c8
        clear c8
        obtain ⟨y501, hy501⟩ : ∃ y_ : List (S32), y_ = (x4_1 ++ [(⟨(rd_T32 l0 x10_1).f0, (rd_T32 l0 x10_1).f1, (rd_T32 l0 x10_1).f2, (rd_T32 l0 x10_1).f3⟩ : S32)]) := ⟨_, rfl⟩
        replace H : (lease_Ask_36_at37.l0 k1 y501 x5_1 l0 (l0.length : Int) (wrap64 (x10_1 + 1)) a1_0) = some (r1, r2) := zH hy501 H
        have Ny501 := Aside0.mk hy501
        clear hy501
        have H' := Aside0.mk H
        clear H
        have p498 : 0 ≤ (x10_1 : Int) := zD
        have q498 : x10_1 < (l0.length : Int) := zD
        obtain ⟨ad498, e498, hx498_0, hx498_1, hx498_2, hx498_3⟩ := at_T32 HR0.out x10_1 p498 q498
        cases e498
        replace hx498_0 := zX HB.out hx498_0
        replace hx498_1 := zX HB.out hx498_1
        replace hx498_2 := zX HB.out hx498_2
        replace hx498_3 := zX HB.out hx498_3
        replace p498 := eq_true p498
        replace q498 := eq_true q498
        go_wp2_with (first | ((with_reducible refine gate_dst (N := 7) rfl ?_); refine box_event ?hg (N := 7) ?hd (cs := #[.int .i64 0, .string (⟨#[]⟩ : ByteArray), .bool false, .int .i64 0]) (t := 32) ?hr ?_; (case hd => rfl); (case hg => rfl); (case hr => first | (go_simp; done) | (go_simp; rfl)); intro gb499 hg w9 hbox hb; have n0_ := Aside0.mk (Kd.R_below (Kd.R_elderB (zR HO_4.out) gb499 (Nat.le_of_eq hg.symm)) hb); have n1_ := Aside0.mk (Kd.R_below (Kd.R_elderB (zR HO_5.out) gb499 (Nat.le_of_eq hg.symm)) hb); have n2_ := Aside0.mk (blk_below (g := g1_0) (o := .cells #[.int .i64 a1_0] 3 (0, 0)) (zK BK497.out) hb); have n3_ := Aside0.mk (below_step (zL HB.out) hb); have n4_ := Aside0.mk (hbox); have n5_ := Aside0.mk (zG hg (zL HB.out)); have n6_ := Aside0.mk (zG hg (zL HB.out)); have n7_ := Aside0.mk (zN (g := g1_0) (o := .cells #[.int .i64 a1_0] 3 (0, 0)) hg (zK BK497.out)); have n8_ := Aside0.mk (zO (g := g1_0) (o := .cells #[.int .i64 a1_0] 3 (0, 0)) hg (zK BK497.out)); revert n0_ n1_ n2_ n3_ n4_ n5_ n6_ n7_ n8_; clear HO_4 HO_5 BK497 HB; intro HO_4 HO_5 BK497 HB BK499 GW499 GE499 NB497_499 NB499_497; clear hb hbox hg; have hnb10 := NB499_497.out; have hnc10 := NB497_499.out; obtain ⟨hcz11_0, hcz11_1, hcz11_2, hcz11_3, hfz11_0, hfz11_1, hfz11_2, hfz11_3⟩ := zC4 BK499.out) | (go_at_call 37; (with_reducible refine (lease_Leave_2.calls ((rd_T32 l0 x10_1).f0) ((rd_T32 l0 x10_1).f1) ((rd_T32 l0 x10_1).f2) ((rd_T32 l0 x10_1).f3) g1_0 a1_0 true _ ?side1 A6.out).mono ?_); (case side1 => exact zK BK497.out); rintro e w12 ⟨rfl, hb⟩; have n0_ := Aside0.mk (Kd.R_below (zM HO_4.out (g := gb499) (fun _ hk => hk.2)) hb); have n1_ := Aside0.mk (Kd.R_below (zM HO_5.out (g := gb499) (fun _ hk => hk.2)) hb); have n2_ := Aside0.mk (blk_below (g := g1_0) (o := .cells #[.int .i64 a1_0] 3 (0, 0)) (zK BK497.out) hb); have n3_ := Aside0.mk (blk_below (g := gb499) (o := .cells #[.int .i64 ((rd_T32 l0 x10_1).f0), .string ((rd_T32 l0 x10_1).f1), .bool ((rd_T32 l0 x10_1).f2), .int .i64 ((rd_T32 l0 x10_1).f3)] 32 (0, 0)) (zP4 BK499.out) hb); have n4_ := Aside0.mk (below_step (zL HB.out) hb); revert n0_ n1_ n2_ n3_ n4_; clear HO_4 HO_5 BK497 BK499 HB; intro HO_4 HO_5 BK497 BK499 HB; (try clear hb); (try clear hb2); (try clear hk); (try clear hi); obtain ⟨hcz13_0, hcz13_1, hcz13_2, hcz13_3, hfz13_0, hfz13_1, hfz13_2, hfz13_3⟩ := zC4 BK499.out) | ((with_reducible refine gate_builtin (b := .append) (xs := #[.tmp 17, .tmp 19]) rfl ?_); at_builtin; refine Kd.R_append k32 (w0 := w) w.heap.size rfl (.tmp 17) (.tmp 19) 25 32 (.agg #[(.int .i64 0), (.string ⟨#[]⟩), (.bool false), (.int .i64 0)]) 40 rfl Tryd.underlying25 info32 rfl (by decide) (by omega) u4 x4_1 (⟨(rd_T32 l0 x10_1).f0, (rd_T32 l0 x10_1).f1, (rd_T32 l0 x10_1).f2, (rd_T32 l0 x10_1).f3⟩ : S32) [.int .i64 ((rd_T32 l0 x10_1).f0), .string ((rd_T32 l0 x10_1).f1), .bool ((rd_T32 l0 x10_1).f2), .int .i64 ((rd_T32 l0 x10_1).f3)] (fun k_ => some k_ ≠ (u5 : Value).ownBlock ∧ k_ ≠ gb499) (fun _ => False) rfl rfl ?aP (fun _ hk => hk.elim) ?aF ?aO ?aB ?aS ?aL ?_; (case aP => exact k32_mkM _ _ _ (⟨(rd_T32 l0 x10_1).f0, (rd_T32 l0 x10_1).f1, (rd_T32 l0 x10_1).f2, (rd_T32 l0 x10_1).f3⟩ : S32)); (case aB => exact (zL HB.out)); (case aF => exact (fun k_ hk => ⟨Kd.fresh' (Kd.R_lt (zR HO_5.out)) k_ hk, Kd.freshB (g := gb499) (o := .cells #[.int .i64 ((rd_T32 l0 x10_1).f0), .string ((rd_T32 l0 x10_1).f1), .bool ((rd_T32 l0 x10_1).f2), .int .i64 ((rd_T32 l0 x10_1).f3)] 32 (0, 0)) (zK BK499.out) k_ hk⟩)); (case aO => exact (zR HO_4.out)); (case aS => exact (below_size (zL HB.out))); (case aL => have := LMc8.out; omega); intro v502 w14 ho hb hg hat; rw [← Ny501.out] at ho; have n0_ := Aside0.mk (Kd.R_after (ok := (fun k_ => k_ ≠ gb499)) (by (with_reducible repeat (first | apply Kd.R_alloc | apply Kd.R_drewN | apply Kd.R_drew)); exact Kd.R_mono HO_5.out (fun _ hk => ⟨hk.2, hk.1⟩)) hg hat); have n1_ := Aside0.mk (blk_grown (g := g1_0) (o := .cells #[.int .i64 a1_0] 3 (0, 0)) (zK BK497.out) hg (Kd.R_ne HO_4.out BK497.out (by decide))); have n2_ := Aside0.mk (blk_grown (g := gb499) (o := .cells #[.int .i64 ((rd_T32 l0 x10_1).f0), .string ((rd_T32 l0 x10_1).f1), .bool ((rd_T32 l0 x10_1).f2), .int .i64 ((rd_T32 l0 x10_1).f3)] 32 (0, 0)) (zK BK499.out) hg (Kd.R_away HO_4.out (fun _ hk => hk.2))); have n3_ := Aside0.mk (hb); have n4_ := Aside0.mk (ho); revert n0_ n1_ n2_ n3_ n4_; clear HO_5 BK497 BK499 HB HO_4; intro HO_5 BK497 BK499 HB HO503; clear ho hb hg hat))
        go_roundg k1
        case measure => have := HK1.out; omega
        case rel => exact ⟨(y501), (x5_1), (wrap64 (x10_1 + 1)), zS, H', ⟨by have := HK1.out; omega⟩, ⟨by (with_reducible repeat (first | apply Kd.R_alloc | apply Kd.R_drewN | apply Kd.R_drew)); exact Kd.R_mono HO503.out (fun _ hk => hk.1)⟩, ⟨by (with_reducible repeat (first | apply Kd.R_alloc | apply Kd.R_drewN | apply Kd.R_drew)); exact Kd.R_mono HO_5.out (fun _ hk => hk.2)⟩, ⟨zK BK497.out⟩, ⟨zL HB.out⟩⟩
       ·rw [if_neg c8] at H
        exact absurd H (by simp)
      ·replace c7 := Bool.eq_false_iff.mpr c7
       subst c7
       have H1 : (if x5_1.length < 3518437208883 then (lease_Ask_36_at37.l0 k1 x4_1 (x5_1 ++ [(⟨(rd_T32 l0 x10_1).f0, (rd_T32 l0 x10_1).f1, (rd_T32 l0 x10_1).f2, (rd_T32 l0 x10_1).f3⟩ : S32)]) l0 (l0.length : Int) (wrap64 (x10_1 + 1)) a1_0) else (none)) = some (r1, r2) := by rw [if_neg (show ¬ (false = true) by decide)] at H; exact H
       clear H
       have H := H1
       clear H1
       by_cases c15 : x5_1.length < 3518437208883
       ·rw [if_pos c15] at H
        have LMc15 := Aside0.mk c15
        clear c15
        obtain ⟨y504, hy504⟩ : ∃ y_ : List (S32), y_ = (x5_1 ++ [(⟨(rd_T32 l0 x10_1).f0, (rd_T32 l0 x10_1).f1, (rd_T32 l0 x10_1).f2, (rd_T32 l0 x10_1).f3⟩ : S32)]) := ⟨_, rfl⟩
        replace H : (lease_Ask_36_at37.l0 k1 x4_1 y504 l0 (l0.length : Int) (wrap64 (x10_1 + 1)) a1_0) = some (r1, r2) := zH hy504 H
        have Ny504 := Aside0.mk hy504
        clear hy504
        have H' := Aside0.mk H
        clear H
        have p498 : 0 ≤ (x10_1 : Int) := zD
        have q498 : x10_1 < (l0.length : Int) := zD
        obtain ⟨ad498, e498, hx498_0, hx498_1, hx498_2, hx498_3⟩ := at_T32 HR0.out x10_1 p498 q498
        cases e498
        replace hx498_0 := zX HB.out hx498_0
        replace hx498_1 := zX HB.out hx498_1
        replace hx498_2 := zX HB.out hx498_2
        replace hx498_3 := zX HB.out hx498_3
        replace p498 := eq_true p498
        replace q498 := eq_true q498
        go_wp2_with (first | ((with_reducible refine gate_dst (N := 7) rfl ?_); refine box_event ?hg (N := 7) ?hd (cs := #[.int .i64 0, .string (⟨#[]⟩ : ByteArray), .bool false, .int .i64 0]) (t := 32) ?hr ?_; (case hd => rfl); (case hg => rfl); (case hr => first | (go_simp; done) | (go_simp; rfl)); intro gb499 hg w16 hbox hb; have n0_ := Aside0.mk (Kd.R_below (Kd.R_elderB (zR HO_4.out) gb499 (Nat.le_of_eq hg.symm)) hb); have n1_ := Aside0.mk (Kd.R_below (Kd.R_elderB (zR HO_5.out) gb499 (Nat.le_of_eq hg.symm)) hb); have n2_ := Aside0.mk (blk_below (g := g1_0) (o := .cells #[.int .i64 a1_0] 3 (0, 0)) (zK BK497.out) hb); have n3_ := Aside0.mk (below_step (zL HB.out) hb); have n4_ := Aside0.mk (hbox); have n5_ := Aside0.mk (zG hg (zL HB.out)); have n6_ := Aside0.mk (zG hg (zL HB.out)); have n7_ := Aside0.mk (zN (g := g1_0) (o := .cells #[.int .i64 a1_0] 3 (0, 0)) hg (zK BK497.out)); have n8_ := Aside0.mk (zO (g := g1_0) (o := .cells #[.int .i64 a1_0] 3 (0, 0)) hg (zK BK497.out)); revert n0_ n1_ n2_ n3_ n4_ n5_ n6_ n7_ n8_; clear HO_4 HO_5 BK497 HB; intro HO_4 HO_5 BK497 HB BK499 GW499 GE499 NB497_499 NB499_497; clear hb hbox hg; have hnb17 := NB499_497.out; have hnc17 := NB497_499.out; obtain ⟨hcz18_0, hcz18_1, hcz18_2, hcz18_3, hfz18_0, hfz18_1, hfz18_2, hfz18_3⟩ := zC4 BK499.out) | (go_at_call 37; (with_reducible refine (lease_Leave_2.calls ((rd_T32 l0 x10_1).f0) ((rd_T32 l0 x10_1).f1) ((rd_T32 l0 x10_1).f2) ((rd_T32 l0 x10_1).f3) g1_0 a1_0 false _ ?side1 A6.out).mono ?_); (case side1 => exact zK BK497.out); rintro e w19 ⟨rfl, hb⟩; have n0_ := Aside0.mk (Kd.R_below (zM HO_4.out (g := gb499) (fun _ hk => hk.2)) hb); have n1_ := Aside0.mk (Kd.R_below (zM HO_5.out (g := gb499) (fun _ hk => hk.2)) hb); have n2_ := Aside0.mk (blk_below (g := g1_0) (o := .cells #[.int .i64 a1_0] 3 (0, 0)) (zK BK497.out) hb); have n3_ := Aside0.mk (blk_below (g := gb499) (o := .cells #[.int .i64 ((rd_T32 l0 x10_1).f0), .string ((rd_T32 l0 x10_1).f1), .bool ((rd_T32 l0 x10_1).f2), .int .i64 ((rd_T32 l0 x10_1).f3)] 32 (0, 0)) (zP4 BK499.out) hb); have n4_ := Aside0.mk (below_step (zL HB.out) hb); revert n0_ n1_ n2_ n3_ n4_; clear HO_4 HO_5 BK497 BK499 HB; intro HO_4 HO_5 BK497 BK499 HB; (try clear hb); (try clear hb2); (try clear hk); (try clear hi); obtain ⟨hcz20_0, hcz20_1, hcz20_2, hcz20_3, hfz20_0, hfz20_1, hfz20_2, hfz20_3⟩ := zC4 BK499.out) | ((with_reducible refine gate_builtin (b := .append) (xs := #[.tmp 21, .tmp 23]) rfl ?_); at_builtin; refine Kd.R_append k32 (w0 := w) w.heap.size rfl (.tmp 21) (.tmp 23) 25 32 (.agg #[(.int .i64 0), (.string ⟨#[]⟩), (.bool false), (.int .i64 0)]) 40 rfl Tryd.underlying25 info32 rfl (by decide) (by omega) u5 x5_1 (⟨(rd_T32 l0 x10_1).f0, (rd_T32 l0 x10_1).f1, (rd_T32 l0 x10_1).f2, (rd_T32 l0 x10_1).f3⟩ : S32) [.int .i64 ((rd_T32 l0 x10_1).f0), .string ((rd_T32 l0 x10_1).f1), .bool ((rd_T32 l0 x10_1).f2), .int .i64 ((rd_T32 l0 x10_1).f3)] (fun k_ => some k_ ≠ (u4 : Value).ownBlock ∧ k_ ≠ gb499) (fun _ => False) rfl rfl ?aP (fun _ hk => hk.elim) ?aF ?aO ?aB ?aS ?aL ?_; (case aP => exact k32_mkM _ _ _ (⟨(rd_T32 l0 x10_1).f0, (rd_T32 l0 x10_1).f1, (rd_T32 l0 x10_1).f2, (rd_T32 l0 x10_1).f3⟩ : S32)); (case aB => exact (zL HB.out)); (case aF => exact (fun k_ hk => ⟨Kd.fresh' (Kd.R_lt (zR HO_4.out)) k_ hk, Kd.freshB (g := gb499) (o := .cells #[.int .i64 ((rd_T32 l0 x10_1).f0), .string ((rd_T32 l0 x10_1).f1), .bool ((rd_T32 l0 x10_1).f2), .int .i64 ((rd_T32 l0 x10_1).f3)] 32 (0, 0)) (zK BK499.out) k_ hk⟩)); (case aO => exact (zR HO_5.out)); (case aS => exact (below_size (zL HB.out))); (case aL => have := LMc15.out; omega); intro v505 w21 ho hb hg hat; rw [← Ny504.out] at ho; have n0_ := Aside0.mk (Kd.R_after (ok := (fun k_ => k_ ≠ gb499)) (by (with_reducible repeat (first | apply Kd.R_alloc | apply Kd.R_drewN | apply Kd.R_drew)); exact Kd.R_mono HO_4.out (fun _ hk => ⟨hk.2, hk.1⟩)) hg hat); have n1_ := Aside0.mk (blk_grown (g := g1_0) (o := .cells #[.int .i64 a1_0] 3 (0, 0)) (zK BK497.out) hg (Kd.R_ne HO_5.out BK497.out (by decide))); have n2_ := Aside0.mk (blk_grown (g := gb499) (o := .cells #[.int .i64 ((rd_T32 l0 x10_1).f0), .string ((rd_T32 l0 x10_1).f1), .bool ((rd_T32 l0 x10_1).f2), .int .i64 ((rd_T32 l0 x10_1).f3)] 32 (0, 0)) (zK BK499.out) hg (Kd.R_away HO_5.out (fun _ hk => hk.2))); have n3_ := Aside0.mk (hb); have n4_ := Aside0.mk (ho); revert n0_ n1_ n2_ n3_ n4_; clear HO_4 BK497 BK499 HB HO_5; intro HO_4 BK497 BK499 HB HO506; clear ho hb hg hat))
        go_roundg k1
        case measure => have := HK1.out; omega
        case rel => exact ⟨(x4_1), (y504), (wrap64 (x10_1 + 1)), zS, H', ⟨by have := HK1.out; omega⟩, ⟨by (with_reducible repeat (first | apply Kd.R_alloc | apply Kd.R_drewN | apply Kd.R_drew)); exact Kd.R_mono HO_4.out (fun _ hk => hk.2)⟩, ⟨by (with_reducible repeat (first | apply Kd.R_alloc | apply Kd.R_drewN | apply Kd.R_drew)); exact Kd.R_mono HO506.out (fun _ hk => hk.1)⟩, ⟨zK BK497.out⟩, ⟨zL HB.out⟩⟩
       ·rw [if_neg c15] at H
        exact absurd H (by simp)
     ·rw [if_neg c5] at H
      exact absurd H (by simp)
    ·rw [if_neg c4] at H
     exact absurd H (by simp)
   ·rw [if_neg c3] at H
    have c3b0 : decide (x10_1 < (l0.length : Int)) = false := decide_eq_false c3
    clear c3
    simp only [Option.some.injEq, Prod.mk.injEq] at H
    obtain ⟨rfl, rfl⟩ := H
    go_wp2
    go_ret2
    exact ⟨_, _, zE, by (with_reducible repeat (first | apply Kd.R_alloc | apply Kd.R_drewN | apply Kd.R_drew)); exact HO_4.out, by (with_reducible repeat (first | apply Kd.R_alloc | apply Kd.R_drewN | apply Kd.R_drew)); exact HO_5.out, zL HB.out⟩

/-! ### lease_Leave: function 15 -/
def lease_Leave.f (k : Nat) (a0_0 : Int) (l0_1 : List (S34)) (l0_2 : List (S32)) (a1 : Int) (a2 : Int) : Option (Int × (List (S34)) × (List (S32))) := (lease_time.f a2).bind fun t457 => (if t457 = true then ((lease_Lease_31_at35.f k l0_1 a1).bind fun bt459 => ((lease_Ask_36_at37.f k l0_2 a1).bind fun bt466 => ((lease_Table_settle.f k a0_0 bt459.2 bt466.2 a2).bind fun bt472 => (some (bt472.1, bt472.2.1, bt472.2.2))))) else (some (a0_0, l0_1, l0_2)))
theorem lease_Leave.mono : ∀ a0 a1 a2 a3 a4 k, LeO (lease_Leave.f k a0 a1 a2 a3 a4) (lease_Leave.f (k + 1) a0 a1 a2 a3 a4) := by
 intro a0 a1 a2 a3 a4 k
 unfold lease_Leave.f
 repeat' first
   | (with_reducible exact lease_Ask_36_at37.mono _ _ _)
   | (with_reducible exact lease_Lease_31_at35.mono _ _ _)
   | (with_reducible exact lease_Table_settle.mono _ _ _ _ _)
   | (with_reducible exact LeO.refl _)
   | (with_reducible exact LeO.none _)
   | (with_reducible refine LeO.ite ?_ ?_)
   | (with_reducible refine LeO.bind ?_ (fun _ => ?_))
   | exact lease_Ask_36_at37.mono _ _ _
   | exact lease_Lease_31_at35.mono _ _ _
   | exact lease_Table_settle.mono _ _ _ _ _
   | exact LeO.none _
   | refine LeO.ite ?_ ?_
   | refine LeO.bind ?_ (fun _ => ?_)
set_option maxHeartbeats 8000000 in
set_option maxRecDepth 100000 in
theorem lease_Leave.calls (k : Nat) (a0_0 : Int) (P0_1_ : Nat → Prop) (A0_1 : Option Addr) (c0_1 : Nat) (l0_1 : List (S34)) (P0_2_ : Nat → Prop) (A0_2 : Option Addr) (c0_2 : Nat) (l0_2 : List (S32)) (a1 : Int) (a2 : Int) (r1 : Int) (r2 : List (S34)) (r3 : List (S32)) (w : World) (hs0_1 : Kd.V k34 34 w w.heap.size (fun k_ => P0_1_ k_) (.slice A0_1 l0_1.length c0_1) l0_1) (hs0_2 : Kd.V k32 32 w w.heap.size (fun k_ => P0_2_ k_) (.slice A0_2 l0_2.length c0_2) l0_2) (h : lease_Leave.f k a0_0 l0_1 l0_2 a1 a2 = some (r1, r2, r3)) :
  Calls Tryd.prog 15 #[.agg #[.int .i64 a0_0, .slice A0_1 l0_1.length c0_1, .slice A0_2 l0_2.length c0_2], .int .i64 a1, .int .i64 a2] w fun e w' => ∃ v1_ v2_ : Value, e = .returned (.agg #[.int .i64 r1, v1_, v2_]) ∧ Kd.V k34 34 w' w.heap.size (fun k_ => ((P0_1_ k_ ∨ P0_2_ k_) ∨ w.heap.size ≤ k_)) v1_ r2 ∧ Kd.V k32 32 w' w.heap.size (fun k_ => ((P0_1_ k_ ∨ P0_2_ k_) ∨ w.heap.size ≤ k_)) v2_ r3 ∧ Below w.heap.size w w' := by
 have hu27 := Tryd.underlying27
 have HO0_1 := Aside0.mk (show Kd.V k34 34 w w.heap.size (fun k_ => ((P0_1_ k_ ∨ P0_2_ k_) ∨ w.heap.size ≤ k_)) (.slice A0_1 l0_1.length c0_1) l0_1 from Kd.V_mono hs0_1 (fun k_ hk => .inl (.inl hk)))
 have HO0_2 := Aside0.mk (show Kd.V k32 32 w w.heap.size (fun k_ => ((P0_1_ k_ ∨ P0_2_ k_) ∨ w.heap.size ≤ k_)) (.slice A0_2 l0_2.length c0_2) l0_2 from Kd.V_mono hs0_2 (fun k_ hk => .inl (.inr hk)))
 have HB := Aside0.mk (Below.refl w.heap.size w)
 have H : ((lease_time.f a2).bind fun t457 => (if t457 = true then ((lease_Lease_31_at35.f k l0_1 a1).bind fun bt459 => ((lease_Ask_36_at37.f k l0_2 a1).bind fun bt466 => ((lease_Table_settle.f k a0_0 bt459.2 bt466.2 a2).bind fun bt472 => (some (bt472.1, bt472.2.1, bt472.2.2))))) else (some (a0_0, l0_1, l0_2)))) = some (r1, r2, r3) := h
 clear h
 replace H := Option.bind_eq_some_iff.mp H
 obtain ⟨t457, A40, H⟩ := H
 replace H : (if t457 = true then ((lease_Lease_31_at35.f k l0_1 a1).bind fun bt459 => ((lease_Ask_36_at37.f k l0_2 a1).bind fun bt466 => ((lease_Table_settle.f k a0_0 bt459.2 bt466.2 a2).bind fun bt472 => (some (bt472.1, bt472.2.1, bt472.2.2))))) else (some (a0_0, l0_1, l0_2))) = some (r1, r2, r3) := H
 have A4 := Aside0.mk A40
 clear A40
 by_cases c5 : t457 = true
 ·subst c5
  have H1 : ((lease_Lease_31_at35.f k l0_1 a1).bind fun bt459 => ((lease_Ask_36_at37.f k l0_2 a1).bind fun bt466 => ((lease_Table_settle.f k a0_0 bt459.2 bt466.2 a2).bind fun bt472 => (some (bt472.1, bt472.2.1, bt472.2.2))))) = some (r1, r2, r3) := by rw [if_pos rfl] at H; exact H
  clear H
  have H := H1
  clear H1
  replace H := Option.bind_eq_some_iff.mp H
  obtain ⟨⟨t459, t460⟩, A60, H⟩ := H
  replace H : ((lease_Ask_36_at37.f k l0_2 a1).bind fun bt466 => ((lease_Table_settle.f k a0_0 t460 bt466.2 a2).bind fun bt472 => (some (bt472.1, bt472.2.1, bt472.2.2)))) = some (r1, r2, r3) := H
  have A6 := Aside0.mk A60
  clear A60
  replace H := Option.bind_eq_some_iff.mp H
  obtain ⟨⟨t466, t467⟩, A70, H⟩ := H
  replace H : ((lease_Table_settle.f k a0_0 t460 t467 a2).bind fun bt472 => (some (bt472.1, bt472.2.1, bt472.2.2))) = some (r1, r2, r3) := H
  have A7 := Aside0.mk A70
  clear A70
  replace H := Option.bind_eq_some_iff.mp H
  obtain ⟨⟨t472, t473, t476⟩, A80, H⟩ := H
  replace H : (some (t472, t473, t476)) = some (r1, r2, r3) := H
  have A8 := Aside0.mk A80
  clear A80
  simp only [Option.some.injEq, Prod.mk.injEq] at H
  obtain ⟨rfl, rfl, rfl⟩ := H
  go_enter Tryd.func15, Tryd.ntmps15
  go_wp2_with (first | ((with_reducible refine gate_dst (N := 3) rfl ?_); refine box_event ?hg (N := 3) ?hd (cs := #[.int .i64 a0_0, .slice A0_1 l0_1.length c0_1, .slice A0_2 l0_2.length c0_2]) (t := 27) ?hr ?_; (case hd => rfl); (case hg => rfl); (case hr => first | (go_simp; done) | (go_simp; rfl)); intro gb454 hg w9 hbox hb; have n0_ := Aside0.mk (Kd.V_below (Kd.V_elderB (zV HO0_1.out) gb454 (Nat.le_of_eq hg.symm)) hb); have n1_ := Aside0.mk (Kd.V_below (Kd.V_elderB (zV HO0_2.out) gb454 (Nat.le_of_eq hg.symm)) hb); have n2_ := Aside0.mk (below_step (zL HB.out) hb); have n3_ := Aside0.mk (hbox); have n4_ := Aside0.mk (zG hg (zL HB.out)); have n5_ := Aside0.mk (zG hg (zL HB.out)); revert n0_ n1_ n2_ n3_ n4_ n5_; clear HO0_1 HO0_2 HB; intro HO0_1 HO0_2 HB BK454 GW454 GE454; clear hb hbox hg) | ((with_reducible refine gate_dst (N := 4) rfl ?_); refine box_event ?hg (N := 4) ?hd (cs := #[.int .i64 a1]) (t := 3) ?hr ?_; (case hd => rfl); (case hg => rfl); (case hr => first | (go_simp; done) | (go_simp; rfl)); intro gb455 hg w10 hbox hb; have n0_ := Aside0.mk (Kd.V_below (Kd.V_elderB (zV HO0_1.out) gb455 (Nat.le_of_eq hg.symm)) hb); have n1_ := Aside0.mk (Kd.V_below (Kd.V_elderB (zV HO0_2.out) gb455 (Nat.le_of_eq hg.symm)) hb); have n2_ := Aside0.mk (blk_below (g := gb454) (o := .cells #[.int .i64 a0_0, .slice A0_1 l0_1.length c0_1, .slice A0_2 l0_2.length c0_2] 27 (0, 0)) (zK BK454.out) hb); have n3_ := Aside0.mk (below_step (zL HB.out) hb); have n4_ := Aside0.mk (hbox); have n5_ := Aside0.mk (zG hg (zL HB.out)); have n6_ := Aside0.mk (zG hg (zL HB.out)); have n7_ := Aside0.mk (zN (g := gb454) (o := .cells #[.int .i64 a0_0, .slice A0_1 l0_1.length c0_1, .slice A0_2 l0_2.length c0_2] 27 (0, 0)) hg (zK BK454.out)); have n8_ := Aside0.mk (zO (g := gb454) (o := .cells #[.int .i64 a0_0, .slice A0_1 l0_1.length c0_1, .slice A0_2 l0_2.length c0_2] 27 (0, 0)) hg (zK BK454.out)); revert n0_ n1_ n2_ n3_ n4_ n5_ n6_ n7_ n8_; clear HO0_1 HO0_2 BK454 HB; intro HO0_1 HO0_2 BK454 HB BK455 GW455 GE455 NB454_455 NB455_454; clear hb hbox hg) | ((with_reducible refine gate_dst (N := 6) rfl ?_); refine box_event ?hg (N := 6) ?hd (cs := #[.int .i64 0, .slice none 0 0, .slice none 0 0]) (t := 27) ?hr ?_; (case hd => rfl); (case hg => rfl); (case hr => first | (go_simp; done) | (go_simp; rfl)); intro gb456 hg w11 hbox hb; have n0_ := Aside0.mk (Kd.V_below (Kd.V_elderB (zV HO0_1.out) gb456 (Nat.le_of_eq hg.symm)) hb); have n1_ := Aside0.mk (Kd.V_below (Kd.V_elderB (zV HO0_2.out) gb456 (Nat.le_of_eq hg.symm)) hb); have n2_ := Aside0.mk (blk_below (g := gb454) (o := .cells #[.int .i64 a0_0, .slice A0_1 l0_1.length c0_1, .slice A0_2 l0_2.length c0_2] 27 (0, 0)) (zK BK454.out) hb); have n3_ := Aside0.mk (blk_below (g := gb455) (o := .cells #[.int .i64 a1] 3 (0, 0)) (zK BK455.out) hb); have n4_ := Aside0.mk (below_step (zL HB.out) hb); have n5_ := Aside0.mk (hbox); have n6_ := Aside0.mk (zG hg (zL HB.out)); have n7_ := Aside0.mk (zG hg (zL HB.out)); have n8_ := Aside0.mk (zN (g := gb454) (o := .cells #[.int .i64 a0_0, .slice A0_1 l0_1.length c0_1, .slice A0_2 l0_2.length c0_2] 27 (0, 0)) hg (zK BK454.out)); have n9_ := Aside0.mk (zO (g := gb454) (o := .cells #[.int .i64 a0_0, .slice A0_1 l0_1.length c0_1, .slice A0_2 l0_2.length c0_2] 27 (0, 0)) hg (zK BK454.out)); have n10_ := Aside0.mk (zN (g := gb455) (o := .cells #[.int .i64 a1] 3 (0, 0)) hg (zK BK455.out)); have n11_ := Aside0.mk (zO (g := gb455) (o := .cells #[.int .i64 a1] 3 (0, 0)) hg (zK BK455.out)); revert n0_ n1_ n2_ n3_ n4_ n5_ n6_ n7_ n8_ n9_ n10_ n11_; clear HO0_1 HO0_2 BK454 BK455 HB; intro HO0_1 HO0_2 BK454 BK455 HB BK456 GW456 GE456 NB454_456 NB456_454 NB455_456 NB456_455; clear hb hbox hg) | ((with_reducible refine gate_callee (f := 28) rfl ?_); refine goesL_ (some 8) rfl rfl Tryd.func28 (by kernel_rfl) rfl #[.int .i64 a2] rfl zA ?_; (with_reducible refine (lease_time.calls a2 true _ A4.out).mono ?_); rintro e w' ⟨rfl, ⟨nd, rfl⟩⟩; refine ⟨_, rfl, ?_⟩; (try (rw [drewN_self w11]; generalize hq_ : World.drewN w11 _ = w11; have n0_ : Aside0 (Kd.V k34 34 w11 w.heap.size (fun k_ => ((P0_1_ k_ ∨ P0_2_ k_) ∨ w.heap.size ≤ k_) ∧ k_ ≠ gb454 ∧ k_ ≠ gb455 ∧ k_ ≠ gb456) (.slice A0_1 l0_1.length c0_1) l0_1) := ⟨by rw [← hq_]; exact (by (with_reducible repeat (first | apply Kd.V_alloc | apply Kd.V_drewN | apply Kd.V_drew)); exact Kd.V_mono HO0_1.out (fun _ hk => ⟨hk.1.1.1, ⟨hk.1.1.2, ⟨hk.1.2, hk.2⟩⟩⟩))⟩; have n1_ : Aside0 (Kd.V k32 32 w11 w.heap.size (fun k_ => ((P0_1_ k_ ∨ P0_2_ k_) ∨ w.heap.size ≤ k_) ∧ k_ ≠ gb454 ∧ k_ ≠ gb455 ∧ k_ ≠ gb456) (.slice A0_2 l0_2.length c0_2) l0_2) := ⟨by rw [← hq_]; exact (by (with_reducible repeat (first | apply Kd.V_alloc | apply Kd.V_drewN | apply Kd.V_drew)); exact Kd.V_mono HO0_2.out (fun _ hk => ⟨hk.1.1.1, ⟨hk.1.1.2, ⟨hk.1.2, hk.2⟩⟩⟩))⟩; have n2_ : Aside0 (w11.heap[gb454]? = some (.cells #[.int .i64 a0_0, .slice A0_1 l0_1.length c0_1, .slice A0_2 l0_2.length c0_2] 27 (0, 0))) := ⟨by rw [← hq_]; exact (zK BK454.out)⟩; have n3_ : Aside0 (w11.heap[gb455]? = some (.cells #[.int .i64 a1] 3 (0, 0))) := ⟨by rw [← hq_]; exact (zK BK455.out)⟩; have n4_ : Aside0 (w11.heap[gb456]? = some (.cells #[.int .i64 0, .slice none 0 0, .slice none 0 0] 27 (0, 0))) := ⟨by rw [← hq_]; exact (zK BK456.out)⟩; have n5_ : Aside0 (Below w.heap.size w w11) := ⟨by rw [← hq_]; exact (zL HB.out)⟩; clear HO0_1 HO0_2 BK454 BK455 BK456 HB hq_; have HO0_1 := n0_; have HO0_2 := n1_; have BK454 := n2_; have BK455 := n3_; have BK456 := n4_; have HB := n5_; clear n0_ n1_ n2_ n3_ n4_ n5_)); have hnb12 := NB454_455.out; have hnc12 := NB455_454.out; have hnb13 := NB454_456.out; have hnc13 := NB456_454.out; obtain ⟨hcz14_0, hcz14_1, hcz14_2, hfz14_0, hfz14_1, hfz14_2⟩ := zC3 BK454.out) | ((with_reducible refine gate_callee (f := 31) rfl ?_); refine goesL_ (some 15) rfl rfl Tryd.func31 (by kernel_rfl) rfl #[.slice A0_1 l0_1.length c0_1, .func (.func 35) #[] #[.pointer (some ⟨gb455, 0, none⟩)]] rfl zA ?_; (with_reducible refine (lease_Lease_31_at35.calls k _ _ l0_1 gb455 a1 t459 t460 _ ?side1 ?side2 ?side3 A6.out).mono ?_); (case side1 => repeat (first | exact (Kd.V_reads' HO0_1.out).2.2 | (with_reducible refine Kd.C_alloc ?_ _) | (with_reducible refine Kd.C_drewN ?_ _) | (with_reducible refine Kd.C_drew ?_))); (case side2 => exact (Kd.V_reads' HO0_1.out).2.1); (case side3 => exact zK BK455.out); rintro e w15 ⟨v461, v463, rfl, ho0, ho1, hb⟩; refine ⟨_, rfl, ?_⟩; have n0_ := Aside0.mk (Kd.V_mono (Kd.V_told (Kd.V_told (Kd.V_old (zV HO0_1.out) hb) (Kd.R_base ho0)) (Kd.R_base ho1)) (fun _ h_ => h_.1)); have n1_ := Aside0.mk (Kd.V_mono (Kd.V_told (Kd.V_told (Kd.V_old (zV HO0_2.out) hb) (Kd.R_base ho0)) (Kd.R_base ho1)) (fun _ h_ => h_.1)); have n2_ := Aside0.mk (Kd.R_lower (Kd.R_newM (M := fun k_ => (w.heap.size ≤ k_)) ho0 (below_size (zL HB.out)) (fun k_ h_ => h_)) (below_size (zL HB.out))); have n3_ := Aside0.mk (Kd.R_lower (Kd.R_newM (M := fun k_ => (w.heap.size ≤ k_)) ho1 (below_size (zL HB.out)) (fun k_ h_ => h_)) (below_size (zL HB.out))); have n4_ := Aside0.mk (blk_below (g := gb454) (o := .cells #[.int .i64 a0_0, .slice A0_1 l0_1.length c0_1, .slice A0_2 l0_2.length c0_2] 27 (0, 0)) (zK BK454.out) hb); have n5_ := Aside0.mk (blk_below (g := gb455) (o := .cells #[.int .i64 a1] 3 (0, 0)) (zK BK455.out) hb); have n6_ := Aside0.mk (blk_below (g := gb456) (o := .cells #[.int .i64 0, .slice none 0 0, .slice none 0 0] 27 (0, 0)) (zK BK456.out) hb); have n7_ := Aside0.mk (below_step (zL HB.out) hb); revert n0_ n1_ n2_ n3_ n4_ n5_ n6_ n7_; clear HO0_1 HO0_2 BK454 BK455 BK456 HB; intro HO0_1 HO0_2 HO462 HO464 BK454 BK455 BK456 HB; (try clear hb); (try clear hb2); (try clear hk); (try clear hi); (try clear ho0); (try clear ho1); obtain ⟨Ao16, co16, eo16⟩ := Kd.R_slice HO464.out; subst eo16; obtain ⟨hcz17_0, hcz17_1, hcz17_2, hfz17_0, hfz17_1, hfz17_2⟩ := zC3 BK454.out) | ((with_reducible refine gate_callee (f := 36) rfl ?_); refine goesL_ (some 23) rfl rfl Tryd.func36 (by kernel_rfl) rfl #[.slice A0_2 l0_2.length c0_2, .func (.func 37) #[] #[.pointer (some ⟨gb455, 0, none⟩)]] rfl zA ?_; (with_reducible refine (lease_Ask_36_at37.calls k _ _ l0_2 gb455 a1 t466 t467 _ ?side1 ?side2 ?side3 A7.out).mono ?_); (case side1 => refine (Kd.V_reads' (e := 32) (base := w.heap.size) (ok := fun k_ => (((((P0_1_ k_ ∨ P0_2_ k_) ∨ w.heap.size ≤ k_) ∧ (k_ ≠ gb454 ∧ (k_ ≠ gb455 ∧ k_ ≠ gb456))) ∧ some k_ ≠ (v461 : Value).ownBlock) ∧ some k_ ≠ (.slice Ao16 t460.length co16 : Value).ownBlock)) (n := l0_2.length) (c := c0_2) ?_).2.2; exact (zMV HO0_2.out (g := gb454) (fun _ hk => hk.1.1.2.1))); (case side2 => exact (Kd.V_reads' HO0_2.out).2.1); (case side3 => exact zK BK455.out); rintro e w18 ⟨v468, v470, rfl, ho0, ho1, hb⟩; refine ⟨_, rfl, ?_⟩; have n0_ := Aside0.mk (Kd.V_mono (Kd.V_told (Kd.V_told (Kd.V_old (zMV HO0_1.out (g := gb454) (fun _ hk => hk.1.1.2.1)) hb) (Kd.R_base ho0)) (Kd.R_base ho1)) (fun _ h_ => h_.1)); have n1_ := Aside0.mk (Kd.V_mono (Kd.V_told (Kd.V_told (Kd.V_old (zMV HO0_2.out (g := gb454) (fun _ hk => hk.1.1.2.1)) hb) (Kd.R_base ho0)) (Kd.R_base ho1)) (fun _ h_ => h_.1)); have n2_ := Aside0.mk (Kd.R_below (zT HO462.out BK454.out) hb); have n3_ := Aside0.mk (Kd.R_below (zT HO464.out BK454.out) hb); have n4_ := Aside0.mk (Kd.R_lower (Kd.R_newM (M := fun k_ => (w.heap.size ≤ k_)) ho0 (below_size (zL HB.out)) (fun k_ h_ => h_)) (below_size (zL HB.out))); have n5_ := Aside0.mk (Kd.R_lower (Kd.R_newM (M := fun k_ => (w.heap.size ≤ k_)) ho1 (below_size (zL HB.out)) (fun k_ h_ => h_)) (below_size (zL HB.out))); have n6_ := Aside0.mk (blk_below (g := gb454) (o := .cells #[.int .i64 a0_0, .slice Ao16 t460.length co16, .slice A0_2 l0_2.length c0_2] 27 (0, 0)) (by (with_reducible repeat (first | refine blk_drewN ?_ _ | refine blk_drew ?_ | refine blk_alloc ?_ _)); refine blk_put (cs := #[.int .i64 a0_0, .slice A0_1 l0_1.length c0_1, .slice A0_2 l0_2.length c0_2]) ?_ 1 _ rfl; (with_reducible repeat (first | refine blk_drewN ?_ _ | refine blk_drew ?_ | refine blk_alloc ?_ _)); exact BK454.out) hb); have n7_ := Aside0.mk (blk_below (g := gb455) (o := .cells #[.int .i64 a1] 3 (0, 0)) (zK BK455.out) hb); have n8_ := Aside0.mk (blk_below (g := gb456) (o := .cells #[.int .i64 0, .slice none 0 0, .slice none 0 0] 27 (0, 0)) (zK BK456.out) hb); have n9_ := Aside0.mk (below_step (zL HB.out) hb); revert n0_ n1_ n2_ n3_ n4_ n5_ n6_ n7_ n8_ n9_; clear HO0_1 HO0_2 HO462 HO464 BK454 BK455 BK456 HB; intro HO0_1 HO0_2 HO462 HO464 HO469 HO471 BK454 BK455 BK456 HB; (try clear hb); (try clear hb2); (try clear hk); (try clear hi); (try clear ho0); (try clear ho1); obtain ⟨Ao19, co19, eo19⟩ := Kd.R_slice HO471.out; subst eo19; obtain ⟨hcz20_0, hcz20_1, hcz20_2, hfz20_0, hfz20_1, hfz20_2⟩ := zC3 BK454.out) | ((with_reducible refine gate_callee (f := 30) rfl ?_); refine goesL_ (some 29) rfl rfl Tryd.func30 (by kernel_rfl) rfl #[.agg #[.int .i64 a0_0, .slice Ao16 t460.length co16, .slice Ao19 t467.length co19], .int .i64 a2] rfl zA ?_; (with_reducible refine (lease_Table_settle.calls k a0_0 _ _ t460 _ _ t467 a2 t472 t473 t476 _ ?side1 ?side2 ?side3 ?side4 A8.out).mono ?_); (case side1 => refine (Kd.R_reads' (e := 34) (base := w.heap.size) (ok := fun k_ => ((w.heap.size ≤ k_) ∧ some k_ ≠ (v461 : Value).ownBlock)) (n := t460.length) (c := co16) ?_).2.2; exact (zT HO464.out BK454.out)); (case side2 => exact (Kd.R_reads' HO464.out).2.1); (case side3 => refine (Kd.R_reads' (e := 32) (base := w.heap.size) (ok := fun k_ => ((w.heap.size ≤ k_) ∧ some k_ ≠ (v468 : Value).ownBlock)) (n := t467.length) (c := co19) ?_).2.2; exact (zT HO471.out BK454.out)); (case side4 => exact (Kd.R_reads' HO471.out).2.1); rintro e w21 ⟨v474, v477, rfl, ho0, ho1, hb⟩; refine ⟨_, rfl, ?_⟩; have n0_ := Aside0.mk (Kd.V_mono (Kd.V_told (Kd.V_told (Kd.V_old (zMV HO0_1.out (g := gb454) (fun _ hk => hk.1.1.1.1.2.1)) hb) (Kd.R_base ho0)) (Kd.R_base ho1)) (fun _ h_ => h_.1)); have n1_ := Aside0.mk (Kd.V_mono (Kd.V_told (Kd.V_told (Kd.V_old (zMV HO0_2.out (g := gb454) (fun _ hk => hk.1.1.1.1.2.1)) hb) (Kd.R_base ho0)) (Kd.R_base ho1)) (fun _ h_ => h_.1)); have n2_ := Aside0.mk (Kd.R_elder' (zT HO462.out BK454.out) (Kd.R_base ho0) hb); have n3_ := Aside0.mk (Kd.R_elder' (zT HO464.out BK454.out) (Kd.R_base ho0) hb); have n4_ := Aside0.mk (Kd.R_elder' (zT HO469.out BK454.out) (Kd.R_base ho1) hb); have n5_ := Aside0.mk (Kd.R_elder' (zT HO471.out BK454.out) (Kd.R_base ho1) hb); have n6_ := Aside0.mk (Kd.R_lower (Kd.R_new' (Kd.R_new' (Kd.R_newM (M := fun k_ => (w.heap.size ≤ k_)) ho0 (below_size (zL HB.out)) (fun k_ h_ => h_)) (Kd.R_lt (zT HO462.out BK454.out))) (Kd.R_lt (zT HO464.out BK454.out))) (below_size (zL HB.out))); have n7_ := Aside0.mk (Kd.R_lower (Kd.R_new' (Kd.R_new' (Kd.R_newM (M := fun k_ => (w.heap.size ≤ k_)) ho1 (below_size (zL HB.out)) (fun k_ h_ => h_)) (Kd.R_lt (zT HO469.out BK454.out))) (Kd.R_lt (zT HO471.out BK454.out))) (below_size (zL HB.out))); have n8_ := Aside0.mk (blk_below (g := gb454) (o := .cells #[.int .i64 a0_0, .slice Ao16 t460.length co16, .slice Ao19 t467.length co19] 27 (0, 0)) (by (with_reducible repeat (first | refine blk_drewN ?_ _ | refine blk_drew ?_ | refine blk_alloc ?_ _)); refine blk_put (cs := #[.int .i64 a0_0, .slice Ao16 t460.length co16, .slice A0_2 l0_2.length c0_2]) ?_ 2 _ rfl; (with_reducible repeat (first | refine blk_drewN ?_ _ | refine blk_drew ?_ | refine blk_alloc ?_ _)); exact BK454.out) hb); have n9_ := Aside0.mk (blk_below (g := gb455) (o := .cells #[.int .i64 a1] 3 (0, 0)) (zK BK455.out) hb); have n10_ := Aside0.mk (blk_below (g := gb456) (o := .cells #[.int .i64 0, .slice none 0 0, .slice none 0 0] 27 (0, 0)) (zK BK456.out) hb); have n11_ := Aside0.mk (below_step (zL HB.out) hb); revert n0_ n1_ n2_ n3_ n4_ n5_ n6_ n7_ n8_ n9_ n10_ n11_; clear HO0_1 HO0_2 HO462 HO464 HO469 HO471 BK454 BK455 BK456 HB; intro HO0_1 HO0_2 HO462 HO464 HO469 HO471 HO475 HO478 BK454 BK455 BK456 HB; (try clear hb); (try clear hb2); (try clear hk); (try clear hi); (try clear ho0); (try clear ho1); have hnb22 := NB456_455.out; have hnc22 := NB455_456.out; obtain ⟨hcz23_0, hcz23_1, hcz23_2, hfz23_0, hfz23_1, hfz23_2⟩ := zC3 BK456.out; obtain ⟨Ao24, co24, eo24⟩ := Kd.R_slice HO475.out; subst eo24; obtain ⟨Ao25, co25, eo25⟩ := Kd.R_slice HO478.out; subst eo25))
  refine bodyPost_ret (results_cell_row rfl _ _ gb456 27 #[.int .i64 t472, .slice Ao24 t473.length co24, .slice Ao25 t476.length co25] (0, 0) _ rfl (zP3 BK456.out) Tryd.underlying27 rfl (by kernel_rfl)) rfl ?_
  exact ⟨_, _, zE, Kd.V_mono (Kd.R_V (by (with_reducible repeat (first | apply Kd.R_alloc | apply Kd.R_drewN | apply Kd.R_drew)); exact Kd.R_mono (zNT HO475.out BK456.out) (fun _ hk => hk.1.1.1.1))) (fun k_ hk => by first | exact ⟨(.inr (hk.1)), hk.2⟩ | exact (.inr (hk))), Kd.V_mono (Kd.R_V (by (with_reducible repeat (first | apply Kd.R_alloc | apply Kd.R_drewN | apply Kd.R_drew)); exact Kd.R_mono (zNT HO478.out BK456.out) (fun _ hk => hk.1.1.1.1))) (fun k_ hk => by first | exact ⟨(.inr (hk.1)), hk.2⟩ | exact (.inr (hk))), zL HB.out⟩
 ·replace c5 := Bool.eq_false_iff.mpr c5
  subst c5
  have H1 : (some (a0_0, l0_1, l0_2)) = some (r1, r2, r3) := by rw [if_neg (show ¬ (false = true) by decide)] at H; exact H
  clear H
  have H := H1
  clear H1
  simp only [Option.some.injEq, Prod.mk.injEq] at H
  obtain ⟨rfl, rfl, rfl⟩ := H
  go_enter Tryd.func15, Tryd.ntmps15
  go_wp2_with (first | ((with_reducible refine gate_dst (N := 3) rfl ?_); refine box_event ?hg (N := 3) ?hd (cs := #[.int .i64 a0_0, .slice A0_1 l0_1.length c0_1, .slice A0_2 l0_2.length c0_2]) (t := 27) ?hr ?_; (case hd => rfl); (case hg => rfl); (case hr => first | (go_simp; done) | (go_simp; rfl)); intro gb454 hg w26 hbox hb; have n0_ := Aside0.mk (Kd.V_below (Kd.V_elderB (zV HO0_1.out) gb454 (Nat.le_of_eq hg.symm)) hb); have n1_ := Aside0.mk (Kd.V_below (Kd.V_elderB (zV HO0_2.out) gb454 (Nat.le_of_eq hg.symm)) hb); have n2_ := Aside0.mk (below_step (zL HB.out) hb); have n3_ := Aside0.mk (hbox); have n4_ := Aside0.mk (zG hg (zL HB.out)); have n5_ := Aside0.mk (zG hg (zL HB.out)); revert n0_ n1_ n2_ n3_ n4_ n5_; clear HO0_1 HO0_2 HB; intro HO0_1 HO0_2 HB BK454 GW454 GE454; clear hb hbox hg) | ((with_reducible refine gate_dst (N := 4) rfl ?_); refine box_event ?hg (N := 4) ?hd (cs := #[.int .i64 a1]) (t := 3) ?hr ?_; (case hd => rfl); (case hg => rfl); (case hr => first | (go_simp; done) | (go_simp; rfl)); intro gb455 hg w27 hbox hb; have n0_ := Aside0.mk (Kd.V_below (Kd.V_elderB (zV HO0_1.out) gb455 (Nat.le_of_eq hg.symm)) hb); have n1_ := Aside0.mk (Kd.V_below (Kd.V_elderB (zV HO0_2.out) gb455 (Nat.le_of_eq hg.symm)) hb); have n2_ := Aside0.mk (blk_below (g := gb454) (o := .cells #[.int .i64 a0_0, .slice A0_1 l0_1.length c0_1, .slice A0_2 l0_2.length c0_2] 27 (0, 0)) (zK BK454.out) hb); have n3_ := Aside0.mk (below_step (zL HB.out) hb); have n4_ := Aside0.mk (hbox); have n5_ := Aside0.mk (zG hg (zL HB.out)); have n6_ := Aside0.mk (zG hg (zL HB.out)); have n7_ := Aside0.mk (zN (g := gb454) (o := .cells #[.int .i64 a0_0, .slice A0_1 l0_1.length c0_1, .slice A0_2 l0_2.length c0_2] 27 (0, 0)) hg (zK BK454.out)); have n8_ := Aside0.mk (zO (g := gb454) (o := .cells #[.int .i64 a0_0, .slice A0_1 l0_1.length c0_1, .slice A0_2 l0_2.length c0_2] 27 (0, 0)) hg (zK BK454.out)); revert n0_ n1_ n2_ n3_ n4_ n5_ n6_ n7_ n8_; clear HO0_1 HO0_2 BK454 HB; intro HO0_1 HO0_2 BK454 HB BK455 GW455 GE455 NB454_455 NB455_454; clear hb hbox hg) | ((with_reducible refine gate_dst (N := 6) rfl ?_); refine box_event ?hg (N := 6) ?hd (cs := #[.int .i64 0, .slice none 0 0, .slice none 0 0]) (t := 27) ?hr ?_; (case hd => rfl); (case hg => rfl); (case hr => first | (go_simp; done) | (go_simp; rfl)); intro gb456 hg w28 hbox hb; have n0_ := Aside0.mk (Kd.V_below (Kd.V_elderB (zV HO0_1.out) gb456 (Nat.le_of_eq hg.symm)) hb); have n1_ := Aside0.mk (Kd.V_below (Kd.V_elderB (zV HO0_2.out) gb456 (Nat.le_of_eq hg.symm)) hb); have n2_ := Aside0.mk (blk_below (g := gb454) (o := .cells #[.int .i64 a0_0, .slice A0_1 l0_1.length c0_1, .slice A0_2 l0_2.length c0_2] 27 (0, 0)) (zK BK454.out) hb); have n3_ := Aside0.mk (blk_below (g := gb455) (o := .cells #[.int .i64 a1] 3 (0, 0)) (zK BK455.out) hb); have n4_ := Aside0.mk (below_step (zL HB.out) hb); have n5_ := Aside0.mk (hbox); have n6_ := Aside0.mk (zG hg (zL HB.out)); have n7_ := Aside0.mk (zG hg (zL HB.out)); have n8_ := Aside0.mk (zN (g := gb454) (o := .cells #[.int .i64 a0_0, .slice A0_1 l0_1.length c0_1, .slice A0_2 l0_2.length c0_2] 27 (0, 0)) hg (zK BK454.out)); have n9_ := Aside0.mk (zO (g := gb454) (o := .cells #[.int .i64 a0_0, .slice A0_1 l0_1.length c0_1, .slice A0_2 l0_2.length c0_2] 27 (0, 0)) hg (zK BK454.out)); have n10_ := Aside0.mk (zN (g := gb455) (o := .cells #[.int .i64 a1] 3 (0, 0)) hg (zK BK455.out)); have n11_ := Aside0.mk (zO (g := gb455) (o := .cells #[.int .i64 a1] 3 (0, 0)) hg (zK BK455.out)); revert n0_ n1_ n2_ n3_ n4_ n5_ n6_ n7_ n8_ n9_ n10_ n11_; clear HO0_1 HO0_2 BK454 BK455 HB; intro HO0_1 HO0_2 BK454 BK455 HB BK456 GW456 GE456 NB454_456 NB456_454 NB455_456 NB456_455; clear hb hbox hg) | ((with_reducible refine gate_callee (f := 28) rfl ?_); refine goesL_ (some 8) rfl rfl Tryd.func28 (by kernel_rfl) rfl #[.int .i64 a2] rfl zA ?_; (with_reducible refine (lease_time.calls a2 false _ A4.out).mono ?_); rintro e w' ⟨rfl, ⟨nd, rfl⟩⟩; refine ⟨_, rfl, ?_⟩; (try (rw [drewN_self w28]; generalize hq_ : World.drewN w28 _ = w28; have n0_ : Aside0 (Kd.V k34 34 w28 w.heap.size (fun k_ => ((P0_1_ k_ ∨ P0_2_ k_) ∨ w.heap.size ≤ k_) ∧ k_ ≠ gb454 ∧ k_ ≠ gb455 ∧ k_ ≠ gb456) (.slice A0_1 l0_1.length c0_1) l0_1) := ⟨by rw [← hq_]; exact (by (with_reducible repeat (first | apply Kd.V_alloc | apply Kd.V_drewN | apply Kd.V_drew)); exact Kd.V_mono HO0_1.out (fun _ hk => ⟨hk.1.1.1, ⟨hk.1.1.2, ⟨hk.1.2, hk.2⟩⟩⟩))⟩; have n1_ : Aside0 (Kd.V k32 32 w28 w.heap.size (fun k_ => ((P0_1_ k_ ∨ P0_2_ k_) ∨ w.heap.size ≤ k_) ∧ k_ ≠ gb454 ∧ k_ ≠ gb455 ∧ k_ ≠ gb456) (.slice A0_2 l0_2.length c0_2) l0_2) := ⟨by rw [← hq_]; exact (by (with_reducible repeat (first | apply Kd.V_alloc | apply Kd.V_drewN | apply Kd.V_drew)); exact Kd.V_mono HO0_2.out (fun _ hk => ⟨hk.1.1.1, ⟨hk.1.1.2, ⟨hk.1.2, hk.2⟩⟩⟩))⟩; have n2_ : Aside0 (w28.heap[gb454]? = some (.cells #[.int .i64 a0_0, .slice A0_1 l0_1.length c0_1, .slice A0_2 l0_2.length c0_2] 27 (0, 0))) := ⟨by rw [← hq_]; exact (zK BK454.out)⟩; have n3_ : Aside0 (w28.heap[gb455]? = some (.cells #[.int .i64 a1] 3 (0, 0))) := ⟨by rw [← hq_]; exact (zK BK455.out)⟩; have n4_ : Aside0 (w28.heap[gb456]? = some (.cells #[.int .i64 0, .slice none 0 0, .slice none 0 0] 27 (0, 0))) := ⟨by rw [← hq_]; exact (zK BK456.out)⟩; have n5_ : Aside0 (Below w.heap.size w w28) := ⟨by rw [← hq_]; exact (zL HB.out)⟩; clear HO0_1 HO0_2 BK454 BK455 BK456 HB hq_; have HO0_1 := n0_; have HO0_2 := n1_; have BK454 := n2_; have BK455 := n3_; have BK456 := n4_; have HB := n5_; clear n0_ n1_ n2_ n3_ n4_ n5_)); have hnb29 := NB454_455.out; have hnc29 := NB455_454.out; have hnb30 := NB454_456.out; have hnc30 := NB456_454.out; obtain ⟨hcz31_0, hcz31_1, hcz31_2, hfz31_0, hfz31_1, hfz31_2⟩ := zC3 BK454.out; have hnb32 := NB456_455.out; have hnc32 := NB455_456.out; obtain ⟨hcz33_0, hcz33_1, hcz33_2, hfz33_0, hfz33_1, hfz33_2⟩ := zC3 BK456.out))
  refine bodyPost_ret (results_cell_row rfl _ _ gb456 27 #[.int .i64 a0_0, .slice A0_1 l0_1.length c0_1, .slice A0_2 l0_2.length c0_2] (0, 0) _ rfl (zP3 BK456.out) Tryd.underlying27 rfl (by kernel_rfl)) rfl ?_
  exact ⟨_, _, zE, by (with_reducible repeat (first | apply Kd.V_alloc | apply Kd.V_drewN | apply Kd.V_drew)); exact Kd.V_mono (zNV HO0_1.out (g := gb456) (fun _ hk => hk.2.2.2)) (fun _ hk => hk.1.1), by (with_reducible repeat (first | apply Kd.V_alloc | apply Kd.V_drewN | apply Kd.V_drew)); exact Kd.V_mono (zNV HO0_2.out (g := gb456) (fun _ hk => hk.2.2.2)) (fun _ hk => hk.1.1), zL HB.out⟩

end Go.Proofs.YtgcghjkaomgloaaDoor.PLease
