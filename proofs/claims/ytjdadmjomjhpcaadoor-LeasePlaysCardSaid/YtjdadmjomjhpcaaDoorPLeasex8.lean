-- Written by a program of this session (wip/tools/ext.py, over the kit's printer); not trusted: Lean checks it.
import Derived.Test.YtjdadmjomjhpcaaDoorPLeasex6
import Derived.Test.YtjdadmjomjhpcaaDoorPLeasex7
namespace Go.Proofs.YtjdadmjomjhpcaaDoor.PLease
open Go.RowKit Go.Proofs.YtjdadmjomjhpcaaDoorW.PrintWords Go.Proofs.YtjdadmjomjhpcaaDoorW.PrintLast Go.Proofs.YtjdadmjomjhpcaaDoorW.PrintMore
attribute [local go_sem] max2_int min2_int max_two min_two max_three min_three max_four min_four
set_option linter.unusedVariables false
set_option linter.unusedSimpArgs false
set_option maxHeartbeats 8000000
set_option maxRecDepth 100000

/-! ### lease_Lease_26_at41: function 26 -/
def lease_Lease_26_at41.l0 : Nat → List (S42) → List (S42) → List (S42) → Int → Int → Int → Option ((List (S42)) × (List (S42)))
 | 0, _, _, _, _, _, _ => none
 | k + 1, x4, x5, x8, x9, x10, x486000 => if x10 < x9 then (if 0 ≤ x10 then (if x10 < (x8.length : Int) then ((lease_Tick_1.f ((rd_T42 x8 x10).f0) ((rd_T42 x8 x10).f1) ((rd_T42 x8 x10).f2) ((rd_T42 x8 x10).f3) ((rd_T42 x8 x10).f4) x486000).bind fun t488 => (if t488 = true then (if x4.length < 2932031007402 then (lease_Lease_26_at41.l0 k (x4 ++ [(⟨(rd_T42 x8 x10).f0, (rd_T42 x8 x10).f1, (rd_T42 x8 x10).f2, (rd_T42 x8 x10).f3, (rd_T42 x8 x10).f4⟩ : S42)]) x5 x8 x9 (wrap64 (x10 + 1)) x486000) else (none)) else (if x5.length < 2932031007402 then (lease_Lease_26_at41.l0 k x4 (x5 ++ [(⟨(rd_T42 x8 x10).f0, (rd_T42 x8 x10).f1, (rd_T42 x8 x10).f2, (rd_T42 x8 x10).f3, (rd_T42 x8 x10).f4⟩ : S42)]) x8 x9 (wrap64 (x10 + 1)) x486000) else (none)))) else (none)) else (none)) else (some (x4, x5))
def lease_Lease_26_at41.f (k : Nat) (l0 : List (S42)) (a1_0 : Int) : Option ((List (S42)) × (List (S42))) := lease_Lease_26_at41.l0 k ([] : List (S42)) ([] : List (S42)) l0 (l0.length : Int) 0 a1_0
theorem lease_Lease_26_at41.mono_l : ∀ k, (∀ y0 y1 y2 y3 y4 y5, LeO (lease_Lease_26_at41.l0 k y0 y1 y2 y3 y4 y5) (lease_Lease_26_at41.l0 (k + 1) y0 y1 y2 y3 y4 y5))
 | 0 => fun _ _ _ _ _ _ r h => by simp [lease_Lease_26_at41.l0] at h
 | k + 1 => by
  have ih0 := lease_Lease_26_at41.mono_l k
  ·intro y0 y1 y2 y3 y4 y5
   unfold lease_Lease_26_at41.l0
   exact zLe
theorem lease_Lease_26_at41.mono : ∀ a0 a1 k, LeO (lease_Lease_26_at41.f k a0 a1) (lease_Lease_26_at41.f (k + 1) a0 a1) := by
 intro a0 a1 k
 have ih0 := lease_Lease_26_at41.mono_l k
 unfold lease_Lease_26_at41.f
 exact zLe
theorem lease_Lease_26_at41.calls (k : Nat) (A0 : Option Addr) (c0 : Nat) (l0 : List (S42)) (g1_0 : Nat) (a1_0 : Int) (r1 : List (S42)) (r2 : List (S42)) (w : World) (hr0 : Kd.C k42 w A0 l0.length l0) (hc0 : l0.length ≤ c0) (hb1_0 : w.heap[g1_0]? = some (.cells #[.int .i64 a1_0] 3 (0, 0))) (h : lease_Lease_26_at41.f k l0 a1_0 = some (r1, r2)) :
  Calls Tryd.prog 26 #[.slice A0 l0.length c0, .func (.func 41) #[] #[.pointer (some ⟨g1_0, 0, none⟩)]] w fun e w' => ∃ v0_ v1_ : Value, e = .returned (.tuple #[v0_, v1_]) ∧ Kd.R k42 42 w' w.heap.size (fun k_ => some k_ ≠ (v1_ : Value).ownBlock) v0_ r1 ∧ Kd.R k42 42 w' w.heap.size (fun k_ => some k_ ≠ (v0_ : Value).ownBlock) v1_ r2 ∧ Below w.heap.size w w' := by
 have hu42 := Tryd.underlying42
 have HR0 := ka hr0
 have HC0 := ka hc0
 clear hr0 hc0
 have BK485 := ka hb1_0
 clear hb1_0
 have HB := ka (Below.refl w.heap.size w)
 have H : (lease_Lease_26_at41.l0 k ([] : List (S42)) ([] : List (S42)) l0 (l0.length : Int) 0 a1_0) = some (r1, r2) := h
 clear h
 have H' := ka H
 clear H
 go_enter Tryd.func26, Tryd.ntmps26
 go_wp2
 go_loopg [4, 5, 10] k (fun kq v4 v5 v10 w' => ∃ (x4_1 : List (S42)) (x5_1 : List (S42)) (x10_1 : Int), v10 = .int .i64 x10_1 ∧ Aside0 (lease_Lease_26_at41.l0 kq x4_1 x5_1 l0 (l0.length : Int) x10_1 a1_0 = some (r1, r2)) ∧ Aside0 (kq ≤ k) ∧ Aside0 (Kd.R k42 42 w' w.heap.size (fun k_ => some k_ ≠ (v5 : Value).ownBlock) v4 x4_1) ∧ Aside0 (Kd.R k42 42 w' w.heap.size (fun k_ => some k_ ≠ (v4 : Value).ownBlock) v5 x5_1) ∧ Aside0 (w'.heap[g1_0]? = some (.cells #[.int .i64 a1_0] 3 (0, 0))) ∧ Aside0 (Below w.heap.size w w'))
 case atStart => exact ⟨(([] : List (S42))), (([] : List (S42))), (0), zS, H', ⟨Nat.le_refl _⟩, ⟨zNl⟩, ⟨zNl⟩, ⟨zK BK485.out⟩, ⟨zL HB.out⟩⟩
 case round =>
  clear H'
  obtain ⟨x4_1, x5_1, x10_1, rfl, HA, HK1, HO_4, HO_5, BK485, HB⟩ := hrel
  cases gk with
  | zero => exact absurd HA.out (by simp [lease_Lease_26_at41.l0])
  | succ k1 =>
   have H := HA.out
   clear HA
   simp only [lease_Lease_26_at41.l0] at H
   by_cases c3 : x10_1 < (l0.length : Int)
   ·rw [if_pos c3] at H
    have c3b0 := zdt c3
    clear c3
    replace H := zif H
    obtain ⟨c4, H⟩ := H
    have c4b0 := zdt c4
    clear c4
    replace H := zif H
    obtain ⟨c5, H⟩ := H
    have c5b0 := zdt c5
    clear c5
    replace H := Option.bind_eq_some_iff.mp H
    obtain ⟨t488, A60, H⟩ := H
    try dsimp only at H
    have A6 := ka A60
    clear A60
    by_cases c7 : t488 = true
    ·subst c7
     rw [if_pos rfl] at H
     replace H := zif H
     obtain ⟨c8, H⟩ := H
     have LMc8 := ka c8
     clear c8
     obtain ⟨y489, hy489⟩ : ∃ y_ : List (S42), y_ = (x4_1 ++ [(⟨(rd_T42 l0 x10_1).f0, (rd_T42 l0 x10_1).f1, (rd_T42 l0 x10_1).f2, (rd_T42 l0 x10_1).f3, (rd_T42 l0 x10_1).f4⟩ : S42)]) := ⟨_, rfl⟩
     replace H : (lease_Lease_26_at41.l0 k1 y489 x5_1 l0 (l0.length : Int) (wrap64 (x10_1 + 1)) a1_0) = some (r1, r2) := zH hy489 H
     have Ny489 := ka hy489
     clear hy489
     have H' := ka H
     clear H
     have p486 : 0 ≤ (x10_1 : Int) := zD
     have q486 : x10_1 < (l0.length : Int) := zD
     obtain ⟨ad486, e486, hx486_0, hx486_1, hx486_2, hx486_3, hx486_4⟩ := at_T42 HR0.out x10_1 p486 q486
     cases e486
     replace hx486_0 := zX HB.out hx486_0
     replace hx486_1 := zX HB.out hx486_1
     replace hx486_2 := zX HB.out hx486_2
     replace hx486_3 := zX HB.out hx486_3
     replace hx486_4 := zX HB.out hx486_4
     replace p486 := eq_true p486
     replace q486 := eq_true q486
     go_wp2_with (first | ((with_reducible refine gate_dst (N := 7) rfl ?_); refine box_event ?hg (N := 7) ?hd (cs := #[.int .i64 0, .string ⟨#[]⟩, .bool false, .int .i64 0, .int .i64 0]) (t := 42) ?hr ?_; (case hd => rfl); (case hg => rfl); (case hr => (go_simp; try rfl)); intro gb487 hg w9 hbox hb; replace HO_4 := ka (Kd.R_below (Kd.R_elderB (zR HO_4.out) gb487 (Nat.le_of_eq hg.symm)) hb); replace HO_5 := ka (Kd.R_below (Kd.R_elderB (zR HO_5.out) gb487 (Nat.le_of_eq hg.symm)) hb); have BK487 := ka (hbox); have GW487 := ka (zG hg (zL HB.out)); replace HB := ka (below_step (zL HB.out) hb); have NB485_487 := ka (zNK hg BK485.out); have NB487_485 := ka (zOK hg BK485.out); replace BK485 := ka (zB BK485.out hb); clear hb hbox hg; have hnb10 := NB487_485.out; have hnc10 := NB485_487.out; obtain ⟨z11_0, z11_1, z11_2, z11_3, z11_4, y11_0, y11_1, y11_2, y11_3, y11_4⟩ := zC5 BK487.out) | (go_at_call 41; (with_reducible refine (lease_Tick_1.calls ((rd_T42 l0 x10_1).f0) ((rd_T42 l0 x10_1).f1) ((rd_T42 l0 x10_1).f2) ((rd_T42 l0 x10_1).f3) ((rd_T42 l0 x10_1).f4) g1_0 a1_0 true _ ?side1 A6.out).mono ?_); (case side1 => exact zK BK485.out); rintro e w12 ⟨rfl, hb⟩; replace HO_4 := ka (Kd.R_below (zM HO_4.out (g := gb487) (fun _ hk => hk.2)) hb); replace HO_5 := ka (Kd.R_below (zM HO_5.out (g := gb487) (fun _ hk => hk.2)) hb); replace BK485 := ka (zB BK485.out hb); replace BK487 := ka (blk_below (g := gb487) (o := .cells #[.int .i64 ((rd_T42 l0 x10_1).f0), .string ((rd_T42 l0 x10_1).f1), .bool ((rd_T42 l0 x10_1).f2), .int .i64 ((rd_T42 l0 x10_1).f3), .int .i64 ((rd_T42 l0 x10_1).f4)] 42 (0, 0)) (zP5 BK487.out) hb); replace HB := ka (below_step (zL HB.out) hb); (try clear hb); (try clear hb2); (try clear hk); (try clear hi); obtain ⟨z13_0, z13_1, z13_2, z13_3, z13_4, y13_0, y13_1, y13_2, y13_3, y13_4⟩ := zC5 BK487.out) | ((with_reducible refine gate_builtin (b := .append) (xs := #[.tmp 17, .tmp 19]) rfl ?_); at_builtin; refine Kd.R_append k42 (w0 := w) w.heap.size rfl (.tmp 17) (.tmp 19) 25 42 (.agg #[(.int .i64 0), (.string ⟨#[]⟩), (.bool false), (.int .i64 0), (.int .i64 0)]) 48 rfl Tryd.underlying25 info42 rfl (by decide) (by omega) u4 x4_1 (⟨(rd_T42 l0 x10_1).f0, (rd_T42 l0 x10_1).f1, (rd_T42 l0 x10_1).f2, (rd_T42 l0 x10_1).f3, (rd_T42 l0 x10_1).f4⟩ : S42) [.int .i64 ((rd_T42 l0 x10_1).f0), .string ((rd_T42 l0 x10_1).f1), .bool ((rd_T42 l0 x10_1).f2), .int .i64 ((rd_T42 l0 x10_1).f3), .int .i64 ((rd_T42 l0 x10_1).f4)] (fun k_ => some k_ ≠ (u5 : Value).ownBlock ∧ k_ ≠ gb487) (fun _ => False) rfl rfl ?aP (fun _ hk => hk.elim) ?aF ?aO ?aB ?aS ?aL ?_; (case aP => exact k42_mkM _ _ _ (⟨(rd_T42 l0 x10_1).f0, (rd_T42 l0 x10_1).f1, (rd_T42 l0 x10_1).f2, (rd_T42 l0 x10_1).f3, (rd_T42 l0 x10_1).f4⟩ : S42)); (case aB => exact (zL HB.out)); (case aF => exact (fun k_ hk => ⟨Kd.fresh' (Kd.R_lt (zR HO_5.out)) k_ hk, Kd.freshB (g := gb487) (o := .cells #[.int .i64 ((rd_T42 l0 x10_1).f0), .string ((rd_T42 l0 x10_1).f1), .bool ((rd_T42 l0 x10_1).f2), .int .i64 ((rd_T42 l0 x10_1).f3), .int .i64 ((rd_T42 l0 x10_1).f4)] 42 (0, 0)) (zK BK487.out) k_ hk⟩)); (case aO => exact (zR HO_4.out)); (case aS => exact (below_size (zL HB.out))); (case aL => have := LMc8.out; omega); intro v490 w14 ho hb hg hat; rw [← Ny489.out] at ho; replace HO_5 := ka (Kd.R_after (ok := (fun k_ => k_ ≠ gb487)) (by (with_reducible repeat (first | apply Kd.R_alloc | apply Kd.R_drewN | apply Kd.R_drew)); exact Kd.R_mono HO_5.out (fun _ hk => ⟨hk.2, hk.1⟩)) hg hat); replace BK485 := ka (blk_grown (g := g1_0) (o := .cells #[.int .i64 a1_0] 3 (0, 0)) (zK BK485.out) hg (Kd.R_ne HO_4.out BK485.out (by decide))); replace BK487 := ka (blk_grown (g := gb487) (o := .cells #[.int .i64 ((rd_T42 l0 x10_1).f0), .string ((rd_T42 l0 x10_1).f1), .bool ((rd_T42 l0 x10_1).f2), .int .i64 ((rd_T42 l0 x10_1).f3), .int .i64 ((rd_T42 l0 x10_1).f4)] 42 (0, 0)) (zK BK487.out) hg (Kd.R_away HO_4.out (fun _ hk => hk.2))); replace HB := ka (hb); have HO491 := ka (ho); clear HO_4; clear ho hb hg hat))
     go_roundg k1
     case measure => have := HK1.out; omega
     case rel => exact ⟨(y489), (x5_1), (wrap64 (x10_1 + 1)), zS, H', ⟨by have := HK1.out; omega⟩, ⟨by (with_reducible repeat (first | apply Kd.R_alloc | apply Kd.R_drewN | apply Kd.R_drew)); exact Kd.R_mono HO491.out (fun _ hk => hk.1)⟩, ⟨by (with_reducible repeat (first | apply Kd.R_alloc | apply Kd.R_drewN | apply Kd.R_drew)); exact Kd.R_mono HO_5.out (fun _ hk => hk.2)⟩, ⟨zK BK485.out⟩, ⟨zL HB.out⟩⟩
    replace c7 := Bool.eq_false_iff.mpr c7
    subst c7
    rw [if_neg (show ¬ (false = true) by decide)] at H
    replace H := zif H
    obtain ⟨c15, H⟩ := H
    have LMc15 := ka c15
    clear c15
    obtain ⟨y492, hy492⟩ : ∃ y_ : List (S42), y_ = (x5_1 ++ [(⟨(rd_T42 l0 x10_1).f0, (rd_T42 l0 x10_1).f1, (rd_T42 l0 x10_1).f2, (rd_T42 l0 x10_1).f3, (rd_T42 l0 x10_1).f4⟩ : S42)]) := ⟨_, rfl⟩
    replace H : (lease_Lease_26_at41.l0 k1 x4_1 y492 l0 (l0.length : Int) (wrap64 (x10_1 + 1)) a1_0) = some (r1, r2) := zH hy492 H
    have Ny492 := ka hy492
    clear hy492
    have H' := ka H
    clear H
    have p486 : 0 ≤ (x10_1 : Int) := zD
    have q486 : x10_1 < (l0.length : Int) := zD
    obtain ⟨ad486, e486, hx486_0, hx486_1, hx486_2, hx486_3, hx486_4⟩ := at_T42 HR0.out x10_1 p486 q486
    cases e486
    replace hx486_0 := zX HB.out hx486_0
    replace hx486_1 := zX HB.out hx486_1
    replace hx486_2 := zX HB.out hx486_2
    replace hx486_3 := zX HB.out hx486_3
    replace hx486_4 := zX HB.out hx486_4
    replace p486 := eq_true p486
    replace q486 := eq_true q486
    go_wp2_with (first | ((with_reducible refine gate_dst (N := 7) rfl ?_); refine box_event ?hg (N := 7) ?hd (cs := #[.int .i64 0, .string ⟨#[]⟩, .bool false, .int .i64 0, .int .i64 0]) (t := 42) ?hr ?_; (case hd => rfl); (case hg => rfl); (case hr => (go_simp; try rfl)); intro gb487 hg w16 hbox hb; replace HO_4 := ka (Kd.R_below (Kd.R_elderB (zR HO_4.out) gb487 (Nat.le_of_eq hg.symm)) hb); replace HO_5 := ka (Kd.R_below (Kd.R_elderB (zR HO_5.out) gb487 (Nat.le_of_eq hg.symm)) hb); have BK487 := ka (hbox); have GW487 := ka (zG hg (zL HB.out)); replace HB := ka (below_step (zL HB.out) hb); have NB485_487 := ka (zNK hg BK485.out); have NB487_485 := ka (zOK hg BK485.out); replace BK485 := ka (zB BK485.out hb); clear hb hbox hg; have hnb17 := NB487_485.out; have hnc17 := NB485_487.out; obtain ⟨z18_0, z18_1, z18_2, z18_3, z18_4, y18_0, y18_1, y18_2, y18_3, y18_4⟩ := zC5 BK487.out) | (go_at_call 41; (with_reducible refine (lease_Tick_1.calls ((rd_T42 l0 x10_1).f0) ((rd_T42 l0 x10_1).f1) ((rd_T42 l0 x10_1).f2) ((rd_T42 l0 x10_1).f3) ((rd_T42 l0 x10_1).f4) g1_0 a1_0 false _ ?side1 A6.out).mono ?_); (case side1 => exact zK BK485.out); rintro e w19 ⟨rfl, hb⟩; replace HO_4 := ka (Kd.R_below (zM HO_4.out (g := gb487) (fun _ hk => hk.2)) hb); replace HO_5 := ka (Kd.R_below (zM HO_5.out (g := gb487) (fun _ hk => hk.2)) hb); replace BK485 := ka (zB BK485.out hb); replace BK487 := ka (blk_below (g := gb487) (o := .cells #[.int .i64 ((rd_T42 l0 x10_1).f0), .string ((rd_T42 l0 x10_1).f1), .bool ((rd_T42 l0 x10_1).f2), .int .i64 ((rd_T42 l0 x10_1).f3), .int .i64 ((rd_T42 l0 x10_1).f4)] 42 (0, 0)) (zP5 BK487.out) hb); replace HB := ka (below_step (zL HB.out) hb); (try clear hb); (try clear hb2); (try clear hk); (try clear hi); obtain ⟨z20_0, z20_1, z20_2, z20_3, z20_4, y20_0, y20_1, y20_2, y20_3, y20_4⟩ := zC5 BK487.out) | ((with_reducible refine gate_builtin (b := .append) (xs := #[.tmp 21, .tmp 23]) rfl ?_); at_builtin; refine Kd.R_append k42 (w0 := w) w.heap.size rfl (.tmp 21) (.tmp 23) 25 42 (.agg #[(.int .i64 0), (.string ⟨#[]⟩), (.bool false), (.int .i64 0), (.int .i64 0)]) 48 rfl Tryd.underlying25 info42 rfl (by decide) (by omega) u5 x5_1 (⟨(rd_T42 l0 x10_1).f0, (rd_T42 l0 x10_1).f1, (rd_T42 l0 x10_1).f2, (rd_T42 l0 x10_1).f3, (rd_T42 l0 x10_1).f4⟩ : S42) [.int .i64 ((rd_T42 l0 x10_1).f0), .string ((rd_T42 l0 x10_1).f1), .bool ((rd_T42 l0 x10_1).f2), .int .i64 ((rd_T42 l0 x10_1).f3), .int .i64 ((rd_T42 l0 x10_1).f4)] (fun k_ => some k_ ≠ (u4 : Value).ownBlock ∧ k_ ≠ gb487) (fun _ => False) rfl rfl ?aP (fun _ hk => hk.elim) ?aF ?aO ?aB ?aS ?aL ?_; (case aP => exact k42_mkM _ _ _ (⟨(rd_T42 l0 x10_1).f0, (rd_T42 l0 x10_1).f1, (rd_T42 l0 x10_1).f2, (rd_T42 l0 x10_1).f3, (rd_T42 l0 x10_1).f4⟩ : S42)); (case aB => exact (zL HB.out)); (case aF => exact (fun k_ hk => ⟨Kd.fresh' (Kd.R_lt (zR HO_4.out)) k_ hk, Kd.freshB (g := gb487) (o := .cells #[.int .i64 ((rd_T42 l0 x10_1).f0), .string ((rd_T42 l0 x10_1).f1), .bool ((rd_T42 l0 x10_1).f2), .int .i64 ((rd_T42 l0 x10_1).f3), .int .i64 ((rd_T42 l0 x10_1).f4)] 42 (0, 0)) (zK BK487.out) k_ hk⟩)); (case aO => exact (zR HO_5.out)); (case aS => exact (below_size (zL HB.out))); (case aL => have := LMc15.out; omega); intro v493 w21 ho hb hg hat; rw [← Ny492.out] at ho; replace HO_4 := ka (Kd.R_after (ok := (fun k_ => k_ ≠ gb487)) (by (with_reducible repeat (first | apply Kd.R_alloc | apply Kd.R_drewN | apply Kd.R_drew)); exact Kd.R_mono HO_4.out (fun _ hk => ⟨hk.2, hk.1⟩)) hg hat); replace BK485 := ka (blk_grown (g := g1_0) (o := .cells #[.int .i64 a1_0] 3 (0, 0)) (zK BK485.out) hg (Kd.R_ne HO_5.out BK485.out (by decide))); replace BK487 := ka (blk_grown (g := gb487) (o := .cells #[.int .i64 ((rd_T42 l0 x10_1).f0), .string ((rd_T42 l0 x10_1).f1), .bool ((rd_T42 l0 x10_1).f2), .int .i64 ((rd_T42 l0 x10_1).f3), .int .i64 ((rd_T42 l0 x10_1).f4)] 42 (0, 0)) (zK BK487.out) hg (Kd.R_away HO_5.out (fun _ hk => hk.2))); replace HB := ka (hb); have HO494 := ka (ho); clear HO_5; clear ho hb hg hat))
    go_roundg k1
    case measure => have := HK1.out; omega
    case rel => exact ⟨(x4_1), (y492), (wrap64 (x10_1 + 1)), zS, H', ⟨by have := HK1.out; omega⟩, ⟨by (with_reducible repeat (first | apply Kd.R_alloc | apply Kd.R_drewN | apply Kd.R_drew)); exact Kd.R_mono HO_4.out (fun _ hk => hk.2)⟩, ⟨by (with_reducible repeat (first | apply Kd.R_alloc | apply Kd.R_drewN | apply Kd.R_drew)); exact Kd.R_mono HO494.out (fun _ hk => hk.1)⟩, ⟨zK BK485.out⟩, ⟨zL HB.out⟩⟩
   rw [if_neg c3] at H
   have c3b0 := zdf c3
   clear c3
   replace H := zs2 H
   obtain ⟨rfl, rfl⟩ := H
   go_wp2
   go_ret2
   exact ⟨_, _, zE, by (with_reducible repeat (first | apply Kd.R_alloc | apply Kd.R_drewN | apply Kd.R_drew)); exact HO_4.out, by (with_reducible repeat (first | apply Kd.R_alloc | apply Kd.R_drewN | apply Kd.R_drew)); exact HO_5.out, zL HB.out⟩

/-! ### lease_Tick: function 20 -/
def lease_Tick.f (k : Nat) (a0_0 : Int) (l0_1 : List (S42)) (l0_2 : List (S49)) (a1 : Int) : Option (Int × (List (S42)) × (List (S49))) := (lease_time.f a1).bind fun t475 => (if t475 = true then ((lease_Lease_26_at41.f k l0_1 a1).bind fun bt477 => ((lease_Table_settle.f k a0_0 bt477.2 l0_2 a1).bind fun bt483 => (some (bt483.1, bt483.2.1, bt483.2.2)))) else (some (a0_0, l0_1, l0_2)))
theorem lease_Tick.mono : ∀ a0 a1 a2 a3 k, LeO (lease_Tick.f k a0 a1 a2 a3) (lease_Tick.f (k + 1) a0 a1 a2 a3) := by
 intro a0 a1 a2 a3 k
 unfold lease_Tick.f
 have m0 := @lease_Lease_26_at41.mono
 have m1 := @lease_Table_settle.mono
 exact zLe
theorem lease_Tick.calls (k : Nat) (a0_0 : Int) (P0_1_ : Nat → Prop) (A0_1 : Option Addr) (c0_1 : Nat) (l0_1 : List (S42)) (P0_2_ : Nat → Prop) (A0_2 : Option Addr) (c0_2 : Nat) (l0_2 : List (S49)) (a1 : Int) (r1 : Int) (r2 : List (S42)) (r3 : List (S49)) (w : World) (hs0_1 : Kd.V k42 42 w w.heap.size (fun k_ => P0_1_ k_) (.slice A0_1 l0_1.length c0_1) l0_1) (hs0_2 : Kd.V k49 49 w w.heap.size (fun k_ => P0_2_ k_) (.slice A0_2 l0_2.length c0_2) l0_2) (h : lease_Tick.f k a0_0 l0_1 l0_2 a1 = some (r1, r2, r3)) :
  Calls Tryd.prog 20 #[.agg #[.int .i64 a0_0, .slice A0_1 l0_1.length c0_1, .slice A0_2 l0_2.length c0_2], .int .i64 a1] w fun e w' => ∃ v1_ v2_ : Value, e = .returned (.agg #[.int .i64 r1, v1_, v2_]) ∧ Kd.V k42 42 w' w.heap.size (fun k_ => ((P0_1_ k_ ∨ P0_2_ k_) ∨ w.heap.size ≤ k_)) v1_ r2 ∧ Kd.V k49 49 w' w.heap.size (fun k_ => ((P0_1_ k_ ∨ P0_2_ k_) ∨ w.heap.size ≤ k_)) v2_ r3 ∧ Below w.heap.size w w' := by
 have hu28 := Tryd.underlying28
 have HO0_1 := ka (show Kd.V k42 42 w w.heap.size (fun k_ => ((P0_1_ k_ ∨ P0_2_ k_) ∨ w.heap.size ≤ k_)) (.slice A0_1 l0_1.length c0_1) l0_1 from Kd.V_mono hs0_1 (fun k_ hk => .inl (.inl hk)))
 have HO0_2 := ka (show Kd.V k49 49 w w.heap.size (fun k_ => ((P0_1_ k_ ∨ P0_2_ k_) ∨ w.heap.size ≤ k_)) (.slice A0_2 l0_2.length c0_2) l0_2 from Kd.V_mono hs0_2 (fun k_ hk => .inl (.inr hk)))
 have HB := ka (Below.refl w.heap.size w)
 have H : ((lease_time.f a1).bind fun t475 => (if t475 = true then ((lease_Lease_26_at41.f k l0_1 a1).bind fun bt477 => ((lease_Table_settle.f k a0_0 bt477.2 l0_2 a1).bind fun bt483 => (some (bt483.1, bt483.2.1, bt483.2.2)))) else (some (a0_0, l0_1, l0_2)))) = some (r1, r2, r3) := h
 clear h
 replace H := Option.bind_eq_some_iff.mp H
 obtain ⟨t475, A30, H⟩ := H
 try dsimp only at H
 have A3 := ka A30
 clear A30
 by_cases c4 : t475 = true
 ·subst c4
  rw [if_pos rfl] at H
  replace H := Option.bind_eq_some_iff.mp H
  obtain ⟨⟨t477, t478⟩, A50, H⟩ := H
  try dsimp only at H
  have A5 := ka A50
  clear A50
  replace H := Option.bind_eq_some_iff.mp H
  obtain ⟨⟨t483, t484, t487⟩, A60, H⟩ := H
  try dsimp only at H
  have A6 := ka A60
  clear A60
  replace H := zs3 H
  obtain ⟨rfl, rfl, rfl⟩ := H
  go_enter Tryd.func20, Tryd.ntmps20
  go_wp2_with (first | ((with_reducible refine gate_dst (N := 2) rfl ?_); refine box_event ?hg (N := 2) ?hd (cs := #[.int .i64 a0_0, .slice A0_1 l0_1.length c0_1, .slice A0_2 l0_2.length c0_2]) (t := 28) ?hr ?_; (case hd => rfl); (case hg => rfl); (case hr => (go_simp; try rfl)); intro gb472 hg w7 hbox hb; replace HO0_1 := ka (Kd.V_below (Kd.V_elderB (zV HO0_1.out) gb472 (Nat.le_of_eq hg.symm)) hb); replace HO0_2 := ka (Kd.V_below (Kd.V_elderB (zV HO0_2.out) gb472 (Nat.le_of_eq hg.symm)) hb); have BK472 := ka (hbox); have GW472 := ka (zG hg (zL HB.out)); replace HB := ka (below_step (zL HB.out) hb); clear hb hbox hg) | ((with_reducible refine gate_dst (N := 3) rfl ?_); refine box_event ?hg (N := 3) ?hd (cs := #[.int .i64 a1]) (t := 3) ?hr ?_; (case hd => rfl); (case hg => rfl); (case hr => (go_simp; try rfl)); intro gb473 hg w8 hbox hb; replace HO0_1 := ka (Kd.V_below (Kd.V_elderB (zV HO0_1.out) gb473 (Nat.le_of_eq hg.symm)) hb); replace HO0_2 := ka (Kd.V_below (Kd.V_elderB (zV HO0_2.out) gb473 (Nat.le_of_eq hg.symm)) hb); have BK473 := ka (hbox); have GW473 := ka (zG hg (zL HB.out)); replace HB := ka (below_step (zL HB.out) hb); have NB472_473 := ka (zNK hg BK472.out); have NB473_472 := ka (zOK hg BK472.out); replace BK472 := ka (zB BK472.out hb); clear hb hbox hg) | ((with_reducible refine gate_dst (N := 4) rfl ?_); refine box_event ?hg (N := 4) ?hd (cs := #[.int .i64 0, .slice none 0 0, .slice none 0 0]) (t := 28) ?hr ?_; (case hd => rfl); (case hg => rfl); (case hr => (go_simp; try rfl)); intro gb474 hg w9 hbox hb; replace HO0_1 := ka (Kd.V_below (Kd.V_elderB (zV HO0_1.out) gb474 (Nat.le_of_eq hg.symm)) hb); replace HO0_2 := ka (Kd.V_below (Kd.V_elderB (zV HO0_2.out) gb474 (Nat.le_of_eq hg.symm)) hb); have BK474 := ka (hbox); have GW474 := ka (zG hg (zL HB.out)); replace HB := ka (below_step (zL HB.out) hb); have NB472_474 := ka (zNK hg BK472.out); have NB474_472 := ka (zOK hg BK472.out); replace BK472 := ka (zB BK472.out hb); have NB473_474 := ka (zNK hg BK473.out); have NB474_473 := ka (zOK hg BK473.out); replace BK473 := ka (zB BK473.out hb); clear hb hbox hg; have hnb10 := NB473_472.out; have hnc10 := NB472_473.out; have hnb11 := NB473_474.out; have hnc11 := NB474_473.out; obtain ⟨z12_0, y12_0⟩ := zC1 BK473.out) | ((with_reducible refine gate_callee (f := 34) rfl ?_); refine goesL_ (some 6) rfl rfl Tryd.func34 (by kernel_rfl) rfl #[.int .i64 a1] rfl zA ?_; (with_reducible refine (lease_time.calls a1 true _ A3.out).mono ?_); rintro e w' ⟨rfl, ⟨nd, rfl⟩⟩; refine ⟨_, rfl, ?_⟩; (try (rw [drewN_self w9]; generalize hq_ : World.drewN w9 _ = w9; have n0_ : Aside0 (Kd.V k42 42 w9 w.heap.size (fun k_ => ((P0_1_ k_ ∨ P0_2_ k_) ∨ w.heap.size ≤ k_) ∧ k_ ≠ gb472 ∧ k_ ≠ gb473 ∧ k_ ≠ gb474) (.slice A0_1 l0_1.length c0_1) l0_1) := ⟨by rw [← hq_]; exact (by (with_reducible repeat (first | apply Kd.V_alloc | apply Kd.V_drewN | apply Kd.V_drew)); exact Kd.V_mono HO0_1.out (fun _ hk => ⟨hk.1.1.1, ⟨hk.1.1.2, ⟨hk.1.2, hk.2⟩⟩⟩))⟩; have n1_ : Aside0 (Kd.V k49 49 w9 w.heap.size (fun k_ => ((P0_1_ k_ ∨ P0_2_ k_) ∨ w.heap.size ≤ k_) ∧ k_ ≠ gb472 ∧ k_ ≠ gb473 ∧ k_ ≠ gb474) (.slice A0_2 l0_2.length c0_2) l0_2) := ⟨by rw [← hq_]; exact (by (with_reducible repeat (first | apply Kd.V_alloc | apply Kd.V_drewN | apply Kd.V_drew)); exact Kd.V_mono HO0_2.out (fun _ hk => ⟨hk.1.1.1, ⟨hk.1.1.2, ⟨hk.1.2, hk.2⟩⟩⟩))⟩; have n2_ : Aside0 (w9.heap[gb472]? = some (.cells #[.int .i64 a0_0, .slice A0_1 l0_1.length c0_1, .slice A0_2 l0_2.length c0_2] 28 (0, 0))) := ⟨by rw [← hq_]; exact (zK BK472.out)⟩; have n3_ : Aside0 (w9.heap[gb473]? = some (.cells #[.int .i64 a1] 3 (0, 0))) := ⟨by rw [← hq_]; exact (zK BK473.out)⟩; have n4_ : Aside0 (w9.heap[gb474]? = some (.cells #[.int .i64 0, .slice none 0 0, .slice none 0 0] 28 (0, 0))) := ⟨by rw [← hq_]; exact (zK BK474.out)⟩; have n5_ : Aside0 (Below w.heap.size w w9) := ⟨by rw [← hq_]; exact (zL HB.out)⟩; clear HO0_1 HO0_2 BK472 BK473 BK474 HB hq_; have HO0_1 := n0_; have HO0_2 := n1_; have BK472 := n2_; have BK473 := n3_; have BK474 := n4_; have HB := n5_; clear n0_ n1_ n2_ n3_ n4_ n5_; (try (obtain ⟨z12_0, y12_0⟩ := zC1 BK473.out)))); have hnb13 := NB472_474.out; have hnc13 := NB474_472.out; obtain ⟨z14_0, z14_1, z14_2, y14_0, y14_1, y14_2⟩ := zC3 BK472.out) | ((with_reducible refine gate_callee (f := 26) rfl ?_); refine goesL_ (some 13) rfl rfl Tryd.func26 (by kernel_rfl) rfl #[.slice A0_1 l0_1.length c0_1, .func (.func 41) #[] #[.pointer (some ⟨gb473, 0, none⟩)]] rfl zA ?_; (with_reducible refine (lease_Lease_26_at41.calls k _ _ l0_1 gb473 a1 t477 t478 _ ?side1 ?side2 ?side3 A5.out).mono ?_); (case side1 => exact zCS (Kd.V_reads' HO0_1.out).2.2); (case side2 => exact (Kd.V_reads' HO0_1.out).2.1); (case side3 => exact zK BK473.out); rintro e w15 ⟨v479, v481, rfl, ho0, ho1, hb⟩; refine ⟨_, rfl, ?_⟩; replace HO0_1 := ka (Kd.V_mono (Kd.V_told (Kd.V_told (Kd.V_old (zV HO0_1.out) hb) (Kd.R_base ho0)) (Kd.R_base ho1)) (fun _ h_ => h_.1)); replace HO0_2 := ka (Kd.V_mono (Kd.V_told (Kd.V_told (Kd.V_old (zV HO0_2.out) hb) (Kd.R_base ho0)) (Kd.R_base ho1)) (fun _ h_ => h_.1)); have HO480 := ka (Kd.R_lower (Kd.R_newM (M := fun k_ => (w.heap.size ≤ k_)) ho0 (below_size (zL HB.out)) (fun k_ h_ => h_)) (below_size (zL HB.out))); have HO482 := ka (Kd.R_lower (Kd.R_newM (M := fun k_ => (w.heap.size ≤ k_)) ho1 (below_size (zL HB.out)) (fun k_ h_ => h_)) (below_size (zL HB.out))); replace BK472 := ka (zB BK472.out hb); replace BK473 := ka (zB BK473.out hb); replace BK474 := ka (zB BK474.out hb); replace HB := ka (below_step (zL HB.out) hb); (try clear hb); (try clear hb2); (try clear hk); (try clear hi); (try clear ho0); (try clear ho1); obtain ⟨Ao16, co16, eo16⟩ := Kd.R_slice HO482.out; subst eo16; obtain ⟨z17_0, z17_1, z17_2, y17_0, y17_1, y17_2⟩ := zC3 BK472.out; obtain ⟨z18_0, y18_0⟩ := zC1 BK473.out) | ((with_reducible refine gate_callee (f := 36) rfl ?_); refine goesL_ (some 19) rfl rfl Tryd.func36 (by kernel_rfl) rfl #[.agg #[.int .i64 a0_0, .slice Ao16 t478.length co16, .slice A0_2 l0_2.length c0_2], .int .i64 a1] rfl zA ?_; (with_reducible refine (lease_Table_settle.calls k a0_0 _ _ t478 _ _ l0_2 a1 t483 t484 t487 _ ?side1 ?side2 ?side3 ?side4 A6.out).mono ?_); (case side1 => refine (Kd.R_reads' (e := 42) (base := w.heap.size) (ok := fun k_ => ((w.heap.size ≤ k_) ∧ some k_ ≠ (v479 : Value).ownBlock)) (n := t478.length) (c := co16) ?_).2.2; exact (zT HO482.out BK472.out)); (case side2 => exact (Kd.R_reads' HO482.out).2.1); (case side3 => refine (Kd.V_reads' (e := 49) (base := w.heap.size) (ok := fun k_ => (((((P0_1_ k_ ∨ P0_2_ k_) ∨ w.heap.size ≤ k_) ∧ (k_ ≠ gb472 ∧ (k_ ≠ gb473 ∧ k_ ≠ gb474))) ∧ some k_ ≠ (v479 : Value).ownBlock) ∧ some k_ ≠ (.slice Ao16 t478.length co16 : Value).ownBlock)) (n := l0_2.length) (c := c0_2) ?_).2.2; exact (zMV HO0_2.out (g := gb472) (fun _ hk => hk.1.1.2.1))); (case side4 => exact (Kd.V_reads' HO0_2.out).2.1); rintro e w19 ⟨v485, v488, rfl, ho0, ho1, hb⟩; refine ⟨_, rfl, ?_⟩; replace HO0_1 := ka (Kd.V_mono (Kd.V_told (Kd.V_told (Kd.V_old (zMV HO0_1.out (g := gb472) (fun _ hk => hk.1.1.2.1)) hb) (Kd.R_base ho0)) (Kd.R_base ho1)) (fun _ h_ => h_.1)); replace HO0_2 := ka (Kd.V_mono (Kd.V_told (Kd.V_told (Kd.V_old (zMV HO0_2.out (g := gb472) (fun _ hk => hk.1.1.2.1)) hb) (Kd.R_base ho0)) (Kd.R_base ho1)) (fun _ h_ => h_.1)); have HO486 := ka (Kd.R_lower (Kd.R_new' (Kd.R_new' (Kd.R_newM (M := fun k_ => (w.heap.size ≤ k_)) ho0 (below_size (zL HB.out)) (fun k_ h_ => h_)) (Kd.R_lt (zT HO480.out BK472.out))) (Kd.R_lt (zT HO482.out BK472.out))) (below_size (zL HB.out))); replace HO480 := ka (Kd.R_elder' (zT HO480.out BK472.out) (Kd.R_base ho0) hb); replace HO482 := ka (Kd.R_elder' (zT HO482.out BK472.out) (Kd.R_base ho0) hb); have HO489 := ka (Kd.R_lower (Kd.R_newM (M := fun k_ => (w.heap.size ≤ k_)) ho1 (below_size (zL HB.out)) (fun k_ h_ => h_)) (below_size (zL HB.out))); replace BK472 := ka (blk_below (g := gb472) (o := .cells #[.int .i64 a0_0, .slice Ao16 t478.length co16, .slice A0_2 l0_2.length c0_2] 28 (0, 0)) (by (with_reducible repeat (first | refine blk_drewN ?_ _ | refine blk_drew ?_ | refine blk_alloc ?_ _)); refine blk_put (cs := #[.int .i64 a0_0, .slice A0_1 l0_1.length c0_1, .slice A0_2 l0_2.length c0_2]) ?_ 1 _ rfl; (with_reducible repeat (first | refine blk_drewN ?_ _ | refine blk_drew ?_ | refine blk_alloc ?_ _)); exact BK472.out) hb); replace BK473 := ka (zB BK473.out hb); replace BK474 := ka (zB BK474.out hb); replace HB := ka (below_step (zL HB.out) hb); (try clear hb); (try clear hb2); (try clear hk); (try clear hi); (try clear ho0); (try clear ho1); obtain ⟨z20_0, z20_1, z20_2, y20_0, y20_1, y20_2⟩ := zC3 BK474.out; obtain ⟨Ao21, co21, eo21⟩ := Kd.R_slice HO486.out; subst eo21; obtain ⟨Ao22, co22, eo22⟩ := Kd.R_slice HO489.out; subst eo22))
  refine bodyPost_ret (results_cell_row rfl _ _ gb474 28 #[.int .i64 t483, .slice Ao21 t484.length co21, .slice Ao22 t487.length co22] (0, 0) _ rfl (zP3 BK474.out) Tryd.underlying28 rfl (by kernel_rfl)) rfl ?_
  exact ⟨_, _, zE, Kd.V_mono (Kd.R_V (by (with_reducible repeat (first | apply Kd.R_alloc | apply Kd.R_drewN | apply Kd.R_drew)); exact Kd.R_mono (zNT HO486.out BK474.out) (fun _ hk => hk.1.1.1.1))) (fun k_ hk => by first | exact ⟨(.inr (hk.1)), hk.2⟩ | exact (.inr (hk))), Kd.V_mono (Kd.R_V (by (with_reducible repeat (first | apply Kd.R_alloc | apply Kd.R_drewN | apply Kd.R_drew)); exact Kd.R_mono (zNT HO489.out BK474.out) (fun _ hk => hk.1.1))) (fun k_ hk => by first | exact ⟨(.inr (hk.1)), hk.2⟩ | exact (.inr (hk))), zL HB.out⟩
 replace c4 := Bool.eq_false_iff.mpr c4
 subst c4
 rw [if_neg (show ¬ (false = true) by decide)] at H
 replace H := zs3 H
 obtain ⟨rfl, rfl, rfl⟩ := H
 go_enter Tryd.func20, Tryd.ntmps20
 go_wp2_with (first | ((with_reducible refine gate_dst (N := 2) rfl ?_); refine box_event ?hg (N := 2) ?hd (cs := #[.int .i64 a0_0, .slice A0_1 l0_1.length c0_1, .slice A0_2 l0_2.length c0_2]) (t := 28) ?hr ?_; (case hd => rfl); (case hg => rfl); (case hr => (go_simp; try rfl)); intro gb472 hg w23 hbox hb; replace HO0_1 := ka (Kd.V_below (Kd.V_elderB (zV HO0_1.out) gb472 (Nat.le_of_eq hg.symm)) hb); replace HO0_2 := ka (Kd.V_below (Kd.V_elderB (zV HO0_2.out) gb472 (Nat.le_of_eq hg.symm)) hb); have BK472 := ka (hbox); have GW472 := ka (zG hg (zL HB.out)); replace HB := ka (below_step (zL HB.out) hb); clear hb hbox hg) | ((with_reducible refine gate_dst (N := 3) rfl ?_); refine box_event ?hg (N := 3) ?hd (cs := #[.int .i64 a1]) (t := 3) ?hr ?_; (case hd => rfl); (case hg => rfl); (case hr => (go_simp; try rfl)); intro gb473 hg w24 hbox hb; replace HO0_1 := ka (Kd.V_below (Kd.V_elderB (zV HO0_1.out) gb473 (Nat.le_of_eq hg.symm)) hb); replace HO0_2 := ka (Kd.V_below (Kd.V_elderB (zV HO0_2.out) gb473 (Nat.le_of_eq hg.symm)) hb); have BK473 := ka (hbox); have GW473 := ka (zG hg (zL HB.out)); replace HB := ka (below_step (zL HB.out) hb); have NB472_473 := ka (zNK hg BK472.out); have NB473_472 := ka (zOK hg BK472.out); replace BK472 := ka (zB BK472.out hb); clear hb hbox hg) | ((with_reducible refine gate_dst (N := 4) rfl ?_); refine box_event ?hg (N := 4) ?hd (cs := #[.int .i64 0, .slice none 0 0, .slice none 0 0]) (t := 28) ?hr ?_; (case hd => rfl); (case hg => rfl); (case hr => (go_simp; try rfl)); intro gb474 hg w25 hbox hb; replace HO0_1 := ka (Kd.V_below (Kd.V_elderB (zV HO0_1.out) gb474 (Nat.le_of_eq hg.symm)) hb); replace HO0_2 := ka (Kd.V_below (Kd.V_elderB (zV HO0_2.out) gb474 (Nat.le_of_eq hg.symm)) hb); have BK474 := ka (hbox); have GW474 := ka (zG hg (zL HB.out)); replace HB := ka (below_step (zL HB.out) hb); have NB472_474 := ka (zNK hg BK472.out); have NB474_472 := ka (zOK hg BK472.out); replace BK472 := ka (zB BK472.out hb); have NB473_474 := ka (zNK hg BK473.out); have NB474_473 := ka (zOK hg BK473.out); replace BK473 := ka (zB BK473.out hb); clear hb hbox hg; have hnb26 := NB473_472.out; have hnc26 := NB472_473.out; have hnb27 := NB473_474.out; have hnc27 := NB474_473.out; obtain ⟨z28_0, y28_0⟩ := zC1 BK473.out) | ((with_reducible refine gate_callee (f := 34) rfl ?_); refine goesL_ (some 6) rfl rfl Tryd.func34 (by kernel_rfl) rfl #[.int .i64 a1] rfl zA ?_; (with_reducible refine (lease_time.calls a1 false _ A3.out).mono ?_); rintro e w' ⟨rfl, ⟨nd, rfl⟩⟩; refine ⟨_, rfl, ?_⟩; (try (rw [drewN_self w25]; generalize hq_ : World.drewN w25 _ = w25; have n0_ : Aside0 (Kd.V k42 42 w25 w.heap.size (fun k_ => ((P0_1_ k_ ∨ P0_2_ k_) ∨ w.heap.size ≤ k_) ∧ k_ ≠ gb472 ∧ k_ ≠ gb473 ∧ k_ ≠ gb474) (.slice A0_1 l0_1.length c0_1) l0_1) := ⟨by rw [← hq_]; exact (by (with_reducible repeat (first | apply Kd.V_alloc | apply Kd.V_drewN | apply Kd.V_drew)); exact Kd.V_mono HO0_1.out (fun _ hk => ⟨hk.1.1.1, ⟨hk.1.1.2, ⟨hk.1.2, hk.2⟩⟩⟩))⟩; have n1_ : Aside0 (Kd.V k49 49 w25 w.heap.size (fun k_ => ((P0_1_ k_ ∨ P0_2_ k_) ∨ w.heap.size ≤ k_) ∧ k_ ≠ gb472 ∧ k_ ≠ gb473 ∧ k_ ≠ gb474) (.slice A0_2 l0_2.length c0_2) l0_2) := ⟨by rw [← hq_]; exact (by (with_reducible repeat (first | apply Kd.V_alloc | apply Kd.V_drewN | apply Kd.V_drew)); exact Kd.V_mono HO0_2.out (fun _ hk => ⟨hk.1.1.1, ⟨hk.1.1.2, ⟨hk.1.2, hk.2⟩⟩⟩))⟩; have n2_ : Aside0 (w25.heap[gb472]? = some (.cells #[.int .i64 a0_0, .slice A0_1 l0_1.length c0_1, .slice A0_2 l0_2.length c0_2] 28 (0, 0))) := ⟨by rw [← hq_]; exact (zK BK472.out)⟩; have n3_ : Aside0 (w25.heap[gb473]? = some (.cells #[.int .i64 a1] 3 (0, 0))) := ⟨by rw [← hq_]; exact (zK BK473.out)⟩; have n4_ : Aside0 (w25.heap[gb474]? = some (.cells #[.int .i64 0, .slice none 0 0, .slice none 0 0] 28 (0, 0))) := ⟨by rw [← hq_]; exact (zK BK474.out)⟩; have n5_ : Aside0 (Below w.heap.size w w25) := ⟨by rw [← hq_]; exact (zL HB.out)⟩; clear HO0_1 HO0_2 BK472 BK473 BK474 HB hq_; have HO0_1 := n0_; have HO0_2 := n1_; have BK472 := n2_; have BK473 := n3_; have BK474 := n4_; have HB := n5_; clear n0_ n1_ n2_ n3_ n4_ n5_; (try (obtain ⟨z17_0, z17_1, z17_2, y17_0, y17_1, y17_2⟩ := zC3 BK472.out)); (try (obtain ⟨z28_0, y28_0⟩ := zC1 BK473.out)); (try (obtain ⟨z20_0, z20_1, z20_2, y20_0, y20_1, y20_2⟩ := zC3 BK474.out)))); have hnb29 := NB472_474.out; have hnc29 := NB474_472.out; obtain ⟨z30_0, z30_1, z30_2, y30_0, y30_1, y30_2⟩ := zC3 BK472.out; obtain ⟨z31_0, z31_1, z31_2, y31_0, y31_1, y31_2⟩ := zC3 BK474.out))
 refine bodyPost_ret (results_cell_row rfl _ _ gb474 28 #[.int .i64 a0_0, .slice A0_1 l0_1.length c0_1, .slice A0_2 l0_2.length c0_2] (0, 0) _ rfl (zP3 BK474.out) Tryd.underlying28 rfl (by kernel_rfl)) rfl ?_
 exact ⟨_, _, zE, by (with_reducible repeat (first | apply Kd.V_alloc | apply Kd.V_drewN | apply Kd.V_drew)); exact Kd.V_mono (zNV HO0_1.out (g := gb474) (fun _ hk => hk.2.2.2)) (fun _ hk => hk.1.1), by (with_reducible repeat (first | apply Kd.V_alloc | apply Kd.V_drewN | apply Kd.V_drew)); exact Kd.V_mono (zNV HO0_2.out (g := gb474) (fun _ hk => hk.2.2.2)) (fun _ hk => hk.1.1), zL HB.out⟩

/-! ### cooperagelaw16_does: function 6 -/
mutual
def cooperagelaw16_does.j1 : Nat → Int → Int → Int → List (S42) → List (S49) → Int → List (S42) → List (S49) → Option (Int × (List (S42)) × (List (S49)) × Int × Int)
 | 0, _, _, _, _, _, _, _, _ => none
 | k + 1, x10, x11, x491000, x491001, x491002, x494000, x494001, x494002 => if x10 = 0 then (some (x494000, x494001, x494002, x11, x10)) else (some (x491000, x491001, x491002, wrap64 ((wrap64 ((x494001.length : Int) + (x494002.length : Int))) + x494000), x10))
def cooperagelaw16_does.j0 : Nat → Int → Int → Int → Int → Bool → Int → List (S42) → List (S49) → Int → Int → Int → Int → Int → ByteArray → Bool → Option (Int × (List (S42)) × (List (S49)) × Int × Int)
 | 0, _, _, _, _, _, _, _, _, _, _, _, _, _, _, _ => none
 | k + 1, x2, x10, x11, x14, x31, x491000, x491001, x491002, x492000, x492001, x492002, x492003, x492004, x492005, x492006 => if x31 = true then ((lease_Give.f k x491000 x491001 x491002 x492001 x492005 x492003 x2).bind fun bt495 => (cooperagelaw16_does.j1 k bt495.2.2.2 x11 x491000 x491001 x491002 bt495.1 bt495.2.1 bt495.2.2.1)) else (if x14 = 7 then ((lease_Renew.f k x491000 x491001 x491002 x492001 x492005 x492003 x492002 x2).bind fun bt503 => (cooperagelaw16_does.j1 k bt503.2.2.2 x11 x491000 x491001 x491002 bt503.1 bt503.2.1 bt503.2.2.1)) else (if x14 = 8 then ((lease_Leave.f k x491000 x491001 x491002 x492001 x2).bind fun bt511 => (cooperagelaw16_does.j1 k x10 x11 x491000 x491001 x491002 bt511.1 bt511.2.1 bt511.2.2)) else (if x14 = 9 then ((lease_Tick.f k x491000 x491001 x491002 x2).bind fun bt518 => (cooperagelaw16_does.j1 k x10 x11 x491000 x491001 x491002 bt518.1 bt518.2.1 bt518.2.2)) else ((lease_Take.f k x491000 x491001 x491002 x492001 x492005 x492006 x492002 x2).bind fun bt525 => (cooperagelaw16_does.j1 k bt525.2.2.2.2 bt525.2.2.2.1 x491000 x491001 x491002 bt525.1 bt525.2.1 bt525.2.2.1)))))
end
def cooperagelaw16_does.f (k : Nat) (a0_0 : Int) (l0_1 : List (S42)) (l0_2 : List (S49)) (a1_0 : Int) (a1_1 : Int) (a1_2 : Int) (a1_3 : Int) (a1_4 : Int) (a1_5 : ByteArray) (a1_6 : Bool) (a2 : Int) : Option (Int × (List (S42)) × (List (S49)) × Int × Int) := (cooperagelaw16_pick.f a1_0 10).bind fun t494 => (if t494 = 5 then (cooperagelaw16_does.j0 k a2 0 0 t494 (t494 == 5) a0_0 l0_1 l0_2 a1_0 a1_1 a1_2 a1_3 a1_4 a1_5 a1_6) else (cooperagelaw16_does.j0 k a2 0 0 t494 (t494 == 6) a0_0 l0_1 l0_2 a1_0 a1_1 a1_2 a1_3 a1_4 a1_5 a1_6))
theorem cooperagelaw16_does.mono_l : ∀ k, (∀ y0 y1 y2 y3 y4 y5 y6 y7, LeO (cooperagelaw16_does.j1 k y0 y1 y2 y3 y4 y5 y6 y7) (cooperagelaw16_does.j1 (k + 1) y0 y1 y2 y3 y4 y5 y6 y7)) ∧ (∀ y0 y1 y2 y3 y4 y5 y6 y7 y8 y9 y10 y11 y12 y13 y14, LeO (cooperagelaw16_does.j0 k y0 y1 y2 y3 y4 y5 y6 y7 y8 y9 y10 y11 y12 y13 y14) (cooperagelaw16_does.j0 (k + 1) y0 y1 y2 y3 y4 y5 y6 y7 y8 y9 y10 y11 y12 y13 y14))
 | 0 => ⟨fun _ _ _ _ _ _ _ _ r h => by simp [cooperagelaw16_does.j1] at h, fun _ _ _ _ _ _ _ _ _ _ _ _ _ _ _ r h => by simp [cooperagelaw16_does.j0] at h⟩
 | k + 1 => by
  obtain ⟨ih0, ih1⟩ := cooperagelaw16_does.mono_l k
  have m0 := @lease_Give.mono
  have m1 := @lease_Leave.mono
  have m2 := @lease_Renew.mono
  have m3 := @lease_Take.mono
  have m4 := @lease_Tick.mono
  refine ⟨?_, ?_⟩
  ·intros
   unfold cooperagelaw16_does.j1
   exact zLe
  ·intros
   unfold cooperagelaw16_does.j0
   exact zLe
theorem cooperagelaw16_does.mono : ∀ a0 a1 a2 a3 a4 a5 a6 a7 a8 a9 a10 k, LeO (cooperagelaw16_does.f k a0 a1 a2 a3 a4 a5 a6 a7 a8 a9 a10) (cooperagelaw16_does.f (k + 1) a0 a1 a2 a3 a4 a5 a6 a7 a8 a9 a10) := by
 intro a0 a1 a2 a3 a4 a5 a6 a7 a8 a9 a10 k
 obtain ⟨ih0, ih1⟩ := cooperagelaw16_does.mono_l k
 unfold cooperagelaw16_does.f
 have m0 := @lease_Give.mono
 have m1 := @lease_Leave.mono
 have m2 := @lease_Renew.mono
 have m3 := @lease_Take.mono
 have m4 := @lease_Tick.mono
 exact zLe
def cooperagelaw16_does.T16 : Bool × List (List Nat × List Nat) := (true, [([], []), ([], []), ([1], [1]), ([2], [2]), ([], []), ([4], [4]), ([5], [5]), ([3, 6], [3, 6]), ([], []), ([8], [8]), ([7, 9], [7, 9]), ([], []), ([0, 0], [0]), ([10, 12, 0, 1, 2, 3, 4, 5, 6, 7, 8, 9, 10, 12], [10]), ([11, 13, 0, 1, 2, 3, 4, 5, 6, 7, 8, 9, 10, 11, 12, 13], [11])])
def cooperagelaw16_does.B16 : List Nat := [0, 0, 2, 6, 0, 16, 48, 126, 0, 256, 1022, 0, 1, 6143, 16383]
theorem cooperagelaw16_does.tab16 : rtab .any (opsOf Tryd.f6 16) = cooperagelaw16_does.T16 := by kernel_rfl
theorem cooperagelaw16_does.bits16 : waitsOk cooperagelaw16_does.T16.2 cooperagelaw16_does.B16 = true := by kernel_rfl
theorem cooperagelaw16_does.calls (k : Nat) (a0_0 : Int) (P0_1_ : Nat → Prop) (A0_1 : Option Addr) (c0_1 : Nat) (l0_1 : List (S42)) (P0_2_ : Nat → Prop) (A0_2 : Option Addr) (c0_2 : Nat) (l0_2 : List (S49)) (a1_0 : Int) (a1_1 : Int) (a1_2 : Int) (a1_3 : Int) (a1_4 : Int) (a1_5 : ByteArray) (a1_6 : Bool) (a2 : Int) (r1 : Int) (r2 : List (S42)) (r3 : List (S49)) (r4 : Int) (r5 : Int) (w : World) (hs0_1 : Kd.V k42 42 w w.heap.size (fun k_ => P0_1_ k_) (.slice A0_1 l0_1.length c0_1) l0_1) (hs0_2 : Kd.V k49 49 w w.heap.size (fun k_ => P0_2_ k_) (.slice A0_2 l0_2.length c0_2) l0_2) (h : cooperagelaw16_does.f k a0_0 l0_1 l0_2 a1_0 a1_1 a1_2 a1_3 a1_4 a1_5 a1_6 a2 = some (r1, r2, r3, r4, r5)) :
  Calls Tryd.prog 6 #[.agg #[.int .i64 a0_0, .slice A0_1 l0_1.length c0_1, .slice A0_2 l0_2.length c0_2], .agg #[.int .i64 a1_0, .int .i64 a1_1, .int .i64 a1_2, .int .i64 a1_3, .int .i64 a1_4, .string a1_5, .bool a1_6], .int .i64 a2] w fun e w' => ∃ v1_ v2_ : Value, e = .returned (.tuple #[.agg #[.int .i64 r1, v1_, v2_], .int .i64 r4, .int .i64 r5]) ∧ Kd.V k42 42 w' w.heap.size (fun k_ => ((P0_1_ k_ ∨ P0_2_ k_) ∨ w.heap.size ≤ k_)) v1_ r2 ∧ Kd.V k49 49 w' w.heap.size (fun k_ => ((P0_1_ k_ ∨ P0_2_ k_) ∨ w.heap.size ≤ k_)) v2_ r3 ∧ Below w.heap.size w w' := by
 have hu28 := Tryd.underlying28
 have hu34 := Tryd.underlying34
 have hu49 := Tryd.underlying49
 have HO0_1 := ka (show Kd.V k42 42 w w.heap.size (fun k_ => ((P0_1_ k_ ∨ P0_2_ k_) ∨ w.heap.size ≤ k_)) (.slice A0_1 l0_1.length c0_1) l0_1 from Kd.V_mono hs0_1 (fun k_ hk => .inl (.inl hk)))
 have HO0_2 := ka (show Kd.V k49 49 w w.heap.size (fun k_ => ((P0_1_ k_ ∨ P0_2_ k_) ∨ w.heap.size ≤ k_)) (.slice A0_2 l0_2.length c0_2) l0_2 from Kd.V_mono hs0_2 (fun k_ hk => .inl (.inr hk)))
 have HB := ka (Below.refl w.heap.size w)
 have H : ((cooperagelaw16_pick.f a1_0 10).bind fun t494 => (if t494 = 5 then (cooperagelaw16_does.j0 k a2 0 0 t494 (t494 == 5) a0_0 l0_1 l0_2 a1_0 a1_1 a1_2 a1_3 a1_4 a1_5 a1_6) else (cooperagelaw16_does.j0 k a2 0 0 t494 (t494 == 6) a0_0 l0_1 l0_2 a1_0 a1_1 a1_2 a1_3 a1_4 a1_5 a1_6))) = some (r1, r2, r3, r4, r5) := h
 clear h
 replace H := Option.bind_eq_some_iff.mp H
 obtain ⟨t494, A40, H⟩ := H
 try dsimp only at H
 have A4 := ka A40
 clear A40
 have HC5 := ka H
 clear H
 go_enter Tryd.func6, Tryd.ntmps6
 go_upto_block 0 with (first | ((with_reducible refine gate_dst (N := 3) rfl ?_); refine box_event ?hg (N := 3) ?hd (cs := #[.int .i64 a0_0, .slice A0_1 l0_1.length c0_1, .slice A0_2 l0_2.length c0_2]) (t := 28) ?hr ?_; (case hd => rfl); (case hg => rfl); (case hr => (go_simp; try rfl)); intro gb490 hg w6 hbox hb; replace HO0_1 := ka (Kd.V_below (Kd.V_elderB (zV HO0_1.out) gb490 (Nat.le_of_eq hg.symm)) hb); replace HO0_2 := ka (Kd.V_below (Kd.V_elderB (zV HO0_2.out) gb490 (Nat.le_of_eq hg.symm)) hb); have BK490 := ka (hbox); have GW490 := ka (zG hg (zL HB.out)); replace HB := ka (below_step (zL HB.out) hb); clear hb hbox hg) | ((with_reducible refine gate_dst (N := 4) rfl ?_); refine box_event ?hg (N := 4) ?hd (cs := #[.int .i64 a1_0, .int .i64 a1_1, .int .i64 a1_2, .int .i64 a1_3, .int .i64 a1_4, .string a1_5, .bool a1_6]) (t := 34) ?hr ?_; (case hd => rfl); (case hg => rfl); (case hr => (go_simp; try rfl)); intro gb491 hg w7 hbox hb; replace HO0_1 := ka (Kd.V_below (Kd.V_elderB (zV HO0_1.out) gb491 (Nat.le_of_eq hg.symm)) hb); replace HO0_2 := ka (Kd.V_below (Kd.V_elderB (zV HO0_2.out) gb491 (Nat.le_of_eq hg.symm)) hb); have BK491 := ka (hbox); have GW491 := ka (zG hg (zL HB.out)); replace HB := ka (below_step (zL HB.out) hb); have NB490_491 := ka (zNK hg BK490.out); have NB491_490 := ka (zOK hg BK490.out); replace BK490 := ka (zB BK490.out hb); clear hb hbox hg) | ((with_reducible refine gate_dst (N := 6) rfl ?_); refine box_event ?hg (N := 6) ?hd (cs := #[.int .i64 0, .slice none 0 0, .slice none 0 0]) (t := 28) ?hr ?_; (case hd => rfl); (case hg => rfl); (case hr => (go_simp; try rfl)); intro gb492 hg w8 hbox hb; replace HO0_1 := ka (Kd.V_below (Kd.V_elderB (zV HO0_1.out) gb492 (Nat.le_of_eq hg.symm)) hb); replace HO0_2 := ka (Kd.V_below (Kd.V_elderB (zV HO0_2.out) gb492 (Nat.le_of_eq hg.symm)) hb); have BK492 := ka (hbox); have GW492 := ka (zG hg (zL HB.out)); replace HB := ka (below_step (zL HB.out) hb); have NB490_492 := ka (zNK hg BK490.out); have NB492_490 := ka (zOK hg BK490.out); replace BK490 := ka (zB BK490.out hb); have NB491_492 := ka (zNK hg BK491.out); have NB492_491 := ka (zOK hg BK491.out); replace BK491 := ka (zB BK491.out hb); clear hb hbox hg) | ((with_reducible refine gate_dst (N := 9) rfl ?_); refine box_event ?hg (N := 9) ?hd (cs := #[.int .i64 0, .slice none 0 0, .slice none 0 0]) (t := 28) ?hr ?_; (case hd => rfl); (case hg => rfl); (case hr => (go_simp; try rfl)); intro gb493 hg w9 hbox hb; replace HO0_1 := ka (Kd.V_below (Kd.V_elderB (zV HO0_1.out) gb493 (Nat.le_of_eq hg.symm)) hb); replace HO0_2 := ka (Kd.V_below (Kd.V_elderB (zV HO0_2.out) gb493 (Nat.le_of_eq hg.symm)) hb); have BK493 := ka (hbox); have GW493 := ka (zG hg (zL HB.out)); replace HB := ka (below_step (zL HB.out) hb); have NB490_493 := ka (zNK hg BK490.out); have NB493_490 := ka (zOK hg BK490.out); replace BK490 := ka (zB BK490.out hb); have NB491_493 := ka (zNK hg BK491.out); have NB493_491 := ka (zOK hg BK491.out); replace BK491 := ka (zB BK491.out hb); have NB492_493 := ka (zNK hg BK492.out); have NB493_492 := ka (zOK hg BK492.out); replace BK492 := ka (zB BK492.out hb); clear hb hbox hg; have hnb10 := NB491_490.out; have hnc10 := NB490_491.out; have hnb11 := NB491_492.out; have hnc11 := NB492_491.out; have hnb12 := NB491_493.out; have hnc12 := NB493_491.out; obtain ⟨z13_0, z13_1, z13_2, z13_3, z13_4, z13_5, z13_6, y13_0, y13_1, y13_2, y13_3, y13_4, y13_5, y13_6⟩ := zC7 BK491.out) | ((with_reducible refine gate_callee (f := 17) rfl ?_); refine goesL_ (some 14) rfl rfl Tryd.func17 (by kernel_rfl) rfl #[.int .i64 a1_0, .int .i64 10] rfl zA ?_; (with_reducible refine (cooperagelaw16_pick.calls a1_0 10 t494 _ A4.out).mono ?_); rintro e w' ⟨rfl, ⟨nd, rfl⟩⟩; refine ⟨_, rfl, ?_⟩))
 (try simp only [Act.put, List.setIfInBounds_toArray, List.set_cons_zero, List.set_cons_succ])
 go_cut [10, 11] (fun v10 v11 wc => ∃ (kq : Nat) (x10_4 : Int) (x11_4 : Int) (x494000_4 : Int) (x494001_4 : List (S42)) (x494002_4 : List (S49)) (u494001 : Value) (u494002 : Value), v10 = .int .i64 x10_4 ∧ v11 = .int .i64 x11_4 ∧ Aside0 (cooperagelaw16_does.j1 kq x10_4 x11_4 a0_0 l0_1 l0_2 x494000_4 x494001_4 x494002_4 = some (r1, r2, r3, r4, r5)) ∧ Aside0 (kq ≤ k) ∧ Aside0 (Kd.V k42 42 wc w.heap.size (fun k_ => ((P0_1_ k_ ∨ P0_2_ k_) ∨ w.heap.size ≤ k_) ∧ k_ ≠ gb490 ∧ k_ ≠ gb491 ∧ k_ ≠ gb492 ∧ k_ ≠ gb493) (.slice A0_1 l0_1.length c0_1) l0_1) ∧ Aside0 (Kd.V k49 49 wc w.heap.size (fun k_ => ((P0_1_ k_ ∨ P0_2_ k_) ∨ w.heap.size ≤ k_) ∧ k_ ≠ gb490 ∧ k_ ≠ gb491 ∧ k_ ≠ gb492 ∧ k_ ≠ gb493) (.slice A0_2 l0_2.length c0_2) l0_2) ∧ Aside0 (Kd.V k42 42 wc w.heap.size (fun k_ => ((P0_1_ k_ ∨ P0_2_ k_) ∨ w.heap.size ≤ k_) ∧ k_ ≠ gb490 ∧ k_ ≠ gb491 ∧ k_ ≠ gb492 ∧ k_ ≠ gb493) u494001 x494001_4) ∧ Aside0 (Kd.V k49 49 wc w.heap.size (fun k_ => ((P0_1_ k_ ∨ P0_2_ k_) ∨ w.heap.size ≤ k_) ∧ k_ ≠ gb490 ∧ k_ ≠ gb491 ∧ k_ ≠ gb492 ∧ k_ ≠ gb493) u494002 x494002_4) ∧ Aside0 (wc.heap[gb490]? = some (.cells #[.int .i64 a0_0, (.slice A0_1 l0_1.length c0_1), (.slice A0_2 l0_2.length c0_2)] 28 (0, 0))) ∧ Aside0 (wc.heap[gb491]? = some (.cells #[.int .i64 a1_0, .int .i64 a1_1, .int .i64 a1_2, .int .i64 a1_3, .int .i64 a1_4, .string a1_5, .bool a1_6] 34 (0, 0))) ∧ Aside0 (wc.heap[gb492]? = some (.cells #[.int .i64 0, (.slice none 0 0), (.slice none 0 0)] 28 (0, 0))) ∧ Aside0 (wc.heap[gb493]? = some (.cells #[.int .i64 x494000_4, u494001, u494002] 28 (0, 0))) ∧ Aside0 (Below w.heap.size w wc))
 case first =>
  have H := HC5.out
  clear HC5
  have HC14 := ka H
  clear H
  go_upto_if 31 with (fail)
  go_cut [31] (fun v31 wc => ∃ (kq : Nat) (x31_13 : Bool), v31 = .bool x31_13 ∧ Aside0 (cooperagelaw16_does.j0 kq a2 0 0 t494 x31_13 a0_0 l0_1 l0_2 a1_0 a1_1 a1_2 a1_3 a1_4 a1_5 a1_6 = some (r1, r2, r3, r4, r5)) ∧ Aside0 (kq ≤ k) ∧ Aside0 (Kd.V k42 42 wc w.heap.size (fun k_ => ((P0_1_ k_ ∨ P0_2_ k_) ∨ w.heap.size ≤ k_) ∧ k_ ≠ gb490 ∧ k_ ≠ gb491 ∧ k_ ≠ gb492 ∧ k_ ≠ gb493) (.slice A0_1 l0_1.length c0_1) l0_1) ∧ Aside0 (Kd.V k49 49 wc w.heap.size (fun k_ => ((P0_1_ k_ ∨ P0_2_ k_) ∨ w.heap.size ≤ k_) ∧ k_ ≠ gb490 ∧ k_ ≠ gb491 ∧ k_ ≠ gb492 ∧ k_ ≠ gb493) (.slice A0_2 l0_2.length c0_2) l0_2) ∧ Aside0 (wc.heap[gb490]? = some (.cells #[.int .i64 a0_0, (.slice A0_1 l0_1.length c0_1), (.slice A0_2 l0_2.length c0_2)] 28 (0, 0))) ∧ Aside0 (wc.heap[gb491]? = some (.cells #[.int .i64 a1_0, .int .i64 a1_1, .int .i64 a1_2, .int .i64 a1_3, .int .i64 a1_4, .string a1_5, .bool a1_6] 34 (0, 0))) ∧ Aside0 (wc.heap[gb492]? = some (.cells #[.int .i64 0, (.slice none 0 0), (.slice none 0 0)] 28 (0, 0))) ∧ Aside0 (wc.heap[gb493]? = some (.cells #[.int .i64 0, (.slice none 0 0), (.slice none 0 0)] 28 (0, 0))) ∧ Aside0 (Below w.heap.size w wc))
  case first =>
   have H := HC14.out
   clear HC14
   by_cases c15 : t494 = 5
   ·rw [if_pos c15] at H
    have c15b0 := zb0 c15
    have c15b1 := zb1 c15
    clear c15
    (first | rw [c15b0] | (simp only [i64_w, i32_w]; rw [c15b0]) | rw [isE_ c15b0] | skip)
    have H' := ka H
    clear H
    go_wp2
    go_meet
    case rel => exact ⟨_, ((t494 == 5)), zS, H', ⟨by first | omega | exact Nat.le_refl _⟩, ⟨by (with_reducible repeat (first | apply Kd.V_alloc | apply Kd.V_drewN | apply Kd.V_drew)); exact Kd.V_mono HO0_1.out (fun _ hk => ⟨hk.1.1.1.1, ⟨hk.1.1.1.2, ⟨hk.1.1.2, ⟨hk.1.2, hk.2⟩⟩⟩⟩)⟩, ⟨by (with_reducible repeat (first | apply Kd.V_alloc | apply Kd.V_drewN | apply Kd.V_drew)); exact Kd.V_mono HO0_2.out (fun _ hk => ⟨hk.1.1.1.1, ⟨hk.1.1.1.2, ⟨hk.1.1.2, ⟨hk.1.2, hk.2⟩⟩⟩⟩)⟩, ⟨zK BK490.out⟩, ⟨zK BK491.out⟩, ⟨zK BK492.out⟩, ⟨zK BK493.out⟩, ⟨zL HB.out⟩⟩
   rw [if_neg c15] at H
   have c15b0 := zn0 c15
   have c15b1 := zn1 c15
   (first | rw [c15b0] | (simp only [i64_w, i32_w]; rw [c15b0]) | rw [isE_ c15b0] | skip)
   have H' := ka H
   clear H
   go_wp2
   go_meet
   case rel => exact ⟨_, ((t494 == 6)), zS, H', ⟨by first | omega | exact Nat.le_refl _⟩, ⟨by (with_reducible repeat (first | apply Kd.V_alloc | apply Kd.V_drewN | apply Kd.V_drew)); exact Kd.V_mono HO0_1.out (fun _ hk => ⟨hk.1.1.1.1, ⟨hk.1.1.1.2, ⟨hk.1.1.2, ⟨hk.1.2, hk.2⟩⟩⟩⟩)⟩, ⟨by (with_reducible repeat (first | apply Kd.V_alloc | apply Kd.V_drewN | apply Kd.V_drew)); exact Kd.V_mono HO0_2.out (fun _ hk => ⟨hk.1.1.1.1, ⟨hk.1.1.1.2, ⟨hk.1.1.2, ⟨hk.1.2, hk.2⟩⟩⟩⟩)⟩, ⟨zK BK490.out⟩, ⟨zK BK491.out⟩, ⟨zK BK492.out⟩, ⟨zK BK493.out⟩, ⟨zL HB.out⟩⟩
  case rest =>
   clear HC14
   try clear z13_0 z13_1 z13_2 z13_3 z13_4 z13_5 z13_6
   try clear y13_0 y13_1 y13_2 y13_3 y13_4 y13_5 y13_6
   obtain ⟨kq, x31_13, rfl, HA, HJ13, HO_491001, HO_491002, BK490, BK491, BK492, BK493, HB⟩ := hcut
   cases kq with
   | zero => exact absurd HA.out (by simp [cooperagelaw16_does.j0])
   | succ kj13 =>
    have H := HA.out
    clear HA
    simp only [cooperagelaw16_does.j0] at H
    by_cases c16 : x31_13 = true
    ·subst c16
     rw [if_pos rfl] at H
     replace H := Option.bind_eq_some_iff.mp H
     obtain ⟨⟨t495, t496, t499, t502⟩, A170, H⟩ := H
     try dsimp only at H
     have A17 := ka A170
     clear A170
     have H' := ka H
     clear H
     have hnb18 := NB490_491.out
     have hnc18 := NB491_490.out
     have hnb19 := NB490_492.out
     have hnc19 := NB492_490.out
     have hnb20 := NB490_493.out
     have hnc20 := NB493_490.out
     obtain ⟨z21_0, z21_1, z21_2, y21_0, y21_1, y21_2⟩ := zC3 BK490.out
     have hnb22 := NB491_492.out
     have hnc22 := NB492_491.out
     have hnb23 := NB491_493.out
     have hnc23 := NB493_491.out
     obtain ⟨z24_0, z24_1, z24_2, z24_3, z24_4, z24_5, z24_6, y24_0, y24_1, y24_2, y24_3, y24_4, y24_5, y24_6⟩ := zC7 BK491.out
     go_wp2_with (first | ((with_reducible refine gate_callee (f := 16) rfl ?_); refine goesL_ (some 43) rfl rfl Tryd.func16 (by kernel_rfl) rfl #[.agg #[.int .i64 a0_0, .slice A0_1 l0_1.length c0_1, .slice A0_2 l0_2.length c0_2], .int .i64 a1_1, .string a1_5, .int .i64 a1_3, .int .i64 a2] rfl zA ?_; (with_reducible refine (lease_Give.calls kj13 a0_0 _ _ l0_1 _ _ l0_2 a1_1 a1_5 a1_3 a2 t495 t496 t499 t502 _ ?side1 ?side2 ?side3 ?side4 A17.out).mono ?_); (case side1 => exact zCS (Kd.V_reads' HO_491001.out).2.2); (case side2 => exact (Kd.V_reads' HO_491001.out).2.1); (case side3 => exact zCS (Kd.V_reads' HO_491002.out).2.2); (case side4 => exact (Kd.V_reads' HO_491002.out).2.1); rintro e w25 ⟨v497, v500, rfl, ho0, ho1, hb⟩; refine ⟨_, rfl, ?_⟩; replace HO_491001 := ka (Kd.V_mono (Kd.V_told (Kd.V_told (Kd.V_old (zV HO_491001.out) hb) (Kd.R_base ho0)) (Kd.R_base ho1)) (fun _ h_ => h_.1)); replace HO_491002 := ka (Kd.V_mono (Kd.V_told (Kd.V_told (Kd.V_old (zV HO_491002.out) hb) (Kd.R_base ho0)) (Kd.R_base ho1)) (fun _ h_ => h_.1)); have HO498 := ka (Kd.R_lower (Kd.R_newM (M := fun k_ => (w.heap.size ≤ k_)) ho0 (below_size (zL HB.out)) (fun k_ h_ => h_)) (below_size (zL HB.out))); have HO501 := ka (Kd.R_lower (Kd.R_newM (M := fun k_ => (w.heap.size ≤ k_)) ho1 (below_size (zL HB.out)) (fun k_ h_ => h_)) (below_size (zL HB.out))); replace BK490 := ka (zB BK490.out hb); replace BK491 := ka (zB BK491.out hb); replace BK492 := ka (zB BK492.out hb); replace BK493 := ka (zB BK493.out hb); replace HB := ka (below_step (zL HB.out) hb); (try clear hb); (try clear hb2); (try clear hk); (try clear hi); (try clear ho0); (try clear ho1); have hnb26 := NB493_492.out; have hnc26 := NB492_493.out; obtain ⟨z27_0, z27_1, z27_2, y27_0, y27_1, y27_2⟩ := zC3 BK493.out; obtain ⟨Ao28, co28, eo28⟩ := Kd.R_slice HO498.out; subst eo28; obtain ⟨Ao29, co29, eo29⟩ := Kd.R_slice HO501.out; subst eo29))
     go_meet
     case rel => exact ⟨_, (t502), (0), (t495), (t496), (t499), (.slice Ao28 t496.length co28), (.slice Ao29 t499.length co29), zS, zS, H', ⟨by have := HJ13.out; first | omega | exact Nat.le_refl _⟩, ⟨by (with_reducible repeat (first | apply Kd.V_alloc | apply Kd.V_drewN | apply Kd.V_drew)); exact Kd.V_mono (zNV HO_491001.out (g := gb493) (fun _ hk => hk.1.1.2.2.2.2)) (fun _ hk => ⟨hk.1.1.1.1, ⟨hk.1.1.1.2.1, ⟨hk.1.1.1.2.2.1, ⟨hk.1.1.1.2.2.2.1, hk.1.1.1.2.2.2.2⟩⟩⟩⟩)⟩, ⟨by (with_reducible repeat (first | apply Kd.V_alloc | apply Kd.V_drewN | apply Kd.V_drew)); exact Kd.V_mono (zNV HO_491002.out (g := gb493) (fun _ hk => hk.1.1.2.2.2.2)) (fun _ hk => ⟨hk.1.1.1.1, ⟨hk.1.1.1.2.1, ⟨hk.1.1.1.2.2.1, ⟨hk.1.1.1.2.2.2.1, hk.1.1.1.2.2.2.2⟩⟩⟩⟩)⟩, ⟨Kd.V_mono (Kd.R_V (zNT (Kd.R_types (Kd.R_types (Kd.R_types (Kd.R_types HO498.out BK490.out (by decide)) BK491.out (by decide)) BK492.out (by decide)) BK493.out (by decide)) BK493.out)) (fun k_ hk => ⟨.inr (hk.1.1.1.1.1.1), ⟨hk.1.1.1.1.2, ⟨hk.1.1.1.2, ⟨hk.1.1.2, hk.1.2⟩⟩⟩⟩)⟩, ⟨Kd.V_mono (Kd.R_V (zNT (Kd.R_types (Kd.R_types (Kd.R_types (Kd.R_types HO501.out BK490.out (by decide)) BK491.out (by decide)) BK492.out (by decide)) BK493.out (by decide)) BK493.out)) (fun k_ hk => ⟨.inr (hk.1.1.1.1.1.1), ⟨hk.1.1.1.1.2, ⟨hk.1.1.1.2, ⟨hk.1.1.2, hk.1.2⟩⟩⟩⟩)⟩, ⟨zK BK490.out⟩, ⟨zK BK491.out⟩, ⟨zK BK492.out⟩, ⟨zP3 BK493.out⟩, ⟨zL HB.out⟩⟩
    replace c16 := Bool.eq_false_iff.mpr c16
    subst c16
    rw [if_neg (show ¬ (false = true) by decide)] at H
    by_cases c30 : t494 = 7
    ·rw [if_pos c30] at H
     have c30b0 := zb0 c30
     have c30b1 := zb1 c30
     clear c30
     replace H := Option.bind_eq_some_iff.mp H
     obtain ⟨⟨t503, t504, t507, t510⟩, A310, H⟩ := H
     try dsimp only at H
     have A31 := ka A310
     clear A310
     have H' := ka H
     clear H
     have hnb32 := NB490_491.out
     have hnc32 := NB491_490.out
     have hnb33 := NB490_492.out
     have hnc33 := NB492_490.out
     have hnb34 := NB490_493.out
     have hnc34 := NB493_490.out
     obtain ⟨z35_0, z35_1, z35_2, y35_0, y35_1, y35_2⟩ := zC3 BK490.out
     have hnb36 := NB491_492.out
     have hnc36 := NB492_491.out
     have hnb37 := NB491_493.out
     have hnc37 := NB493_491.out
     obtain ⟨z38_0, z38_1, z38_2, z38_3, z38_4, z38_5, z38_6, y38_0, y38_1, y38_2, y38_3, y38_4, y38_5, y38_6⟩ := zC7 BK491.out
     go_wp2_with (first | ((with_reducible refine gate_callee (f := 18) rfl ?_); refine goesL_ (some 59) rfl rfl Tryd.func18 (by kernel_rfl) rfl #[.agg #[.int .i64 a0_0, .slice A0_1 l0_1.length c0_1, .slice A0_2 l0_2.length c0_2], .int .i64 a1_1, .string a1_5, .int .i64 a1_3, .int .i64 a1_2, .int .i64 a2] rfl zA ?_; (with_reducible refine (lease_Renew.calls kj13 a0_0 _ _ l0_1 (fun k_ => (((P0_1_ k_ ∨ P0_2_ k_) ∨ w.heap.size ≤ k_) ∧ (k_ ≠ gb490 ∧ (k_ ≠ gb491 ∧ (k_ ≠ gb492 ∧ k_ ≠ gb493))))) _ _ l0_2 a1_1 a1_5 a1_3 a1_2 a2 t503 t504 t507 t510 _ ?side1 ?side2 ?side3 A31.out).mono ?_); (case side1 => exact zCS (Kd.V_reads' HO_491001.out).2.2); (case side2 => exact (Kd.V_reads' HO_491001.out).2.1); (case side3 => exact HO_491002.out); rintro e w39 ⟨v505, v508, rfl, ho0, ho1, hb⟩; refine ⟨_, rfl, ?_⟩; replace HO_491001 := ka (Kd.V_elder' (zV HO_491001.out) (Kd.R_base ho0) hb); replace HO_491002 := ka (Kd.V_elder' (zV HO_491002.out) (Kd.R_base ho0) hb); have HO506 := ka (Kd.R_lower (Kd.R_newM (M := fun k_ => (w.heap.size ≤ k_)) (Kd.R_mono (ok' := fun k_ => True) ho0 (fun _ hk_ => trivial)) (below_size (zL HB.out)) (fun k_ h_ => h_)) (below_size (zL HB.out))); have HO509 := ka (Kd.V_lower (Kd.V_mono (ok' := fun k_ => ((P0_1_ k_ ∨ P0_2_ k_) ∨ w.heap.size ≤ k_) ∧ some k_ ≠ (v505 : Value).ownBlock ∧ k_ ≠ gb490 ∧ k_ ≠ gb491 ∧ k_ ≠ gb492 ∧ k_ ≠ gb493) ho1 (fun k_ hk_ => ⟨Or.elim hk_.1 (fun hs_ => hs_.1) (fun hn_ => (.inr (Nat.le_trans (below_size (zL HB.out)) hn_))), hk_.2, Or.elim hk_.1 (fun hs_ => hs_.2.1) (fun hn_ => (Kd.freshB (g := gb490) (o := .cells #[.int .i64 a0_0, .slice A0_1 l0_1.length c0_1, .slice A0_2 l0_2.length c0_2] 28 (0, 0)) (zK BK490.out) k_ hn_)), Or.elim hk_.1 (fun hs_ => hs_.2.2.1) (fun hn_ => (Kd.freshB (g := gb491) (o := .cells #[.int .i64 a1_0, .int .i64 a1_1, .int .i64 a1_2, .int .i64 a1_3, .int .i64 a1_4, .string a1_5, .bool a1_6] 34 (0, 0)) (zK BK491.out) k_ hn_)), Or.elim hk_.1 (fun hs_ => hs_.2.2.2.1) (fun hn_ => (Kd.freshB (g := gb492) (o := .cells #[.int .i64 0, .slice none 0 0, .slice none 0 0] 28 (0, 0)) (zK BK492.out) k_ hn_)), Or.elim hk_.1 (fun hs_ => hs_.2.2.2.2) (fun hn_ => (Kd.freshB (g := gb493) (o := .cells #[.int .i64 0, .slice none 0 0, .slice none 0 0] 28 (0, 0)) (zK BK493.out) k_ hn_))⟩)) (below_size (zL HB.out))); replace BK490 := ka (zB BK490.out hb); replace BK491 := ka (zB BK491.out hb); replace BK492 := ka (zB BK492.out hb); replace BK493 := ka (zB BK493.out hb); replace HB := ka (below_step (zL HB.out) hb); (try clear hb); (try clear hb2); (try clear hk); (try clear hi); (try clear ho0); (try clear ho1); have hnb40 := NB493_492.out; have hnc40 := NB492_493.out; obtain ⟨z41_0, z41_1, z41_2, y41_0, y41_1, y41_2⟩ := zC3 BK493.out; obtain ⟨Ao42, co42, eo42⟩ := Kd.R_slice HO506.out; subst eo42; obtain ⟨Ao43, co43, eo43⟩ := Kd.V_slice HO509.out; subst eo43))
     go_meet
     case rel => exact ⟨_, (t510), (0), (t503), (t504), (t507), (.slice Ao42 t504.length co42), (.slice Ao43 t507.length co43), zS, zS, H', ⟨by have := HJ13.out; first | omega | exact Nat.le_refl _⟩, ⟨by (with_reducible repeat (first | apply Kd.V_alloc | apply Kd.V_drewN | apply Kd.V_drew)); exact Kd.V_mono (zNV HO_491001.out (g := gb493) (fun _ hk => hk.1.2.2.2.2)) (fun _ hk => ⟨hk.1.1.1, ⟨hk.1.1.2.1, ⟨hk.1.1.2.2.1, ⟨hk.1.1.2.2.2.1, hk.1.1.2.2.2.2⟩⟩⟩⟩)⟩, ⟨by (with_reducible repeat (first | apply Kd.V_alloc | apply Kd.V_drewN | apply Kd.V_drew)); exact Kd.V_mono (zNV HO_491002.out (g := gb493) (fun _ hk => hk.1.2.2.2.2)) (fun _ hk => ⟨hk.1.1.1, ⟨hk.1.1.2.1, ⟨hk.1.1.2.2.1, ⟨hk.1.1.2.2.2.1, hk.1.1.2.2.2.2⟩⟩⟩⟩)⟩, ⟨Kd.V_mono (Kd.R_V (zNT (Kd.R_types (Kd.R_types (Kd.R_types (Kd.R_types HO506.out BK490.out (by decide)) BK491.out (by decide)) BK492.out (by decide)) BK493.out (by decide)) BK493.out)) (fun k_ hk => ⟨.inr (hk.1.1.1.1.1.1), ⟨hk.1.1.1.1.2, ⟨hk.1.1.1.2, ⟨hk.1.1.2, hk.1.2⟩⟩⟩⟩)⟩, ⟨by (with_reducible repeat (first | apply Kd.V_alloc | apply Kd.V_drewN | apply Kd.V_drew)); exact Kd.V_mono (zNV HO509.out (g := gb493) (fun _ hk => hk.2.2.2.2.2)) (fun _ hk => ⟨hk.1.1, ⟨hk.1.2.2.1, ⟨hk.1.2.2.2.1, ⟨hk.1.2.2.2.2.1, hk.1.2.2.2.2.2⟩⟩⟩⟩)⟩, ⟨zK BK490.out⟩, ⟨zK BK491.out⟩, ⟨zK BK492.out⟩, ⟨zP3 BK493.out⟩, ⟨zL HB.out⟩⟩
    rw [if_neg c30] at H
    have c30b0 := zn0 c30
    have c30b1 := zn1 c30
    by_cases c44 : t494 = 8
    ·rw [if_pos c44] at H
     have c44b0 := zb0 c44
     have c44b1 := zb1 c44
     clear c44
     replace H := Option.bind_eq_some_iff.mp H
     obtain ⟨⟨t511, t512, t515⟩, A450, H⟩ := H
     try dsimp only at H
     have A45 := ka A450
     clear A450
     have H' := ka H
     clear H
     have hnb46 := NB490_491.out
     have hnc46 := NB491_490.out
     have hnb47 := NB490_492.out
     have hnc47 := NB492_490.out
     have hnb48 := NB490_493.out
     have hnc48 := NB493_490.out
     obtain ⟨z49_0, z49_1, z49_2, y49_0, y49_1, y49_2⟩ := zC3 BK490.out
     have hnb50 := NB491_492.out
     have hnc50 := NB492_491.out
     have hnb51 := NB491_493.out
     have hnc51 := NB493_491.out
     obtain ⟨z52_0, z52_1, z52_2, z52_3, z52_4, z52_5, z52_6, y52_0, y52_1, y52_2, y52_3, y52_4, y52_5, y52_6⟩ := zC7 BK491.out
     go_wp2_with (first | ((with_reducible refine gate_callee (f := 19) rfl ?_); refine goesL_ (some 68) rfl rfl Tryd.func19 (by kernel_rfl) rfl #[.agg #[.int .i64 a0_0, .slice A0_1 l0_1.length c0_1, .slice A0_2 l0_2.length c0_2], .int .i64 a1_1, .int .i64 a2] rfl zA ?_; (with_reducible refine (lease_Leave.calls kj13 a0_0 (fun k_ => (((P0_1_ k_ ∨ P0_2_ k_) ∨ w.heap.size ≤ k_) ∧ (k_ ≠ gb490 ∧ (k_ ≠ gb491 ∧ (k_ ≠ gb492 ∧ k_ ≠ gb493))))) _ _ l0_1 (fun k_ => (((P0_1_ k_ ∨ P0_2_ k_) ∨ w.heap.size ≤ k_) ∧ (k_ ≠ gb490 ∧ (k_ ≠ gb491 ∧ (k_ ≠ gb492 ∧ k_ ≠ gb493))))) _ _ l0_2 a1_1 a2 t511 t512 t515 _ ?side1 ?side2 A45.out).mono ?_); (case side1 => exact HO_491001.out); (case side2 => exact HO_491002.out); rintro e w53 ⟨v513, v516, rfl, ho0, ho1, hb⟩; refine ⟨_, rfl, ?_⟩; replace HO_491001 := ka (Kd.V_below (zV HO_491001.out) hb); replace HO_491002 := ka (Kd.V_below (zV HO_491002.out) hb); have HO514 := ka (Kd.V_lower (Kd.V_mono (ok' := fun k_ => ((P0_1_ k_ ∨ P0_2_ k_) ∨ w.heap.size ≤ k_) ∧ k_ ≠ gb490 ∧ k_ ≠ gb491 ∧ k_ ≠ gb492 ∧ k_ ≠ gb493) ho0 (fun k_ hk_ => ⟨Or.elim hk_ (fun hs_ => Or.elim hs_ (fun hs_ => hs_.1) (fun hs_ => hs_.1)) (fun hn_ => (.inr (Nat.le_trans (below_size (zL HB.out)) hn_))), Or.elim hk_ (fun hs_ => Or.elim hs_ (fun hs_ => hs_.2.1) (fun hs_ => hs_.2.1)) (fun hn_ => (Kd.freshB (g := gb490) (o := .cells #[.int .i64 a0_0, .slice A0_1 l0_1.length c0_1, .slice A0_2 l0_2.length c0_2] 28 (0, 0)) (zK BK490.out) k_ hn_)), Or.elim hk_ (fun hs_ => Or.elim hs_ (fun hs_ => hs_.2.2.1) (fun hs_ => hs_.2.2.1)) (fun hn_ => (Kd.freshB (g := gb491) (o := .cells #[.int .i64 a1_0, .int .i64 a1_1, .int .i64 a1_2, .int .i64 a1_3, .int .i64 a1_4, .string a1_5, .bool a1_6] 34 (0, 0)) (zK BK491.out) k_ hn_)), Or.elim hk_ (fun hs_ => Or.elim hs_ (fun hs_ => hs_.2.2.2.1) (fun hs_ => hs_.2.2.2.1)) (fun hn_ => (Kd.freshB (g := gb492) (o := .cells #[.int .i64 0, .slice none 0 0, .slice none 0 0] 28 (0, 0)) (zK BK492.out) k_ hn_)), Or.elim hk_ (fun hs_ => Or.elim hs_ (fun hs_ => hs_.2.2.2.2) (fun hs_ => hs_.2.2.2.2)) (fun hn_ => (Kd.freshB (g := gb493) (o := .cells #[.int .i64 0, .slice none 0 0, .slice none 0 0] 28 (0, 0)) (zK BK493.out) k_ hn_))⟩)) (below_size (zL HB.out))); have HO517 := ka (Kd.V_lower (Kd.V_mono (ok' := fun k_ => ((P0_1_ k_ ∨ P0_2_ k_) ∨ w.heap.size ≤ k_) ∧ k_ ≠ gb490 ∧ k_ ≠ gb491 ∧ k_ ≠ gb492 ∧ k_ ≠ gb493) ho1 (fun k_ hk_ => ⟨Or.elim hk_ (fun hs_ => Or.elim hs_ (fun hs_ => hs_.1) (fun hs_ => hs_.1)) (fun hn_ => (.inr (Nat.le_trans (below_size (zL HB.out)) hn_))), Or.elim hk_ (fun hs_ => Or.elim hs_ (fun hs_ => hs_.2.1) (fun hs_ => hs_.2.1)) (fun hn_ => (Kd.freshB (g := gb490) (o := .cells #[.int .i64 a0_0, .slice A0_1 l0_1.length c0_1, .slice A0_2 l0_2.length c0_2] 28 (0, 0)) (zK BK490.out) k_ hn_)), Or.elim hk_ (fun hs_ => Or.elim hs_ (fun hs_ => hs_.2.2.1) (fun hs_ => hs_.2.2.1)) (fun hn_ => (Kd.freshB (g := gb491) (o := .cells #[.int .i64 a1_0, .int .i64 a1_1, .int .i64 a1_2, .int .i64 a1_3, .int .i64 a1_4, .string a1_5, .bool a1_6] 34 (0, 0)) (zK BK491.out) k_ hn_)), Or.elim hk_ (fun hs_ => Or.elim hs_ (fun hs_ => hs_.2.2.2.1) (fun hs_ => hs_.2.2.2.1)) (fun hn_ => (Kd.freshB (g := gb492) (o := .cells #[.int .i64 0, .slice none 0 0, .slice none 0 0] 28 (0, 0)) (zK BK492.out) k_ hn_)), Or.elim hk_ (fun hs_ => Or.elim hs_ (fun hs_ => hs_.2.2.2.2) (fun hs_ => hs_.2.2.2.2)) (fun hn_ => (Kd.freshB (g := gb493) (o := .cells #[.int .i64 0, .slice none 0 0, .slice none 0 0] 28 (0, 0)) (zK BK493.out) k_ hn_))⟩)) (below_size (zL HB.out))); replace BK490 := ka (zB BK490.out hb); replace BK491 := ka (zB BK491.out hb); replace BK492 := ka (zB BK492.out hb); replace BK493 := ka (zB BK493.out hb); replace HB := ka (below_step (zL HB.out) hb); (try clear hb); (try clear hb2); (try clear hk); (try clear hi); (try clear ho0); (try clear ho1); have hnb54 := NB493_492.out; have hnc54 := NB492_493.out; obtain ⟨z55_0, z55_1, z55_2, y55_0, y55_1, y55_2⟩ := zC3 BK493.out; obtain ⟨Ao56, co56, eo56⟩ := Kd.V_slice HO514.out; subst eo56; obtain ⟨Ao57, co57, eo57⟩ := Kd.V_slice HO517.out; subst eo57))
     go_meet
     case rel => exact ⟨_, (0), (0), (t511), (t512), (t515), (.slice Ao56 t512.length co56), (.slice Ao57 t515.length co57), zS, zS, H', ⟨by have := HJ13.out; first | omega | exact Nat.le_refl _⟩, ⟨by (with_reducible repeat (first | apply Kd.V_alloc | apply Kd.V_drewN | apply Kd.V_drew)); exact Kd.V_mono (zNV HO_491001.out (g := gb493) (fun _ hk => hk.2.2.2.2)) (fun _ hk => ⟨hk.1.1, ⟨hk.1.2.1, ⟨hk.1.2.2.1, ⟨hk.1.2.2.2.1, hk.1.2.2.2.2⟩⟩⟩⟩)⟩, ⟨by (with_reducible repeat (first | apply Kd.V_alloc | apply Kd.V_drewN | apply Kd.V_drew)); exact Kd.V_mono (zNV HO_491002.out (g := gb493) (fun _ hk => hk.2.2.2.2)) (fun _ hk => ⟨hk.1.1, ⟨hk.1.2.1, ⟨hk.1.2.2.1, ⟨hk.1.2.2.2.1, hk.1.2.2.2.2⟩⟩⟩⟩)⟩, ⟨by (with_reducible repeat (first | apply Kd.V_alloc | apply Kd.V_drewN | apply Kd.V_drew)); exact Kd.V_mono (zNV HO514.out (g := gb493) (fun _ hk => hk.2.2.2.2)) (fun _ hk => ⟨hk.1.1, ⟨hk.1.2.1, ⟨hk.1.2.2.1, ⟨hk.1.2.2.2.1, hk.1.2.2.2.2⟩⟩⟩⟩)⟩, ⟨by (with_reducible repeat (first | apply Kd.V_alloc | apply Kd.V_drewN | apply Kd.V_drew)); exact Kd.V_mono (zNV HO517.out (g := gb493) (fun _ hk => hk.2.2.2.2)) (fun _ hk => ⟨hk.1.1, ⟨hk.1.2.1, ⟨hk.1.2.2.1, ⟨hk.1.2.2.2.1, hk.1.2.2.2.2⟩⟩⟩⟩)⟩, ⟨zK BK490.out⟩, ⟨zK BK491.out⟩, ⟨zK BK492.out⟩, ⟨zP3 BK493.out⟩, ⟨zL HB.out⟩⟩
    rw [if_neg c44] at H
    have c44b0 := zn0 c44
    have c44b1 := zn1 c44
    by_cases c58 : t494 = 9
    ·rw [if_pos c58] at H
     have c58b0 := zb0 c58
     have c58b1 := zb1 c58
     clear c58
     replace H := Option.bind_eq_some_iff.mp H
     obtain ⟨⟨t518, t519, t522⟩, A590, H⟩ := H
     try dsimp only at H
     have A59 := ka A590
     clear A590
     have H' := ka H
     clear H
     have hnb60 := NB490_491.out
     have hnc60 := NB491_490.out
     have hnb61 := NB490_492.out
     have hnc61 := NB492_490.out
     have hnb62 := NB490_493.out
     have hnc62 := NB493_490.out
     obtain ⟨z63_0, z63_1, z63_2, y63_0, y63_1, y63_2⟩ := zC3 BK490.out
     go_wp2_with (first | ((with_reducible refine gate_callee (f := 20) rfl ?_); refine goesL_ (some 73) rfl rfl Tryd.func20 (by kernel_rfl) rfl #[.agg #[.int .i64 a0_0, .slice A0_1 l0_1.length c0_1, .slice A0_2 l0_2.length c0_2], .int .i64 a2] rfl zA ?_; (with_reducible refine (lease_Tick.calls kj13 a0_0 (fun k_ => (((P0_1_ k_ ∨ P0_2_ k_) ∨ w.heap.size ≤ k_) ∧ (k_ ≠ gb490 ∧ (k_ ≠ gb491 ∧ (k_ ≠ gb492 ∧ k_ ≠ gb493))))) _ _ l0_1 (fun k_ => (((P0_1_ k_ ∨ P0_2_ k_) ∨ w.heap.size ≤ k_) ∧ (k_ ≠ gb490 ∧ (k_ ≠ gb491 ∧ (k_ ≠ gb492 ∧ k_ ≠ gb493))))) _ _ l0_2 a2 t518 t519 t522 _ ?side1 ?side2 A59.out).mono ?_); (case side1 => exact HO_491001.out); (case side2 => exact HO_491002.out); rintro e w64 ⟨v520, v523, rfl, ho0, ho1, hb⟩; refine ⟨_, rfl, ?_⟩; replace HO_491001 := ka (Kd.V_below (zV HO_491001.out) hb); replace HO_491002 := ka (Kd.V_below (zV HO_491002.out) hb); have HO521 := ka (Kd.V_lower (Kd.V_mono (ok' := fun k_ => ((P0_1_ k_ ∨ P0_2_ k_) ∨ w.heap.size ≤ k_) ∧ k_ ≠ gb490 ∧ k_ ≠ gb491 ∧ k_ ≠ gb492 ∧ k_ ≠ gb493) ho0 (fun k_ hk_ => ⟨Or.elim hk_ (fun hs_ => Or.elim hs_ (fun hs_ => hs_.1) (fun hs_ => hs_.1)) (fun hn_ => (.inr (Nat.le_trans (below_size (zL HB.out)) hn_))), Or.elim hk_ (fun hs_ => Or.elim hs_ (fun hs_ => hs_.2.1) (fun hs_ => hs_.2.1)) (fun hn_ => (Kd.freshB (g := gb490) (o := .cells #[.int .i64 a0_0, .slice A0_1 l0_1.length c0_1, .slice A0_2 l0_2.length c0_2] 28 (0, 0)) (zK BK490.out) k_ hn_)), Or.elim hk_ (fun hs_ => Or.elim hs_ (fun hs_ => hs_.2.2.1) (fun hs_ => hs_.2.2.1)) (fun hn_ => (Kd.freshB (g := gb491) (o := .cells #[.int .i64 a1_0, .int .i64 a1_1, .int .i64 a1_2, .int .i64 a1_3, .int .i64 a1_4, .string a1_5, .bool a1_6] 34 (0, 0)) (zK BK491.out) k_ hn_)), Or.elim hk_ (fun hs_ => Or.elim hs_ (fun hs_ => hs_.2.2.2.1) (fun hs_ => hs_.2.2.2.1)) (fun hn_ => (Kd.freshB (g := gb492) (o := .cells #[.int .i64 0, .slice none 0 0, .slice none 0 0] 28 (0, 0)) (zK BK492.out) k_ hn_)), Or.elim hk_ (fun hs_ => Or.elim hs_ (fun hs_ => hs_.2.2.2.2) (fun hs_ => hs_.2.2.2.2)) (fun hn_ => (Kd.freshB (g := gb493) (o := .cells #[.int .i64 0, .slice none 0 0, .slice none 0 0] 28 (0, 0)) (zK BK493.out) k_ hn_))⟩)) (below_size (zL HB.out))); have HO524 := ka (Kd.V_lower (Kd.V_mono (ok' := fun k_ => ((P0_1_ k_ ∨ P0_2_ k_) ∨ w.heap.size ≤ k_) ∧ k_ ≠ gb490 ∧ k_ ≠ gb491 ∧ k_ ≠ gb492 ∧ k_ ≠ gb493) ho1 (fun k_ hk_ => ⟨Or.elim hk_ (fun hs_ => Or.elim hs_ (fun hs_ => hs_.1) (fun hs_ => hs_.1)) (fun hn_ => (.inr (Nat.le_trans (below_size (zL HB.out)) hn_))), Or.elim hk_ (fun hs_ => Or.elim hs_ (fun hs_ => hs_.2.1) (fun hs_ => hs_.2.1)) (fun hn_ => (Kd.freshB (g := gb490) (o := .cells #[.int .i64 a0_0, .slice A0_1 l0_1.length c0_1, .slice A0_2 l0_2.length c0_2] 28 (0, 0)) (zK BK490.out) k_ hn_)), Or.elim hk_ (fun hs_ => Or.elim hs_ (fun hs_ => hs_.2.2.1) (fun hs_ => hs_.2.2.1)) (fun hn_ => (Kd.freshB (g := gb491) (o := .cells #[.int .i64 a1_0, .int .i64 a1_1, .int .i64 a1_2, .int .i64 a1_3, .int .i64 a1_4, .string a1_5, .bool a1_6] 34 (0, 0)) (zK BK491.out) k_ hn_)), Or.elim hk_ (fun hs_ => Or.elim hs_ (fun hs_ => hs_.2.2.2.1) (fun hs_ => hs_.2.2.2.1)) (fun hn_ => (Kd.freshB (g := gb492) (o := .cells #[.int .i64 0, .slice none 0 0, .slice none 0 0] 28 (0, 0)) (zK BK492.out) k_ hn_)), Or.elim hk_ (fun hs_ => Or.elim hs_ (fun hs_ => hs_.2.2.2.2) (fun hs_ => hs_.2.2.2.2)) (fun hn_ => (Kd.freshB (g := gb493) (o := .cells #[.int .i64 0, .slice none 0 0, .slice none 0 0] 28 (0, 0)) (zK BK493.out) k_ hn_))⟩)) (below_size (zL HB.out))); replace BK490 := ka (zB BK490.out hb); replace BK491 := ka (zB BK491.out hb); replace BK492 := ka (zB BK492.out hb); replace BK493 := ka (zB BK493.out hb); replace HB := ka (below_step (zL HB.out) hb); (try clear hb); (try clear hb2); (try clear hk); (try clear hi); (try clear ho0); (try clear ho1); have hnb65 := NB493_491.out; have hnc65 := NB491_493.out; have hnb66 := NB493_492.out; have hnc66 := NB492_493.out; obtain ⟨z67_0, z67_1, z67_2, y67_0, y67_1, y67_2⟩ := zC3 BK493.out; obtain ⟨Ao68, co68, eo68⟩ := Kd.V_slice HO521.out; subst eo68; obtain ⟨Ao69, co69, eo69⟩ := Kd.V_slice HO524.out; subst eo69))
     go_meet
     case rel => exact ⟨_, (0), (0), (t518), (t519), (t522), (.slice Ao68 t519.length co68), (.slice Ao69 t522.length co69), zS, zS, H', ⟨by have := HJ13.out; first | omega | exact Nat.le_refl _⟩, ⟨by (with_reducible repeat (first | apply Kd.V_alloc | apply Kd.V_drewN | apply Kd.V_drew)); exact Kd.V_mono (zNV HO_491001.out (g := gb493) (fun _ hk => hk.2.2.2.2)) (fun _ hk => ⟨hk.1.1, ⟨hk.1.2.1, ⟨hk.1.2.2.1, ⟨hk.1.2.2.2.1, hk.1.2.2.2.2⟩⟩⟩⟩)⟩, ⟨by (with_reducible repeat (first | apply Kd.V_alloc | apply Kd.V_drewN | apply Kd.V_drew)); exact Kd.V_mono (zNV HO_491002.out (g := gb493) (fun _ hk => hk.2.2.2.2)) (fun _ hk => ⟨hk.1.1, ⟨hk.1.2.1, ⟨hk.1.2.2.1, ⟨hk.1.2.2.2.1, hk.1.2.2.2.2⟩⟩⟩⟩)⟩, ⟨by (with_reducible repeat (first | apply Kd.V_alloc | apply Kd.V_drewN | apply Kd.V_drew)); exact Kd.V_mono (zNV HO521.out (g := gb493) (fun _ hk => hk.2.2.2.2)) (fun _ hk => ⟨hk.1.1, ⟨hk.1.2.1, ⟨hk.1.2.2.1, ⟨hk.1.2.2.2.1, hk.1.2.2.2.2⟩⟩⟩⟩)⟩, ⟨by (with_reducible repeat (first | apply Kd.V_alloc | apply Kd.V_drewN | apply Kd.V_drew)); exact Kd.V_mono (zNV HO524.out (g := gb493) (fun _ hk => hk.2.2.2.2)) (fun _ hk => ⟨hk.1.1, ⟨hk.1.2.1, ⟨hk.1.2.2.1, ⟨hk.1.2.2.2.1, hk.1.2.2.2.2⟩⟩⟩⟩)⟩, ⟨zK BK490.out⟩, ⟨zK BK491.out⟩, ⟨zK BK492.out⟩, ⟨zP3 BK493.out⟩, ⟨zL HB.out⟩⟩
    rw [if_neg c58] at H
    have c58b0 := zn0 c58
    have c58b1 := zn1 c58
    replace H := Option.bind_eq_some_iff.mp H
    obtain ⟨⟨t525, t526, t529, t532, t533⟩, A700, H⟩ := H
    try dsimp only at H
    have A70 := ka A700
    clear A700
    have H' := ka H
    clear H
    have hnb71 := NB490_491.out
    have hnc71 := NB491_490.out
    have hnb72 := NB490_492.out
    have hnc72 := NB492_490.out
    have hnb73 := NB490_493.out
    have hnc73 := NB493_490.out
    obtain ⟨z74_0, z74_1, z74_2, y74_0, y74_1, y74_2⟩ := zC3 BK490.out
    have hnb75 := NB491_492.out
    have hnc75 := NB492_491.out
    have hnb76 := NB491_493.out
    have hnc76 := NB493_491.out
    obtain ⟨z77_0, z77_1, z77_2, z77_3, z77_4, z77_5, z77_6, y77_0, y77_1, y77_2, y77_3, y77_4, y77_5, y77_6⟩ := zC7 BK491.out
    go_wp2_with (first | ((with_reducible refine gate_callee (f := 15) rfl ?_); refine goesL_ (some 27) rfl rfl Tryd.func15 (by kernel_rfl) rfl #[.agg #[.int .i64 a0_0, .slice A0_1 l0_1.length c0_1, .slice A0_2 l0_2.length c0_2], .agg #[.int .i64 a1_1, .string a1_5, .bool a1_6, .int .i64 a1_2], .int .i64 a2] rfl zA ?_; (with_reducible refine (lease_Take.calls kj13 a0_0 _ _ l0_1 _ _ l0_2 a1_1 a1_5 a1_6 a1_2 a2 t525 t526 t529 t532 t533 _ ?side1 ?side2 ?side3 ?side4 A70.out).mono ?_); (case side1 => exact zCS (Kd.V_reads' HO_491001.out).2.2); (case side2 => exact (Kd.V_reads' HO_491001.out).2.1); (case side3 => exact zCS (Kd.V_reads' HO_491002.out).2.2); (case side4 => exact (Kd.V_reads' HO_491002.out).2.1); rintro e w78 ⟨v527, v530, rfl, ho0, ho1, hb⟩; refine ⟨_, rfl, ?_⟩; replace HO_491001 := ka (Kd.V_mono (Kd.V_told (Kd.V_told (Kd.V_old (zV HO_491001.out) hb) (Kd.R_base ho0)) (Kd.R_base ho1)) (fun _ h_ => h_.1)); replace HO_491002 := ka (Kd.V_mono (Kd.V_told (Kd.V_told (Kd.V_old (zV HO_491002.out) hb) (Kd.R_base ho0)) (Kd.R_base ho1)) (fun _ h_ => h_.1)); have HO528 := ka (Kd.R_lower (Kd.R_newM (M := fun k_ => (w.heap.size ≤ k_)) ho0 (below_size (zL HB.out)) (fun k_ h_ => h_)) (below_size (zL HB.out))); have HO531 := ka (Kd.R_lower (Kd.R_newM (M := fun k_ => (w.heap.size ≤ k_)) ho1 (below_size (zL HB.out)) (fun k_ h_ => h_)) (below_size (zL HB.out))); replace BK490 := ka (zB BK490.out hb); replace BK491 := ka (zB BK491.out hb); replace BK492 := ka (zB BK492.out hb); replace BK493 := ka (zB BK493.out hb); replace HB := ka (below_step (zL HB.out) hb); (try clear hb); (try clear hb2); (try clear hk); (try clear hi); (try clear ho0); (try clear ho1); have hnb79 := NB493_492.out; have hnc79 := NB492_493.out; obtain ⟨z80_0, z80_1, z80_2, y80_0, y80_1, y80_2⟩ := zC3 BK493.out; obtain ⟨Ao81, co81, eo81⟩ := Kd.R_slice HO528.out; subst eo81; obtain ⟨Ao82, co82, eo82⟩ := Kd.R_slice HO531.out; subst eo82))
    go_meet
    case rel => exact ⟨_, (t533), (t532), (t525), (t526), (t529), (.slice Ao81 t526.length co81), (.slice Ao82 t529.length co82), zS, zS, H', ⟨by have := HJ13.out; first | omega | exact Nat.le_refl _⟩, ⟨by (with_reducible repeat (first | apply Kd.V_alloc | apply Kd.V_drewN | apply Kd.V_drew)); exact Kd.V_mono (zNV HO_491001.out (g := gb493) (fun _ hk => hk.1.1.2.2.2.2)) (fun _ hk => ⟨hk.1.1.1.1, ⟨hk.1.1.1.2.1, ⟨hk.1.1.1.2.2.1, ⟨hk.1.1.1.2.2.2.1, hk.1.1.1.2.2.2.2⟩⟩⟩⟩)⟩, ⟨by (with_reducible repeat (first | apply Kd.V_alloc | apply Kd.V_drewN | apply Kd.V_drew)); exact Kd.V_mono (zNV HO_491002.out (g := gb493) (fun _ hk => hk.1.1.2.2.2.2)) (fun _ hk => ⟨hk.1.1.1.1, ⟨hk.1.1.1.2.1, ⟨hk.1.1.1.2.2.1, ⟨hk.1.1.1.2.2.2.1, hk.1.1.1.2.2.2.2⟩⟩⟩⟩)⟩, ⟨Kd.V_mono (Kd.R_V (zNT (Kd.R_types (Kd.R_types (Kd.R_types (Kd.R_types HO528.out BK490.out (by decide)) BK491.out (by decide)) BK492.out (by decide)) BK493.out (by decide)) BK493.out)) (fun k_ hk => ⟨.inr (hk.1.1.1.1.1.1), ⟨hk.1.1.1.1.2, ⟨hk.1.1.1.2, ⟨hk.1.1.2, hk.1.2⟩⟩⟩⟩)⟩, ⟨Kd.V_mono (Kd.R_V (zNT (Kd.R_types (Kd.R_types (Kd.R_types (Kd.R_types HO531.out BK490.out (by decide)) BK491.out (by decide)) BK492.out (by decide)) BK493.out (by decide)) BK493.out)) (fun k_ hk => ⟨.inr (hk.1.1.1.1.1.1), ⟨hk.1.1.1.1.2, ⟨hk.1.1.1.2, ⟨hk.1.1.2, hk.1.2⟩⟩⟩⟩)⟩, ⟨zK BK490.out⟩, ⟨zK BK491.out⟩, ⟨zK BK492.out⟩, ⟨zP3 BK493.out⟩, ⟨zL HB.out⟩⟩
 case rest =>
  clear HC5
  try clear z13_0 z13_1 z13_2 z13_3 z13_4 z13_5 z13_6
  try clear y13_0 y13_1 y13_2 y13_3 y13_4 y13_5 y13_6
  obtain ⟨kq, x10_4, x11_4, x494000_4, x494001_4, x494002_4, u494001, u494002, rfl, rfl, HA, HJ4, HO_491001, HO_491002, HO_494001, HO_494002, BK490, BK491, BK492, BK493, HB⟩ := hcut
  cases kq with
  | zero => exact absurd HA.out (by simp [cooperagelaw16_does.j1])
  | succ kj4 =>
   have H := HA.out
   clear HA
   simp only [cooperagelaw16_does.j1] at H
   by_cases c83 : x10_4 = 0
   ·rw [if_pos c83] at H
    have c83b0 := zb0 c83
    have c83b1 := zb1 c83
    clear c83
    replace H := zs5 H
    obtain ⟨rfl, rfl, rfl, rfl, rfl⟩ := H
    have hnb84 := NB493_490.out
    have hnc84 := NB490_493.out
    have hnb85 := NB493_491.out
    have hnc85 := NB491_493.out
    have hnb86 := NB493_492.out
    have hnc86 := NB492_493.out
    obtain ⟨z87_0, z87_1, z87_2, y87_0, y87_1, y87_2⟩ := zC3 BK493.out
    have hnb88 := NB492_490.out
    have hnc88 := NB490_492.out
    have hnb89 := NB492_491.out
    have hnc89 := NB491_492.out
    obtain ⟨z90_0, z90_1, z90_2, y90_0, y90_1, y90_2⟩ := zC3 BK492.out
    obtain ⟨Ao91, co91, eo91⟩ := Kd.V_slice HO_494001.out
    subst eo91
    obtain ⟨Ao92, co92, eo92⟩ := Kd.V_slice HO_494002.out
    subst eo92
    go_wp2
    refine bodyPost_ret (results_ctt rfl _ _ gb492 28 #[.int .i64 x494000_4, .slice Ao91 x494001_4.length co91, .slice Ao92 x494002_4.length co92] (0, 0) _ rfl (zP3 BK492.out) Tryd.underlying28 rfl (by kernel_rfl)) rfl ?_
    exact ⟨_, _, zE, by (with_reducible repeat (first | apply Kd.V_alloc | apply Kd.V_drewN | apply Kd.V_drew)); exact Kd.V_mono (zNV HO_494001.out (g := gb492) (fun _ hk => hk.2.2.2.1)) (fun _ hk => hk.1.1), by (with_reducible repeat (first | apply Kd.V_alloc | apply Kd.V_drewN | apply Kd.V_drew)); exact Kd.V_mono (zNV HO_494002.out (g := gb492) (fun _ hk => hk.2.2.2.1)) (fun _ hk => hk.1.1), zL HB.out⟩
   rw [if_neg c83] at H
   have c83b0 := zn0 c83
   have c83b1 := zn1 c83
   replace H := zs5 H
   obtain ⟨rfl, rfl, rfl, rfl, rfl⟩ := H
   try go_wp2
   replace HO_491001 := ka (Kd.V_drew HO_491001.out)
   replace HO_491002 := ka (Kd.V_drew HO_491002.out)
   replace HO_494001 := ka (Kd.V_drew HO_494001.out)
   replace HO_494002 := ka (Kd.V_drew HO_494002.out)
   replace BK490 := ka (blk_drew BK490.out)
   replace BK491 := ka (blk_drew BK491.out)
   replace BK492 := ka (blk_drew BK492.out)
   replace BK493 := ka (blk_drew BK493.out)
   replace HB := ka (below_drew1 HB.out)
   obtain ⟨Ao94, co94, eo94⟩ := Kd.V_slice HO_494001.out
   (first | subst eo94 | (injection eo94 with f1_ f2_ f3_; have f4_ := f1_.symm; have f5_ := f3_.symm; clear f1_ f2_ f3_; subst f4_; subst f5_))
   obtain ⟨Ao95, co95, eo95⟩ := Kd.V_slice HO_494002.out
   (first | subst eo95 | (injection eo95 with f1_ f2_ f3_; have f4_ := f1_.symm; have f5_ := f3_.symm; clear f1_ f2_ f3_; subst f4_; subst f5_))
   refine start_ (n := 15) (S := fun w' => w'.cell? ⟨gb490, 0, none⟩ = some (.int .i64 a0_0) ∧ w'.cell? ⟨gb490, 1, none⟩ = some (.slice A0_1 l0_1.length c0_1) ∧ w'.cell? ⟨gb490, 2, none⟩ = some (.slice A0_2 l0_2.length c0_2) ∧ w'.cell? ⟨gb493, 0, none⟩ = some (.int .i64 x494000_4) ∧ w'.cell? ⟨gb493, 1, none⟩ = some (.slice Ao94 x494001_4.length co94) ∧ w'.cell? ⟨gb493, 2, none⟩ = some (.slice Ao95 x494002_4.length co95)) (ds := []) #[false, false, false, false, false, false, false, false, false, false, false, false, false, false, false] (by kernel_rfl) rfl rfl ⟨zc BK490.out 0, zc BK490.out 1, zc BK490.out 2, zc BK493.out 0, zc BK493.out 1, zc BK493.out 2⟩ (fun hHeld => ?_); refine with_tabW cooperagelaw16_does.tab16 cooperagelaw16_does.bits16 (fun HT_ HW_ => ?_)
   generalize wc.drew = w93 at HO_491001 HO_491002 HO_494001 HO_494002 BK490 BK491 BK492 BK493 HB hHeld ⊢
   refine zpp 1 (N := some 77) HT_ (h := ?_)
   refine zpp 4 (N := some 80) HT_ (h := ?_)
   refine zpp 8 (N := some 84) HT_ (h := ?_)
   refine zpp 11 (N := some 87) HT_ (h := ?_)
   refine zpt 0 (N := some 76) HT_ HW_ hHeld (h := ?_)
   refine zpt 2 (N := some 78) HT_ HW_ hHeld (h := ?_)
   refine zpp 3 (N := some 79) HT_ (h := ?_)
   refine zpt 5 (N := some 81) HT_ HW_ hHeld (h := ?_)
   refine zpp 6 (N := some 82) HT_ (h := ?_)
   refine zpp 7 (N := some 83) HT_ (h := ?_)
   refine zpt 9 (N := some 85) HT_ HW_ hHeld (h := ?_)
   refine zpp 10 (N := some 86) HT_ (h := ?_)
   refine one_ (i := 12) (N := none) #[true, true, true, true, true, true, true, true, true, true, true, true, true, false, false] rfl rfl (one_of HT_.out (by kernel_rfl)) (by decide) (fun K hK => ?_)
   have hs96 : w93.cell? ⟨gb492, 0, none⟩ = some (.int .i64 0) := zc BK492.out 0
   have hfs96 := blk_frozen BK492.out 0
   have hns96_0 := NB490_492.out
   have hns96_1 := NB491_492.out
   have hns96_3 := NB493_492.out
   have hms96_0 := NB492_490.out
   have hms96_1 := NB492_491.out
   have hms96_3 := NB492_493.out
   have hs97 : w93.cell? ⟨gb492, 1, none⟩ = some (.slice none 0 0) := zc BK492.out 1
   have hfs97 := blk_frozen BK492.out 1
   have hns97_0 := NB490_492.out
   have hns97_1 := NB491_492.out
   have hns97_3 := NB493_492.out
   have hms97_0 := NB492_490.out
   have hms97_1 := NB492_491.out
   have hms97_3 := NB492_493.out
   have hs98 : w93.cell? ⟨gb492, 2, none⟩ = some (.slice none 0 0) := zc BK492.out 2
   have hfs98 := blk_frozen BK492.out 2
   have hns98_0 := NB490_492.out
   have hns98_1 := NB491_492.out
   have hns98_3 := NB493_492.out
   have hms98_0 := NB492_490.out
   have hms98_1 := NB492_491.out
   have hms98_3 := NB492_493.out
   refine skip_ (w1 := ?_) (by rfl) rfl ?_ ?_
   rotate_left
   ·go_simp
    rfl
   refine hK.out _ _ ⟨(zW NB490_492.out hHeld.1), (zW NB490_492.out hHeld.2.1), (zW NB490_492.out hHeld.2.2.1), (zW NB493_492.out hHeld.2.2.2.1), (zW NB493_492.out hHeld.2.2.2.2.1), (zW NB493_492.out hHeld.2.2.2.2.2)⟩ (fun hHeld => ?_)
   clear hK K
   refine zpp 13 (N := some 7) HT_ (h := ?_)
   refine zpp 14 (N := some 8) HT_ (h := ?_)
   refine done_ (done_of HT_.out (by kernel_rfl)) ?_
   try go_wp2
   refine bodyPost_ret (results_ctt rfl _ _ gb492 28 #[.int .i64 a0_0, .slice A0_1 l0_1.length c0_1, .slice A0_2 l0_2.length c0_2] (0, 0) _ rfl (zP3 BK492.out) Tryd.underlying28 rfl (by kernel_rfl)) rfl ?_
   exact ⟨_, _, zE, by (with_reducible repeat (first | apply Kd.V_alloc | apply Kd.V_drewN | apply Kd.V_drew)); exact Kd.V_mono (zNV HO_491001.out (g := gb492) (fun _ hk => hk.2.2.2.1)) (fun _ hk => hk.1.1), by (with_reducible repeat (first | apply Kd.V_alloc | apply Kd.V_drewN | apply Kd.V_drew)); exact Kd.V_mono (zNV HO_491002.out (g := gb492) (fun _ hk => hk.2.2.2.1)) (fun _ hk => hk.1.1), zL HB.out⟩

end Go.Proofs.YtjdadmjomjhpcaaDoor.PLease
