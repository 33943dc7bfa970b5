-- Written by a program of this session (wip/tools/ext.py, over the kit's printer); not trusted: Lean checks it.
import Derived.Test.YtgcghjkaomgloaaDoorPLeasex0
import Derived.Test.YtgcghjkaomgloaaDoorPLeasex2
import Derived.Test.YtgcghjkaomgloaaDoorPLeasex4
namespace Go.Proofs.YtgcghjkaomgloaaDoor.PLease
open Go.RowKit Go.Proofs.YtgcghjkaomgloaaDoorW.PrintWords Go.Proofs.YtgcghjkaomgloaaDoorW.PrintLast Go.Proofs.YtgcghjkaomgloaaDoorW.PrintMore
attribute [local go_sem] max2_int min2_int max_two min_two max_three min_three max_four min_four   -- for this text's walks alone
set_option linter.unusedVariables false
set_option linter.unusedSimpArgs false

/-! ### cooperagelaw16_pick: function 13 -/
def cooperagelaw16_pick.f (a0 : Int) (a1 : Int) : Option (Int) := if a0 < 0 then (if a1 = 0 then (none) else (some (Int.tmod (wrap64 (-(wrap64 (a0 + 1)))) a1))) else (if a1 = 0 then (none) else (some (Int.tmod a0 a1)))
set_option maxHeartbeats 8000000 in
set_option maxRecDepth 100000 in
theorem cooperagelaw16_pick.calls (a0 : Int) (a1 : Int) (r : Int) (w : World) (h : cooperagelaw16_pick.f a0 a1 = some r) :
    Calls Tryd.prog 13 #[.int .i64 a0, .int .i64 a1] w fun e w' => e = .returned (.int .i64 r) ∧ Drawn0 w w' := by
  have H : (if a0 < 0 then (if a1 = 0 then (none) else (some (Int.tmod (wrap64 (-(wrap64 (a0 + 1)))) a1))) else (if a1 = 0 then (none) else (some (Int.tmod a0 a1)))) = some r := h
  clear h
  by_cases c3 : a0 < 0
  · rw [if_pos c3] at H
    have c3b0 : decide (a0 < 0) = true := decide_eq_true c3
    clear c3
    by_cases c4 : a1 = 0
    · rw [if_pos c4] at H
      exact absurd H (by simp)
    · rw [if_neg c4] at H
      have c4b0 : (a1 == 0) = false := beq_eq_false_iff_ne.mpr c4
      have c4b1 : (a1 != 0) = true := bne_iff_ne.mpr c4
      obtain rfl := Option.some.inj H
      go_enter Tryd.func13, Tryd.ntmps13
      go_wp2
      go_ret
      exact ⟨by first | rfl | (simp; done) | (simp [*]; done), by repeat (first | exact Drawn0.refl _ | apply Drawn0.step)⟩
  · rw [if_neg c3] at H
    have c3b0 : decide (a0 < 0) = false := decide_eq_false c3
    clear c3
    by_cases c5 : a1 = 0
    · rw [if_pos c5] at H
      exact absurd H (by simp)
    · rw [if_neg c5] at H
      have c5b0 : (a1 == 0) = false := beq_eq_false_iff_ne.mpr c5
      have c5b1 : (a1 != 0) = true := bne_iff_ne.mpr c5
      obtain rfl := Option.some.inj H
      go_enter Tryd.func13, Tryd.ntmps13
      go_wp2
      go_ret
      exact ⟨by first | rfl | (simp; done) | (simp [*]; done), by repeat (first | exact Drawn0.refl _ | apply Drawn0.step)⟩

/-! ### lease_Leave_1: function 35 -/
def lease_Leave_1.f (a0_0 : Int) (a0_1 : ByteArray) (a0_2 : Bool) (a0_3 : Int) (a0_4 : Int) (a1_0 : Int) : Option (Bool) := some (a0_0 == a1_0)
set_option maxHeartbeats 8000000 in
set_option maxRecDepth 100000 in
theorem lease_Leave_1.calls (a0_0 : Int) (a0_1 : ByteArray) (a0_2 : Bool) (a0_3 : Int) (a0_4 : Int) (g1_0 : Nat) (a1_0 : Int) (r : Bool) (w : World) (hb1_0 : w.heap[g1_0]? = some (.cells #[.int .i64 a1_0] 3 (0, 0))) (h : lease_Leave_1.f a0_0 a0_1 a0_2 a0_3 a0_4 a1_0 = some r) :
    Calls Tryd.prog 35 #[.agg #[.int .i64 a0_0, .string a0_1, .bool a0_2, .int .i64 a0_3, .int .i64 a0_4], .pointer (some ⟨g1_0, 0, none⟩)] w fun e w' => e = .returned (.bool r) ∧ Below w.heap.size w w' := by
  have hu34 := Tryd.underlying34
  have BK497 := Aside0.mk hb1_0
  clear hb1_0
  have HB := Aside0.mk (Below.refl w.heap.size w)
  have H : (some (a0_0 == a1_0)) = some r := h
  clear h
  obtain rfl := Option.some.inj H
  go_enter Tryd.func35, Tryd.ntmps35
  go_wp2_with (first | ((with_reducible refine gate_dst (N := 2) rfl ?_); refine box_event ?hg (N := 2) ?hd (cs := #[.int .i64 a0_0, .string a0_1, .bool a0_2, .int .i64 a0_3, .int .i64 a0_4]) (t := 34) ?hr ?_; (case hd => rfl); (case hg => rfl); (case hr => first | (go_simp; done) | (go_simp; rfl)); intro gb498 hg w3 hbox hb; have n0_ := Aside0.mk (blk_below (g := g1_0) (o := .cells #[.int .i64 a1_0] 3 (0, 0)) (zK BK497.out) hb); have n1_ := Aside0.mk (below_step (zL HB.out) hb); have n2_ := Aside0.mk (hbox); have n3_ := Aside0.mk (zG hg (zL HB.out)); have n4_ := Aside0.mk (zG hg (zL HB.out)); have n5_ := Aside0.mk (zN (g := g1_0) (o := .cells #[.int .i64 a1_0] 3 (0, 0)) hg (zK BK497.out)); have n6_ := Aside0.mk (zO (g := g1_0) (o := .cells #[.int .i64 a1_0] 3 (0, 0)) hg (zK BK497.out)); clear BK497; clear HB; have BK497 := n0_; have HB := n1_; have BK498 := n2_; have GW498 := n3_; have GE498 := n4_; have NB497_498 := n5_; have NB498_497 := n6_; clear n0_ n1_ n2_ n3_ n4_ n5_ n6_; clear hb hbox hg; have hnb4 := NB498_497.out; have hnc4 := NB497_498.out; have hcz5_0 : w3.cell? ⟨gb498, 0, none⟩ = some (.int .i64 a0_0) := (blk_cell BK498.out 0).trans rfl; have hcz5_1 : w3.cell? ⟨gb498, 1, none⟩ = some (.string a0_1) := (blk_cell BK498.out 1).trans rfl; have hcz5_2 : w3.cell? ⟨gb498, 2, none⟩ = some (.bool a0_2) := (blk_cell BK498.out 2).trans rfl; have hcz5_3 : w3.cell? ⟨gb498, 3, none⟩ = some (.int .i64 a0_3) := (blk_cell BK498.out 3).trans rfl; have hcz5_4 : w3.cell? ⟨gb498, 4, none⟩ = some (.int .i64 a0_4) := (blk_cell BK498.out 4).trans rfl; have hfz5_0 := blk_frozen BK498.out 0; have hfz5_1 := blk_frozen BK498.out 1; have hfz5_2 := blk_frozen BK498.out 2; have hfz5_3 := blk_frozen BK498.out 3; have hfz5_4 := blk_frozen BK498.out 4; have hcz6_0 : w3.cell? ⟨g1_0, 0, none⟩ = some (.int .i64 a1_0) := (blk_cell BK497.out 0).trans rfl; have hfz6_0 := blk_frozen BK497.out 0))
  go_ret
  exact ⟨by first | rfl | (simp [errW_none, errW_some] <;> rfl) | (simp [*, errW_none, errW_some] <;> rfl), zL HB.out⟩

/-! ### lease_Lease_31_at35: function 31 -/
def lease_Lease_31_at35.l0 : Nat → List (S34) → List (S34) → List (S34) → Int → Int → Int → Option ((List (S34)) × (List (S34)))
  | 0, _, _, _, _, _, _ => none
  | k + 1, x4, x5, x8, x9, x10, x501000 => if x10 < x9 then (if 0 ≤ x10 then (if x10 < (x8.length : Int) then ((lease_Leave_1.f ((rd_T34 x8 x10).f0) ((rd_T34 x8 x10).f1) ((rd_T34 x8 x10).f2) ((rd_T34 x8 x10).f3) ((rd_T34 x8 x10).f4) x501000).bind fun t503 => (if t503 = true then (if x4.length < 2932031007402 then (lease_Lease_31_at35.l0 k (x4 ++ [(⟨(rd_T34 x8 x10).f0, (rd_T34 x8 x10).f1, (rd_T34 x8 x10).f2, (rd_T34 x8 x10).f3, (rd_T34 x8 x10).f4⟩ : S34)]) x5 x8 x9 (wrap64 (x10 + 1)) x501000) else (none)) else (if x5.length < 2932031007402 then (lease_Lease_31_at35.l0 k x4 (x5 ++ [(⟨(rd_T34 x8 x10).f0, (rd_T34 x8 x10).f1, (rd_T34 x8 x10).f2, (rd_T34 x8 x10).f3, (rd_T34 x8 x10).f4⟩ : S34)]) x8 x9 (wrap64 (x10 + 1)) x501000) else (none)))) else (none)) else (none)) else (some (x4, x5))
def lease_Lease_31_at35.f (k : Nat) (l0 : List (S34)) (a1_0 : Int) : Option ((List (S34)) × (List (S34))) := lease_Lease_31_at35.l0 k ([] : List (S34)) ([] : List (S34)) l0 (l0.length : Int) 0 a1_0
theorem lease_Lease_31_at35.mono_l : ∀ k, (∀ y0 y1 y2 y3 y4 y5, LeO (lease_Lease_31_at35.l0 k y0 y1 y2 y3 y4 y5) (lease_Lease_31_at35.l0 (k + 1) y0 y1 y2 y3 y4 y5))
  | 0 => fun _ _ _ _ _ _ r h => by simp [lease_Lease_31_at35.l0] at h
  | k + 1 => by
    have ih0 := lease_Lease_31_at35.mono_l k
    · intro y0 y1 y2 y3 y4 y5
      unfold lease_Lease_31_at35.l0
      repeat' first
      | (with_reducible exact ih0 _ _ _ _ _ _)
      | (with_reducible exact LeO.refl _)
      | (with_reducible exact LeO.none _)
      | (with_reducible refine LeO.ite ?_ ?_)
      | (with_reducible refine LeO.bind ?_ (fun _ => ?_))
      | exact ih0 _ _ _ _ _ _
      | exact LeO.none _
      | refine LeO.ite ?_ ?_
      | refine LeO.bind ?_ (fun _ => ?_)
theorem lease_Lease_31_at35.mono : ∀ a0 a1 k, LeO (lease_Lease_31_at35.f k a0 a1) (lease_Lease_31_at35.f (k + 1) a0 a1) := by
  intro a0 a1 k
  have ih0 := lease_Lease_31_at35.mono_l k
  unfold lease_Lease_31_at35.f
  repeat' first
      | (with_reducible exact ih0 _ _ _ _ _ _)
      | (with_reducible exact LeO.refl _)
      | (with_reducible exact LeO.none _)
      | (with_reducible refine LeO.ite ?_ ?_)
      | (with_reducible refine LeO.bind ?_ (fun _ => ?_))
      | exact ih0 _ _ _ _ _ _
      | exact LeO.none _
      | refine LeO.ite ?_ ?_
      | refine LeO.bind ?_ (fun _ => ?_)
set_option maxHeartbeats 8000000 in
set_option maxRecDepth 100000 in
theorem lease_Lease_31_at35.calls (k : Nat) (A0 : Option Addr) (c0 : Nat) (l0 : List (S34)) (g1_0 : Nat) (a1_0 : Int) (r1 : List (S34)) (r2 : List (S34)) (w : World) (hr0 : Kd.C k34 w A0 l0.length l0) (hc0 : l0.length ≤ c0) (hb1_0 : w.heap[g1_0]? = some (.cells #[.int .i64 a1_0] 3 (0, 0))) (h : lease_Lease_31_at35.f k l0 a1_0 = some (r1, r2)) :
    Calls Tryd.prog 31 #[.slice A0 l0.length c0, .func (.func 35) #[] #[.pointer (some ⟨g1_0, 0, none⟩)]] w fun e w' => ∃ v0_ v1_ : Value, e = .returned (.tuple #[v0_, v1_]) ∧ Kd.R k34 34 w' w.heap.size (fun k_ => some k_ ≠ (v1_ : Value).ownBlock) v0_ r1 ∧ Kd.R k34 34 w' w.heap.size (fun k_ => some k_ ≠ (v0_ : Value).ownBlock) v1_ r2 ∧ Below w.heap.size w w' := by
  have hu34 := Tryd.underlying34
  have HR0 := Aside0.mk hr0
  have HC0 := Aside0.mk hc0
  clear hr0 hc0
  have BK500 := Aside0.mk hb1_0
  clear hb1_0
  have HB := Aside0.mk (Below.refl w.heap.size w)
  have H : (lease_Lease_31_at35.l0 k ([] : List (S34)) ([] : List (S34)) l0 (l0.length : Int) 0 a1_0) = some (r1, r2) := h
  clear h
  have H' := Aside0.mk H
  clear H
  go_enter Tryd.func31, Tryd.ntmps31
  go_wp2
  go_loopg [4, 5, 10] k (fun kq v4 v5 v10 w' => ∃ (x4_1 : List (S34)) (x5_1 : List (S34)) (x10_1 : Int), v10 = .int .i64 x10_1 ∧ Aside0 (lease_Lease_31_at35.l0 kq x4_1 x5_1 l0 (l0.length : Int) x10_1 a1_0 = some (r1, r2)) ∧ Aside0 (kq ≤ k) ∧ Aside0 (Kd.R k34 34 w' w.heap.size (fun k_ => some k_ ≠ (v5 : Value).ownBlock) v4 x4_1) ∧ Aside0 (Kd.R k34 34 w' w.heap.size (fun k_ => some k_ ≠ (v4 : Value).ownBlock) v5 x5_1) ∧ Aside0 (w'.heap[g1_0]? = some (.cells #[.int .i64 a1_0] 3 (0, 0))) ∧ Aside0 (Below w.heap.size w w'))
  case atStart => exact ⟨(([] : List (S34))), (([] : List (S34))), (0), (by first | rfl | (simp; done) | (simp [*]; done)), H', ⟨Nat.le_refl _⟩, ⟨by first | exact Kd.R_nil _ _ _ _ _ | exact Kd.N_nil _ _ _ _ _ | exact Kd.V_nil _ _ _ _ _ | exact Kd.Q_nil _ _ _ _ _ | exact Kd.S_nil _ _ _ _ _⟩, ⟨by first | exact Kd.R_nil _ _ _ _ _ | exact Kd.N_nil _ _ _ _ _ | exact Kd.V_nil _ _ _ _ _ | exact Kd.Q_nil _ _ _ _ _ | exact Kd.S_nil _ _ _ _ _⟩, ⟨zK BK500.out⟩, ⟨zL HB.out⟩⟩
  case round =>
    clear H'
    try clear p2
    obtain ⟨x4_1, x5_1, x10_1, rfl, HA, HK1, HO_4, HO_5, BK500, HB⟩ := hrel
    cases gk with
    | zero => exact absurd HA.out (by simp [lease_Lease_31_at35.l0])
    | succ k1 =>
      have H := HA.out
      clear HA
      simp only [lease_Lease_31_at35.l0] at H
      by_cases c3 : x10_1 < (l0.length : Int)
      · rw [if_pos c3] at H
        have c3b0 : decide (x10_1 < (l0.length : Int)) = true := decide_eq_true c3
        clear c3
        by_cases c4 : 0 ≤ x10_1
        · rw [if_pos c4] at H
          have c4b0 : decide (0 ≤ x10_1) = true := decide_eq_true c4
          clear c4
          by_cases c5 : x10_1 < (l0.length : Int)
          · rw [if_pos c5] at H
            have c5b0 : decide (x10_1 < (l0.length : Int)) = true := decide_eq_true c5
            clear c5
            replace H := Option.bind_eq_some_iff.mp H
            obtain ⟨t503, A60, H⟩ := H
            replace H : (if t503 = true then (if x4_1.length < 2932031007402 then (lease_Lease_31_at35.l0 k1 (x4_1 ++ [(⟨(rd_T34 l0 x10_1).f0, (rd_T34 l0 x10_1).f1, (rd_T34 l0 x10_1).f2, (rd_T34 l0 x10_1).f3, (rd_T34 l0 x10_1).f4⟩ : S34)]) x5_1 l0 (l0.length : Int) (wrap64 (x10_1 + 1)) a1_0) else (none)) else (if x5_1.length < 2932031007402 then (lease_Lease_31_at35.l0 k1 x4_1 (x5_1 ++ [(⟨(rd_T34 l0 x10_1).f0, (rd_T34 l0 x10_1).f1, (rd_T34 l0 x10_1).f2, (rd_T34 l0 x10_1).f3, (rd_T34 l0 x10_1).f4⟩ : S34)]) l0 (l0.length : Int) (wrap64 (x10_1 + 1)) a1_0) else (none))) = some (r1, r2) := H
            have A6 := Aside0.mk A60
            clear A60
            by_cases c7 : t503 = true
            · subst c7
              have H1 : (if x4_1.length < 2932031007402 then (lease_Lease_31_at35.l0 k1 (x4_1 ++ [(⟨(rd_T34 l0 x10_1).f0, (rd_T34 l0 x10_1).f1, (rd_T34 l0 x10_1).f2, (rd_T34 l0 x10_1).f3, (rd_T34 l0 x10_1).f4⟩ : S34)]) x5_1 l0 (l0.length : Int) (wrap64 (x10_1 + 1)) a1_0) else (none)) = some (r1, r2) := by rw [if_pos rfl] at H; exact H
              clear H
              have H := H1
              clear H1
              by_cases c8 : x4_1.length < 2932031007402
              · rw [if_pos c8] at H
                have LMc8 := Aside0.mk c8
                clear c8
                obtain ⟨y504, hy504⟩ : ∃ y_ : List (S34), y_ = (x4_1 ++ [(⟨(rd_T34 l0 x10_1).f0, (rd_T34 l0 x10_1).f1, (rd_T34 l0 x10_1).f2, (rd_T34 l0 x10_1).f3, (rd_T34 l0 x10_1).f4⟩ : S34)]) := ⟨_, rfl⟩
                replace H : (lease_Lease_31_at35.l0 k1 y504 x5_1 l0 (l0.length : Int) (wrap64 (x10_1 + 1)) a1_0) = some (r1, r2) := zH hy504 H
                have Ny504 := Aside0.mk hy504
                clear hy504
                have H' := Aside0.mk H
                clear H
                have p501 : 0 ≤ (x10_1 : Int) := of_decide_eq_true (by first | (with_reducible assumption) | assumption)
                have q501 : x10_1 < (l0.length : Int) := of_decide_eq_true (by first | (with_reducible assumption) | assumption)
                obtain ⟨ad501, e501, hx501_0, hx501_1, hx501_2, hx501_3, hx501_4⟩ := at_T34 HR0.out x10_1 p501 q501
                cases e501
                replace hx501_0 := (HB.out.cell (World.block_lt_of_cell? w _ hx501_0)).trans hx501_0
                replace hx501_1 := (HB.out.cell (World.block_lt_of_cell? w _ hx501_1)).trans hx501_1
                replace hx501_2 := (HB.out.cell (World.block_lt_of_cell? w _ hx501_2)).trans hx501_2
                replace hx501_3 := (HB.out.cell (World.block_lt_of_cell? w _ hx501_3)).trans hx501_3
                replace hx501_4 := (HB.out.cell (World.block_lt_of_cell? w _ hx501_4)).trans hx501_4
                replace p501 := eq_true p501
                replace q501 := eq_true q501
                go_wp2_with (first | ((with_reducible refine gate_dst (N := 7) rfl ?_); refine box_event ?hg (N := 7) ?hd (cs := #[.int .i64 0, .string (⟨#[]⟩ : ByteArray), .bool false, .int .i64 0, .int .i64 0]) (t := 34) ?hr ?_; (case hd => rfl); (case hg => rfl); (case hr => first | (go_simp; done) | (go_simp; rfl)); intro gb502 hg w9 hbox hb; have n0_ := Aside0.mk (Kd.R_below (Kd.R_elderB (zR HO_4.out) gb502 (Nat.le_of_eq hg.symm)) hb); have n1_ := Aside0.mk (Kd.R_below (Kd.R_elderB (zR HO_5.out) gb502 (Nat.le_of_eq hg.symm)) hb); have n2_ := Aside0.mk (blk_below (g := g1_0) (o := .cells #[.int .i64 a1_0] 3 (0, 0)) (zK BK500.out) hb); have n3_ := Aside0.mk (below_step (zL HB.out) hb); have n4_ := Aside0.mk (hbox); have n5_ := Aside0.mk (zG hg (zL HB.out)); have n6_ := Aside0.mk (zG hg (zL HB.out)); have n7_ := Aside0.mk (zN (g := g1_0) (o := .cells #[.int .i64 a1_0] 3 (0, 0)) hg (zK BK500.out)); have n8_ := Aside0.mk (zO (g := g1_0) (o := .cells #[.int .i64 a1_0] 3 (0, 0)) hg (zK BK500.out)); clear HO_4; clear HO_5; clear BK500; clear HB; have HO_4 := n0_; have HO_5 := n1_; have BK500 := n2_; have HB := n3_; have BK502 := n4_; have GW502 := n5_; have GE502 := n6_; have NB500_502 := n7_; have NB502_500 := n8_; clear n0_ n1_ n2_ n3_ n4_ n5_ n6_ n7_ n8_; clear hb hbox hg; have hnb10 := NB502_500.out; have hnc10 := NB500_502.out; have hcz11_0 : w9.cell? ⟨gb502, 0, none⟩ = some (.int .i64 0) := (blk_cell BK502.out 0).trans rfl; have hcz11_1 : w9.cell? ⟨gb502, 1, none⟩ = some (.string (⟨#[]⟩ : ByteArray)) := (blk_cell BK502.out 1).trans rfl; have hcz11_2 : w9.cell? ⟨gb502, 2, none⟩ = some (.bool false) := (blk_cell BK502.out 2).trans rfl; have hcz11_3 : w9.cell? ⟨gb502, 3, none⟩ = some (.int .i64 0) := (blk_cell BK502.out 3).trans rfl; have hcz11_4 : w9.cell? ⟨gb502, 4, none⟩ = some (.int .i64 0) := (blk_cell BK502.out 4).trans rfl; have hfz11_0 := blk_frozen BK502.out 0; have hfz11_1 := blk_frozen BK502.out 1; have hfz11_2 := blk_frozen BK502.out 2; have hfz11_3 := blk_frozen BK502.out 3; have hfz11_4 := blk_frozen BK502.out 4) | (go_at_call 35; (with_reducible refine (lease_Leave_1.calls ((rd_T34 l0 x10_1).f0) ((rd_T34 l0 x10_1).f1) ((rd_T34 l0 x10_1).f2) ((rd_T34 l0 x10_1).f3) ((rd_T34 l0 x10_1).f4) g1_0 a1_0 true _ ?side1 A6.out).mono ?_); (case side1 => exact zK BK500.out); rintro e w12 ⟨rfl, hb⟩; have n0_ := Aside0.mk (Kd.R_below (zM HO_4.out (g := gb502) (fun _ hk => hk.2)) hb); have n1_ := Aside0.mk (Kd.R_below (zM HO_5.out (g := gb502) (fun _ hk => hk.2)) hb); have n2_ := Aside0.mk (blk_below (g := g1_0) (o := .cells #[.int .i64 a1_0] 3 (0, 0)) (zK BK500.out) hb); have n3_ := Aside0.mk (blk_below (g := gb502) (o := .cells #[.int .i64 ((rd_T34 l0 x10_1).f0), .string ((rd_T34 l0 x10_1).f1), .bool ((rd_T34 l0 x10_1).f2), .int .i64 ((rd_T34 l0 x10_1).f3), .int .i64 ((rd_T34 l0 x10_1).f4)] 34 (0, 0)) (by (with_reducible repeat (first | refine blk_drewN ?_ _ | refine blk_drew ?_ | refine blk_alloc ?_ _)); refine blk_put (cs := #[.int .i64 ((rd_T34 l0 x10_1).f0), .string ((rd_T34 l0 x10_1).f1), .bool ((rd_T34 l0 x10_1).f2), .int .i64 ((rd_T34 l0 x10_1).f3), .int .i64 0]) ?_ 4 _ rfl; (with_reducible repeat (first | refine blk_drewN ?_ _ | refine blk_drew ?_ | refine blk_alloc ?_ _)); refine blk_put (cs := #[.int .i64 ((rd_T34 l0 x10_1).f0), .string ((rd_T34 l0 x10_1).f1), .bool ((rd_T34 l0 x10_1).f2), .int .i64 0, .int .i64 0]) ?_ 3 _ rfl; (with_reducible repeat (first | refine blk_drewN ?_ _ | refine blk_drew ?_ | refine blk_alloc ?_ _)); refine blk_put (cs := #[.int .i64 ((rd_T34 l0 x10_1).f0), .string ((rd_T34 l0 x10_1).f1), .bool false, .int .i64 0, .int .i64 0]) ?_ 2 _ rfl; (with_reducible repeat (first | refine blk_drewN ?_ _ | refine blk_drew ?_ | refine blk_alloc ?_ _)); refine blk_put (cs := #[.int .i64 ((rd_T34 l0 x10_1).f0), .string (⟨#[]⟩ : ByteArray), .bool false, .int .i64 0, .int .i64 0]) ?_ 1 _ rfl; (with_reducible repeat (first | refine blk_drewN ?_ _ | refine blk_drew ?_ | refine blk_alloc ?_ _)); refine blk_put (cs := #[.int .i64 0, .string (⟨#[]⟩ : ByteArray), .bool false, .int .i64 0, .int .i64 0]) ?_ 0 _ rfl; (with_reducible repeat (first | refine blk_drewN ?_ _ | refine blk_drew ?_ | refine blk_alloc ?_ _)); exact BK502.out) hb); have n4_ := Aside0.mk (below_step (zL HB.out) hb); clear HO_4; clear HO_5; clear BK500; clear BK502; clear HB; have HO_4 := n0_; have HO_5 := n1_; have BK500 := n2_; have BK502 := n3_; have HB := n4_; clear n0_ n1_ n2_ n3_ n4_; (try clear hb); (try clear hb2); (try clear hk); (try clear hi); have hcz13_0 : w12.cell? ⟨gb502, 0, none⟩ = some (.int .i64 ((rd_T34 l0 x10_1).f0)) := (blk_cell BK502.out 0).trans rfl; have hcz13_1 : w12.cell? ⟨gb502, 1, none⟩ = some (.string ((rd_T34 l0 x10_1).f1)) := (blk_cell BK502.out 1).trans rfl; have hcz13_2 : w12.cell? ⟨gb502, 2, none⟩ = some (.bool ((rd_T34 l0 x10_1).f2)) := (blk_cell BK502.out 2).trans rfl; have hcz13_3 : w12.cell? ⟨gb502, 3, none⟩ = some (.int .i64 ((rd_T34 l0 x10_1).f3)) := (blk_cell BK502.out 3).trans rfl; have hcz13_4 : w12.cell? ⟨gb502, 4, none⟩ = some (.int .i64 ((rd_T34 l0 x10_1).f4)) := (blk_cell BK502.out 4).trans rfl; have hfz13_0 := blk_frozen BK502.out 0; have hfz13_1 := blk_frozen BK502.out 1; have hfz13_2 := blk_frozen BK502.out 2; have hfz13_3 := blk_frozen BK502.out 3; have hfz13_4 := blk_frozen BK502.out 4) | ((with_reducible refine gate_builtin (b := .append) (xs := #[.tmp 17, .tmp 19]) rfl ?_); at_builtin; refine Kd.R_append k34 (w0 := w) w.heap.size rfl (.tmp 17) (.tmp 19) 24 34 (.agg #[(.int .i64 0), (.string ⟨#[]⟩), (.bool false), (.int .i64 0), (.int .i64 0)]) 48 rfl Tryd.underlying24 info34 rfl (by decide) (by omega) u4 x4_1 (⟨(rd_T34 l0 x10_1).f0, (rd_T34 l0 x10_1).f1, (rd_T34 l0 x10_1).f2, (rd_T34 l0 x10_1).f3, (rd_T34 l0 x10_1).f4⟩ : S34) [.int .i64 ((rd_T34 l0 x10_1).f0), .string ((rd_T34 l0 x10_1).f1), .bool ((rd_T34 l0 x10_1).f2), .int .i64 ((rd_T34 l0 x10_1).f3), .int .i64 ((rd_T34 l0 x10_1).f4)] (fun k_ => some k_ ≠ (u5 : Value).ownBlock ∧ k_ ≠ gb502) (fun _ => False) rfl rfl ?aP (fun _ hk => hk.elim) ?aF ?aO ?aB ?aS ?aL ?_; (case aP => exact k34_mkM _ _ _ (⟨(rd_T34 l0 x10_1).f0, (rd_T34 l0 x10_1).f1, (rd_T34 l0 x10_1).f2, (rd_T34 l0 x10_1).f3, (rd_T34 l0 x10_1).f4⟩ : S34)); (case aB => exact (zL HB.out)); (case aF => exact (fun k_ hk => ⟨Kd.fresh' (Kd.R_lt (zR HO_5.out)) k_ hk, Kd.freshB (g := gb502) (o := .cells #[.int .i64 ((rd_T34 l0 x10_1).f0), .string ((rd_T34 l0 x10_1).f1), .bool ((rd_T34 l0 x10_1).f2), .int .i64 ((rd_T34 l0 x10_1).f3), .int .i64 ((rd_T34 l0 x10_1).f4)] 34 (0, 0)) (zK BK502.out) k_ hk⟩)); (case aO => exact (zR HO_4.out)); (case aS => exact (below_size (zL HB.out))); (case aL => have := LMc8.out; omega); intro v505 w14 ho hb hg hat; rw [← Ny504.out] at ho; have n0_ := Aside0.mk (Kd.R_after (ok := (fun k_ => k_ ≠ gb502)) (by (with_reducible repeat (first | apply Kd.R_alloc | apply Kd.R_drewN | apply Kd.R_drew)); exact Kd.R_mono HO_5.out (fun _ hk => ⟨hk.2, hk.1⟩)) hg hat); have n1_ := Aside0.mk (blk_grown (g := g1_0) (o := .cells #[.int .i64 a1_0] 3 (0, 0)) (zK BK500.out) hg (Kd.R_ne HO_4.out BK500.out (by decide))); have n2_ := Aside0.mk (blk_grown (g := gb502) (o := .cells #[.int .i64 ((rd_T34 l0 x10_1).f0), .string ((rd_T34 l0 x10_1).f1), .bool ((rd_T34 l0 x10_1).f2), .int .i64 ((rd_T34 l0 x10_1).f3), .int .i64 ((rd_T34 l0 x10_1).f4)] 34 (0, 0)) (zK BK502.out) hg (Kd.R_away HO_4.out (fun _ hk => hk.2))); have n3_ := Aside0.mk (hb); have n4_ := Aside0.mk (ho); clear HO_5; clear BK500; clear BK502; clear HB; clear HO_4; have HO_5 := n0_; have BK500 := n1_; have BK502 := n2_; have HB := n3_; have HO506 := n4_; clear n0_ n1_ n2_ n3_ n4_; clear ho hb hg hat))
                go_roundg k1
                case measure => have := HK1.out; omega
                case rel => exact ⟨(y504), (x5_1), (wrap64 (x10_1 + 1)), (by first | rfl | (simp; done) | (simp [*]; done)), H', ⟨by have := HK1.out; omega⟩, ⟨by (with_reducible repeat (first | apply Kd.R_alloc | apply Kd.R_drewN | apply Kd.R_drew)); exact Kd.R_mono HO506.out (fun _ hk => hk.1)⟩, ⟨by (with_reducible repeat (first | apply Kd.R_alloc | apply Kd.R_drewN | apply Kd.R_drew)); exact Kd.R_mono HO_5.out (fun _ hk => hk.2)⟩, ⟨zK BK500.out⟩, ⟨zL HB.out⟩⟩
              · rw [if_neg c8] at H
                exact absurd H (by simp)
            · replace c7 := Bool.eq_false_iff.mpr c7
              subst c7
              have H1 : (if x5_1.length < 2932031007402 then (lease_Lease_31_at35.l0 k1 x4_1 (x5_1 ++ [(⟨(rd_T34 l0 x10_1).f0, (rd_T34 l0 x10_1).f1, (rd_T34 l0 x10_1).f2, (rd_T34 l0 x10_1).f3, (rd_T34 l0 x10_1).f4⟩ : S34)]) l0 (l0.length : Int) (wrap64 (x10_1 + 1)) a1_0) else (none)) = some (r1, r2) := by rw [if_neg (show ¬ (false = true) by decide)] at H; exact H
              clear H
              have H := H1
              clear H1
              by_cases c15 : x5_1.length < 2932031007402
              · rw [if_pos c15] at H
                have LMc15 := Aside0.mk c15
                clear c15
                obtain ⟨y507, hy507⟩ : ∃ y_ : List (S34), y_ = (x5_1 ++ [(⟨(rd_T34 l0 x10_1).f0, (rd_T34 l0 x10_1).f1, (rd_T34 l0 x10_1).f2, (rd_T34 l0 x10_1).f3, (rd_T34 l0 x10_1).f4⟩ : S34)]) := ⟨_, rfl⟩
                replace H : (lease_Lease_31_at35.l0 k1 x4_1 y507 l0 (l0.length : Int) (wrap64 (x10_1 + 1)) a1_0) = some (r1, r2) := zH hy507 H
                have Ny507 := Aside0.mk hy507
                clear hy507
                have H' := Aside0.mk H
                clear H
                have p501 : 0 ≤ (x10_1 : Int) := of_decide_eq_true (by first | (with_reducible assumption) | assumption)
                have q501 : x10_1 < (l0.length : Int) := of_decide_eq_true (by first | (with_reducible assumption) | assumption)
                obtain ⟨ad501, e501, hx501_0, hx501_1, hx501_2, hx501_3, hx501_4⟩ := at_T34 HR0.out x10_1 p501 q501
                cases e501
                replace hx501_0 := (HB.out.cell (World.block_lt_of_cell? w _ hx501_0)).trans hx501_0
                replace hx501_1 := (HB.out.cell (World.block_lt_of_cell? w _ hx501_1)).trans hx501_1
                replace hx501_2 := (HB.out.cell (World.block_lt_of_cell? w _ hx501_2)).trans hx501_2
                replace hx501_3 := (HB.out.cell (World.block_lt_of_cell? w _ hx501_3)).trans hx501_3
                replace hx501_4 := (HB.out.cell (World.block_lt_of_cell? w _ hx501_4)).trans hx501_4
                replace p501 := eq_true p501
                replace q501 := eq_true q501
                go_wp2_with (first | ((with_reducible refine gate_dst (N := 7) rfl ?_); refine box_event ?hg (N := 7) ?hd (cs := #[.int .i64 0, .string (⟨#[]⟩ : ByteArray), .bool false, .int .i64 0, .int .i64 0]) (t := 34) ?hr ?_; (case hd => rfl); (case hg => rfl); (case hr => first | (go_simp; done) | (go_simp; rfl)); intro gb502 hg w16 hbox hb; have n0_ := Aside0.mk (Kd.R_below (Kd.R_elderB (zR HO_4.out) gb502 (Nat.le_of_eq hg.symm)) hb); have n1_ := Aside0.mk (Kd.R_below (Kd.R_elderB (zR HO_5.out) gb502 (Nat.le_of_eq hg.symm)) hb); have n2_ := Aside0.mk (blk_below (g := g1_0) (o := .cells #[.int .i64 a1_0] 3 (0, 0)) (zK BK500.out) hb); have n3_ := Aside0.mk (below_step (zL HB.out) hb); have n4_ := Aside0.mk (hbox); have n5_ := Aside0.mk (zG hg (zL HB.out)); have n6_ := Aside0.mk (zG hg (zL HB.out)); have n7_ := Aside0.mk (zN (g := g1_0) (o := .cells #[.int .i64 a1_0] 3 (0, 0)) hg (zK BK500.out)); have n8_ := Aside0.mk (zO (g := g1_0) (o := .cells #[.int .i64 a1_0] 3 (0, 0)) hg (zK BK500.out)); clear HO_4; clear HO_5; clear BK500; clear HB; have HO_4 := n0_; have HO_5 := n1_; have BK500 := n2_; have HB := n3_; have BK502 := n4_; have GW502 := n5_; have GE502 := n6_; have NB500_502 := n7_; have NB502_500 := n8_; clear n0_ n1_ n2_ n3_ n4_ n5_ n6_ n7_ n8_; clear hb hbox hg; have hnb17 := NB502_500.out; have hnc17 := NB500_502.out; have hcz18_0 : w16.cell? ⟨gb502, 0, none⟩ = some (.int .i64 0) := (blk_cell BK502.out 0).trans rfl; have hcz18_1 : w16.cell? ⟨gb502, 1, none⟩ = some (.string (⟨#[]⟩ : ByteArray)) := (blk_cell BK502.out 1).trans rfl; have hcz18_2 : w16.cell? ⟨gb502, 2, none⟩ = some (.bool false) := (blk_cell BK502.out 2).trans rfl; have hcz18_3 : w16.cell? ⟨gb502, 3, none⟩ = some (.int .i64 0) := (blk_cell BK502.out 3).trans rfl; have hcz18_4 : w16.cell? ⟨gb502, 4, none⟩ = some (.int .i64 0) := (blk_cell BK502.out 4).trans rfl; have hfz18_0 := blk_frozen BK502.out 0; have hfz18_1 := blk_frozen BK502.out 1; have hfz18_2 := blk_frozen BK502.out 2; have hfz18_3 := blk_frozen BK502.out 3; have hfz18_4 := blk_frozen BK502.out 4) | (go_at_call 35; (with_reducible refine (lease_Leave_1.calls ((rd_T34 l0 x10_1).f0) ((rd_T34 l0 x10_1).f1) ((rd_T34 l0 x10_1).f2) ((rd_T34 l0 x10_1).f3) ((rd_T34 l0 x10_1).f4) g1_0 a1_0 false _ ?side1 A6.out).mono ?_); (case side1 => exact zK BK500.out); rintro e w19 ⟨rfl, hb⟩; have n0_ := Aside0.mk (Kd.R_below (zM HO_4.out (g := gb502) (fun _ hk => hk.2)) hb); have n1_ := Aside0.mk (Kd.R_below (zM HO_5.out (g := gb502) (fun _ hk => hk.2)) hb); have n2_ := Aside0.mk (blk_below (g := g1_0) (o := .cells #[.int .i64 a1_0] 3 (0, 0)) (zK BK500.out) hb); have n3_ := Aside0.mk (blk_below (g := gb502) (o := .cells #[.int .i64 ((rd_T34 l0 x10_1).f0), .string ((rd_T34 l0 x10_1).f1), .bool ((rd_T34 l0 x10_1).f2), .int .i64 ((rd_T34 l0 x10_1).f3), .int .i64 ((rd_T34 l0 x10_1).f4)] 34 (0, 0)) (by (with_reducible repeat (first | refine blk_drewN ?_ _ | refine blk_drew ?_ | refine blk_alloc ?_ _)); refine blk_put (cs := #[.int .i64 ((rd_T34 l0 x10_1).f0), .string ((rd_T34 l0 x10_1).f1), .bool ((rd_T34 l0 x10_1).f2), .int .i64 ((rd_T34 l0 x10_1).f3), .int .i64 0]) ?_ 4 _ rfl; (with_reducible repeat (first | refine blk_drewN ?_ _ | refine blk_drew ?_ | refine blk_alloc ?_ _)); refine blk_put (cs := #[.int .i64 ((rd_T34 l0 x10_1).f0), .string ((rd_T34 l0 x10_1).f1), .bool ((rd_T34 l0 x10_1).f2), .int .i64 0, .int .i64 0]) ?_ 3 _ rfl; (with_reducible repeat (first | refine blk_drewN ?_ _ | refine blk_drew ?_ | refine blk_alloc ?_ _)); refine blk_put (cs := #[.int .i64 ((rd_T34 l0 x10_1).f0), .string ((rd_T34 l0 x10_1).f1), .bool false, .int .i64 0, .int .i64 0]) ?_ 2 _ rfl; (with_reducible repeat (first | refine blk_drewN ?_ _ | refine blk_drew ?_ | refine blk_alloc ?_ _)); refine blk_put (cs := #[.int .i64 ((rd_T34 l0 x10_1).f0), .string (⟨#[]⟩ : ByteArray), .bool false, .int .i64 0, .int .i64 0]) ?_ 1 _ rfl; (with_reducible repeat (first | refine blk_drewN ?_ _ | refine blk_drew ?_ | refine blk_alloc ?_ _)); refine blk_put (cs := #[.int .i64 0, .string (⟨#[]⟩ : ByteArray), .bool false, .int .i64 0, .int .i64 0]) ?_ 0 _ rfl; (with_reducible repeat (first | refine blk_drewN ?_ _ | refine blk_drew ?_ | refine blk_alloc ?_ _)); exact BK502.out) hb); have n4_ := Aside0.mk (below_step (zL HB.out) hb); clear HO_4; clear HO_5; clear BK500; clear BK502; clear HB; have HO_4 := n0_; have HO_5 := n1_; have BK500 := n2_; have BK502 := n3_; have HB := n4_; clear n0_ n1_ n2_ n3_ n4_; (try clear hb); (try clear hb2); (try clear hk); (try clear hi); have hcz20_0 : w19.cell? ⟨gb502, 0, none⟩ = some (.int .i64 ((rd_T34 l0 x10_1).f0)) := (blk_cell BK502.out 0).trans rfl; have hcz20_1 : w19.cell? ⟨gb502, 1, none⟩ = some (.string ((rd_T34 l0 x10_1).f1)) := (blk_cell BK502.out 1).trans rfl; have hcz20_2 : w19.cell? ⟨gb502, 2, none⟩ = some (.bool ((rd_T34 l0 x10_1).f2)) := (blk_cell BK502.out 2).trans rfl; have hcz20_3 : w19.cell? ⟨gb502, 3, none⟩ = some (.int .i64 ((rd_T34 l0 x10_1).f3)) := (blk_cell BK502.out 3).trans rfl; have hcz20_4 : w19.cell? ⟨gb502, 4, none⟩ = some (.int .i64 ((rd_T34 l0 x10_1).f4)) := (blk_cell BK502.out 4).trans rfl; have hfz20_0 := blk_frozen BK502.out 0; have hfz20_1 := blk_frozen BK502.out 1; have hfz20_2 := blk_frozen BK502.out 2; have hfz20_3 := blk_frozen BK502.out 3; have hfz20_4 := blk_frozen BK502.out 4) | ((with_reducible refine gate_builtin (b := .append) (xs := #[.tmp 21, .tmp 23]) rfl ?_); at_builtin; refine Kd.R_append k34 (w0 := w) w.heap.size rfl (.tmp 21) (.tmp 23) 24 34 (.agg #[(.int .i64 0), (.string ⟨#[]⟩), (.bool false), (.int .i64 0), (.int .i64 0)]) 48 rfl Tryd.underlying24 info34 rfl (by decide) (by omega) u5 x5_1 (⟨(rd_T34 l0 x10_1).f0, (rd_T34 l0 x10_1).f1, (rd_T34 l0 x10_1).f2, (rd_T34 l0 x10_1).f3, (rd_T34 l0 x10_1).f4⟩ : S34) [.int .i64 ((rd_T34 l0 x10_1).f0), .string ((rd_T34 l0 x10_1).f1), .bool ((rd_T34 l0 x10_1).f2), .int .i64 ((rd_T34 l0 x10_1).f3), .int .i64 ((rd_T34 l0 x10_1).f4)] (fun k_ => some k_ ≠ (u4 : Value).ownBlock ∧ k_ ≠ gb502) (fun _ => False) rfl rfl ?aP (fun _ hk => hk.elim) ?aF ?aO ?aB ?aS ?aL ?_; (case aP => exact k34_mkM _ _ _ (⟨(rd_T34 l0 x10_1).f0, (rd_T34 l0 x10_1).f1, (rd_T34 l0 x10_1).f2, (rd_T34 l0 x10_1).f3, (rd_T34 l0 x10_1).f4⟩ : S34)); (case aB => exact (zL HB.out)); (case aF => exact (fun k_ hk => ⟨Kd.fresh' (Kd.R_lt (zR HO_4.out)) k_ hk, Kd.freshB (g := gb502) (o := .cells #[.int .i64 ((rd_T34 l0 x10_1).f0), .string ((rd_T34 l0 x10_1).f1), .bool ((rd_T34 l0 x10_1).f2), .int .i64 ((rd_T34 l0 x10_1).f3), .int .i64 ((rd_T34 l0 x10_1).f4)] 34 (0, 0)) (zK BK502.out) k_ hk⟩)); (case aO => exact (zR HO_5.out)); (case aS => exact (below_size (zL HB.out))); (case aL => have := LMc15.out; omega); intro v508 w21 ho hb hg hat; rw [← Ny507.out] at ho; have n0_ := Aside0.mk (Kd.R_after (ok := (fun k_ => k_ ≠ gb502)) (by (with_reducible repeat (first | apply Kd.R_alloc | apply Kd.R_drewN | apply Kd.R_drew)); exact Kd.R_mono HO_4.out (fun _ hk => ⟨hk.2, hk.1⟩)) hg hat); have n1_ := Aside0.mk (blk_grown (g := g1_0) (o := .cells #[.int .i64 a1_0] 3 (0, 0)) (zK BK500.out) hg (Kd.R_ne HO_5.out BK500.out (by decide))); have n2_ := Aside0.mk (blk_grown (g := gb502) (o := .cells #[.int .i64 ((rd_T34 l0 x10_1).f0), .string ((rd_T34 l0 x10_1).f1), .bool ((rd_T34 l0 x10_1).f2), .int .i64 ((rd_T34 l0 x10_1).f3), .int .i64 ((rd_T34 l0 x10_1).f4)] 34 (0, 0)) (zK BK502.out) hg (Kd.R_away HO_5.out (fun _ hk => hk.2))); have n3_ := Aside0.mk (hb); have n4_ := Aside0.mk (ho); clear HO_4; clear BK500; clear BK502; clear HB; clear HO_5; have HO_4 := n0_; have BK500 := n1_; have BK502 := n2_; have HB := n3_; have HO509 := n4_; clear n0_ n1_ n2_ n3_ n4_; clear ho hb hg hat))
                go_roundg k1
                case measure => have := HK1.out; omega
                case rel => exact ⟨(x4_1), (y507), (wrap64 (x10_1 + 1)), (by first | rfl | (simp; done) | (simp [*]; done)), H', ⟨by have := HK1.out; omega⟩, ⟨by (with_reducible repeat (first | apply Kd.R_alloc | apply Kd.R_drewN | apply Kd.R_drew)); exact Kd.R_mono HO_4.out (fun _ hk => hk.2)⟩, ⟨by (with_reducible repeat (first | apply Kd.R_alloc | apply Kd.R_drewN | apply Kd.R_drew)); exact Kd.R_mono HO509.out (fun _ hk => hk.1)⟩, ⟨zK BK500.out⟩, ⟨zL HB.out⟩⟩
              · rw [if_neg c15] at H
                exact absurd H (by simp)
          · rw [if_neg c5] at H
            exact absurd H (by simp)
        · rw [if_neg c4] at H
          exact absurd H (by simp)
      · rw [if_neg c3] at H
        have c3b0 : decide (x10_1 < (l0.length : Int)) = false := decide_eq_false c3
        clear c3
        simp only [Option.some.injEq, Prod.mk.injEq] at H
        obtain ⟨rfl, rfl⟩ := H
        go_wp2
        go_ret2
        exact ⟨_, _, by first | rfl | (simp [errW_none, errW_some] <;> rfl) | (simp [*, errW_none, errW_some] <;> rfl), by (with_reducible repeat (first | apply Kd.R_alloc | apply Kd.R_drewN | apply Kd.R_drew)); exact HO_4.out, by (with_reducible repeat (first | apply Kd.R_alloc | apply Kd.R_drewN | apply Kd.R_drew)); exact HO_5.out, zL HB.out⟩

/-! ### lease_Leave_2: function 37 -/
def lease_Leave_2.f (a0_0 : Int) (a0_1 : ByteArray) (a0_2 : Bool) (a0_3 : Int) (a1_0 : Int) : Option (Bool) := some (a0_0 == a1_0)
set_option maxHeartbeats 8000000 in
set_option maxRecDepth 100000 in
theorem lease_Leave_2.calls (a0_0 : Int) (a0_1 : ByteArray) (a0_2 : Bool) (a0_3 : Int) (g1_0 : Nat) (a1_0 : Int) (r : Bool) (w : World) (hb1_0 : w.heap[g1_0]? = some (.cells #[.int .i64 a1_0] 3 (0, 0))) (h : lease_Leave_2.f a0_0 a0_1 a0_2 a0_3 a1_0 = some r) :
    Calls Tryd.prog 37 #[.agg #[.int .i64 a0_0, .string a0_1, .bool a0_2, .int .i64 a0_3], .pointer (some ⟨g1_0, 0, none⟩)] w fun e w' => e = .returned (.bool r) ∧ Below w.heap.size w w' := by
  have hu32 := Tryd.underlying32
  have BK527 := Aside0.mk hb1_0
  clear hb1_0
  have HB := Aside0.mk (Below.refl w.heap.size w)
  have H : (some (a0_0 == a1_0)) = some r := h
  clear h
  obtain rfl := Option.some.inj H
  go_enter Tryd.func37, Tryd.ntmps37
  go_wp2_with (first | ((with_reducible refine gate_dst (N := 2) rfl ?_); refine box_event ?hg (N := 2) ?hd (cs := #[.int .i64 a0_0, .string a0_1, .bool a0_2, .int .i64 a0_3]) (t := 32) ?hr ?_; (case hd => rfl); (case hg => rfl); (case hr => first | (go_simp; done) | (go_simp; rfl)); intro gb528 hg w3 hbox hb; have n0_ := Aside0.mk (blk_below (g := g1_0) (o := .cells #[.int .i64 a1_0] 3 (0, 0)) (zK BK527.out) hb); have n1_ := Aside0.mk (below_step (zL HB.out) hb); have n2_ := Aside0.mk (hbox); have n3_ := Aside0.mk (zG hg (zL HB.out)); have n4_ := Aside0.mk (zG hg (zL HB.out)); have n5_ := Aside0.mk (zN (g := g1_0) (o := .cells #[.int .i64 a1_0] 3 (0, 0)) hg (zK BK527.out)); have n6_ := Aside0.mk (zO (g := g1_0) (o := .cells #[.int .i64 a1_0] 3 (0, 0)) hg (zK BK527.out)); clear BK527; clear HB; have BK527 := n0_; have HB := n1_; have BK528 := n2_; have GW528 := n3_; have GE528 := n4_; have NB527_528 := n5_; have NB528_527 := n6_; clear n0_ n1_ n2_ n3_ n4_ n5_ n6_; clear hb hbox hg; have hnb4 := NB528_527.out; have hnc4 := NB527_528.out; have hcz5_0 : w3.cell? ⟨gb528, 0, none⟩ = some (.int .i64 a0_0) := (blk_cell BK528.out 0).trans rfl; have hcz5_1 : w3.cell? ⟨gb528, 1, none⟩ = some (.string a0_1) := (blk_cell BK528.out 1).trans rfl; have hcz5_2 : w3.cell? ⟨gb528, 2, none⟩ = some (.bool a0_2) := (blk_cell BK528.out 2).trans rfl; have hcz5_3 : w3.cell? ⟨gb528, 3, none⟩ = some (.int .i64 a0_3) := (blk_cell BK528.out 3).trans rfl; have hfz5_0 := blk_frozen BK528.out 0; have hfz5_1 := blk_frozen BK528.out 1; have hfz5_2 := blk_frozen BK528.out 2; have hfz5_3 := blk_frozen BK528.out 3; have hcz6_0 : w3.cell? ⟨g1_0, 0, none⟩ = some (.int .i64 a1_0) := (blk_cell BK527.out 0).trans rfl; have hfz6_0 := blk_frozen BK527.out 0))
  go_ret
  exact ⟨by first | rfl | (simp [errW_none, errW_some] <;> rfl) | (simp [*, errW_none, errW_some] <;> rfl), zL HB.out⟩

/-! ### lease_Ask_36_at37: function 36 -/
def lease_Ask_36_at37.l0 : Nat → List (S32) → List (S32) → List (S32) → Int → Int → Int → Option ((List (S32)) × (List (S32)))
  | 0, _, _, _, _, _, _ => none
  | k + 1, x4, x5, x8, x9, x10, x531000 => if x10 < x9 then (if 0 ≤ x10 then (if x10 < (x8.length : Int) then ((lease_Leave_2.f ((rd_T32 x8 x10).f0) ((rd_T32 x8 x10).f1) ((rd_T32 x8 x10).f2) ((rd_T32 x8 x10).f3) x531000).bind fun t533 => (if t533 = true then (if x4.length < 3518437208883 then (lease_Ask_36_at37.l0 k (x4 ++ [(⟨(rd_T32 x8 x10).f0, (rd_T32 x8 x10).f1, (rd_T32 x8 x10).f2, (rd_T32 x8 x10).f3⟩ : S32)]) x5 x8 x9 (wrap64 (x10 + 1)) x531000) else (none)) else (if x5.length < 3518437208883 then (lease_Ask_36_at37.l0 k x4 (x5 ++ [(⟨(rd_T32 x8 x10).f0, (rd_T32 x8 x10).f1, (rd_T32 x8 x10).f2, (rd_T32 x8 x10).f3⟩ : S32)]) x8 x9 (wrap64 (x10 + 1)) x531000) else (none)))) else (none)) else (none)) else (some (x4, x5))
def lease_Ask_36_at37.f (k : Nat) (l0 : List (S32)) (a1_0 : Int) : Option ((List (S32)) × (List (S32))) := lease_Ask_36_at37.l0 k ([] : List (S32)) ([] : List (S32)) l0 (l0.length : Int) 0 a1_0
theorem lease_Ask_36_at37.mono_l : ∀ k, (∀ y0 y1 y2 y3 y4 y5, LeO (lease_Ask_36_at37.l0 k y0 y1 y2 y3 y4 y5) (lease_Ask_36_at37.l0 (k + 1) y0 y1 y2 y3 y4 y5))
  | 0 => fun _ _ _ _ _ _ r h => by simp [lease_Ask_36_at37.l0] at h
  | k + 1 => by
    have ih0 := lease_Ask_36_at37.mono_l k
    · intro y0 y1 y2 y3 y4 y5
      unfold lease_Ask_36_at37.l0
      repeat' first
      | (with_reducible exact ih0 _ _ _ _ _ _)
      | (with_reducible exact LeO.refl _)
      | (with_reducible exact LeO.none _)
      | (with_reducible refine LeO.ite ?_ ?_)
      | (with_reducible refine LeO.bind ?_ (fun _ => ?_))
      | exact ih0 _ _ _ _ _ _
      | exact LeO.none _
      | refine LeO.ite ?_ ?_
      | refine LeO.bind ?_ (fun _ => ?_)
theorem lease_Ask_36_at37.mono : ∀ a0 a1 k, LeO (lease_Ask_36_at37.f k a0 a1) (lease_Ask_36_at37.f (k + 1) a0 a1) := by
  intro a0 a1 k
  have ih0 := lease_Ask_36_at37.mono_l k
  unfold lease_Ask_36_at37.f
  repeat' first
      | (with_reducible exact ih0 _ _ _ _ _ _)
      | (with_reducible exact LeO.refl _)
      | (with_reducible exact LeO.none _)
      | (with_reducible refine LeO.ite ?_ ?_)
      | (with_reducible refine LeO.bind ?_ (fun _ => ?_))
      | exact ih0 _ _ _ _ _ _
      | exact LeO.none _
      | refine LeO.ite ?_ ?_
      | refine LeO.bind ?_ (fun _ => ?_)
set_option maxHeartbeats 8000000 in
set_option maxRecDepth 100000 in
theorem lease_Ask_36_at37.calls (k : Nat) (A0 : Option Addr) (c0 : Nat) (l0 : List (S32)) (g1_0 : Nat) (a1_0 : Int) (r1 : List (S32)) (r2 : List (S32)) (w : World) (hr0 : Kd.C k32 w A0 l0.length l0) (hc0 : l0.length ≤ c0) (hb1_0 : w.heap[g1_0]? = some (.cells #[.int .i64 a1_0] 3 (0, 0))) (h : lease_Ask_36_at37.f k l0 a1_0 = some (r1, r2)) :
    Calls Tryd.prog 36 #[.slice A0 l0.length c0, .func (.func 37) #[] #[.pointer (some ⟨g1_0, 0, none⟩)]] w fun e w' => ∃ v0_ v1_ : Value, e = .returned (.tuple #[v0_, v1_]) ∧ Kd.R k32 32 w' w.heap.size (fun k_ => some k_ ≠ (v1_ : Value).ownBlock) v0_ r1 ∧ Kd.R k32 32 w' w.heap.size (fun k_ => some k_ ≠ (v0_ : Value).ownBlock) v1_ r2 ∧ Below w.heap.size w w' := by
  have hu32 := Tryd.underlying32
  have HR0 := Aside0.mk hr0
  have HC0 := Aside0.mk hc0
  clear hr0 hc0
  have BK530 := Aside0.mk hb1_0
  clear hb1_0
  have HB := Aside0.mk (Below.refl w.heap.size w)
  have H : (lease_Ask_36_at37.l0 k ([] : List (S32)) ([] : List (S32)) l0 (l0.length : Int) 0 a1_0) = some (r1, r2) := h
  clear h
  have H' := Aside0.mk H
  clear H
  go_enter Tryd.func36, Tryd.ntmps36
  go_wp2
  go_loopg [4, 5, 10] k (fun kq v4 v5 v10 w' => ∃ (x4_1 : List (S32)) (x5_1 : List (S32)) (x10_1 : Int), v10 = .int .i64 x10_1 ∧ Aside0 (lease_Ask_36_at37.l0 kq x4_1 x5_1 l0 (l0.length : Int) x10_1 a1_0 = some (r1, r2)) ∧ Aside0 (kq ≤ k) ∧ Aside0 (Kd.R k32 32 w' w.heap.size (fun k_ => some k_ ≠ (v5 : Value).ownBlock) v4 x4_1) ∧ Aside0 (Kd.R k32 32 w' w.heap.size (fun k_ => some k_ ≠ (v4 : Value).ownBlock) v5 x5_1) ∧ Aside0 (w'.heap[g1_0]? = some (.cells #[.int .i64 a1_0] 3 (0, 0))) ∧ Aside0 (Below w.heap.size w w'))
  case atStart => exact ⟨(([] : List (S32))), (([] : List (S32))), (0), (by first | rfl | (simp; done) | (simp [*]; done)), H', ⟨Nat.le_refl _⟩, ⟨by first | exact Kd.R_nil _ _ _ _ _ | exact Kd.N_nil _ _ _ _ _ | exact Kd.V_nil _ _ _ _ _ | exact Kd.Q_nil _ _ _ _ _ | exact Kd.S_nil _ _ _ _ _⟩, ⟨by first | exact Kd.R_nil _ _ _ _ _ | exact Kd.N_nil _ _ _ _ _ | exact Kd.V_nil _ _ _ _ _ | exact Kd.Q_nil _ _ _ _ _ | exact Kd.S_nil _ _ _ _ _⟩, ⟨zK BK530.out⟩, ⟨zL HB.out⟩⟩
  case round =>
    clear H'
    try clear p2
    obtain ⟨x4_1, x5_1, x10_1, rfl, HA, HK1, HO_4, HO_5, BK530, HB⟩ := hrel
    cases gk with
    | zero => exact absurd HA.out (by simp [lease_Ask_36_at37.l0])
    | succ k1 =>
      have H := HA.out
      clear HA
      simp only [lease_Ask_36_at37.l0] at H
      by_cases c3 : x10_1 < (l0.length : Int)
      · rw [if_pos c3] at H
        have c3b0 : decide (x10_1 < (l0.length : Int)) = true := decide_eq_true c3
        clear c3
        by_cases c4 : 0 ≤ x10_1
        · rw [if_pos c4] at H
          have c4b0 : decide (0 ≤ x10_1) = true := decide_eq_true c4
          clear c4
          by_cases c5 : x10_1 < (l0.length : Int)
          · rw [if_pos c5] at H
            have c5b0 : decide (x10_1 < (l0.length : Int)) = true := decide_eq_true c5
            clear c5
            replace H := Option.bind_eq_some_iff.mp H
            obtain ⟨t533, A60, H⟩ := H
            replace H : (if t533 = true then (if x4_1.length < 3518437208883 then (lease_Ask_36_at37.l0 k1 (x4_1 ++ [(⟨(rd_T32 l0 x10_1).f0, (rd_T32 l0 x10_1).f1, (rd_T32 l0 x10_1).f2, (rd_T32 l0 x10_1).f3⟩ : S32)]) x5_1 l0 (l0.length : Int) (wrap64 (x10_1 + 1)) a1_0) else (none)) else (if x5_1.length < 3518437208883 then (lease_Ask_36_at37.l0 k1 x4_1 (x5_1 ++ [(⟨(rd_T32 l0 x10_1).f0, (rd_T32 l0 x10_1).f1, (rd_T32 l0 x10_1).f2, (rd_T32 l0 x10_1).f3⟩ : S32)]) l0 (l0.length : Int) (wrap64 (x10_1 + 1)) a1_0) else (none))) = some (r1, r2) := H
            have A6 := Aside0.mk A60
            clear A60
            by_cases c7 : t533 = true
            · subst c7
              have H1 : (if x4_1.length < 3518437208883 then (lease_Ask_36_at37.l0 k1 (x4_1 ++ [(⟨(rd_T32 l0 x10_1).f0, (rd_T32 l0 x10_1).f1, (rd_T32 l0 x10_1).f2, (rd_T32 l0 x10_1).f3⟩ : S32)]) x5_1 l0 (l0.length : Int) (wrap64 (x10_1 + 1)) a1_0) else (none)) = some (r1, r2) := by rw [if_pos rfl] at H; exact H
              clear H
              have H := H1
              clear H1
              by_cases c8 : x4_1.length < 3518437208883
              · rw [if_pos c8] at H
                have LMc8 := Aside0.mk c8
                clear c8
                obtain ⟨y534, hy534⟩ : ∃ y_ : List (S32), y_ = (x4_1 ++ [(⟨(rd_T32 l0 x10_1).f0, (rd_T32 l0 x10_1).f1, (rd_T32 l0 x10_1).f2, (rd_T32 l0 x10_1).f3⟩ : S32)]) := ⟨_, rfl⟩
                replace H : (lease_Ask_36_at37.l0 k1 y534 x5_1 l0 (l0.length : Int) (wrap64 (x10_1 + 1)) a1_0) = some (r1, r2) := zH hy534 H
                have Ny534 := Aside0.mk hy534
                clear hy534
                have H' := Aside0.mk H
                clear H
                have p531 : 0 ≤ (x10_1 : Int) := of_decide_eq_true (by first | (with_reducible assumption) | assumption)
                have q531 : x10_1 < (l0.length : Int) := of_decide_eq_true (by first | (with_reducible assumption) | assumption)
                obtain ⟨ad531, e531, hx531_0, hx531_1, hx531_2, hx531_3⟩ := at_T32 HR0.out x10_1 p531 q531
                cases e531
                replace hx531_0 := (HB.out.cell (World.block_lt_of_cell? w _ hx531_0)).trans hx531_0
                replace hx531_1 := (HB.out.cell (World.block_lt_of_cell? w _ hx531_1)).trans hx531_1
                replace hx531_2 := (HB.out.cell (World.block_lt_of_cell? w _ hx531_2)).trans hx531_2
                replace hx531_3 := (HB.out.cell (World.block_lt_of_cell? w _ hx531_3)).trans hx531_3
                replace p531 := eq_true p531
                replace q531 := eq_true q531
                go_wp2_with (first | ((with_reducible refine gate_dst (N := 7) rfl ?_); refine box_event ?hg (N := 7) ?hd (cs := #[.int .i64 0, .string (⟨#[]⟩ : ByteArray), .bool false, .int .i64 0]) (t := 32) ?hr ?_; (case hd => rfl); (case hg => rfl); (case hr => first | (go_simp; done) | (go_simp; rfl)); intro gb532 hg w9 hbox hb; have n0_ := Aside0.mk (Kd.R_below (Kd.R_elderB (zR HO_4.out) gb532 (Nat.le_of_eq hg.symm)) hb); have n1_ := Aside0.mk (Kd.R_below (Kd.R_elderB (zR HO_5.out) gb532 (Nat.le_of_eq hg.symm)) hb); have n2_ := Aside0.mk (blk_below (g := g1_0) (o := .cells #[.int .i64 a1_0] 3 (0, 0)) (zK BK530.out) hb); have n3_ := Aside0.mk (below_step (zL HB.out) hb); have n4_ := Aside0.mk (hbox); have n5_ := Aside0.mk (zG hg (zL HB.out)); have n6_ := Aside0.mk (zG hg (zL HB.out)); have n7_ := Aside0.mk (zN (g := g1_0) (o := .cells #[.int .i64 a1_0] 3 (0, 0)) hg (zK BK530.out)); have n8_ := Aside0.mk (zO (g := g1_0) (o := .cells #[.int .i64 a1_0] 3 (0, 0)) hg (zK BK530.out)); clear HO_4; clear HO_5; clear BK530; clear HB; have HO_4 := n0_; have HO_5 := n1_; have BK530 := n2_; have HB := n3_; have BK532 := n4_; have GW532 := n5_; have GE532 := n6_; have NB530_532 := n7_; have NB532_530 := n8_; clear n0_ n1_ n2_ n3_ n4_ n5_ n6_ n7_ n8_; clear hb hbox hg; have hnb10 := NB532_530.out; have hnc10 := NB530_532.out; have hcz11_0 : w9.cell? ⟨gb532, 0, none⟩ = some (.int .i64 0) := (blk_cell BK532.out 0).trans rfl; have hcz11_1 : w9.cell? ⟨gb532, 1, none⟩ = some (.string (⟨#[]⟩ : ByteArray)) := (blk_cell BK532.out 1).trans rfl; have hcz11_2 : w9.cell? ⟨gb532, 2, none⟩ = some (.bool false) := (blk_cell BK532.out 2).trans rfl; have hcz11_3 : w9.cell? ⟨gb532, 3, none⟩ = some (.int .i64 0) := (blk_cell BK532.out 3).trans rfl; have hfz11_0 := blk_frozen BK532.out 0; have hfz11_1 := blk_frozen BK532.out 1; have hfz11_2 := blk_frozen BK532.out 2; have hfz11_3 := blk_frozen BK532.out 3) | (go_at_call 37; (with_reducible refine (lease_Leave_2.calls ((rd_T32 l0 x10_1).f0) ((rd_T32 l0 x10_1).f1) ((rd_T32 l0 x10_1).f2) ((rd_T32 l0 x10_1).f3) g1_0 a1_0 true _ ?side1 A6.out).mono ?_); (case side1 => exact zK BK530.out); rintro e w12 ⟨rfl, hb⟩; have n0_ := Aside0.mk (Kd.R_below (zM HO_4.out (g := gb532) (fun _ hk => hk.2)) hb); have n1_ := Aside0.mk (Kd.R_below (zM HO_5.out (g := gb532) (fun _ hk => hk.2)) hb); have n2_ := Aside0.mk (blk_below (g := g1_0) (o := .cells #[.int .i64 a1_0] 3 (0, 0)) (zK BK530.out) hb); have n3_ := Aside0.mk (blk_below (g := gb532) (o := .cells #[.int .i64 ((rd_T32 l0 x10_1).f0), .string ((rd_T32 l0 x10_1).f1), .bool ((rd_T32 l0 x10_1).f2), .int .i64 ((rd_T32 l0 x10_1).f3)] 32 (0, 0)) (by (with_reducible repeat (first | refine blk_drewN ?_ _ | refine blk_drew ?_ | refine blk_alloc ?_ _)); refine blk_put (cs := #[.int .i64 ((rd_T32 l0 x10_1).f0), .string ((rd_T32 l0 x10_1).f1), .bool ((rd_T32 l0 x10_1).f2), .int .i64 0]) ?_ 3 _ rfl; (with_reducible repeat (first | refine blk_drewN ?_ _ | refine blk_drew ?_ | refine blk_alloc ?_ _)); refine blk_put (cs := #[.int .i64 ((rd_T32 l0 x10_1).f0), .string ((rd_T32 l0 x10_1).f1), .bool false, .int .i64 0]) ?_ 2 _ rfl; (with_reducible repeat (first | refine blk_drewN ?_ _ | refine blk_drew ?_ | refine blk_alloc ?_ _)); refine blk_put (cs := #[.int .i64 ((rd_T32 l0 x10_1).f0), .string (⟨#[]⟩ : ByteArray), .bool false, .int .i64 0]) ?_ 1 _ rfl; (with_reducible repeat (first | refine blk_drewN ?_ _ | refine blk_drew ?_ | refine blk_alloc ?_ _)); refine blk_put (cs := #[.int .i64 0, .string (⟨#[]⟩ : ByteArray), .bool false, .int .i64 0]) ?_ 0 _ rfl; (with_reducible repeat (first | refine blk_drewN ?_ _ | refine blk_drew ?_ | refine blk_alloc ?_ _)); exact BK532.out) hb); have n4_ := Aside0.mk (below_step (zL HB.out) hb); clear HO_4; clear HO_5; clear BK530; clear BK532; clear HB; have HO_4 := n0_; have HO_5 := n1_; have BK530 := n2_; have BK532 := n3_; have HB := n4_; clear n0_ n1_ n2_ n3_ n4_; (try clear hb); (try clear hb2); (try clear hk); (try clear hi); have hcz13_0 : w12.cell? ⟨gb532, 0, none⟩ = some (.int .i64 ((rd_T32 l0 x10_1).f0)) := (blk_cell BK532.out 0).trans rfl; have hcz13_1 : w12.cell? ⟨gb532, 1, none⟩ = some (.string ((rd_T32 l0 x10_1).f1)) := (blk_cell BK532.out 1).trans rfl; have hcz13_2 : w12.cell? ⟨gb532, 2, none⟩ = some (.bool ((rd_T32 l0 x10_1).f2)) := (blk_cell BK532.out 2).trans rfl; have hcz13_3 : w12.cell? ⟨gb532, 3, none⟩ = some (.int .i64 ((rd_T32 l0 x10_1).f3)) := (blk_cell BK532.out 3).trans rfl; have hfz13_0 := blk_frozen BK532.out 0; have hfz13_1 := blk_frozen BK532.out 1; have hfz13_2 := blk_frozen BK532.out 2; have hfz13_3 := blk_frozen BK532.out 3) | ((with_reducible refine gate_builtin (b := .append) (xs := #[.tmp 17, .tmp 19]) rfl ?_); at_builtin; refine Kd.R_append k32 (w0 := w) w.heap.size rfl (.tmp 17) (.tmp 19) 25 32 (.agg #[(.int .i64 0), (.string ⟨#[]⟩), (.bool false), (.int .i64 0)]) 40 rfl Tryd.underlying25 info32 rfl (by decide) (by omega) u4 x4_1 (⟨(rd_T32 l0 x10_1).f0, (rd_T32 l0 x10_1).f1, (rd_T32 l0 x10_1).f2, (rd_T32 l0 x10_1).f3⟩ : S32) [.int .i64 ((rd_T32 l0 x10_1).f0), .string ((rd_T32 l0 x10_1).f1), .bool ((rd_T32 l0 x10_1).f2), .int .i64 ((rd_T32 l0 x10_1).f3)] (fun k_ => some k_ ≠ (u5 : Value).ownBlock ∧ k_ ≠ gb532) (fun _ => False) rfl rfl ?aP (fun _ hk => hk.elim) ?aF ?aO ?aB ?aS ?aL ?_; (case aP => exact k32_mkM _ _ _ (⟨(rd_T32 l0 x10_1).f0, (rd_T32 l0 x10_1).f1, (rd_T32 l0 x10_1).f2, (rd_T32 l0 x10_1).f3⟩ : S32)); (case aB => exact (zL HB.out)); (case aF => exact (fun k_ hk => ⟨Kd.fresh' (Kd.R_lt (zR HO_5.out)) k_ hk, Kd.freshB (g := gb532) (o := .cells #[.int .i64 ((rd_T32 l0 x10_1).f0), .string ((rd_T32 l0 x10_1).f1), .bool ((rd_T32 l0 x10_1).f2), .int .i64 ((rd_T32 l0 x10_1).f3)] 32 (0, 0)) (zK BK532.out) k_ hk⟩)); (case aO => exact (zR HO_4.out)); (case aS => exact (below_size (zL HB.out))); (case aL => have := LMc8.out; omega); intro v535 w14 ho hb hg hat; rw [← Ny534.out] at ho; have n0_ := Aside0.mk (Kd.R_after (ok := (fun k_ => k_ ≠ gb532)) (by (with_reducible repeat (first | apply Kd.R_alloc | apply Kd.R_drewN | apply Kd.R_drew)); exact Kd.R_mono HO_5.out (fun _ hk => ⟨hk.2, hk.1⟩)) hg hat); have n1_ := Aside0.mk (blk_grown (g := g1_0) (o := .cells #[.int .i64 a1_0] 3 (0, 0)) (zK BK530.out) hg (Kd.R_ne HO_4.out BK530.out (by decide))); have n2_ := Aside0.mk (blk_grown (g := gb532) (o := .cells #[.int .i64 ((rd_T32 l0 x10_1).f0), .string ((rd_T32 l0 x10_1).f1), .bool ((rd_T32 l0 x10_1).f2), .int .i64 ((rd_T32 l0 x10_1).f3)] 32 (0, 0)) (zK BK532.out) hg (Kd.R_away HO_4.out (fun _ hk => hk.2))); have n3_ := Aside0.mk (hb); have n4_ := Aside0.mk (ho); clear HO_5; clear BK530; clear BK532; clear HB; clear HO_4; have HO_5 := n0_; have BK530 := n1_; have BK532 := n2_; have HB := n3_; have HO536 := n4_; clear n0_ n1_ n2_ n3_ n4_; clear ho hb hg hat))
                go_roundg k1
                case measure => have := HK1.out; omega
                case rel => exact ⟨(y534), (x5_1), (wrap64 (x10_1 + 1)), (by first | rfl | (simp; done) | (simp [*]; done)), H', ⟨by have := HK1.out; omega⟩, ⟨by (with_reducible repeat (first | apply Kd.R_alloc | apply Kd.R_drewN | apply Kd.R_drew)); exact Kd.R_mono HO536.out (fun _ hk => hk.1)⟩, ⟨by (with_reducible repeat (first | apply Kd.R_alloc | apply Kd.R_drewN | apply Kd.R_drew)); exact Kd.R_mono HO_5.out (fun _ hk => hk.2)⟩, ⟨zK BK530.out⟩, ⟨zL HB.out⟩⟩
              · rw [if_neg c8] at H
                exact absurd H (by simp)
            · replace c7 := Bool.eq_false_iff.mpr c7
              subst c7
              have H1 : (if x5_1.length < 3518437208883 then (lease_Ask_36_at37.l0 k1 x4_1 (x5_1 ++ [(⟨(rd_T32 l0 x10_1).f0, (rd_T32 l0 x10_1).f1, (rd_T32 l0 x10_1).f2, (rd_T32 l0 x10_1).f3⟩ : S32)]) l0 (l0.length : Int) (wrap64 (x10_1 + 1)) a1_0) else (none)) = some (r1, r2) := by rw [if_neg (show ¬ (false = true) by decide)] at H; exact H
              clear H
              have H := H1
              clear H1
              by_cases c15 : x5_1.length < 3518437208883
              · rw [if_pos c15] at H
                have LMc15 := Aside0.mk c15
                clear c15
                obtain ⟨y537, hy537⟩ : ∃ y_ : List (S32), y_ = (x5_1 ++ [(⟨(rd_T32 l0 x10_1).f0, (rd_T32 l0 x10_1).f1, (rd_T32 l0 x10_1).f2, (rd_T32 l0 x10_1).f3⟩ : S32)]) := ⟨_, rfl⟩
                replace H : (lease_Ask_36_at37.l0 k1 x4_1 y537 l0 (l0.length : Int) (wrap64 (x10_1 + 1)) a1_0) = some (r1, r2) := zH hy537 H
                have Ny537 := Aside0.mk hy537
                clear hy537
                have H' := Aside0.mk H
                clear H
                have p531 : 0 ≤ (x10_1 : Int) := of_decide_eq_true (by first | (with_reducible assumption) | assumption)
                have q531 : x10_1 < (l0.length : Int) := of_decide_eq_true (by first | (with_reducible assumption) | assumption)
                obtain ⟨ad531, e531, hx531_0, hx531_1, hx531_2, hx531_3⟩ := at_T32 HR0.out x10_1 p531 q531
                cases e531
                replace hx531_0 := (HB.out.cell (World.block_lt_of_cell? w _ hx531_0)).trans hx531_0
                replace hx531_1 := (HB.out.cell (World.block_lt_of_cell? w _ hx531_1)).trans hx531_1
                replace hx531_2 := (HB.out.cell (World.block_lt_of_cell? w _ hx531_2)).trans hx531_2
                replace hx531_3 := (HB.out.cell (World.block_lt_of_cell? w _ hx531_3)).trans hx531_3
                replace p531 := eq_true p531
                replace q531 := eq_true q531
                go_wp2_with (first | ((with_reducible refine gate_dst (N := 7) rfl ?_); refine box_event ?hg (N := 7) ?hd (cs := #[.int .i64 0, .string (⟨#[]⟩ : ByteArray), .bool false, .int .i64 0]) (t := 32) ?hr ?_; (case hd => rfl); (case hg => rfl); (case hr => first | (go_simp; done) | (go_simp; rfl)); intro gb532 hg w16 hbox hb; have n0_ := Aside0.mk (Kd.R_below (Kd.R_elderB (zR HO_4.out) gb532 (Nat.le_of_eq hg.symm)) hb); have n1_ := Aside0.mk (Kd.R_below (Kd.R_elderB (zR HO_5.out) gb532 (Nat.le_of_eq hg.symm)) hb); have n2_ := Aside0.mk (blk_below (g := g1_0) (o := .cells #[.int .i64 a1_0] 3 (0, 0)) (zK BK530.out) hb); have n3_ := Aside0.mk (below_step (zL HB.out) hb); have n4_ := Aside0.mk (hbox); have n5_ := Aside0.mk (zG hg (zL HB.out)); have n6_ := Aside0.mk (zG hg (zL HB.out)); have n7_ := Aside0.mk (zN (g := g1_0) (o := .cells #[.int .i64 a1_0] 3 (0, 0)) hg (zK BK530.out)); have n8_ := Aside0.mk (zO (g := g1_0) (o := .cells #[.int .i64 a1_0] 3 (0, 0)) hg (zK BK530.out)); clear HO_4; clear HO_5; clear BK530; clear HB; have HO_4 := n0_; have HO_5 := n1_; have BK530 := n2_; have HB := n3_; have BK532 := n4_; have GW532 := n5_; have GE532 := n6_; have NB530_532 := n7_; have NB532_530 := n8_; clear n0_ n1_ n2_ n3_ n4_ n5_ n6_ n7_ n8_; clear hb hbox hg; have hnb17 := NB532_530.out; have hnc17 := NB530_532.out; have hcz18_0 : w16.cell? ⟨gb532, 0, none⟩ = some (.int .i64 0) := (blk_cell BK532.out 0).trans rfl; have hcz18_1 : w16.cell? ⟨gb532, 1, none⟩ = some (.string (⟨#[]⟩ : ByteArray)) := (blk_cell BK532.out 1).trans rfl; have hcz18_2 : w16.cell? ⟨gb532, 2, none⟩ = some (.bool false) := (blk_cell BK532.out 2).trans rfl; have hcz18_3 : w16.cell? ⟨gb532, 3, none⟩ = some (.int .i64 0) := (blk_cell BK532.out 3).trans rfl; have hfz18_0 := blk_frozen BK532.out 0; have hfz18_1 := blk_frozen BK532.out 1; have hfz18_2 := blk_frozen BK532.out 2; have hfz18_3 := blk_frozen BK532.out 3) | (go_at_call 37; (with_reducible refine (lease_Leave_2.calls ((rd_T32 l0 x10_1).f0) ((rd_T32 l0 x10_1).f1) ((rd_T32 l0 x10_1).f2) ((rd_T32 l0 x10_1).f3) g1_0 a1_0 false _ ?side1 A6.out).mono ?_); (case side1 => exact zK BK530.out); rintro e w19 ⟨rfl, hb⟩; have n0_ := Aside0.mk (Kd.R_below (zM HO_4.out (g := gb532) (fun _ hk => hk.2)) hb); have n1_ := Aside0.mk (Kd.R_below (zM HO_5.out (g := gb532) (fun _ hk => hk.2)) hb); have n2_ := Aside0.mk (blk_below (g := g1_0) (o := .cells #[.int .i64 a1_0] 3 (0, 0)) (zK BK530.out) hb); have n3_ := Aside0.mk (blk_below (g := gb532) (o := .cells #[.int .i64 ((rd_T32 l0 x10_1).f0), .string ((rd_T32 l0 x10_1).f1), .bool ((rd_T32 l0 x10_1).f2), .int .i64 ((rd_T32 l0 x10_1).f3)] 32 (0, 0)) (by (with_reducible repeat (first | refine blk_drewN ?_ _ | refine blk_drew ?_ | refine blk_alloc ?_ _)); refine blk_put (cs := #[.int .i64 ((rd_T32 l0 x10_1).f0), .string ((rd_T32 l0 x10_1).f1), .bool ((rd_T32 l0 x10_1).f2), .int .i64 0]) ?_ 3 _ rfl; (with_reducible repeat (first | refine blk_drewN ?_ _ | refine blk_drew ?_ | refine blk_alloc ?_ _)); refine blk_put (cs := #[.int .i64 ((rd_T32 l0 x10_1).f0), .string ((rd_T32 l0 x10_1).f1), .bool false, .int .i64 0]) ?_ 2 _ rfl; (with_reducible repeat (first | refine blk_drewN ?_ _ | refine blk_drew ?_ | refine blk_alloc ?_ _)); refine blk_put (cs := #[.int .i64 ((rd_T32 l0 x10_1).f0), .string (⟨#[]⟩ : ByteArray), .bool false, .int .i64 0]) ?_ 1 _ rfl; (with_reducible repeat (first | refine blk_drewN ?_ _ | refine blk_drew ?_ | refine blk_alloc ?_ _)); refine blk_put (cs := #[.int .i64 0, .string (⟨#[]⟩ : ByteArray), .bool false, .int .i64 0]) ?_ 0 _ rfl; (with_reducible repeat (first | refine blk_drewN ?_ _ | refine blk_drew ?_ | refine blk_alloc ?_ _)); exact BK532.out) hb); have n4_ := Aside0.mk (below_step (zL HB.out) hb); clear HO_4; clear HO_5; clear BK530; clear BK532; clear HB; have HO_4 := n0_; have HO_5 := n1_; have BK530 := n2_; have BK532 := n3_; have HB := n4_; clear n0_ n1_ n2_ n3_ n4_; (try clear hb); (try clear hb2); (try clear hk); (try clear hi); have hcz20_0 : w19.cell? ⟨gb532, 0, none⟩ = some (.int .i64 ((rd_T32 l0 x10_1).f0)) := (blk_cell BK532.out 0).trans rfl; have hcz20_1 : w19.cell? ⟨gb532, 1, none⟩ = some (.string ((rd_T32 l0 x10_1).f1)) := (blk_cell BK532.out 1).trans rfl; have hcz20_2 : w19.cell? ⟨gb532, 2, none⟩ = some (.bool ((rd_T32 l0 x10_1).f2)) := (blk_cell BK532.out 2).trans rfl; have hcz20_3 : w19.cell? ⟨gb532, 3, none⟩ = some (.int .i64 ((rd_T32 l0 x10_1).f3)) := (blk_cell BK532.out 3).trans rfl; have hfz20_0 := blk_frozen BK532.out 0; have hfz20_1 := blk_frozen BK532.out 1; have hfz20_2 := blk_frozen BK532.out 2; have hfz20_3 := blk_frozen BK532.out 3) | ((with_reducible refine gate_builtin (b := .append) (xs := #[.tmp 21, .tmp 23]) rfl ?_); at_builtin; refine Kd.R_append k32 (w0 := w) w.heap.size rfl (.tmp 21) (.tmp 23) 25 32 (.agg #[(.int .i64 0), (.string ⟨#[]⟩), (.bool false), (.int .i64 0)]) 40 rfl Tryd.underlying25 info32 rfl (by decide) (by omega) u5 x5_1 (⟨(rd_T32 l0 x10_1).f0, (rd_T32 l0 x10_1).f1, (rd_T32 l0 x10_1).f2, (rd_T32 l0 x10_1).f3⟩ : S32) [.int .i64 ((rd_T32 l0 x10_1).f0), .string ((rd_T32 l0 x10_1).f1), .bool ((rd_T32 l0 x10_1).f2), .int .i64 ((rd_T32 l0 x10_1).f3)] (fun k_ => some k_ ≠ (u4 : Value).ownBlock ∧ k_ ≠ gb532) (fun _ => False) rfl rfl ?aP (fun _ hk => hk.elim) ?aF ?aO ?aB ?aS ?aL ?_; (case aP => exact k32_mkM _ _ _ (⟨(rd_T32 l0 x10_1).f0, (rd_T32 l0 x10_1).f1, (rd_T32 l0 x10_1).f2, (rd_T32 l0 x10_1).f3⟩ : S32)); (case aB => exact (zL HB.out)); (case aF => exact (fun k_ hk => ⟨Kd.fresh' (Kd.R_lt (zR HO_4.out)) k_ hk, Kd.freshB (g := gb532) (o := .cells #[.int .i64 ((rd_T32 l0 x10_1).f0), .string ((rd_T32 l0 x10_1).f1), .bool ((rd_T32 l0 x10_1).f2), .int .i64 ((rd_T32 l0 x10_1).f3)] 32 (0, 0)) (zK BK532.out) k_ hk⟩)); (case aO => exact (zR HO_5.out)); (case aS => exact (below_size (zL HB.out))); (case aL => have := LMc15.out; omega); intro v538 w21 ho hb hg hat; rw [← Ny537.out] at ho; have n0_ := Aside0.mk (Kd.R_after (ok := (fun k_ => k_ ≠ gb532)) (by (with_reducible repeat (first | apply Kd.R_alloc | apply Kd.R_drewN | apply Kd.R_drew)); exact Kd.R_mono HO_4.out (fun _ hk => ⟨hk.2, hk.1⟩)) hg hat); have n1_ := Aside0.mk (blk_grown (g := g1_0) (o := .cells #[.int .i64 a1_0] 3 (0, 0)) (zK BK530.out) hg (Kd.R_ne HO_5.out BK530.out (by decide))); have n2_ := Aside0.mk (blk_grown (g := gb532) (o := .cells #[.int .i64 ((rd_T32 l0 x10_1).f0), .string ((rd_T32 l0 x10_1).f1), .bool ((rd_T32 l0 x10_1).f2), .int .i64 ((rd_T32 l0 x10_1).f3)] 32 (0, 0)) (zK BK532.out) hg (Kd.R_away HO_5.out (fun _ hk => hk.2))); have n3_ := Aside0.mk (hb); have n4_ := Aside0.mk (ho); clear HO_4; clear BK530; clear BK532; clear HB; clear HO_5; have HO_4 := n0_; have BK530 := n1_; have BK532 := n2_; have HB := n3_; have HO539 := n4_; clear n0_ n1_ n2_ n3_ n4_; clear ho hb hg hat))
                go_roundg k1
                case measure => have := HK1.out; omega
                case rel => exact ⟨(x4_1), (y537), (wrap64 (x10_1 + 1)), (by first | rfl | (simp; done) | (simp [*]; done)), H', ⟨by have := HK1.out; omega⟩, ⟨by (with_reducible repeat (first | apply Kd.R_alloc | apply Kd.R_drewN | apply Kd.R_drew)); exact Kd.R_mono HO_4.out (fun _ hk => hk.2)⟩, ⟨by (with_reducible repeat (first | apply Kd.R_alloc | apply Kd.R_drewN | apply Kd.R_drew)); exact Kd.R_mono HO539.out (fun _ hk => hk.1)⟩, ⟨zK BK530.out⟩, ⟨zL HB.out⟩⟩
              · rw [if_neg c15] at H
                exact absurd H (by simp)
          · rw [if_neg c5] at H
            exact absurd H (by simp)
        · rw [if_neg c4] at H
          exact absurd H (by simp)
      · rw [if_neg c3] at H
        have c3b0 : decide (x10_1 < (l0.length : Int)) = false := decide_eq_false c3
        clear c3
        simp only [Option.some.injEq, Prod.mk.injEq] at H
        obtain ⟨rfl, rfl⟩ := H
        go_wp2
        go_ret2
        exact ⟨_, _, by first | rfl | (simp [errW_none, errW_some] <;> rfl) | (simp [*, errW_none, errW_some] <;> rfl), by (with_reducible repeat (first | apply Kd.R_alloc | apply Kd.R_drewN | apply Kd.R_drew)); exact HO_4.out, by (with_reducible repeat (first | apply Kd.R_alloc | apply Kd.R_drewN | apply Kd.R_drew)); exact HO_5.out, zL HB.out⟩

/-! ### lease_Leave: function 15 -/
def lease_Leave.f (k : Nat) (a0_0 : Int) (l0_1 : List (S34)) (l0_2 : List (S32)) (a1 : Int) (a2 : Int) : Option (Int × (List (S34)) × (List (S32))) := (lease_time.f a2).bind fun t490 => (if t490 = true then ((lease_Lease_31_at35.f k l0_1 a1).bind fun bt492 => ((lease_Ask_36_at37.f k l0_2 a1).bind fun bt499 => ((lease_Table_settle.f k a0_0 bt492.2 bt499.2 a2).bind fun bt505 => (some (bt505.1, bt505.2.1, bt505.2.2))))) else (some (a0_0, l0_1, l0_2)))
theorem lease_Leave.mono : ∀ a0 a1 a2 a3 a4 k, LeO (lease_Leave.f k a0 a1 a2 a3 a4) (lease_Leave.f (k + 1) a0 a1 a2 a3 a4) := by
  intro a0 a1 a2 a3 a4 k
  unfold lease_Leave.f
  repeat' first
      | (with_reducible exact lease_Ask_36_at37.mono _ _ _)
      | (with_reducible exact lease_Lease_31_at35.mono _ _ _)
      | (with_reducible exact lease_Table_settle.mono _ _ _ _ _)
      | (with_reducible exact LeO.refl _)
      | (with_reducible exact LeO.none _)
      | (with_reducible refine LeO.ite ?_ ?_)
      | (with_reducible refine LeO.bind ?_ (fun _ => ?_))
      | exact lease_Ask_36_at37.mono _ _ _
      | exact lease_Lease_31_at35.mono _ _ _
      | exact lease_Table_settle.mono _ _ _ _ _
      | exact LeO.none _
      | refine LeO.ite ?_ ?_
      | refine LeO.bind ?_ (fun _ => ?_)
set_option maxHeartbeats 8000000 in
set_option maxRecDepth 100000 in
theorem lease_Leave.calls (k : Nat) (a0_0 : Int) (P0_1_ : Nat → Prop) (A0_1 : Option Addr) (c0_1 : Nat) (l0_1 : List (S34)) (P0_2_ : Nat → Prop) (A0_2 : Option Addr) (c0_2 : Nat) (l0_2 : List (S32)) (a1 : Int) (a2 : Int) (r1 : Int) (r2 : List (S34)) (r3 : List (S32)) (w : World) (hs0_1 : Kd.V k34 34 w w.heap.size (fun k_ => P0_1_ k_) (.slice A0_1 l0_1.length c0_1) l0_1) (hs0_2 : Kd.V k32 32 w w.heap.size (fun k_ => P0_2_ k_) (.slice A0_2 l0_2.length c0_2) l0_2) (h : lease_Leave.f k a0_0 l0_1 l0_2 a1 a2 = some (r1, r2, r3)) :
    Calls Tryd.prog 15 #[.agg #[.int .i64 a0_0, .slice A0_1 l0_1.length c0_1, .slice A0_2 l0_2.length c0_2], .int .i64 a1, .int .i64 a2] w fun e w' => ∃ v1_ v2_ : Value, e = .returned (.agg #[.int .i64 r1, v1_, v2_]) ∧ Kd.V k34 34 w' w.heap.size (fun k_ => ((P0_1_ k_ ∨ P0_2_ k_) ∨ w.heap.size ≤ k_)) v1_ r2 ∧ Kd.V k32 32 w' w.heap.size (fun k_ => ((P0_1_ k_ ∨ P0_2_ k_) ∨ w.heap.size ≤ k_)) v2_ r3 ∧ Below w.heap.size w w' := by
  have hu27 := Tryd.underlying27
  have HO0_1 := Aside0.mk (show Kd.V k34 34 w w.heap.size (fun k_ => ((P0_1_ k_ ∨ P0_2_ k_) ∨ w.heap.size ≤ k_)) (.slice A0_1 l0_1.length c0_1) l0_1 from Kd.V_mono hs0_1 (fun k_ hk => .inl (.inl hk)))
  have HO0_2 := Aside0.mk (show Kd.V k32 32 w w.heap.size (fun k_ => ((P0_1_ k_ ∨ P0_2_ k_) ∨ w.heap.size ≤ k_)) (.slice A0_2 l0_2.length c0_2) l0_2 from Kd.V_mono hs0_2 (fun k_ hk => .inl (.inr hk)))
  have HB := Aside0.mk (Below.refl w.heap.size w)
  have H : ((lease_time.f a2).bind fun t490 => (if t490 = true then ((lease_Lease_31_at35.f k l0_1 a1).bind fun bt492 => ((lease_Ask_36_at37.f k l0_2 a1).bind fun bt499 => ((lease_Table_settle.f k a0_0 bt492.2 bt499.2 a2).bind fun bt505 => (some (bt505.1, bt505.2.1, bt505.2.2))))) else (some (a0_0, l0_1, l0_2)))) = some (r1, r2, r3) := h
  clear h
  replace H := Option.bind_eq_some_iff.mp H
  obtain ⟨t490, A40, H⟩ := H
  replace H : (if t490 = true then ((lease_Lease_31_at35.f k l0_1 a1).bind fun bt492 => ((lease_Ask_36_at37.f k l0_2 a1).bind fun bt499 => ((lease_Table_settle.f k a0_0 bt492.2 bt499.2 a2).bind fun bt505 => (some (bt505.1, bt505.2.1, bt505.2.2))))) else (some (a0_0, l0_1, l0_2))) = some (r1, r2, r3) := H
  have A4 := Aside0.mk A40
  clear A40
  by_cases c5 : t490 = true
  · subst c5
    have H1 : ((lease_Lease_31_at35.f k l0_1 a1).bind fun bt492 => ((lease_Ask_36_at37.f k l0_2 a1).bind fun bt499 => ((lease_Table_settle.f k a0_0 bt492.2 bt499.2 a2).bind fun bt505 => (some (bt505.1, bt505.2.1, bt505.2.2))))) = some (r1, r2, r3) := by rw [if_pos rfl] at H; exact H
    clear H
    have H := H1
    clear H1
    replace H := Option.bind_eq_some_iff.mp H
    obtain ⟨⟨t492, t493⟩, A60, H⟩ := H
    replace H : ((lease_Ask_36_at37.f k l0_2 a1).bind fun bt499 => ((lease_Table_settle.f k a0_0 t493 bt499.2 a2).bind fun bt505 => (some (bt505.1, bt505.2.1, bt505.2.2)))) = some (r1, r2, r3) := H
    have A6 := Aside0.mk A60
    clear A60
    replace H := Option.bind_eq_some_iff.mp H
    obtain ⟨⟨t499, t500⟩, A70, H⟩ := H
    replace H : ((lease_Table_settle.f k a0_0 t493 t500 a2).bind fun bt505 => (some (bt505.1, bt505.2.1, bt505.2.2))) = some (r1, r2, r3) := H
    have A7 := Aside0.mk A70
    clear A70
    replace H := Option.bind_eq_some_iff.mp H
    obtain ⟨⟨t505, t506, t509⟩, A80, H⟩ := H
    replace H : (some (t505, t506, t509)) = some (r1, r2, r3) := H
    have A8 := Aside0.mk A80
    clear A80
    simp only [Option.some.injEq, Prod.mk.injEq] at H
    obtain ⟨rfl, rfl, rfl⟩ := H
    go_enter Tryd.func15, Tryd.ntmps15
    go_wp2_with (first | ((with_reducible refine gate_dst (N := 3) rfl ?_); refine box_event ?hg (N := 3) ?hd (cs := #[.int .i64 a0_0, .slice A0_1 l0_1.length c0_1, .slice A0_2 l0_2.length c0_2]) (t := 27) ?hr ?_; (case hd => rfl); (case hg => rfl); (case hr => first | (go_simp; done) | (go_simp; rfl)); intro gb487 hg w9 hbox hb; have n0_ := Aside0.mk (Kd.V_below (Kd.V_elderB (zV HO0_1.out) gb487 (Nat.le_of_eq hg.symm)) hb); have n1_ := Aside0.mk (Kd.V_below (Kd.V_elderB (zV HO0_2.out) gb487 (Nat.le_of_eq hg.symm)) hb); have n2_ := Aside0.mk (below_step (zL HB.out) hb); have n3_ := Aside0.mk (hbox); have n4_ := Aside0.mk (zG hg (zL HB.out)); have n5_ := Aside0.mk (zG hg (zL HB.out)); clear HO0_1; clear HO0_2; clear HB; have HO0_1 := n0_; have HO0_2 := n1_; have HB := n2_; have BK487 := n3_; have GW487 := n4_; have GE487 := n5_; clear n0_ n1_ n2_ n3_ n4_ n5_; clear hb hbox hg) | ((with_reducible refine gate_dst (N := 4) rfl ?_); refine box_event ?hg (N := 4) ?hd (cs := #[.int .i64 a1]) (t := 3) ?hr ?_; (case hd => rfl); (case hg => rfl); (case hr => first | (go_simp; done) | (go_simp; rfl)); intro gb488 hg w10 hbox hb; have n0_ := Aside0.mk (Kd.V_below (Kd.V_elderB (zV HO0_1.out) gb488 (Nat.le_of_eq hg.symm)) hb); have n1_ := Aside0.mk (Kd.V_below (Kd.V_elderB (zV HO0_2.out) gb488 (Nat.le_of_eq hg.symm)) hb); have n2_ := Aside0.mk (blk_below (g := gb487) (o := .cells #[.int .i64 a0_0, .slice A0_1 l0_1.length c0_1, .slice A0_2 l0_2.length c0_2] 27 (0, 0)) (zK BK487.out) hb); have n3_ := Aside0.mk (below_step (zL HB.out) hb); have n4_ := Aside0.mk (hbox); have n5_ := Aside0.mk (zG hg (zL HB.out)); have n6_ := Aside0.mk (zG hg (zL HB.out)); have n7_ := Aside0.mk (zN (g := gb487) (o := .cells #[.int .i64 a0_0, .slice A0_1 l0_1.length c0_1, .slice A0_2 l0_2.length c0_2] 27 (0, 0)) hg (zK BK487.out)); have n8_ := Aside0.mk (zO (g := gb487) (o := .cells #[.int .i64 a0_0, .slice A0_1 l0_1.length c0_1, .slice A0_2 l0_2.length c0_2] 27 (0, 0)) hg (zK BK487.out)); clear HO0_1; clear HO0_2; clear BK487; clear HB; have HO0_1 := n0_; have HO0_2 := n1_; have BK487 := n2_; have HB := n3_; have BK488 := n4_; have GW488 := n5_; have GE488 := n6_; have NB487_488 := n7_; have NB488_487 := n8_; clear n0_ n1_ n2_ n3_ n4_ n5_ n6_ n7_ n8_; clear hb hbox hg) | ((with_reducible refine gate_dst (N := 6) rfl ?_); refine box_event ?hg (N := 6) ?hd (cs := #[.int .i64 0, .slice none 0 0, .slice none 0 0]) (t := 27) ?hr ?_; (case hd => rfl); (case hg => rfl); (case hr => first | (go_simp; done) | (go_simp; rfl)); intro gb489 hg w11 hbox hb; have n0_ := Aside0.mk (Kd.V_below (Kd.V_elderB (zV HO0_1.out) gb489 (Nat.le_of_eq hg.symm)) hb); have n1_ := Aside0.mk (Kd.V_below (Kd.V_elderB (zV HO0_2.out) gb489 (Nat.le_of_eq hg.symm)) hb); have n2_ := Aside0.mk (blk_below (g := gb487) (o := .cells #[.int .i64 a0_0, .slice A0_1 l0_1.length c0_1, .slice A0_2 l0_2.length c0_2] 27 (0, 0)) (zK BK487.out) hb); have n3_ := Aside0.mk (blk_below (g := gb488) (o := .cells #[.int .i64 a1] 3 (0, 0)) (zK BK488.out) hb); have n4_ := Aside0.mk (below_step (zL HB.out) hb); have n5_ := Aside0.mk (hbox); have n6_ := Aside0.mk (zG hg (zL HB.out)); have n7_ := Aside0.mk (zG hg (zL HB.out)); have n8_ := Aside0.mk (zN (g := gb487) (o := .cells #[.int .i64 a0_0, .slice A0_1 l0_1.length c0_1, .slice A0_2 l0_2.length c0_2] 27 (0, 0)) hg (zK BK487.out)); have n9_ := Aside0.mk (zO (g := gb487) (o := .cells #[.int .i64 a0_0, .slice A0_1 l0_1.length c0_1, .slice A0_2 l0_2.length c0_2] 27 (0, 0)) hg (zK BK487.out)); have n10_ := Aside0.mk (zN (g := gb488) (o := .cells #[.int .i64 a1] 3 (0, 0)) hg (zK BK488.out)); have n11_ := Aside0.mk (zO (g := gb488) (o := .cells #[.int .i64 a1] 3 (0, 0)) hg (zK BK488.out)); clear HO0_1; clear HO0_2; clear BK487; clear BK488; clear HB; have HO0_1 := n0_; have HO0_2 := n1_; have BK487 := n2_; have BK488 := n3_; have HB := n4_; have BK489 := n5_; have GW489 := n6_; have GE489 := n7_; have NB487_489 := n8_; have NB489_487 := n9_; have NB488_489 := n10_; have NB489_488 := n11_; clear n0_ n1_ n2_ n3_ n4_ n5_ n6_ n7_ n8_ n9_ n10_ n11_; clear hb hbox hg) | ((with_reducible refine gate_callee (f := 28) rfl ?_); refine goesL_ (some 8) rfl rfl Tryd.func28 (by kernel_rfl) rfl #[.int .i64 a2] rfl zA ?_; (with_reducible refine (lease_time.calls a2 true _ A4.out).mono ?_); rintro e w' ⟨rfl, ⟨nd, rfl⟩⟩; refine ⟨_, rfl, ?_⟩; (try (rw [drewN_self w11]; generalize hq_ : World.drewN w11 _ = w11; have n0_ : Aside0 (Kd.V k34 34 w11 w.heap.size (fun k_ => ((P0_1_ k_ ∨ P0_2_ k_) ∨ w.heap.size ≤ k_) ∧ k_ ≠ gb487 ∧ k_ ≠ gb488 ∧ k_ ≠ gb489) (.slice A0_1 l0_1.length c0_1) l0_1) := ⟨by rw [← hq_]; exact (by (with_reducible repeat (first | apply Kd.V_alloc | apply Kd.V_drewN | apply Kd.V_drew)); exact Kd.V_mono HO0_1.out (fun _ hk => ⟨hk.1.1.1, ⟨hk.1.1.2, ⟨hk.1.2, hk.2⟩⟩⟩))⟩; have n1_ : Aside0 (Kd.V k32 32 w11 w.heap.size (fun k_ => ((P0_1_ k_ ∨ P0_2_ k_) ∨ w.heap.size ≤ k_) ∧ k_ ≠ gb487 ∧ k_ ≠ gb488 ∧ k_ ≠ gb489) (.slice A0_2 l0_2.length c0_2) l0_2) := ⟨by rw [← hq_]; exact (by (with_reducible repeat (first | apply Kd.V_alloc | apply Kd.V_drewN | apply Kd.V_drew)); exact Kd.V_mono HO0_2.out (fun _ hk => ⟨hk.1.1.1, ⟨hk.1.1.2, ⟨hk.1.2, hk.2⟩⟩⟩))⟩; have n2_ : Aside0 (w11.heap[gb487]? = some (.cells #[.int .i64 a0_0, .slice A0_1 l0_1.length c0_1, .slice A0_2 l0_2.length c0_2] 27 (0, 0))) := ⟨by rw [← hq_]; exact (zK BK487.out)⟩; have n3_ : Aside0 (w11.heap[gb488]? = some (.cells #[.int .i64 a1] 3 (0, 0))) := ⟨by rw [← hq_]; exact (zK BK488.out)⟩; have n4_ : Aside0 (w11.heap[gb489]? = some (.cells #[.int .i64 0, .slice none 0 0, .slice none 0 0] 27 (0, 0))) := ⟨by rw [← hq_]; exact (zK BK489.out)⟩; have n5_ : Aside0 (Below w.heap.size w w11) := ⟨by rw [← hq_]; exact (zL HB.out)⟩; clear HO0_1 HO0_2 BK487 BK488 BK489 HB hq_; have HO0_1 := n0_; have HO0_2 := n1_; have BK487 := n2_; have BK488 := n3_; have BK489 := n4_; have HB := n5_; clear n0_ n1_ n2_ n3_ n4_ n5_)); have hnb12 := NB487_488.out; have hnc12 := NB488_487.out; have hnb13 := NB487_489.out; have hnc13 := NB489_487.out; have hcz14_0 : w11.cell? ⟨gb487, 0, none⟩ = some (.int .i64 a0_0) := (blk_cell BK487.out 0).trans rfl; have hcz14_1 : w11.cell? ⟨gb487, 1, none⟩ = some (.slice A0_1 l0_1.length c0_1) := (blk_cell BK487.out 1).trans rfl; have hcz14_2 : w11.cell? ⟨gb487, 2, none⟩ = some (.slice A0_2 l0_2.length c0_2) := (blk_cell BK487.out 2).trans rfl; have hfz14_0 := blk_frozen BK487.out 0; have hfz14_1 := blk_frozen BK487.out 1; have hfz14_2 := blk_frozen BK487.out 2) | ((with_reducible refine gate_callee (f := 31) rfl ?_); refine goesL_ (some 15) rfl rfl Tryd.func31 (by kernel_rfl) rfl #[.slice A0_1 l0_1.length c0_1, .func (.func 35) #[] #[.pointer (some ⟨gb488, 0, none⟩)]] rfl zA ?_; (with_reducible refine (lease_Lease_31_at35.calls k _ _ l0_1 gb488 a1 t492 t493 _ ?side1 ?side2 ?side3 A6.out).mono ?_); (case side1 => repeat (first | exact (Kd.V_reads' HO0_1.out).2.2 | (with_reducible refine Kd.C_alloc ?_ _) | (with_reducible refine Kd.C_drewN ?_ _) | (with_reducible refine Kd.C_drew ?_))); (case side2 => exact (Kd.V_reads' HO0_1.out).2.1); (case side3 => exact zK BK488.out); rintro e w15 ⟨v494, v496, rfl, ho0, ho1, hb⟩; refine ⟨_, rfl, ?_⟩; have n0_ := Aside0.mk (Kd.V_mono (Kd.V_told (Kd.V_told (Kd.V_old (zV HO0_1.out) hb) (Kd.R_base ho0)) (Kd.R_base ho1)) (fun _ h_ => h_.1)); have n1_ := Aside0.mk (Kd.V_mono (Kd.V_told (Kd.V_told (Kd.V_old (zV HO0_2.out) hb) (Kd.R_base ho0)) (Kd.R_base ho1)) (fun _ h_ => h_.1)); have n2_ := Aside0.mk (Kd.R_lower (Kd.R_newM (M := fun k_ => (w.heap.size ≤ k_)) ho0 (below_size (zL HB.out)) (fun k_ h_ => h_)) (below_size (zL HB.out))); have n3_ := Aside0.mk (Kd.R_lower (Kd.R_newM (M := fun k_ => (w.heap.size ≤ k_)) ho1 (below_size (zL HB.out)) (fun k_ h_ => h_)) (below_size (zL HB.out))); have n4_ := Aside0.mk (blk_below (g := gb487) (o := .cells #[.int .i64 a0_0, .slice A0_1 l0_1.length c0_1, .slice A0_2 l0_2.length c0_2] 27 (0, 0)) (zK BK487.out) hb); have n5_ := Aside0.mk (blk_below (g := gb488) (o := .cells #[.int .i64 a1] 3 (0, 0)) (zK BK488.out) hb); have n6_ := Aside0.mk (blk_below (g := gb489) (o := .cells #[.int .i64 0, .slice none 0 0, .slice none 0 0] 27 (0, 0)) (zK BK489.out) hb); have n7_ := Aside0.mk (below_step (zL HB.out) hb); clear HO0_1; clear HO0_2; clear BK487; clear BK488; clear BK489; clear HB; have HO0_1 := n0_; have HO0_2 := n1_; have HO495 := n2_; have HO497 := n3_; have BK487 := n4_; have BK488 := n5_; have BK489 := n6_; have HB := n7_; clear n0_ n1_ n2_ n3_ n4_ n5_ n6_ n7_; (try clear hb); (try clear hb2); (try clear hk); (try clear hi); (try clear ho0); (try clear ho1); obtain ⟨Ao16, co16, eo16⟩ := Kd.R_slice HO497.out; subst eo16; have hcz17_0 : w15.cell? ⟨gb487, 0, none⟩ = some (.int .i64 a0_0) := (blk_cell BK487.out 0).trans rfl; have hcz17_1 : w15.cell? ⟨gb487, 1, none⟩ = some (.slice A0_1 l0_1.length c0_1) := (blk_cell BK487.out 1).trans rfl; have hcz17_2 : w15.cell? ⟨gb487, 2, none⟩ = some (.slice A0_2 l0_2.length c0_2) := (blk_cell BK487.out 2).trans rfl; have hfz17_0 := blk_frozen BK487.out 0; have hfz17_1 := blk_frozen BK487.out 1; have hfz17_2 := blk_frozen BK487.out 2) | ((with_reducible refine gate_callee (f := 36) rfl ?_); refine goesL_ (some 23) rfl rfl Tryd.func36 (by kernel_rfl) rfl #[.slice A0_2 l0_2.length c0_2, .func (.func 37) #[] #[.pointer (some ⟨gb488, 0, none⟩)]] rfl zA ?_; (with_reducible refine (lease_Ask_36_at37.calls k _ _ l0_2 gb488 a1 t499 t500 _ ?side1 ?side2 ?side3 A7.out).mono ?_); (case side1 => refine (Kd.V_reads' (e := 32) (base := w.heap.size) (ok := fun k_ => (((((P0_1_ k_ ∨ P0_2_ k_) ∨ w.heap.size ≤ k_) ∧ (k_ ≠ gb487 ∧ (k_ ≠ gb488 ∧ k_ ≠ gb489))) ∧ some k_ ≠ (v494 : Value).ownBlock) ∧ some k_ ≠ (.slice Ao16 t493.length co16 : Value).ownBlock)) (n := l0_2.length) (c := c0_2) ?_).2.2; exact (zMV HO0_2.out (g := gb487) (fun _ hk => hk.1.1.2.1))); (case side2 => exact (Kd.V_reads' HO0_2.out).2.1); (case side3 => exact zK BK488.out); rintro e w18 ⟨v501, v503, rfl, ho0, ho1, hb⟩; refine ⟨_, rfl, ?_⟩; have n0_ := Aside0.mk (Kd.V_mono (Kd.V_told (Kd.V_told (Kd.V_old (zMV HO0_1.out (g := gb487) (fun _ hk => hk.1.1.2.1)) hb) (Kd.R_base ho0)) (Kd.R_base ho1)) (fun _ h_ => h_.1)); have n1_ := Aside0.mk (Kd.V_mono (Kd.V_told (Kd.V_told (Kd.V_old (zMV HO0_2.out (g := gb487) (fun _ hk => hk.1.1.2.1)) hb) (Kd.R_base ho0)) (Kd.R_base ho1)) (fun _ h_ => h_.1)); have n2_ := Aside0.mk (Kd.R_below (zT HO495.out BK487.out) hb); have n3_ := Aside0.mk (Kd.R_below (zT HO497.out BK487.out) hb); have n4_ := Aside0.mk (Kd.R_lower (Kd.R_newM (M := fun k_ => (w.heap.size ≤ k_)) ho0 (below_size (zL HB.out)) (fun k_ h_ => h_)) (below_size (zL HB.out))); have n5_ := Aside0.mk (Kd.R_lower (Kd.R_newM (M := fun k_ => (w.heap.size ≤ k_)) ho1 (below_size (zL HB.out)) (fun k_ h_ => h_)) (below_size (zL HB.out))); have n6_ := Aside0.mk (blk_below (g := gb487) (o := .cells #[.int .i64 a0_0, .slice Ao16 t493.length co16, .slice A0_2 l0_2.length c0_2] 27 (0, 0)) (by (with_reducible repeat (first | refine blk_drewN ?_ _ | refine blk_drew ?_ | refine blk_alloc ?_ _)); refine blk_put (cs := #[.int .i64 a0_0, .slice A0_1 l0_1.length c0_1, .slice A0_2 l0_2.length c0_2]) ?_ 1 _ rfl; (with_reducible repeat (first | refine blk_drewN ?_ _ | refine blk_drew ?_ | refine blk_alloc ?_ _)); exact BK487.out) hb); have n7_ := Aside0.mk (blk_below (g := gb488) (o := .cells #[.int .i64 a1] 3 (0, 0)) (zK BK488.out) hb); have n8_ := Aside0.mk (blk_below (g := gb489) (o := .cells #[.int .i64 0, .slice none 0 0, .slice none 0 0] 27 (0, 0)) (zK BK489.out) hb); have n9_ := Aside0.mk (below_step (zL HB.out) hb); clear HO0_1; clear HO0_2; clear HO495; clear HO497; clear BK487; clear BK488; clear BK489; clear HB; have HO0_1 := n0_; have HO0_2 := n1_; have HO495 := n2_; have HO497 := n3_; have HO502 := n4_; have HO504 := n5_; have BK487 := n6_; have BK488 := n7_; have BK489 := n8_; have HB := n9_; clear n0_ n1_ n2_ n3_ n4_ n5_ n6_ n7_ n8_ n9_; (try clear hb); (try clear hb2); (try clear hk); (try clear hi); (try clear ho0); (try clear ho1); obtain ⟨Ao19, co19, eo19⟩ := Kd.R_slice HO504.out; subst eo19; have hcz20_0 : w18.cell? ⟨gb487, 0, none⟩ = some (.int .i64 a0_0) := (blk_cell BK487.out 0).trans rfl; have hcz20_1 : w18.cell? ⟨gb487, 1, none⟩ = some (.slice Ao16 t493.length co16) := (blk_cell BK487.out 1).trans rfl; have hcz20_2 : w18.cell? ⟨gb487, 2, none⟩ = some (.slice A0_2 l0_2.length c0_2) := (blk_cell BK487.out 2).trans rfl; have hfz20_0 := blk_frozen BK487.out 0; have hfz20_1 := blk_frozen BK487.out 1; have hfz20_2 := blk_frozen BK487.out 2) | ((with_reducible refine gate_callee (f := 30) rfl ?_); refine goesL_ (some 29) rfl rfl Tryd.func30 (by kernel_rfl) rfl #[.agg #[.int .i64 a0_0, .slice Ao16 t493.length co16, .slice Ao19 t500.length co19], .int .i64 a2] rfl zA ?_; (with_reducible refine (lease_Table_settle.calls k a0_0 _ _ t493 _ _ t500 a2 t505 t506 t509 _ ?side1 ?side2 ?side3 ?side4 A8.out).mono ?_); (case side1 => refine (Kd.R_reads' (e := 34) (base := w.heap.size) (ok := fun k_ => ((w.heap.size ≤ k_) ∧ some k_ ≠ (v494 : Value).ownBlock)) (n := t493.length) (c := co16) ?_).2.2; exact (zT HO497.out BK487.out)); (case side2 => exact (Kd.R_reads' HO497.out).2.1); (case side3 => refine (Kd.R_reads' (e := 32) (base := w.heap.size) (ok := fun k_ => ((w.heap.size ≤ k_) ∧ some k_ ≠ (v501 : Value).ownBlock)) (n := t500.length) (c := co19) ?_).2.2; exact (zT HO504.out BK487.out)); (case side4 => exact (Kd.R_reads' HO504.out).2.1); rintro e w21 ⟨v507, v510, rfl, ho0, ho1, hb⟩; refine ⟨_, rfl, ?_⟩; have n0_ := Aside0.mk (Kd.V_mono (Kd.V_told (Kd.V_told (Kd.V_old (zMV HO0_1.out (g := gb487) (fun _ hk => hk.1.1.1.1.2.1)) hb) (Kd.R_base ho0)) (Kd.R_base ho1)) (fun _ h_ => h_.1)); have n1_ := Aside0.mk (Kd.V_mono (Kd.V_told (Kd.V_told (Kd.V_old (zMV HO0_2.out (g := gb487) (fun _ hk => hk.1.1.1.1.2.1)) hb) (Kd.R_base ho0)) (Kd.R_base ho1)) (fun _ h_ => h_.1)); have n2_ := Aside0.mk (Kd.R_elder' (zT HO495.out BK487.out) (Kd.R_base ho0) hb); have n3_ := Aside0.mk (Kd.R_elder' (zT HO497.out BK487.out) (Kd.R_base ho0) hb); have n4_ := Aside0.mk (Kd.R_elder' (zT HO502.out BK487.out) (Kd.R_base ho1) hb); have n5_ := Aside0.mk (Kd.R_elder' (zT HO504.out BK487.out) (Kd.R_base ho1) hb); have n6_ := Aside0.mk (Kd.R_lower (Kd.R_new' (Kd.R_new' (Kd.R_newM (M := fun k_ => (w.heap.size ≤ k_)) ho0 (below_size (zL HB.out)) (fun k_ h_ => h_)) (Kd.R_lt (zT HO495.out BK487.out))) (Kd.R_lt (zT HO497.out BK487.out))) (below_size (zL HB.out))); have n7_ := Aside0.mk (Kd.R_lower (Kd.R_new' (Kd.R_new' (Kd.R_newM (M := fun k_ => (w.heap.size ≤ k_)) ho1 (below_size (zL HB.out)) (fun k_ h_ => h_)) (Kd.R_lt (zT HO502.out BK487.out))) (Kd.R_lt (zT HO504.out BK487.out))) (below_size (zL HB.out))); have n8_ := Aside0.mk (blk_below (g := gb487) (o := .cells #[.int .i64 a0_0, .slice Ao16 t493.length co16, .slice Ao19 t500.length co19] 27 (0, 0)) (by (with_reducible repeat (first | refine blk_drewN ?_ _ | refine blk_drew ?_ | refine blk_alloc ?_ _)); refine blk_put (cs := #[.int .i64 a0_0, .slice Ao16 t493.length co16, .slice A0_2 l0_2.length c0_2]) ?_ 2 _ rfl; (with_reducible repeat (first | refine blk_drewN ?_ _ | refine blk_drew ?_ | refine blk_alloc ?_ _)); exact BK487.out) hb); have n9_ := Aside0.mk (blk_below (g := gb488) (o := .cells #[.int .i64 a1] 3 (0, 0)) (zK BK488.out) hb); have n10_ := Aside0.mk (blk_below (g := gb489) (o := .cells #[.int .i64 0, .slice none 0 0, .slice none 0 0] 27 (0, 0)) (zK BK489.out) hb); have n11_ := Aside0.mk (below_step (zL HB.out) hb); clear HO0_1; clear HO0_2; clear HO495; clear HO497; clear HO502; clear HO504; clear BK487; clear BK488; clear BK489; clear HB; have HO0_1 := n0_; have HO0_2 := n1_; have HO495 := n2_; have HO497 := n3_; have HO502 := n4_; have HO504 := n5_; have HO508 := n6_; have HO511 := n7_; have BK487 := n8_; have BK488 := n9_; have BK489 := n10_; have HB := n11_; clear n0_ n1_ n2_ n3_ n4_ n5_ n6_ n7_ n8_ n9_ n10_ n11_; (try clear hb); (try clear hb2); (try clear hk); (try clear hi); (try clear ho0); (try clear ho1); have hnb22 := NB489_488.out; have hnc22 := NB488_489.out; have hcz23_0 : w21.cell? ⟨gb489, 0, none⟩ = some (.int .i64 0) := (blk_cell BK489.out 0).trans rfl; have hcz23_1 : w21.cell? ⟨gb489, 1, none⟩ = some (.slice none 0 0) := (blk_cell BK489.out 1).trans rfl; have hcz23_2 : w21.cell? ⟨gb489, 2, none⟩ = some (.slice none 0 0) := (blk_cell BK489.out 2).trans rfl; have hfz23_0 := blk_frozen BK489.out 0; have hfz23_1 := blk_frozen BK489.out 1; have hfz23_2 := blk_frozen BK489.out 2; obtain ⟨Ao24, co24, eo24⟩ := Kd.R_slice HO508.out; subst eo24; obtain ⟨Ao25, co25, eo25⟩ := Kd.R_slice HO511.out; subst eo25))
    refine bodyPost_ret (results_cell_row rfl _ _ gb489 27 #[.int .i64 t505, .slice Ao24 t506.length co24, .slice Ao25 t509.length co25] (0, 0) _ rfl (by (with_reducible repeat (first | refine blk_drewN ?_ _ | refine blk_drew ?_ | refine blk_alloc ?_ _)); refine blk_put (cs := #[.int .i64 t505, .slice Ao24 t506.length co24, .slice none 0 0]) ?_ 2 _ rfl; (with_reducible repeat (first | refine blk_drewN ?_ _ | refine blk_drew ?_ | refine blk_alloc ?_ _)); refine blk_put (cs := #[.int .i64 t505, .slice none 0 0, .slice none 0 0]) ?_ 1 _ rfl; (with_reducible repeat (first | refine blk_drewN ?_ _ | refine blk_drew ?_ | refine blk_alloc ?_ _)); refine blk_put (cs := #[.int .i64 0, .slice none 0 0, .slice none 0 0]) ?_ 0 _ rfl; (with_reducible repeat (first | refine blk_drewN ?_ _ | refine blk_drew ?_ | refine blk_alloc ?_ _)); exact BK489.out) Tryd.underlying27 rfl (by kernel_rfl)) rfl ?_
    exact ⟨_, _, by first | rfl | (simp [errW_none, errW_some] <;> rfl) | (simp [*, errW_none, errW_some] <;> rfl), Kd.V_mono (Kd.R_V (by (with_reducible repeat (first | apply Kd.R_alloc | apply Kd.R_drewN | apply Kd.R_drew)); exact Kd.R_mono (Kd.R_far (p := ⟨gb489, 2, none⟩) (Kd.R_far (p := ⟨gb489, 1, none⟩) (Kd.R_far (p := ⟨gb489, 0, none⟩) (Kd.R_types HO508.out BK489.out (by decide)) (fun _ hk => hk.2) (.int .i64 t505)) (fun _ hk => hk.2) (.slice Ao24 t506.length co24)) (fun _ hk => hk.2) (.slice Ao25 t509.length co25)) (fun _ hk => hk.1.1.1.1))) (fun k_ hk => by first | exact ⟨(.inr (hk.1)), hk.2⟩ | exact (.inr (hk))), Kd.V_mono (Kd.R_V (by (with_reducible repeat (first | apply Kd.R_alloc | apply Kd.R_drewN | apply Kd.R_drew)); exact Kd.R_mono (Kd.R_far (p := ⟨gb489, 2, none⟩) (Kd.R_far (p := ⟨gb489, 1, none⟩) (Kd.R_far (p := ⟨gb489, 0, none⟩) (Kd.R_types HO511.out BK489.out (by decide)) (fun _ hk => hk.2) (.int .i64 t505)) (fun _ hk => hk.2) (.slice Ao24 t506.length co24)) (fun _ hk => hk.2) (.slice Ao25 t509.length co25)) (fun _ hk => hk.1.1.1.1))) (fun k_ hk => by first | exact ⟨(.inr (hk.1)), hk.2⟩ | exact (.inr (hk))), zL HB.out⟩
  · replace c5 := Bool.eq_false_iff.mpr c5
    subst c5
    have H1 : (some (a0_0, l0_1, l0_2)) = some (r1, r2, r3) := by rw [if_neg (show ¬ (false = true) by decide)] at H; exact H
    clear H
    have H := H1
    clear H1
    simp only [Option.some.injEq, Prod.mk.injEq] at H
    obtain ⟨rfl, rfl, rfl⟩ := H
    go_enter Tryd.func15, Tryd.ntmps15
    go_wp2_with (first | ((with_reducible refine gate_dst (N := 3) rfl ?_); refine box_event ?hg (N := 3) ?hd (cs := #[.int .i64 a0_0, .slice A0_1 l0_1.length c0_1, .slice A0_2 l0_2.length c0_2]) (t := 27) ?hr ?_; (case hd => rfl); (case hg => rfl); (case hr => first | (go_simp; done) | (go_simp; rfl)); intro gb487 hg w26 hbox hb; have n0_ := Aside0.mk (Kd.V_below (Kd.V_elderB (zV HO0_1.out) gb487 (Nat.le_of_eq hg.symm)) hb); have n1_ := Aside0.mk (Kd.V_below (Kd.V_elderB (zV HO0_2.out) gb487 (Nat.le_of_eq hg.symm)) hb); have n2_ := Aside0.mk (below_step (zL HB.out) hb); have n3_ := Aside0.mk (hbox); have n4_ := Aside0.mk (zG hg (zL HB.out)); have n5_ := Aside0.mk (zG hg (zL HB.out)); clear HO0_1; clear HO0_2; clear HB; have HO0_1 := n0_; have HO0_2 := n1_; have HB := n2_; have BK487 := n3_; have GW487 := n4_; have GE487 := n5_; clear n0_ n1_ n2_ n3_ n4_ n5_; clear hb hbox hg) | ((with_reducible refine gate_dst (N := 4) rfl ?_); refine box_event ?hg (N := 4) ?hd (cs := #[.int .i64 a1]) (t := 3) ?hr ?_; (case hd => rfl); (case hg => rfl); (case hr => first | (go_simp; done) | (go_simp; rfl)); intro gb488 hg w27 hbox hb; have n0_ := Aside0.mk (Kd.V_below (Kd.V_elderB (zV HO0_1.out) gb488 (Nat.le_of_eq hg.symm)) hb); have n1_ := Aside0.mk (Kd.V_below (Kd.V_elderB (zV HO0_2.out) gb488 (Nat.le_of_eq hg.symm)) hb); have n2_ := Aside0.mk (blk_below (g := gb487) (o := .cells #[.int .i64 a0_0, .slice A0_1 l0_1.length c0_1, .slice A0_2 l0_2.length c0_2] 27 (0, 0)) (zK BK487.out) hb); have n3_ := Aside0.mk (below_step (zL HB.out) hb); have n4_ := Aside0.mk (hbox); have n5_ := Aside0.mk (zG hg (zL HB.out)); have n6_ := Aside0.mk (zG hg (zL HB.out)); have n7_ := Aside0.mk (zN (g := gb487) (o := .cells #[.int .i64 a0_0, .slice A0_1 l0_1.length c0_1, .slice A0_2 l0_2.length c0_2] 27 (0, 0)) hg (zK BK487.out)); have n8_ := Aside0.mk (zO (g := gb487) (o := .cells #[.int .i64 a0_0, .slice A0_1 l0_1.length c0_1, .slice A0_2 l0_2.length c0_2] 27 (0, 0)) hg (zK BK487.out)); clear HO0_1; clear HO0_2; clear BK487; clear HB; have HO0_1 := n0_; have HO0_2 := n1_; have BK487 := n2_; have HB := n3_; have BK488 := n4_; have GW488 := n5_; have GE488 := n6_; have NB487_488 := n7_; have NB488_487 := n8_; clear n0_ n1_ n2_ n3_ n4_ n5_ n6_ n7_ n8_; clear hb hbox hg) | ((with_reducible refine gate_dst (N := 6) rfl ?_); refine box_event ?hg (N := 6) ?hd (cs := #[.int .i64 0, .slice none 0 0, .slice none 0 0]) (t := 27) ?hr ?_; (case hd => rfl); (case hg => rfl); (case hr => first | (go_simp; done) | (go_simp; rfl)); intro gb489 hg w28 hbox hb; have n0_ := Aside0.mk (Kd.V_below (Kd.V_elderB (zV HO0_1.out) gb489 (Nat.le_of_eq hg.symm)) hb); have n1_ := Aside0.mk (Kd.V_below (Kd.V_elderB (zV HO0_2.out) gb489 (Nat.le_of_eq hg.symm)) hb); have n2_ := Aside0.mk (blk_below (g := gb487) (o := .cells #[.int .i64 a0_0, .slice A0_1 l0_1.length c0_1, .slice A0_2 l0_2.length c0_2] 27 (0, 0)) (zK BK487.out) hb); have n3_ := Aside0.mk (blk_below (g := gb488) (o := .cells #[.int .i64 a1] 3 (0, 0)) (zK BK488.out) hb); have n4_ := Aside0.mk (below_step (zL HB.out) hb); have n5_ := Aside0.mk (hbox); have n6_ := Aside0.mk (zG hg (zL HB.out)); have n7_ := Aside0.mk (zG hg (zL HB.out)); have n8_ := Aside0.mk (zN (g := gb487) (o := .cells #[.int .i64 a0_0, .slice A0_1 l0_1.length c0_1, .slice A0_2 l0_2.length c0_2] 27 (0, 0)) hg (zK BK487.out)); have n9_ := Aside0.mk (zO (g := gb487) (o := .cells #[.int .i64 a0_0, .slice A0_1 l0_1.length c0_1, .slice A0_2 l0_2.length c0_2] 27 (0, 0)) hg (zK BK487.out)); have n10_ := Aside0.mk (zN (g := gb488) (o := .cells #[.int .i64 a1] 3 (0, 0)) hg (zK BK488.out)); have n11_ := Aside0.mk (zO (g := gb488) (o := .cells #[.int .i64 a1] 3 (0, 0)) hg (zK BK488.out)); clear HO0_1; clear HO0_2; clear BK487; clear BK488; clear HB; have HO0_1 := n0_; have HO0_2 := n1_; have BK487 := n2_; have BK488 := n3_; have HB := n4_; have BK489 := n5_; have GW489 := n6_; have GE489 := n7_; have NB487_489 := n8_; have NB489_487 := n9_; have NB488_489 := n10_; have NB489_488 := n11_; clear n0_ n1_ n2_ n3_ n4_ n5_ n6_ n7_ n8_ n9_ n10_ n11_; clear hb hbox hg) | ((with_reducible refine gate_callee (f := 28) rfl ?_); refine goesL_ (some 8) rfl rfl Tryd.func28 (by kernel_rfl) rfl #[.int .i64 a2] rfl zA ?_; (with_reducible refine (lease_time.calls a2 false _ A4.out).mono ?_); rintro e w' ⟨rfl, ⟨nd, rfl⟩⟩; refine ⟨_, rfl, ?_⟩; (try (rw [drewN_self w28]; generalize hq_ : World.drewN w28 _ = w28; have n0_ : Aside0 (Kd.V k34 34 w28 w.heap.size (fun k_ => ((P0_1_ k_ ∨ P0_2_ k_) ∨ w.heap.size ≤ k_) ∧ k_ ≠ gb487 ∧ k_ ≠ gb488 ∧ k_ ≠ gb489) (.slice A0_1 l0_1.length c0_1) l0_1) := ⟨by rw [← hq_]; exact (by (with_reducible repeat (first | apply Kd.V_alloc | apply Kd.V_drewN | apply Kd.V_drew)); exact Kd.V_mono HO0_1.out (fun _ hk => ⟨hk.1.1.1, ⟨hk.1.1.2, ⟨hk.1.2, hk.2⟩⟩⟩))⟩; have n1_ : Aside0 (Kd.V k32 32 w28 w.heap.size (fun k_ => ((P0_1_ k_ ∨ P0_2_ k_) ∨ w.heap.size ≤ k_) ∧ k_ ≠ gb487 ∧ k_ ≠ gb488 ∧ k_ ≠ gb489) (.slice A0_2 l0_2.length c0_2) l0_2) := ⟨by rw [← hq_]; exact (by (with_reducible repeat (first | apply Kd.V_alloc | apply Kd.V_drewN | apply Kd.V_drew)); exact Kd.V_mono HO0_2.out (fun _ hk => ⟨hk.1.1.1, ⟨hk.1.1.2, ⟨hk.1.2, hk.2⟩⟩⟩))⟩; have n2_ : Aside0 (w28.heap[gb487]? = some (.cells #[.int .i64 a0_0, .slice A0_1 l0_1.length c0_1, .slice A0_2 l0_2.length c0_2] 27 (0, 0))) := ⟨by rw [← hq_]; exact (zK BK487.out)⟩; have n3_ : Aside0 (w28.heap[gb488]? = some (.cells #[.int .i64 a1] 3 (0, 0))) := ⟨by rw [← hq_]; exact (zK BK488.out)⟩; have n4_ : Aside0 (w28.heap[gb489]? = some (.cells #[.int .i64 0, .slice none 0 0, .slice none 0 0] 27 (0, 0))) := ⟨by rw [← hq_]; exact (zK BK489.out)⟩; have n5_ : Aside0 (Below w.heap.size w w28) := ⟨by rw [← hq_]; exact (zL HB.out)⟩; clear HO0_1 HO0_2 BK487 BK488 BK489 HB hq_; have HO0_1 := n0_; have HO0_2 := n1_; have BK487 := n2_; have BK488 := n3_; have BK489 := n4_; have HB := n5_; clear n0_ n1_ n2_ n3_ n4_ n5_)); have hnb29 := NB487_488.out; have hnc29 := NB488_487.out; have hnb30 := NB487_489.out; have hnc30 := NB489_487.out; have hcz31_0 : w28.cell? ⟨gb487, 0, none⟩ = some (.int .i64 a0_0) := (blk_cell BK487.out 0).trans rfl; have hcz31_1 : w28.cell? ⟨gb487, 1, none⟩ = some (.slice A0_1 l0_1.length c0_1) := (blk_cell BK487.out 1).trans rfl; have hcz31_2 : w28.cell? ⟨gb487, 2, none⟩ = some (.slice A0_2 l0_2.length c0_2) := (blk_cell BK487.out 2).trans rfl; have hfz31_0 := blk_frozen BK487.out 0; have hfz31_1 := blk_frozen BK487.out 1; have hfz31_2 := blk_frozen BK487.out 2; have hnb32 := NB489_488.out; have hnc32 := NB488_489.out; have hcz33_0 : w28.cell? ⟨gb489, 0, none⟩ = some (.int .i64 0) := (blk_cell BK489.out 0).trans rfl; have hcz33_1 : w28.cell? ⟨gb489, 1, none⟩ = some (.slice none 0 0) := (blk_cell BK489.out 1).trans rfl; have hcz33_2 : w28.cell? ⟨gb489, 2, none⟩ = some (.slice none 0 0) := (blk_cell BK489.out 2).trans rfl; have hfz33_0 := blk_frozen BK489.out 0; have hfz33_1 := blk_frozen BK489.out 1; have hfz33_2 := blk_frozen BK489.out 2))
    refine bodyPost_ret (results_cell_row rfl _ _ gb489 27 #[.int .i64 a0_0, .slice A0_1 l0_1.length c0_1, .slice A0_2 l0_2.length c0_2] (0, 0) _ rfl (by (with_reducible repeat (first | refine blk_drewN ?_ _ | refine blk_drew ?_ | refine blk_alloc ?_ _)); refine blk_put (cs := #[.int .i64 a0_0, .slice A0_1 l0_1.length c0_1, .slice none 0 0]) ?_ 2 _ rfl; (with_reducible repeat (first | refine blk_drewN ?_ _ | refine blk_drew ?_ | refine blk_alloc ?_ _)); refine blk_put (cs := #[.int .i64 a0_0, .slice none 0 0, .slice none 0 0]) ?_ 1 _ rfl; (with_reducible repeat (first | refine blk_drewN ?_ _ | refine blk_drew ?_ | refine blk_alloc ?_ _)); refine blk_put (cs := #[.int .i64 0, .slice none 0 0, .slice none 0 0]) ?_ 0 _ rfl; (with_reducible repeat (first | refine blk_drewN ?_ _ | refine blk_drew ?_ | refine blk_alloc ?_ _)); exact BK489.out) Tryd.underlying27 rfl (by kernel_rfl)) rfl ?_
    exact ⟨_, _, by first | rfl | (simp [errW_none, errW_some] <;> rfl) | (simp [*, errW_none, errW_some] <;> rfl), by (with_reducible repeat (first | apply Kd.V_alloc | apply Kd.V_drewN | apply Kd.V_drew)); exact Kd.V_mono (Kd.V_far (p := ⟨gb489, 2, none⟩) (Kd.V_far (p := ⟨gb489, 1, none⟩) (Kd.V_far (p := ⟨gb489, 0, none⟩) (Kd.V_mono HO0_1.out (fun k_ hk => (⟨hk, hk.2.2.2⟩ : _ ∧ k_ ≠ gb489))) (fun _ hk => hk.2) (.int .i64 a0_0)) (fun _ hk => hk.2) (.slice A0_1 l0_1.length c0_1)) (fun _ hk => hk.2) (.slice A0_2 l0_2.length c0_2)) (fun _ hk => hk.1.1), by (with_reducible repeat (first | apply Kd.V_alloc | apply Kd.V_drewN | apply Kd.V_drew)); exact Kd.V_mono (Kd.V_far (p := ⟨gb489, 2, none⟩) (Kd.V_far (p := ⟨gb489, 1, none⟩) (Kd.V_far (p := ⟨gb489, 0, none⟩) (Kd.V_mono HO0_2.out (fun k_ hk => (⟨hk, hk.2.2.2⟩ : _ ∧ k_ ≠ gb489))) (fun _ hk => hk.2) (.int .i64 a0_0)) (fun _ hk => hk.2) (.slice A0_1 l0_1.length c0_1)) (fun _ hk => hk.2) (.slice A0_2 l0_2.length c0_2)) (fun _ hk => hk.1.1), zL HB.out⟩

end Go.Proofs.YtgcghjkaomgloaaDoor.PLease
