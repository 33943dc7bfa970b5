-- Written by a program of this session (wip/tools/ext.py, over the kit's printer); not trusted: Lean checks it.
import Derived.Test.YtgcghjkaomgloaaDoorPLeasex0
namespace Go.Proofs.YtgcghjkaomgloaaDoor.PLease
open Go.RowKit Go.Proofs.YtgcghjkaomgloaaDoorW.PrintWords Go.Proofs.YtgcghjkaomgloaaDoorW.PrintLast Go.Proofs.YtgcghjkaomgloaaDoorW.PrintMore
attribute [local go_sem] max2_int min2_int max_two min_two max_three min_three max_four min_four   -- for this text's walks alone
set_option linter.unusedVariables false
set_option linter.unusedSimpArgs false

-- NOT PRINTED: function 31 (lease_Lease_31)

/-! ### lease_Held_1: function 34 -/
def lease_Held_1.f (a0_0 : Int) (a0_1 : ByteArray) (a0_2 : Bool) (a0_3 : Int) (a0_4 : Int) (a1_0 : Int) (a2_0 : ByteArray) : Option (Bool) := if a0_0 = a1_0 then (some (a0_1.toList == a2_0.toList)) else (some false)
set_option maxHeartbeats 8000000 in
set_option maxRecDepth 100000 in
theorem lease_Held_1.calls (a0_0 : Int) (a0_1 : ByteArray) (a0_2 : Bool) (a0_3 : Int) (a0_4 : Int) (g1_0 : Nat) (a1_0 : Int) (g2_0 : Nat) (a2_0 : ByteArray) (r : Bool) (w : World) (hb1_0 : w.heap[g1_0]? = some (.cells #[.int .i64 a1_0] 3 (0, 0))) (hb2_0 : w.heap[g2_0]? = some (.cells #[.string a2_0] 9 (0, 0))) (h : lease_Held_1.f a0_0 a0_1 a0_2 a0_3 a0_4 a1_0 a2_0 = some r) :
  Calls Tryd.prog 34 #[.agg #[.int .i64 a0_0, .string a0_1, .bool a0_2, .int .i64 a0_3, .int .i64 a0_4], .pointer (some ⟨g1_0, 0, none⟩), .pointer (some ⟨g2_0, 0, none⟩)] w fun e w' => e = .returned (.bool r) ∧ Below w.heap.size w w' := by
 have hu34 := Tryd.underlying34
 have BK112 := Aside0.mk hb1_0
 clear hb1_0
 have BK114 := Aside0.mk hb2_0
 clear hb2_0
 have HB := Aside0.mk (Below.refl w.heap.size w)
 have H : (if a0_0 = a1_0 then (some (a0_1.toList == a2_0.toList)) else (some false)) = some r := h
 clear h
 by_cases c4 : a0_0 = a1_0
 ·rw [if_pos c4] at H
  have c4b0 : (a0_0 == a1_0) = true := beq_iff_eq.mpr c4
  have c4b1 : (a0_0 != a1_0) = false := bne_eq_false_iff_eq.mpr c4
  clear c4
  obtain rfl := Option.some.inj H
  go_enter Tryd.func34, Tryd.ntmps34
  go_wp2_with (first | ((with_reducible refine gate_dst (N := 3) rfl ?_); refine box_event ?hg (N := 3) ?hd (cs := #[.int .i64 a0_0, .string a0_1, .bool a0_2, .int .i64 a0_3, .int .i64 a0_4]) (t := 34) ?hr ?_; (case hd => rfl); (case hg => rfl); (case hr => first | (go_simp; done) | (go_simp; rfl)); intro gb115 hg w5 hbox hb; have n0_ := Aside0.mk (blk_below (g := g1_0) (o := .cells #[.int .i64 a1_0] 3 (0, 0)) (zK BK112.out) hb); have n1_ := Aside0.mk (blk_below (g := g2_0) (o := .cells #[.string a2_0] 9 (0, 0)) (zK BK114.out) hb); have n2_ := Aside0.mk (below_step (zL HB.out) hb); have n3_ := Aside0.mk (hbox); have n4_ := Aside0.mk (zG hg (zL HB.out)); have n5_ := Aside0.mk (zG hg (zL HB.out)); have n6_ := Aside0.mk (zN (g := g1_0) (o := .cells #[.int .i64 a1_0] 3 (0, 0)) hg (zK BK112.out)); have n7_ := Aside0.mk (zO (g := g1_0) (o := .cells #[.int .i64 a1_0] 3 (0, 0)) hg (zK BK112.out)); have n8_ := Aside0.mk (zN (g := g2_0) (o := .cells #[.string a2_0] 9 (0, 0)) hg (zK BK114.out)); have n9_ := Aside0.mk (zO (g := g2_0) (o := .cells #[.string a2_0] 9 (0, 0)) hg (zK BK114.out)); revert n0_ n1_ n2_ n3_ n4_ n5_ n6_ n7_ n8_ n9_; clear BK112 BK114 HB; intro BK112 BK114 HB BK115 GW115 GE115 NB112_115 NB115_112 NB114_115 NB115_114; clear hb hbox hg; have hnb6 := NB115_112.out; have hnc6 := NB112_115.out; have hnb7 := NB115_114.out; have hnc7 := NB114_115.out; obtain ⟨hcz8_0, hcz8_1, hcz8_2, hcz8_3, hcz8_4, hfz8_0, hfz8_1, hfz8_2, hfz8_3, hfz8_4⟩ := zC5 BK115.out; obtain ⟨hcz9_0, hfz9_0⟩ := zC1 BK112.out; obtain ⟨hcz10_0, hfz10_0⟩ := zC1 BK114.out))
  go_ret
  exact ⟨zE, zL HB.out⟩
 ·rw [if_neg c4] at H
  have c4b0 : (a0_0 == a1_0) = false := beq_eq_false_iff_ne.mpr c4
  have c4b1 : (a0_0 != a1_0) = true := bne_iff_ne.mpr c4
  obtain rfl := Option.some.inj H
  go_enter Tryd.func34, Tryd.ntmps34
  go_wp2_with (first | ((with_reducible refine gate_dst (N := 3) rfl ?_); refine box_event ?hg (N := 3) ?hd (cs := #[.int .i64 a0_0, .string a0_1, .bool a0_2, .int .i64 a0_3, .int .i64 a0_4]) (t := 34) ?hr ?_; (case hd => rfl); (case hg => rfl); (case hr => first | (go_simp; done) | (go_simp; rfl)); intro gb115 hg w11 hbox hb; have n0_ := Aside0.mk (blk_below (g := g1_0) (o := .cells #[.int .i64 a1_0] 3 (0, 0)) (zK BK112.out) hb); have n1_ := Aside0.mk (blk_below (g := g2_0) (o := .cells #[.string a2_0] 9 (0, 0)) (zK BK114.out) hb); have n2_ := Aside0.mk (below_step (zL HB.out) hb); have n3_ := Aside0.mk (hbox); have n4_ := Aside0.mk (zG hg (zL HB.out)); have n5_ := Aside0.mk (zG hg (zL HB.out)); have n6_ := Aside0.mk (zN (g := g1_0) (o := .cells #[.int .i64 a1_0] 3 (0, 0)) hg (zK BK112.out)); have n7_ := Aside0.mk (zO (g := g1_0) (o := .cells #[.int .i64 a1_0] 3 (0, 0)) hg (zK BK112.out)); have n8_ := Aside0.mk (zN (g := g2_0) (o := .cells #[.string a2_0] 9 (0, 0)) hg (zK BK114.out)); have n9_ := Aside0.mk (zO (g := g2_0) (o := .cells #[.string a2_0] 9 (0, 0)) hg (zK BK114.out)); revert n0_ n1_ n2_ n3_ n4_ n5_ n6_ n7_ n8_ n9_; clear BK112 BK114 HB; intro BK112 BK114 HB BK115 GW115 GE115 NB112_115 NB115_112 NB114_115 NB115_114; clear hb hbox hg; have hnb12 := NB115_112.out; have hnc12 := NB112_115.out; have hnb13 := NB115_114.out; have hnc13 := NB114_115.out; obtain ⟨hcz14_0, hcz14_1, hcz14_2, hcz14_3, hcz14_4, hfz14_0, hfz14_1, hfz14_2, hfz14_3, hfz14_4⟩ := zC5 BK115.out; obtain ⟨hcz15_0, hfz15_0⟩ := zC1 BK112.out))
  go_ret
  exact ⟨zE, zL HB.out⟩

/-! ### lease_Lease_31_at34: function 31 -/
def lease_Lease_31_at34.l0 : Nat → List (S34) → List (S34) → List (S34) → Int → Int → Int → ByteArray → Option ((List (S34)) × (List (S34)))
 | 0, _, _, _, _, _, _, _ => none
 | k + 1, x4, x5, x8, x9, x10, x118000, x119000 => if x10 < x9 then (if 0 ≤ x10 then (if x10 < (x8.length : Int) then ((lease_Held_1.f ((rd_T34 x8 x10).f0) ((rd_T34 x8 x10).f1) ((rd_T34 x8 x10).f2) ((rd_T34 x8 x10).f3) ((rd_T34 x8 x10).f4) x118000 x119000).bind fun t121 => (if t121 = true then (if x4.length < 2932031007402 then (lease_Lease_31_at34.l0 k (x4 ++ [(⟨(rd_T34 x8 x10).f0, (rd_T34 x8 x10).f1, (rd_T34 x8 x10).f2, (rd_T34 x8 x10).f3, (rd_T34 x8 x10).f4⟩ : S34)]) x5 x8 x9 (wrap64 (x10 + 1)) x118000 x119000) else (none)) else (if x5.length < 2932031007402 then (lease_Lease_31_at34.l0 k x4 (x5 ++ [(⟨(rd_T34 x8 x10).f0, (rd_T34 x8 x10).f1, (rd_T34 x8 x10).f2, (rd_T34 x8 x10).f3, (rd_T34 x8 x10).f4⟩ : S34)]) x8 x9 (wrap64 (x10 + 1)) x118000 x119000) else (none)))) else (none)) else (none)) else (some (x4, x5))
def lease_Lease_31_at34.f (k : Nat) (l0 : List (S34)) (a1_0 : Int) (a1_1 : ByteArray) : Option ((List (S34)) × (List (S34))) := lease_Lease_31_at34.l0 k ([] : List (S34)) ([] : List (S34)) l0 (l0.length : Int) 0 a1_0 a1_1
theorem lease_Lease_31_at34.mono_l : ∀ k, (∀ y0 y1 y2 y3 y4 y5 y6, LeO (lease_Lease_31_at34.l0 k y0 y1 y2 y3 y4 y5 y6) (lease_Lease_31_at34.l0 (k + 1) y0 y1 y2 y3 y4 y5 y6))
 | 0 => fun _ _ _ _ _ _ _ r h => by simp [lease_Lease_31_at34.l0] at h
 | k + 1 => by
  have ih0 := lease_Lease_31_at34.mono_l k
  ·intro y0 y1 y2 y3 y4 y5 y6
   unfold lease_Lease_31_at34.l0
   repeat' first
   | (with_reducible exact ih0 _ _ _ _ _ _ _)
   | (with_reducible exact LeO.refl _)
   | (with_reducible exact LeO.none _)
   | (with_reducible refine LeO.ite ?_ ?_)
   | (with_reducible refine LeO.bind ?_ (fun _ => ?_))
   | exact ih0 _ _ _ _ _ _ _
   | exact LeO.none _
   | refine LeO.ite ?_ ?_
   | refine LeO.bind ?_ (fun _ => ?_)
theorem lease_Lease_31_at34.mono : ∀ a0 a1 a2 k, LeO (lease_Lease_31_at34.f k a0 a1 a2) (lease_Lease_31_at34.f (k + 1) a0 a1 a2) := by
 intro a0 a1 a2 k
 have ih0 := lease_Lease_31_at34.mono_l k
 unfold lease_Lease_31_at34.f
 repeat' first
   | (with_reducible exact ih0 _ _ _ _ _ _ _)
   | (with_reducible exact LeO.refl _)
   | (with_reducible exact LeO.none _)
   | (with_reducible refine LeO.ite ?_ ?_)
   | (with_reducible refine LeO.bind ?_ (fun _ => ?_))
   | exact ih0 _ _ _ _ _ _ _
   | exact LeO.none _
   | refine LeO.ite ?_ ?_
   | refine LeO.bind ?_ (fun _ => ?_)
set_option maxHeartbeats 8000000 in
set_option maxRecDepth 100000 in
theorem lease_Lease_31_at34.calls (k : Nat) (A0 : Option Addr) (c0 : Nat) (l0 : List (S34)) (g1_0 : Nat) (g1_1 : Nat) (a1_0 : Int) (a1_1 : ByteArray) (r1 : List (S34)) (r2 : List (S34)) (w : World) (hr0 : Kd.C k34 w A0 l0.length l0) (hc0 : l0.length ≤ c0) (hb1_0 : w.heap[g1_0]? = some (.cells #[.int .i64 a1_0] 3 (0, 0))) (hb1_1 : w.heap[g1_1]? = some (.cells #[.string a1_1] 9 (0, 0))) (h : lease_Lease_31_at34.f k l0 a1_0 a1_1 = some (r1, r2)) :
  Calls Tryd.prog 31 #[.slice A0 l0.length c0, .func (.func 34) #[] #[.pointer (some ⟨g1_0, 0, none⟩), .pointer (some ⟨g1_1, 0, none⟩)]] w fun e w' => ∃ v0_ v1_ : Value, e = .returned (.tuple #[v0_, v1_]) ∧ Kd.R k34 34 w' w.heap.size (fun k_ => some k_ ≠ (v1_ : Value).ownBlock) v0_ r1 ∧ Kd.R k34 34 w' w.heap.size (fun k_ => some k_ ≠ (v0_ : Value).ownBlock) v1_ r2 ∧ Below w.heap.size w w' := by
 have hu34 := Tryd.underlying34
 have HR0 := Aside0.mk hr0
 have HC0 := Aside0.mk hc0
 clear hr0 hc0
 have BK117 := Aside0.mk hb1_0
 clear hb1_0
 have BK118 := Aside0.mk hb1_1
 clear hb1_1
 have HB := Aside0.mk (Below.refl w.heap.size w)
 have H : (lease_Lease_31_at34.l0 k ([] : List (S34)) ([] : List (S34)) l0 (l0.length : Int) 0 a1_0 a1_1) = some (r1, r2) := h
 clear h
 have H' := Aside0.mk H
 clear H
 go_enter Tryd.func31, Tryd.ntmps31
 go_wp2
 go_loopg [4, 5, 10] k (fun kq v4 v5 v10 w' => ∃ (x4_1 : List (S34)) (x5_1 : List (S34)) (x10_1 : Int), v10 = .int .i64 x10_1 ∧ Aside0 (lease_Lease_31_at34.l0 kq x4_1 x5_1 l0 (l0.length : Int) x10_1 a1_0 a1_1 = some (r1, r2)) ∧ Aside0 (kq ≤ k) ∧ Aside0 (Kd.R k34 34 w' w.heap.size (fun k_ => some k_ ≠ (v5 : Value).ownBlock) v4 x4_1) ∧ Aside0 (Kd.R k34 34 w' w.heap.size (fun k_ => some k_ ≠ (v4 : Value).ownBlock) v5 x5_1) ∧ Aside0 (w'.heap[g1_0]? = some (.cells #[.int .i64 a1_0] 3 (0, 0))) ∧ Aside0 (w'.heap[g1_1]? = some (.cells #[.string a1_1] 9 (0, 0))) ∧ Aside0 (Below w.heap.size w w'))
 case atStart => exact ⟨(([] : List (S34))), (([] : List (S34))), (0), zS, H', ⟨Nat.le_refl _⟩, ⟨by first | exact Kd.R_nil _ _ _ _ _ | exact Kd.N_nil _ _ _ _ _ | exact Kd.V_nil _ _ _ _ _ | exact Kd.Q_nil _ _ _ _ _ | exact Kd.S_nil _ _ _ _ _⟩, ⟨by first | exact Kd.R_nil _ _ _ _ _ | exact Kd.N_nil _ _ _ _ _ | exact Kd.V_nil _ _ _ _ _ | exact Kd.Q_nil _ _ _ _ _ | exact Kd.S_nil _ _ _ _ _⟩, ⟨zK BK117.out⟩, ⟨zK BK118.out⟩, ⟨zL HB.out⟩⟩
 case round =>
  clear H'
  try clear p2
  obtain ⟨x4_1, x5_1, x10_1, rfl, HA, HK1, HO_4, HO_5, BK117, BK118, HB⟩ := hrel
  cases gk with
  | zero => exact absurd HA.out (by simp [lease_Lease_31_at34.l0])
  | succ k1 =>
   have H := HA.out
   clear HA
   simp only [lease_Lease_31_at34.l0] at H
   by_cases c3 : x10_1 < (l0.length : Int)
   ·rw [if_pos c3] at H
    have c3b0 : decide (x10_1 < (l0.length : Int)) = true := decide_eq_true c3
    clear c3
    by_cases c4 : 0 ≤ x10_1
    ·rw [if_pos c4] at H
     have c4b0 : decide (0 ≤ x10_1) = true := decide_eq_true c4
     clear c4
     by_cases c5 : x10_1 < (l0.length : Int)
     ·rw [if_pos c5] at H
      have c5b0 : decide (x10_1 < (l0.length : Int)) = true := decide_eq_true c5
      clear c5
      replace H := Option.bind_eq_some_iff.mp H
      obtain ⟨t121, A60, H⟩ := H
      replace H : (if t121 = true then (if x4_1.length < 2932031007402 then (lease_Lease_31_at34.l0 k1 (x4_1 ++ [(⟨(rd_T34 l0 x10_1).f0, (rd_T34 l0 x10_1).f1, (rd_T34 l0 x10_1).f2, (rd_T34 l0 x10_1).f3, (rd_T34 l0 x10_1).f4⟩ : S34)]) x5_1 l0 (l0.length : Int) (wrap64 (x10_1 + 1)) a1_0 a1_1) else (none)) else (if x5_1.length < 2932031007402 then (lease_Lease_31_at34.l0 k1 x4_1 (x5_1 ++ [(⟨(rd_T34 l0 x10_1).f0, (rd_T34 l0 x10_1).f1, (rd_T34 l0 x10_1).f2, (rd_T34 l0 x10_1).f3, (rd_T34 l0 x10_1).f4⟩ : S34)]) l0 (l0.length : Int) (wrap64 (x10_1 + 1)) a1_0 a1_1) else (none))) = some (r1, r2) := H
      have A6 := Aside0.mk A60
      clear A60
      by_cases c7 : t121 = true
      ·subst c7
       have H1 : (if x4_1.length < 2932031007402 then (lease_Lease_31_at34.l0 k1 (x4_1 ++ [(⟨(rd_T34 l0 x10_1).f0, (rd_T34 l0 x10_1).f1, (rd_T34 l0 x10_1).f2, (rd_T34 l0 x10_1).f3, (rd_T34 l0 x10_1).f4⟩ : S34)]) x5_1 l0 (l0.length : Int) (wrap64 (x10_1 + 1)) a1_0 a1_1) else (none)) = some (r1, r2) := by rw [if_pos rfl] at H; exact H
       clear H
       have H := H1
       clear H1
       by_cases c8 : x4_1.length < 2932031007402
       ·rw [if_pos c8] at H
        have LMc8 := Aside0.mk c8
        clear c8
        obtain ⟨y122, hy122⟩ : ∃ y_ : List (S34), y_ = (x4_1 ++ [(⟨(rd_T34 l0 x10_1).f0, (rd_T34 l0 x10_1).f1, (rd_T34 l0 x10_1).f2, (rd_T34 l0 x10_1).f3, (rd_T34 l0 x10_1).f4⟩ : S34)]) := ⟨_, rfl⟩
        replace H : (lease_Lease_31_at34.l0 k1 y122 x5_1 l0 (l0.length : Int) (wrap64 (x10_1 + 1)) a1_0 a1_1) = some (r1, r2) := zH hy122 H
        have Ny122 := Aside0.mk hy122
        clear hy122
        have H' := Aside0.mk H
        clear H
        have p119 : 0 ≤ (x10_1 : Int) := zD
        have q119 : x10_1 < (l0.length : Int) := zD
        obtain ⟨ad119, e119, hx119_0, hx119_1, hx119_2, hx119_3, hx119_4⟩ := at_T34 HR0.out x10_1 p119 q119
        cases e119
        replace hx119_0 := zX HB.out hx119_0
        replace hx119_1 := zX HB.out hx119_1
        replace hx119_2 := zX HB.out hx119_2
        replace hx119_3 := zX HB.out hx119_3
        replace hx119_4 := zX HB.out hx119_4
        replace p119 := eq_true p119
        replace q119 := eq_true q119
        go_wp2_with (first | ((with_reducible refine gate_dst (N := 7) rfl ?_); refine box_event ?hg (N := 7) ?hd (cs := #[.int .i64 0, .string (⟨#[]⟩ : ByteArray), .bool false, .int .i64 0, .int .i64 0]) (t := 34) ?hr ?_; (case hd => rfl); (case hg => rfl); (case hr => first | (go_simp; done) | (go_simp; rfl)); intro gb120 hg w9 hbox hb; have n0_ := Aside0.mk (Kd.R_below (Kd.R_elderB (zR HO_4.out) gb120 (Nat.le_of_eq hg.symm)) hb); have n1_ := Aside0.mk (Kd.R_below (Kd.R_elderB (zR HO_5.out) gb120 (Nat.le_of_eq hg.symm)) hb); have n2_ := Aside0.mk (blk_below (g := g1_0) (o := .cells #[.int .i64 a1_0] 3 (0, 0)) (zK BK117.out) hb); have n3_ := Aside0.mk (blk_below (g := g1_1) (o := .cells #[.string a1_1] 9 (0, 0)) (zK BK118.out) hb); have n4_ := Aside0.mk (below_step (zL HB.out) hb); have n5_ := Aside0.mk (hbox); have n6_ := Aside0.mk (zG hg (zL HB.out)); have n7_ := Aside0.mk (zG hg (zL HB.out)); have n8_ := Aside0.mk (zN (g := g1_0) (o := .cells #[.int .i64 a1_0] 3 (0, 0)) hg (zK BK117.out)); have n9_ := Aside0.mk (zO (g := g1_0) (o := .cells #[.int .i64 a1_0] 3 (0, 0)) hg (zK BK117.out)); have n10_ := Aside0.mk (zN (g := g1_1) (o := .cells #[.string a1_1] 9 (0, 0)) hg (zK BK118.out)); have n11_ := Aside0.mk (zO (g := g1_1) (o := .cells #[.string a1_1] 9 (0, 0)) hg (zK BK118.out)); revert n0_ n1_ n2_ n3_ n4_ n5_ n6_ n7_ n8_ n9_ n10_ n11_; clear HO_4 HO_5 BK117 BK118 HB; intro HO_4 HO_5 BK117 BK118 HB BK120 GW120 GE120 NB117_120 NB120_117 NB118_120 NB120_118; clear hb hbox hg; have hnb10 := NB120_117.out; have hnc10 := NB117_120.out; have hnb11 := NB120_118.out; have hnc11 := NB118_120.out; obtain ⟨hcz12_0, hcz12_1, hcz12_2, hcz12_3, hcz12_4, hfz12_0, hfz12_1, hfz12_2, hfz12_3, hfz12_4⟩ := zC5 BK120.out) | (go_at_call 34; (with_reducible refine (lease_Held_1.calls ((rd_T34 l0 x10_1).f0) ((rd_T34 l0 x10_1).f1) ((rd_T34 l0 x10_1).f2) ((rd_T34 l0 x10_1).f3) ((rd_T34 l0 x10_1).f4) g1_0 a1_0 g1_1 a1_1 true _ ?side1 ?side2 A6.out).mono ?_); (case side1 => exact zK BK117.out); (case side2 => exact zK BK118.out); rintro e w13 ⟨rfl, hb⟩; have n0_ := Aside0.mk (Kd.R_below (zM HO_4.out (g := gb120) (fun _ hk => hk.2)) hb); have n1_ := Aside0.mk (Kd.R_below (zM HO_5.out (g := gb120) (fun _ hk => hk.2)) hb); have n2_ := Aside0.mk (blk_below (g := g1_0) (o := .cells #[.int .i64 a1_0] 3 (0, 0)) (zK BK117.out) hb); have n3_ := Aside0.mk (blk_below (g := g1_1) (o := .cells #[.string a1_1] 9 (0, 0)) (zK BK118.out) hb); have n4_ := Aside0.mk (blk_below (g := gb120) (o := .cells #[.int .i64 ((rd_T34 l0 x10_1).f0), .string ((rd_T34 l0 x10_1).f1), .bool ((rd_T34 l0 x10_1).f2), .int .i64 ((rd_T34 l0 x10_1).f3), .int .i64 ((rd_T34 l0 x10_1).f4)] 34 (0, 0)) (zP5 BK120.out) hb); have n5_ := Aside0.mk (below_step (zL HB.out) hb); revert n0_ n1_ n2_ n3_ n4_ n5_; clear HO_4 HO_5 BK117 BK118 BK120 HB; intro HO_4 HO_5 BK117 BK118 BK120 HB; (try clear hb); (try clear hb2); (try clear hk); (try clear hi); obtain ⟨hcz14_0, hcz14_1, hcz14_2, hcz14_3, hcz14_4, hfz14_0, hfz14_1, hfz14_2, hfz14_3, hfz14_4⟩ := zC5 BK120.out) | ((with_reducible refine gate_builtin (b := .append) (xs := #[.tmp 17, .tmp 19]) rfl ?_); at_builtin; refine Kd.R_append k34 (w0 := w) w.heap.size rfl (.tmp 17) (.tmp 19) 24 34 (.agg #[(.int .i64 0), (.string ⟨#[]⟩), (.bool false), (.int .i64 0), (.int .i64 0)]) 48 rfl Tryd.underlying24 info34 rfl (by decide) (by omega) u4 x4_1 (⟨(rd_T34 l0 x10_1).f0, (rd_T34 l0 x10_1).f1, (rd_T34 l0 x10_1).f2, (rd_T34 l0 x10_1).f3, (rd_T34 l0 x10_1).f4⟩ : S34) [.int .i64 ((rd_T34 l0 x10_1).f0), .string ((rd_T34 l0 x10_1).f1), .bool ((rd_T34 l0 x10_1).f2), .int .i64 ((rd_T34 l0 x10_1).f3), .int .i64 ((rd_T34 l0 x10_1).f4)] (fun k_ => some k_ ≠ (u5 : Value).ownBlock ∧ k_ ≠ gb120) (fun _ => False) rfl rfl ?aP (fun _ hk => hk.elim) ?aF ?aO ?aB ?aS ?aL ?_; (case aP => exact k34_mkM _ _ _ (⟨(rd_T34 l0 x10_1).f0, (rd_T34 l0 x10_1).f1, (rd_T34 l0 x10_1).f2, (rd_T34 l0 x10_1).f3, (rd_T34 l0 x10_1).f4⟩ : S34)); (case aB => exact (zL HB.out)); (case aF => exact (fun k_ hk => ⟨Kd.fresh' (Kd.R_lt (zR HO_5.out)) k_ hk, Kd.freshB (g := gb120) (o := .cells #[.int .i64 ((rd_T34 l0 x10_1).f0), .string ((rd_T34 l0 x10_1).f1), .bool ((rd_T34 l0 x10_1).f2), .int .i64 ((rd_T34 l0 x10_1).f3), .int .i64 ((rd_T34 l0 x10_1).f4)] 34 (0, 0)) (zK BK120.out) k_ hk⟩)); (case aO => exact (zR HO_4.out)); (case aS => exact (below_size (zL HB.out))); (case aL => have := LMc8.out; omega); intro v123 w15 ho hb hg hat; rw [← Ny122.out] at ho; have n0_ := Aside0.mk (Kd.R_after (ok := (fun k_ => k_ ≠ gb120)) (by (with_reducible repeat (first | apply Kd.R_alloc | apply Kd.R_drewN | apply Kd.R_drew)); exact Kd.R_mono HO_5.out (fun _ hk => ⟨hk.2, hk.1⟩)) hg hat); have n1_ := Aside0.mk (blk_grown (g := g1_0) (o := .cells #[.int .i64 a1_0] 3 (0, 0)) (zK BK117.out) hg (Kd.R_ne HO_4.out BK117.out (by decide))); have n2_ := Aside0.mk (blk_grown (g := g1_1) (o := .cells #[.string a1_1] 9 (0, 0)) (zK BK118.out) hg (Kd.R_ne HO_4.out BK118.out (by decide))); have n3_ := Aside0.mk (blk_grown (g := gb120) (o := .cells #[.int .i64 ((rd_T34 l0 x10_1).f0), .string ((rd_T34 l0 x10_1).f1), .bool ((rd_T34 l0 x10_1).f2), .int .i64 ((rd_T34 l0 x10_1).f3), .int .i64 ((rd_T34 l0 x10_1).f4)] 34 (0, 0)) (zK BK120.out) hg (Kd.R_away HO_4.out (fun _ hk => hk.2))); have n4_ := Aside0.mk (hb); have n5_ := Aside0.mk (ho); revert n0_ n1_ n2_ n3_ n4_ n5_; clear HO_5 BK117 BK118 BK120 HB HO_4; intro HO_5 BK117 BK118 BK120 HB HO124; clear ho hb hg hat))
        go_roundg k1
        case measure => have := HK1.out; omega
        case rel => exact ⟨(y122), (x5_1), (wrap64 (x10_1 + 1)), zS, H', ⟨by have := HK1.out; omega⟩, ⟨by (with_reducible repeat (first | apply Kd.R_alloc | apply Kd.R_drewN | apply Kd.R_drew)); exact Kd.R_mono HO124.out (fun _ hk => hk.1)⟩, ⟨by (with_reducible repeat (first | apply Kd.R_alloc | apply Kd.R_drewN | apply Kd.R_drew)); exact Kd.R_mono HO_5.out (fun _ hk => hk.2)⟩, ⟨zK BK117.out⟩, ⟨zK BK118.out⟩, ⟨zL HB.out⟩⟩
       ·rw [if_neg c8] at H
        exact absurd H (by simp)
      ·replace c7 := Bool.eq_false_iff.mpr c7
       subst c7
       have H1 : (if x5_1.length < 2932031007402 then (lease_Lease_31_at34.l0 k1 x4_1 (x5_1 ++ [(⟨(rd_T34 l0 x10_1).f0, (rd_T34 l0 x10_1).f1, (rd_T34 l0 x10_1).f2, (rd_T34 l0 x10_1).f3, (rd_T34 l0 x10_1).f4⟩ : S34)]) l0 (l0.length : Int) (wrap64 (x10_1 + 1)) a1_0 a1_1) else (none)) = some (r1, r2) := by rw [if_neg (show ¬ (false = true) by decide)] at H; exact H
       clear H
       have H := H1
       clear H1
       by_cases c16 : x5_1.length < 2932031007402
       ·rw [if_pos c16] at H
        have LMc16 := Aside0.mk c16
        clear c16
        obtain ⟨y125, hy125⟩ : ∃ y_ : List (S34), y_ = (x5_1 ++ [(⟨(rd_T34 l0 x10_1).f0, (rd_T34 l0 x10_1).f1, (rd_T34 l0 x10_1).f2, (rd_T34 l0 x10_1).f3, (rd_T34 l0 x10_1).f4⟩ : S34)]) := ⟨_, rfl⟩
        replace H : (lease_Lease_31_at34.l0 k1 x4_1 y125 l0 (l0.length : Int) (wrap64 (x10_1 + 1)) a1_0 a1_1) = some (r1, r2) := zH hy125 H
        have Ny125 := Aside0.mk hy125
        clear hy125
        have H' := Aside0.mk H
        clear H
        have p119 : 0 ≤ (x10_1 : Int) := zD
        have q119 : x10_1 < (l0.length : Int) := zD
        obtain ⟨ad119, e119, hx119_0, hx119_1, hx119_2, hx119_3, hx119_4⟩ := at_T34 HR0.out x10_1 p119 q119
        cases e119
        replace hx119_0 := zX HB.out hx119_0
        replace hx119_1 := zX HB.out hx119_1
        replace hx119_2 := zX HB.out hx119_2
        replace hx119_3 := zX HB.out hx119_3
        replace hx119_4 := zX HB.out hx119_4
        replace p119 := eq_true p119
        replace q119 := eq_true q119
        go_wp2_with (first | ((with_reducible refine gate_dst (N := 7) rfl ?_); refine box_event ?hg (N := 7) ?hd (cs := #[.int .i64 0, .string (⟨#[]⟩ : ByteArray), .bool false, .int .i64 0, .int .i64 0]) (t := 34) ?hr ?_; (case hd => rfl); (case hg => rfl); (case hr => first | (go_simp; done) | (go_simp; rfl)); intro gb120 hg w17 hbox hb; have n0_ := Aside0.mk (Kd.R_below (Kd.R_elderB (zR HO_4.out) gb120 (Nat.le_of_eq hg.symm)) hb); have n1_ := Aside0.mk (Kd.R_below (Kd.R_elderB (zR HO_5.out) gb120 (Nat.le_of_eq hg.symm)) hb); have n2_ := Aside0.mk (blk_below (g := g1_0) (o := .cells #[.int .i64 a1_0] 3 (0, 0)) (zK BK117.out) hb); have n3_ := Aside0.mk (blk_below (g := g1_1) (o := .cells #[.string a1_1] 9 (0, 0)) (zK BK118.out) hb); have n4_ := Aside0.mk (below_step (zL HB.out) hb); have n5_ := Aside0.mk (hbox); have n6_ := Aside0.mk (zG hg (zL HB.out)); have n7_ := Aside0.mk (zG hg (zL HB.out)); have n8_ := Aside0.mk (zN (g := g1_0) (o := .cells #[.int .i64 a1_0] 3 (0, 0)) hg (zK BK117.out)); have n9_ := Aside0.mk (zO (g := g1_0) (o := .cells #[.int .i64 a1_0] 3 (0, 0)) hg (zK BK117.out)); have n10_ := Aside0.mk (zN (g := g1_1) (o := .cells #[.string a1_1] 9 (0, 0)) hg (zK BK118.out)); have n11_ := Aside0.mk (zO (g := g1_1) (o := .cells #[.string a1_1] 9 (0, 0)) hg (zK BK118.out)); revert n0_ n1_ n2_ n3_ n4_ n5_ n6_ n7_ n8_ n9_ n10_ n11_; clear HO_4 HO_5 BK117 BK118 HB; intro HO_4 HO_5 BK117 BK118 HB BK120 GW120 GE120 NB117_120 NB120_117 NB118_120 NB120_118; clear hb hbox hg; have hnb18 := NB120_117.out; have hnc18 := NB117_120.out; have hnb19 := NB120_118.out; have hnc19 := NB118_120.out; obtain ⟨hcz20_0, hcz20_1, hcz20_2, hcz20_3, hcz20_4, hfz20_0, hfz20_1, hfz20_2, hfz20_3, hfz20_4⟩ := zC5 BK120.out) | (go_at_call 34; (with_reducible refine (lease_Held_1.calls ((rd_T34 l0 x10_1).f0) ((rd_T34 l0 x10_1).f1) ((rd_T34 l0 x10_1).f2) ((rd_T34 l0 x10_1).f3) ((rd_T34 l0 x10_1).f4) g1_0 a1_0 g1_1 a1_1 false _ ?side1 ?side2 A6.out).mono ?_); (case side1 => exact zK BK117.out); (case side2 => exact zK BK118.out); rintro e w21 ⟨rfl, hb⟩; have n0_ := Aside0.mk (Kd.R_below (zM HO_4.out (g := gb120) (fun _ hk => hk.2)) hb); have n1_ := Aside0.mk (Kd.R_below (zM HO_5.out (g := gb120) (fun _ hk => hk.2)) hb); have n2_ := Aside0.mk (blk_below (g := g1_0) (o := .cells #[.int .i64 a1_0] 3 (0, 0)) (zK BK117.out) hb); have n3_ := Aside0.mk (blk_below (g := g1_1) (o := .cells #[.string a1_1] 9 (0, 0)) (zK BK118.out) hb); have n4_ := Aside0.mk (blk_below (g := gb120) (o := .cells #[.int .i64 ((rd_T34 l0 x10_1).f0), .string ((rd_T34 l0 x10_1).f1), .bool ((rd_T34 l0 x10_1).f2), .int .i64 ((rd_T34 l0 x10_1).f3), .int .i64 ((rd_T34 l0 x10_1).f4)] 34 (0, 0)) (zP5 BK120.out) hb); have n5_ := Aside0.mk (below_step (zL HB.out) hb); revert n0_ n1_ n2_ n3_ n4_ n5_; clear HO_4 HO_5 BK117 BK118 BK120 HB; intro HO_4 HO_5 BK117 BK118 BK120 HB; (try clear hb); (try clear hb2); (try clear hk); (try clear hi); obtain ⟨hcz22_0, hcz22_1, hcz22_2, hcz22_3, hcz22_4, hfz22_0, hfz22_1, hfz22_2, hfz22_3, hfz22_4⟩ := zC5 BK120.out) | ((with_reducible refine gate_builtin (b := .append) (xs := #[.tmp 21, .tmp 23]) rfl ?_); at_builtin; refine Kd.R_append k34 (w0 := w) w.heap.size rfl (.tmp 21) (.tmp 23) 24 34 (.agg #[(.int .i64 0), (.string ⟨#[]⟩), (.bool false), (.int .i64 0), (.int .i64 0)]) 48 rfl Tryd.underlying24 info34 rfl (by decide) (by omega) u5 x5_1 (⟨(rd_T34 l0 x10_1).f0, (rd_T34 l0 x10_1).f1, (rd_T34 l0 x10_1).f2, (rd_T34 l0 x10_1).f3, (rd_T34 l0 x10_1).f4⟩ : S34) [.int .i64 ((rd_T34 l0 x10_1).f0), .string ((rd_T34 l0 x10_1).f1), .bool ((rd_T34 l0 x10_1).f2), .int .i64 ((rd_T34 l0 x10_1).f3), .int .i64 ((rd_T34 l0 x10_1).f4)] (fun k_ => some k_ ≠ (u4 : Value).ownBlock ∧ k_ ≠ gb120) (fun _ => False) rfl rfl ?aP (fun _ hk => hk.elim) ?aF ?aO ?aB ?aS ?aL ?_; (case aP => exact k34_mkM _ _ _ (⟨(rd_T34 l0 x10_1).f0, (rd_T34 l0 x10_1).f1, (rd_T34 l0 x10_1).f2, (rd_T34 l0 x10_1).f3, (rd_T34 l0 x10_1).f4⟩ : S34)); (case aB => exact (zL HB.out)); (case aF => exact (fun k_ hk => ⟨Kd.fresh' (Kd.R_lt (zR HO_4.out)) k_ hk, Kd.freshB (g := gb120) (o := .cells #[.int .i64 ((rd_T34 l0 x10_1).f0), .string ((rd_T34 l0 x10_1).f1), .bool ((rd_T34 l0 x10_1).f2), .int .i64 ((rd_T34 l0 x10_1).f3), .int .i64 ((rd_T34 l0 x10_1).f4)] 34 (0, 0)) (zK BK120.out) k_ hk⟩)); (case aO => exact (zR HO_5.out)); (case aS => exact (below_size (zL HB.out))); (case aL => have := LMc16.out; omega); intro v126 w23 ho hb hg hat; rw [← Ny125.out] at ho; have n0_ := Aside0.mk (Kd.R_after (ok := (fun k_ => k_ ≠ gb120)) (by (with_reducible repeat (first | apply Kd.R_alloc | apply Kd.R_drewN | apply Kd.R_drew)); exact Kd.R_mono HO_4.out (fun _ hk => ⟨hk.2, hk.1⟩)) hg hat); have n1_ := Aside0.mk (blk_grown (g := g1_0) (o := .cells #[.int .i64 a1_0] 3 (0, 0)) (zK BK117.out) hg (Kd.R_ne HO_5.out BK117.out (by decide))); have n2_ := Aside0.mk (blk_grown (g := g1_1) (o := .cells #[.string a1_1] 9 (0, 0)) (zK BK118.out) hg (Kd.R_ne HO_5.out BK118.out (by decide))); have n3_ := Aside0.mk (blk_grown (g := gb120) (o := .cells #[.int .i64 ((rd_T34 l0 x10_1).f0), .string ((rd_T34 l0 x10_1).f1), .bool ((rd_T34 l0 x10_1).f2), .int .i64 ((rd_T34 l0 x10_1).f3), .int .i64 ((rd_T34 l0 x10_1).f4)] 34 (0, 0)) (zK BK120.out) hg (Kd.R_away HO_5.out (fun _ hk => hk.2))); have n4_ := Aside0.mk (hb); have n5_ := Aside0.mk (ho); revert n0_ n1_ n2_ n3_ n4_ n5_; clear HO_4 BK117 BK118 BK120 HB HO_5; intro HO_4 BK117 BK118 BK120 HB HO127; clear ho hb hg hat))
        go_roundg k1
        case measure => have := HK1.out; omega
        case rel => exact ⟨(x4_1), (y125), (wrap64 (x10_1 + 1)), zS, H', ⟨by have := HK1.out; omega⟩, ⟨by (with_reducible repeat (first | apply Kd.R_alloc | apply Kd.R_drewN | apply Kd.R_drew)); exact Kd.R_mono HO_4.out (fun _ hk => hk.2)⟩, ⟨by (with_reducible repeat (first | apply Kd.R_alloc | apply Kd.R_drewN | apply Kd.R_drew)); exact Kd.R_mono HO127.out (fun _ hk => hk.1)⟩, ⟨zK BK117.out⟩, ⟨zK BK118.out⟩, ⟨zL HB.out⟩⟩
       ·rw [if_neg c16] at H
        exact absurd H (by simp)
     ·rw [if_neg c5] at H
      exact absurd H (by simp)
    ·rw [if_neg c4] at H
     exact absurd H (by simp)
   ·rw [if_neg c3] at H
    have c3b0 : decide (x10_1 < (l0.length : Int)) = false := decide_eq_false c3
    clear c3
    simp only [Option.some.injEq, Prod.mk.injEq] at H
    obtain ⟨rfl, rfl⟩ := H
    go_wp2
    go_ret2
    exact ⟨_, _, zE, by (with_reducible repeat (first | apply Kd.R_alloc | apply Kd.R_drewN | apply Kd.R_drew)); exact HO_4.out, by (with_reducible repeat (first | apply Kd.R_alloc | apply Kd.R_drewN | apply Kd.R_drew)); exact HO_5.out, zL HB.out⟩

/-! ### lease_Held: function 14 -/
def lease_Held.f (k : Nat) (a0_0 : Int) (l0_1 : List (S34)) (l0_2 : List (S32)) (a1 : Int) (a2 : ByteArray) : Option (Int × ByteArray × Bool × Int × Int × Bool) := (lease_Lease_31_at34.f k l0_1 a1 a2).bind fun bt133 => (if (bt133.1.length : Int) = 0 then (some (0, (⟨#[]⟩ : ByteArray), false, 0, 0, false)) else (if 0 < (bt133.1.length : Int) then (some ((rd_T34 bt133.1 0).f0, (rd_T34 bt133.1 0).f1, (rd_T34 bt133.1 0).f2, (rd_T34 bt133.1 0).f3, (rd_T34 bt133.1 0).f4, true)) else (none)))
theorem lease_Held.mono : ∀ a0 a1 a2 a3 a4 k, LeO (lease_Held.f k a0 a1 a2 a3 a4) (lease_Held.f (k + 1) a0 a1 a2 a3 a4) := by
 intro a0 a1 a2 a3 a4 k
 unfold lease_Held.f
 repeat' first
   | (with_reducible exact lease_Lease_31_at34.mono _ _ _ _)
   | (with_reducible exact LeO.refl _)
   | (with_reducible exact LeO.none _)
   | (with_reducible refine LeO.ite ?_ ?_)
   | (with_reducible refine LeO.bind ?_ (fun _ => ?_))
   | exact lease_Lease_31_at34.mono _ _ _ _
   | exact LeO.none _
   | refine LeO.ite ?_ ?_
   | refine LeO.bind ?_ (fun _ => ?_)
set_option maxHeartbeats 8000000 in
set_option maxRecDepth 100000 in
theorem lease_Held.calls (k : Nat) (a0_0 : Int) (A0_1 : Option Addr) (c0_1 : Nat) (l0_1 : List (S34)) (A0_2 : Option Addr) (c0_2 : Nat) (l0_2 : List (S32)) (a1 : Int) (a2 : ByteArray) (r1 : Int) (r2 : ByteArray) (r3 : Bool) (r4 : Int) (r5 : Int) (r6 : Bool) (w : World) (hr0_1 : Kd.C k34 w A0_1 l0_1.length l0_1) (hc0_1 : l0_1.length ≤ c0_1) (hr0_2 : Kd.C k32 w A0_2 l0_2.length l0_2) (hc0_2 : l0_2.length ≤ c0_2) (h : lease_Held.f k a0_0 l0_1 l0_2 a1 a2 = some (r1, r2, r3, r4, r5, r6)) :
  Calls Tryd.prog 14 #[.agg #[.int .i64 a0_0, .slice A0_1 l0_1.length c0_1, .slice A0_2 l0_2.length c0_2], .int .i64 a1, .string a2] w fun e w' => e = .returned (.tuple #[.agg #[.int .i64 r1, .string r2, .bool r3, .int .i64 r4, .int .i64 r5], .bool r6]) ∧ Below w.heap.size w w' := by
 have hu27 := Tryd.underlying27
 have hu34 := Tryd.underlying34
 have HR0_1 := Aside0.mk hr0_1
 have HC0_1 := Aside0.mk hc0_1
 clear hr0_1 hc0_1
 have HR0_2 := Aside0.mk hr0_2
 have HC0_2 := Aside0.mk hc0_2
 clear hr0_2 hc0_2
 have HB := Aside0.mk (Below.refl w.heap.size w)
 have H : ((lease_Lease_31_at34.f k l0_1 a1 a2).bind fun bt133 => (if (bt133.1.length : Int) = 0 then (some (0, (⟨#[]⟩ : ByteArray), false, 0, 0, false)) else (if 0 < (bt133.1.length : Int) then (some ((rd_T34 bt133.1 0).f0, (rd_T34 bt133.1 0).f1, (rd_T34 bt133.1 0).f2, (rd_T34 bt133.1 0).f3, (rd_T34 bt133.1 0).f4, true)) else (none)))) = some (r1, r2, r3, r4, r5, r6) := h
 clear h
 replace H := Option.bind_eq_some_iff.mp H
 obtain ⟨⟨t133, t134⟩, A40, H⟩ := H
 replace H : (if (t133.length : Int) = 0 then (some (0, (⟨#[]⟩ : ByteArray), false, 0, 0, false)) else (if 0 < (t133.length : Int) then (some ((rd_T34 t133 0).f0, (rd_T34 t133 0).f1, (rd_T34 t133 0).f2, (rd_T34 t133 0).f3, (rd_T34 t133 0).f4, true)) else (none))) = some (r1, r2, r3, r4, r5, r6) := H
 have A4 := Aside0.mk A40
 clear A40
 by_cases c5 : (t133.length : Int) = 0
 ·rw [if_pos c5] at H
  have c5b0 : ((t133.length : Int) == 0) = true := beq_iff_eq.mpr c5
  have c5b1 : ((t133.length : Int) != 0) = false := bne_eq_false_iff_eq.mpr c5
  clear c5
  simp only [Option.some.injEq, Prod.mk.injEq] at H
  obtain ⟨rfl, rfl, rfl, rfl, rfl, rfl⟩ := H
  go_enter Tryd.func14, Tryd.ntmps14
  go_wp2_with (first | ((with_reducible refine gate_dst (N := 3) rfl ?_); refine box_event ?hg (N := 3) ?hd (cs := #[.int .i64 a0_0, .slice A0_1 l0_1.length c0_1, .slice A0_2 l0_2.length c0_2]) (t := 27) ?hr ?_; (case hd => rfl); (case hg => rfl); (case hr => first | (go_simp; done) | (go_simp; rfl)); intro gb128 hg w6 hbox hb; have n0_ := Aside0.mk (below_step (zL HB.out) hb); have n1_ := Aside0.mk (hbox); have n2_ := Aside0.mk (zG hg (zL HB.out)); have n3_ := Aside0.mk (zG hg (zL HB.out)); revert n0_ n1_ n2_ n3_; clear HB; intro HB BK128 GW128 GE128; clear hb hbox hg) | ((with_reducible refine gate_dst (N := 4) rfl ?_); refine box_event ?hg (N := 4) ?hd (cs := #[.int .i64 a1]) (t := 3) ?hr ?_; (case hd => rfl); (case hg => rfl); (case hr => first | (go_simp; done) | (go_simp; rfl)); intro gb129 hg w7 hbox hb; have n0_ := Aside0.mk (blk_below (g := gb128) (o := .cells #[.int .i64 a0_0, .slice A0_1 l0_1.length c0_1, .slice A0_2 l0_2.length c0_2] 27 (0, 0)) (zK BK128.out) hb); have n1_ := Aside0.mk (below_step (zL HB.out) hb); have n2_ := Aside0.mk (hbox); have n3_ := Aside0.mk (zG hg (zL HB.out)); have n4_ := Aside0.mk (zG hg (zL HB.out)); have n5_ := Aside0.mk (zN (g := gb128) (o := .cells #[.int .i64 a0_0, .slice A0_1 l0_1.length c0_1, .slice A0_2 l0_2.length c0_2] 27 (0, 0)) hg (zK BK128.out)); have n6_ := Aside0.mk (zO (g := gb128) (o := .cells #[.int .i64 a0_0, .slice A0_1 l0_1.length c0_1, .slice A0_2 l0_2.length c0_2] 27 (0, 0)) hg (zK BK128.out)); revert n0_ n1_ n2_ n3_ n4_ n5_ n6_; clear BK128 HB; intro BK128 HB BK129 GW129 GE129 NB128_129 NB129_128; clear hb hbox hg) | ((with_reducible refine gate_dst (N := 5) rfl ?_); refine box_event ?hg (N := 5) ?hd (cs := #[.string a2]) (t := 9) ?hr ?_; (case hd => rfl); (case hg => rfl); (case hr => first | (go_simp; done) | (go_simp; rfl)); intro gb130 hg w8 hbox hb; have n0_ := Aside0.mk (blk_below (g := gb128) (o := .cells #[.int .i64 a0_0, .slice A0_1 l0_1.length c0_1, .slice A0_2 l0_2.length c0_2] 27 (0, 0)) (zK BK128.out) hb); have n1_ := Aside0.mk (blk_below (g := gb129) (o := .cells #[.int .i64 a1] 3 (0, 0)) (zK BK129.out) hb); have n2_ := Aside0.mk (below_step (zL HB.out) hb); have n3_ := Aside0.mk (hbox); have n4_ := Aside0.mk (zG hg (zL HB.out)); have n5_ := Aside0.mk (zG hg (zL HB.out)); have n6_ := Aside0.mk (zN (g := gb128) (o := .cells #[.int .i64 a0_0, .slice A0_1 l0_1.length c0_1, .slice A0_2 l0_2.length c0_2] 27 (0, 0)) hg (zK BK128.out)); have n7_ := Aside0.mk (zO (g := gb128) (o := .cells #[.int .i64 a0_0, .slice A0_1 l0_1.length c0_1, .slice A0_2 l0_2.length c0_2] 27 (0, 0)) hg (zK BK128.out)); have n8_ := Aside0.mk (zN (g := gb129) (o := .cells #[.int .i64 a1] 3 (0, 0)) hg (zK BK129.out)); have n9_ := Aside0.mk (zO (g := gb129) (o := .cells #[.int .i64 a1] 3 (0, 0)) hg (zK BK129.out)); revert n0_ n1_ n2_ n3_ n4_ n5_ n6_ n7_ n8_ n9_; clear BK128 BK129 HB; intro BK128 BK129 HB BK130 GW130 GE130 NB128_130 NB130_128 NB129_130 NB130_129; clear hb hbox hg) | ((with_reducible refine gate_dst (N := 6) rfl ?_); refine box_event ?hg (N := 6) ?hd (cs := #[.int .i64 0, .string (⟨#[]⟩ : ByteArray), .bool false, .int .i64 0, .int .i64 0]) (t := 34) ?hr ?_; (case hd => rfl); (case hg => rfl); (case hr => first | (go_simp; done) | (go_simp; rfl)); intro gb131 hg w9 hbox hb; have n0_ := Aside0.mk (blk_below (g := gb128) (o := .cells #[.int .i64 a0_0, .slice A0_1 l0_1.length c0_1, .slice A0_2 l0_2.length c0_2] 27 (0, 0)) (zK BK128.out) hb); have n1_ := Aside0.mk (blk_below (g := gb129) (o := .cells #[.int .i64 a1] 3 (0, 0)) (zK BK129.out) hb); have n2_ := Aside0.mk (blk_below (g := gb130) (o := .cells #[.string a2] 9 (0, 0)) (zK BK130.out) hb); have n3_ := Aside0.mk (below_step (zL HB.out) hb); have n4_ := Aside0.mk (hbox); have n5_ := Aside0.mk (zG hg (zL HB.out)); have n6_ := Aside0.mk (zG hg (zL HB.out)); have n7_ := Aside0.mk (zN (g := gb128) (o := .cells #[.int .i64 a0_0, .slice A0_1 l0_1.length c0_1, .slice A0_2 l0_2.length c0_2] 27 (0, 0)) hg (zK BK128.out)); have n8_ := Aside0.mk (zO (g := gb128) (o := .cells #[.int .i64 a0_0, .slice A0_1 l0_1.length c0_1, .slice A0_2 l0_2.length c0_2] 27 (0, 0)) hg (zK BK128.out)); have n9_ := Aside0.mk (zN (g := gb129) (o := .cells #[.int .i64 a1] 3 (0, 0)) hg (zK BK129.out)); have n10_ := Aside0.mk (zO (g := gb129) (o := .cells #[.int .i64 a1] 3 (0, 0)) hg (zK BK129.out)); have n11_ := Aside0.mk (zN (g := gb130) (o := .cells #[.string a2] 9 (0, 0)) hg (zK BK130.out)); have n12_ := Aside0.mk (zO (g := gb130) (o := .cells #[.string a2] 9 (0, 0)) hg (zK BK130.out)); revert n0_ n1_ n2_ n3_ n4_ n5_ n6_ n7_ n8_ n9_ n10_ n11_ n12_; clear BK128 BK129 BK130 HB; intro BK128 BK129 BK130 HB BK131 GW131 GE131 NB128_131 NB131_128 NB129_131 NB131_129 NB130_131 NB131_130; clear hb hbox hg; have hnb10 := NB128_129.out; have hnc10 := NB129_128.out; have hnb11 := NB128_130.out; have hnc11 := NB130_128.out; have hnb12 := NB128_131.out; have hnc12 := NB131_128.out; obtain ⟨hcz13_0, hcz13_1, hcz13_2, hfz13_0, hfz13_1, hfz13_2⟩ := zC3 BK128.out) | ((with_reducible refine gate_callee (f := 31) rfl ?_); refine goesL_ (some 14) rfl rfl Tryd.func31 (by kernel_rfl) rfl #[.slice A0_1 l0_1.length c0_1, .func (.func 34) #[] #[.pointer (some ⟨gb129, 0, none⟩), .pointer (some ⟨gb130, 0, none⟩)]] rfl zA ?_; (with_reducible refine (lease_Lease_31_at34.calls k _ _ l0_1 gb129 gb130 a1 a2 t133 t134 _ ?side1 ?side2 ?side3 ?side4 A4.out).mono ?_); (case side1 => repeat (first | exact (Kd.C_below HR0_1.out HB.out) | (with_reducible refine Kd.C_alloc ?_ _) | (with_reducible refine Kd.C_drewN ?_ _) | (with_reducible refine Kd.C_drew ?_))); (case side2 => exact HC0_1.out); (case side3 => exact zK BK129.out); (case side4 => exact zK BK130.out); rintro e w14 ⟨v135, v137, rfl, ho0, ho1, hb⟩; refine ⟨_, rfl, ?_⟩; have n0_ := Aside0.mk (Kd.R_lower (Kd.R_newB ho0 (g := gb131) (o := .cells #[.int .i64 0, .string (⟨#[]⟩ : ByteArray), .bool false, .int .i64 0, .int .i64 0] 34 (0, 0)) (zK BK131.out)) (below_size (zL HB.out))); have n1_ := Aside0.mk (Kd.R_lower (Kd.R_newB ho1 (g := gb131) (o := .cells #[.int .i64 0, .string (⟨#[]⟩ : ByteArray), .bool false, .int .i64 0, .int .i64 0] 34 (0, 0)) (zK BK131.out)) (below_size (zL HB.out))); have n2_ := Aside0.mk (blk_below (g := gb128) (o := .cells #[.int .i64 a0_0, .slice A0_1 l0_1.length c0_1, .slice A0_2 l0_2.length c0_2] 27 (0, 0)) (zK BK128.out) hb); have n3_ := Aside0.mk (blk_below (g := gb129) (o := .cells #[.int .i64 a1] 3 (0, 0)) (zK BK129.out) hb); have n4_ := Aside0.mk (blk_below (g := gb130) (o := .cells #[.string a2] 9 (0, 0)) (zK BK130.out) hb); have n5_ := Aside0.mk (blk_below (g := gb131) (o := .cells #[.int .i64 0, .string (⟨#[]⟩ : ByteArray), .bool false, .int .i64 0, .int .i64 0] 34 (0, 0)) (zK BK131.out) hb); have n6_ := Aside0.mk (below_step (zL HB.out) hb); revert n0_ n1_ n2_ n3_ n4_ n5_ n6_; clear BK128 BK129 BK130 BK131 HB; intro HO136 HO138 BK128 BK129 BK130 BK131 HB; (try clear hb); (try clear hb2); (try clear hk); (try clear hi); (try clear ho0); (try clear ho1); obtain ⟨Ao15, co15, eo15⟩ := Kd.R_slice HO136.out; subst eo15; have hnb16 := NB131_129.out; have hnc16 := NB129_131.out; have hnb17 := NB131_130.out; have hnc17 := NB130_131.out; obtain ⟨hcz18_0, hcz18_1, hcz18_2, hcz18_3, hcz18_4, hfz18_0, hfz18_1, hfz18_2, hfz18_3, hfz18_4⟩ := zC5 BK131.out))
  refine bodyPost_ret (results_ct rfl _ _ gb131 34 #[.int .i64 0, .string (⟨#[]⟩ : ByteArray), .bool false, .int .i64 0, .int .i64 0] (0, 0) _ rfl (zP5 BK131.out) Tryd.underlying34 rfl (by kernel_rfl)) rfl ?_
  exact ⟨zE, zL HB.out⟩
 ·rw [if_neg c5] at H
  have c5b0 : ((t133.length : Int) == 0) = false := beq_eq_false_iff_ne.mpr c5
  have c5b1 : ((t133.length : Int) != 0) = true := bne_iff_ne.mpr c5
  have c5b2 : ¬ (t133 = []) := fun h_ => c5 (by rw [h_]; rfl)
  by_cases c19 : 0 < (t133.length : Int)
  ·rw [if_pos c19] at H
   have c19b0 : decide (0 < (t133.length : Int)) = true := decide_eq_true c19
   have c19b1 : decide (0 < t133.length) = true := decide_eq_true (by omega)
   clear c19
   simp only [Option.some.injEq, Prod.mk.injEq] at H
   obtain ⟨rfl, rfl, rfl, rfl, rfl, rfl⟩ := H
   go_enter Tryd.func14, Tryd.ntmps14
   go_wp2_with (first | ((with_reducible refine gate_dst (N := 3) rfl ?_); refine box_event ?hg (N := 3) ?hd (cs := #[.int .i64 a0_0, .slice A0_1 l0_1.length c0_1, .slice A0_2 l0_2.length c0_2]) (t := 27) ?hr ?_; (case hd => rfl); (case hg => rfl); (case hr => first | (go_simp; done) | (go_simp; rfl)); intro gb128 hg w20 hbox hb; have n0_ := Aside0.mk (below_step (zL HB.out) hb); have n1_ := Aside0.mk (hbox); have n2_ := Aside0.mk (zG hg (zL HB.out)); have n3_ := Aside0.mk (zG hg (zL HB.out)); revert n0_ n1_ n2_ n3_; clear HB; intro HB BK128 GW128 GE128; clear hb hbox hg) | ((with_reducible refine gate_dst (N := 4) rfl ?_); refine box_event ?hg (N := 4) ?hd (cs := #[.int .i64 a1]) (t := 3) ?hr ?_; (case hd => rfl); (case hg => rfl); (case hr => first | (go_simp; done) | (go_simp; rfl)); intro gb129 hg w21 hbox hb; have n0_ := Aside0.mk (blk_below (g := gb128) (o := .cells #[.int .i64 a0_0, .slice A0_1 l0_1.length c0_1, .slice A0_2 l0_2.length c0_2] 27 (0, 0)) (zK BK128.out) hb); have n1_ := Aside0.mk (below_step (zL HB.out) hb); have n2_ := Aside0.mk (hbox); have n3_ := Aside0.mk (zG hg (zL HB.out)); have n4_ := Aside0.mk (zG hg (zL HB.out)); have n5_ := Aside0.mk (zN (g := gb128) (o := .cells #[.int .i64 a0_0, .slice A0_1 l0_1.length c0_1, .slice A0_2 l0_2.length c0_2] 27 (0, 0)) hg (zK BK128.out)); have n6_ := Aside0.mk (zO (g := gb128) (o := .cells #[.int .i64 a0_0, .slice A0_1 l0_1.length c0_1, .slice A0_2 l0_2.length c0_2] 27 (0, 0)) hg (zK BK128.out)); revert n0_ n1_ n2_ n3_ n4_ n5_ n6_; clear BK128 HB; intro BK128 HB BK129 GW129 GE129 NB128_129 NB129_128; clear hb hbox hg) | ((with_reducible refine gate_dst (N := 5) rfl ?_); refine box_event ?hg (N := 5) ?hd (cs := #[.string a2]) (t := 9) ?hr ?_; (case hd => rfl); (case hg => rfl); (case hr => first | (go_simp; done) | (go_simp; rfl)); intro gb130 hg w22 hbox hb; have n0_ := Aside0.mk (blk_below (g := gb128) (o := .cells #[.int .i64 a0_0, .slice A0_1 l0_1.length c0_1, .slice A0_2 l0_2.length c0_2] 27 (0, 0)) (zK BK128.out) hb); have n1_ := Aside0.mk (blk_below (g := gb129) (o := .cells #[.int .i64 a1] 3 (0, 0)) (zK BK129.out) hb); have n2_ := Aside0.mk (below_step (zL HB.out) hb); have n3_ := Aside0.mk (hbox); have n4_ := Aside0.mk (zG hg (zL HB.out)); have n5_ := Aside0.mk (zG hg (zL HB.out)); have n6_ := Aside0.mk (zN (g := gb128) (o := .cells #[.int .i64 a0_0, .slice A0_1 l0_1.length c0_1, .slice A0_2 l0_2.length c0_2] 27 (0, 0)) hg (zK BK128.out)); have n7_ := Aside0.mk (zO (g := gb128) (o := .cells #[.int .i64 a0_0, .slice A0_1 l0_1.length c0_1, .slice A0_2 l0_2.length c0_2] 27 (0, 0)) hg (zK BK128.out)); have n8_ := Aside0.mk (zN (g := gb129) (o := .cells #[.int .i64 a1] 3 (0, 0)) hg (zK BK129.out)); have n9_ := Aside0.mk (zO (g := gb129) (o := .cells #[.int .i64 a1] 3 (0, 0)) hg (zK BK129.out)); revert n0_ n1_ n2_ n3_ n4_ n5_ n6_ n7_ n8_ n9_; clear BK128 BK129 HB; intro BK128 BK129 HB BK130 GW130 GE130 NB128_130 NB130_128 NB129_130 NB130_129; clear hb hbox hg) | ((with_reducible refine gate_dst (N := 6) rfl ?_); refine box_event ?hg (N := 6) ?hd (cs := #[.int .i64 0, .string (⟨#[]⟩ : ByteArray), .bool false, .int .i64 0, .int .i64 0]) (t := 34) ?hr ?_; (case hd => rfl); (case hg => rfl); (case hr => first | (go_simp; done) | (go_simp; rfl)); intro gb131 hg w23 hbox hb; have n0_ := Aside0.mk (blk_below (g := gb128) (o := .cells #[.int .i64 a0_0, .slice A0_1 l0_1.length c0_1, .slice A0_2 l0_2.length c0_2] 27 (0, 0)) (zK BK128.out) hb); have n1_ := Aside0.mk (blk_below (g := gb129) (o := .cells #[.int .i64 a1] 3 (0, 0)) (zK BK129.out) hb); have n2_ := Aside0.mk (blk_below (g := gb130) (o := .cells #[.string a2] 9 (0, 0)) (zK BK130.out) hb); have n3_ := Aside0.mk (below_step (zL HB.out) hb); have n4_ := Aside0.mk (hbox); have n5_ := Aside0.mk (zG hg (zL HB.out)); have n6_ := Aside0.mk (zG hg (zL HB.out)); have n7_ := Aside0.mk (zN (g := gb128) (o := .cells #[.int .i64 a0_0, .slice A0_1 l0_1.length c0_1, .slice A0_2 l0_2.length c0_2] 27 (0, 0)) hg (zK BK128.out)); have n8_ := Aside0.mk (zO (g := gb128) (o := .cells #[.int .i64 a0_0, .slice A0_1 l0_1.length c0_1, .slice A0_2 l0_2.length c0_2] 27 (0, 0)) hg (zK BK128.out)); have n9_ := Aside0.mk (zN (g := gb129) (o := .cells #[.int .i64 a1] 3 (0, 0)) hg (zK BK129.out)); have n10_ := Aside0.mk (zO (g := gb129) (o := .cells #[.int .i64 a1] 3 (0, 0)) hg (zK BK129.out)); have n11_ := Aside0.mk (zN (g := gb130) (o := .cells #[.string a2] 9 (0, 0)) hg (zK BK130.out)); have n12_ := Aside0.mk (zO (g := gb130) (o := .cells #[.string a2] 9 (0, 0)) hg (zK BK130.out)); revert n0_ n1_ n2_ n3_ n4_ n5_ n6_ n7_ n8_ n9_ n10_ n11_ n12_; clear BK128 BK129 BK130 HB; intro BK128 BK129 BK130 HB BK131 GW131 GE131 NB128_131 NB131_128 NB129_131 NB131_129 NB130_131 NB131_130; clear hb hbox hg; have hnb24 := NB128_129.out; have hnc24 := NB129_128.out; have hnb25 := NB128_130.out; have hnc25 := NB130_128.out; have hnb26 := NB128_131.out; have hnc26 := NB131_128.out; obtain ⟨hcz27_0, hcz27_1, hcz27_2, hfz27_0, hfz27_1, hfz27_2⟩ := zC3 BK128.out) | ((with_reducible refine gate_callee (f := 31) rfl ?_); refine goesL_ (some 14) rfl rfl Tryd.func31 (by kernel_rfl) rfl #[.slice A0_1 l0_1.length c0_1, .func (.func 34) #[] #[.pointer (some ⟨gb129, 0, none⟩), .pointer (some ⟨gb130, 0, none⟩)]] rfl zA ?_; (with_reducible refine (lease_Lease_31_at34.calls k _ _ l0_1 gb129 gb130 a1 a2 t133 t134 _ ?side1 ?side2 ?side3 ?side4 A4.out).mono ?_); (case side1 => repeat (first | exact (Kd.C_below HR0_1.out HB.out) | (with_reducible refine Kd.C_alloc ?_ _) | (with_reducible refine Kd.C_drewN ?_ _) | (with_reducible refine Kd.C_drew ?_))); (case side2 => exact HC0_1.out); (case side3 => exact zK BK129.out); (case side4 => exact zK BK130.out); rintro e w28 ⟨v135, v137, rfl, ho0, ho1, hb⟩; refine ⟨_, rfl, ?_⟩; have n0_ := Aside0.mk (Kd.R_lower (Kd.R_newB ho0 (g := gb131) (o := .cells #[.int .i64 0, .string (⟨#[]⟩ : ByteArray), .bool false, .int .i64 0, .int .i64 0] 34 (0, 0)) (zK BK131.out)) (below_size (zL HB.out))); have n1_ := Aside0.mk (Kd.R_lower (Kd.R_newB ho1 (g := gb131) (o := .cells #[.int .i64 0, .string (⟨#[]⟩ : ByteArray), .bool false, .int .i64 0, .int .i64 0] 34 (0, 0)) (zK BK131.out)) (below_size (zL HB.out))); have n2_ := Aside0.mk (blk_below (g := gb128) (o := .cells #[.int .i64 a0_0, .slice A0_1 l0_1.length c0_1, .slice A0_2 l0_2.length c0_2] 27 (0, 0)) (zK BK128.out) hb); have n3_ := Aside0.mk (blk_below (g := gb129) (o := .cells #[.int .i64 a1] 3 (0, 0)) (zK BK129.out) hb); have n4_ := Aside0.mk (blk_below (g := gb130) (o := .cells #[.string a2] 9 (0, 0)) (zK BK130.out) hb); have n5_ := Aside0.mk (blk_below (g := gb131) (o := .cells #[.int .i64 0, .string (⟨#[]⟩ : ByteArray), .bool false, .int .i64 0, .int .i64 0] 34 (0, 0)) (zK BK131.out) hb); have n6_ := Aside0.mk (below_step (zL HB.out) hb); revert n0_ n1_ n2_ n3_ n4_ n5_ n6_; clear BK128 BK129 BK130 BK131 HB; intro HO136 HO138 BK128 BK129 BK130 BK131 HB; (try clear hb); (try clear hb2); (try clear hk); (try clear hi); (try clear ho0); (try clear ho1); obtain ⟨Ao29, co29, eo29⟩ := Kd.R_slice HO136.out; subst eo29; have p139 : 0 ≤ (0 : Int) := (by omega); have q139 : 0 < (t133.length : Int) := zD; obtain ⟨ad139, e139, hx139_0, hx139_1, hx139_2, hx139_3, hx139_4⟩ := at_T34 (Kd.R_reads' HO136.out).2.2 0 p139 q139; cases e139; have qi139 : (0 < t133.length) = True := eq_true (by omega); (try rw [show ((0 : Int)).toNat = 0 from rfl] at hx139_0); (try rw [show 0 * 5 = 0 from rfl] at hx139_0); (try rw [Addr.add_zero'] at hx139_0); (try rw [show ((0 : Int)).toNat = 0 from rfl] at hx139_1); (try rw [show 0 * 5 = 0 from rfl] at hx139_1); (try rw [Addr.add_zero'] at hx139_1); (try rw [show ((0 : Int)).toNat = 0 from rfl] at hx139_2); (try rw [show 0 * 5 = 0 from rfl] at hx139_2); (try rw [Addr.add_zero'] at hx139_2); (try rw [show ((0 : Int)).toNat = 0 from rfl] at hx139_3); (try rw [show 0 * 5 = 0 from rfl] at hx139_3); (try rw [Addr.add_zero'] at hx139_3); (try rw [show ((0 : Int)).toNat = 0 from rfl] at hx139_4); (try rw [show 0 * 5 = 0 from rfl] at hx139_4); (try rw [Addr.add_zero'] at hx139_4); replace p139 := eq_true p139; replace q139 := eq_true q139; have hnb30 := NB131_129.out; have hnc30 := NB129_131.out; have hnb31 := NB131_130.out; have hnc31 := NB130_131.out; obtain ⟨hcz32_0, hcz32_1, hcz32_2, hcz32_3, hcz32_4, hfz32_0, hfz32_1, hfz32_2, hfz32_3, hfz32_4⟩ := zC5 BK131.out))
   refine bodyPost_ret (results_ct rfl _ _ gb131 34 #[.int .i64 ((rd_T34 t133 0).f0), .string ((rd_T34 t133 0).f1), .bool ((rd_T34 t133 0).f2), .int .i64 ((rd_T34 t133 0).f3), .int .i64 ((rd_T34 t133 0).f4)] (0, 0) _ rfl (zP5 BK131.out) Tryd.underlying34 rfl (by kernel_rfl)) rfl ?_
   exact ⟨zE, zL HB.out⟩
  ·rw [if_neg c19] at H
   exact absurd H (by simp)

-- NOT PRINTED: function 36 (lease_Ask_36)

/-! ### lease_Waits_1: function 43 -/
def lease_Waits_1.f (a0_0 : Int) (a0_1 : ByteArray) (a0_2 : Bool) (a0_3 : Int) (a1_0 : Int) : Option (Bool) := some (a0_0 == a1_0)
set_option maxHeartbeats 8000000 in
set_option maxRecDepth 100000 in
theorem lease_Waits_1.calls (a0_0 : Int) (a0_1 : ByteArray) (a0_2 : Bool) (a0_3 : Int) (g1_0 : Nat) (a1_0 : Int) (r : Bool) (w : World) (hb1_0 : w.heap[g1_0]? = some (.cells #[.int .i64 a1_0] 3 (0, 0))) (h : lease_Waits_1.f a0_0 a0_1 a0_2 a0_3 a1_0 = some r) :
  Calls Tryd.prog 43 #[.agg #[.int .i64 a0_0, .string a0_1, .bool a0_2, .int .i64 a0_3], .pointer (some ⟨g1_0, 0, none⟩)] w fun e w' => e = .returned (.bool r) ∧ Below w.heap.size w w' := by
 have hu32 := Tryd.underlying32
 have BK149 := Aside0.mk hb1_0
 clear hb1_0
 have HB := Aside0.mk (Below.refl w.heap.size w)
 have H : (some (a0_0 == a1_0)) = some r := h
 clear h
 obtain rfl := Option.some.inj H
 go_enter Tryd.func43, Tryd.ntmps43
 go_wp2_with (first | ((with_reducible refine gate_dst (N := 2) rfl ?_); refine box_event ?hg (N := 2) ?hd (cs := #[.int .i64 a0_0, .string a0_1, .bool a0_2, .int .i64 a0_3]) (t := 32) ?hr ?_; (case hd => rfl); (case hg => rfl); (case hr => first | (go_simp; done) | (go_simp; rfl)); intro gb150 hg w3 hbox hb; have n0_ := Aside0.mk (blk_below (g := g1_0) (o := .cells #[.int .i64 a1_0] 3 (0, 0)) (zK BK149.out) hb); have n1_ := Aside0.mk (below_step (zL HB.out) hb); have n2_ := Aside0.mk (hbox); have n3_ := Aside0.mk (zG hg (zL HB.out)); have n4_ := Aside0.mk (zG hg (zL HB.out)); have n5_ := Aside0.mk (zN (g := g1_0) (o := .cells #[.int .i64 a1_0] 3 (0, 0)) hg (zK BK149.out)); have n6_ := Aside0.mk (zO (g := g1_0) (o := .cells #[.int .i64 a1_0] 3 (0, 0)) hg (zK BK149.out)); revert n0_ n1_ n2_ n3_ n4_ n5_ n6_; clear BK149 HB; intro BK149 HB BK150 GW150 GE150 NB149_150 NB150_149; clear hb hbox hg; have hnb4 := NB150_149.out; have hnc4 := NB149_150.out; obtain ⟨hcz5_0, hcz5_1, hcz5_2, hcz5_3, hfz5_0, hfz5_1, hfz5_2, hfz5_3⟩ := zC4 BK150.out; obtain ⟨hcz6_0, hfz6_0⟩ := zC1 BK149.out))
 go_ret
 exact ⟨zE, zL HB.out⟩

/-! ### lease_Ask_36_at43: function 36 -/
def lease_Ask_36_at43.l0 : Nat → List (S32) → List (S32) → List (S32) → Int → Int → Int → Option ((List (S32)) × (List (S32)))
 | 0, _, _, _, _, _, _ => none
 | k + 1, x4, x5, x8, x9, x10, x153000 => if x10 < x9 then (if 0 ≤ x10 then (if x10 < (x8.length : Int) then ((lease_Waits_1.f ((rd_T32 x8 x10).f0) ((rd_T32 x8 x10).f1) ((rd_T32 x8 x10).f2) ((rd_T32 x8 x10).f3) x153000).bind fun t155 => (if t155 = true then (if x4.length < 3518437208883 then (lease_Ask_36_at43.l0 k (x4 ++ [(⟨(rd_T32 x8 x10).f0, (rd_T32 x8 x10).f1, (rd_T32 x8 x10).f2, (rd_T32 x8 x10).f3⟩ : S32)]) x5 x8 x9 (wrap64 (x10 + 1)) x153000) else (none)) else (if x5.length < 3518437208883 then (lease_Ask_36_at43.l0 k x4 (x5 ++ [(⟨(rd_T32 x8 x10).f0, (rd_T32 x8 x10).f1, (rd_T32 x8 x10).f2, (rd_T32 x8 x10).f3⟩ : S32)]) x8 x9 (wrap64 (x10 + 1)) x153000) else (none)))) else (none)) else (none)) else (some (x4, x5))
def lease_Ask_36_at43.f (k : Nat) (l0 : List (S32)) (a1_0 : Int) : Option ((List (S32)) × (List (S32))) := lease_Ask_36_at43.l0 k ([] : List (S32)) ([] : List (S32)) l0 (l0.length : Int) 0 a1_0
theorem lease_Ask_36_at43.mono_l : ∀ k, (∀ y0 y1 y2 y3 y4 y5, LeO (lease_Ask_36_at43.l0 k y0 y1 y2 y3 y4 y5) (lease_Ask_36_at43.l0 (k + 1) y0 y1 y2 y3 y4 y5))
 | 0 => fun _ _ _ _ _ _ r h => by simp [lease_Ask_36_at43.l0] at h
 | k + 1 => by
  have ih0 := lease_Ask_36_at43.mono_l k
  ·intro y0 y1 y2 y3 y4 y5
   unfold lease_Ask_36_at43.l0
   repeat' first
   | (with_reducible exact ih0 _ _ _ _ _ _)
   | (with_reducible exact LeO.refl _)
   | (with_reducible exact LeO.none _)
   | (with_reducible refine LeO.ite ?_ ?_)
   | (with_reducible refine LeO.bind ?_ (fun _ => ?_))
   | exact ih0 _ _ _ _ _ _
   | exact LeO.none _
   | refine LeO.ite ?_ ?_
   | refine LeO.bind ?_ (fun _ => ?_)
theorem lease_Ask_36_at43.mono : ∀ a0 a1 k, LeO (lease_Ask_36_at43.f k a0 a1) (lease_Ask_36_at43.f (k + 1) a0 a1) := by
 intro a0 a1 k
 have ih0 := lease_Ask_36_at43.mono_l k
 unfold lease_Ask_36_at43.f
 repeat' first
   | (with_reducible exact ih0 _ _ _ _ _ _)
   | (with_reducible exact LeO.refl _)
   | (with_reducible exact LeO.none _)
   | (with_reducible refine LeO.ite ?_ ?_)
   | (with_reducible refine LeO.bind ?_ (fun _ => ?_))
   | exact ih0 _ _ _ _ _ _
   | exact LeO.none _
   | refine LeO.ite ?_ ?_
   | refine LeO.bind ?_ (fun _ => ?_)
set_option maxHeartbeats 8000000 in
set_option maxRecDepth 100000 in
theorem lease_Ask_36_at43.calls (k : Nat) (A0 : Option Addr) (c0 : Nat) (l0 : List (S32)) (g1_0 : Nat) (a1_0 : Int) (r1 : List (S32)) (r2 : List (S32)) (w : World) (hr0 : Kd.C k32 w A0 l0.length l0) (hc0 : l0.length ≤ c0) (hb1_0 : w.heap[g1_0]? = some (.cells #[.int .i64 a1_0] 3 (0, 0))) (h : lease_Ask_36_at43.f k l0 a1_0 = some (r1, r2)) :
  Calls Tryd.prog 36 #[.slice A0 l0.length c0, .func (.func 43) #[] #[.pointer (some ⟨g1_0, 0, none⟩)]] w fun e w' => ∃ v0_ v1_ : Value, e = .returned (.tuple #[v0_, v1_]) ∧ Kd.R k32 32 w' w.heap.size (fun k_ => some k_ ≠ (v1_ : Value).ownBlock) v0_ r1 ∧ Kd.R k32 32 w' w.heap.size (fun k_ => some k_ ≠ (v0_ : Value).ownBlock) v1_ r2 ∧ Below w.heap.size w w' := by
 have hu32 := Tryd.underlying32
 have HR0 := Aside0.mk hr0
 have HC0 := Aside0.mk hc0
 clear hr0 hc0
 have BK152 := Aside0.mk hb1_0
 clear hb1_0
 have HB := Aside0.mk (Below.refl w.heap.size w)
 have H : (lease_Ask_36_at43.l0 k ([] : List (S32)) ([] : List (S32)) l0 (l0.length : Int) 0 a1_0) = some (r1, r2) := h
 clear h
 have H' := Aside0.mk H
 clear H
 go_enter Tryd.func36, Tryd.ntmps36
 go_wp2
 go_loopg [4, 5, 10] k (fun kq v4 v5 v10 w' => ∃ (x4_1 : List (S32)) (x5_1 : List (S32)) (x10_1 : Int), v10 = .int .i64 x10_1 ∧ Aside0 (lease_Ask_36_at43.l0 kq x4_1 x5_1 l0 (l0.length : Int) x10_1 a1_0 = some (r1, r2)) ∧ Aside0 (kq ≤ k) ∧ Aside0 (Kd.R k32 32 w' w.heap.size (fun k_ => some k_ ≠ (v5 : Value).ownBlock) v4 x4_1) ∧ Aside0 (Kd.R k32 32 w' w.heap.size (fun k_ => some k_ ≠ (v4 : Value).ownBlock) v5 x5_1) ∧ Aside0 (w'.heap[g1_0]? = some (.cells #[.int .i64 a1_0] 3 (0, 0))) ∧ Aside0 (Below w.heap.size w w'))
 case atStart => exact ⟨(([] : List (S32))), (([] : List (S32))), (0), zS, H', ⟨Nat.le_refl _⟩, ⟨by first | exact Kd.R_nil _ _ _ _ _ | exact Kd.N_nil _ _ _ _ _ | exact Kd.V_nil _ _ _ _ _ | exact Kd.Q_nil _ _ _ _ _ | exact Kd.S_nil _ _ _ _ _⟩, ⟨by first | exact Kd.R_nil _ _ _ _ _ | exact Kd.N_nil _ _ _ _ _ | exact Kd.V_nil _ _ _ _ _ | exact Kd.Q_nil _ _ _ _ _ | exact Kd.S_nil _ _ _ _ _⟩, ⟨zK BK152.out⟩, ⟨zL HB.out⟩⟩
 case round =>
  clear H'
  try clear p2
  obtain ⟨x4_1, x5_1, x10_1, rfl, HA, HK1, HO_4, HO_5, BK152, HB⟩ := hrel
  cases gk with
  | zero => exact absurd HA.out (by simp [lease_Ask_36_at43.l0])
  | succ k1 =>
   have H := HA.out
   clear HA
   simp only [lease_Ask_36_at43.l0] at H
   by_cases c3 : x10_1 < (l0.length : Int)
   ·rw [if_pos c3] at H
    have c3b0 : decide (x10_1 < (l0.length : Int)) = true := decide_eq_true c3
    clear c3
    by_cases c4 : 0 ≤ x10_1
    ·rw [if_pos c4] at H
     have c4b0 : decide (0 ≤ x10_1) = true := decide_eq_true c4
     clear c4
     by_cases c5 : x10_1 < (l0.length : Int)
     ·rw [if_pos c5] at H
      have c5b0 : decide (x10_1 < (l0.length : Int)) = true := decide_eq_true c5
      clear c5
      replace H := Option.bind_eq_some_iff.mp H
      obtain ⟨t155, A60, H⟩ := H
      replace H : (if t155 = true then (if x4_1.length < 3518437208883 then (lease_Ask_36_at43.l0 k1 (x4_1 ++ [(⟨(rd_T32 l0 x10_1).f0, (rd_T32 l0 x10_1).f1, (rd_T32 l0 x10_1).f2, (rd_T32 l0 x10_1).f3⟩ : S32)]) x5_1 l0 (l0.length : Int) (wrap64 (x10_1 + 1)) a1_0) else (none)) else (if x5_1.length < 3518437208883 then (lease_Ask_36_at43.l0 k1 x4_1 (x5_1 ++ [(⟨(rd_T32 l0 x10_1).f0, (rd_T32 l0 x10_1).f1, (rd_T32 l0 x10_1).f2, (rd_T32 l0 x10_1).f3⟩ : S32)]) l0 (l0.length : Int) (wrap64 (x10_1 + 1)) a1_0) else (none))) = some (r1, r2) := H
      have A6 := Aside0.mk A60
      clear A60
      by_cases c7 : t155 = true
      ·subst c7
       have H1 : (if x4_1.length < 3518437208883 then (lease_Ask_36_at43.l0 k1 (x4_1 ++ [(⟨(rd_T32 l0 x10_1).f0, (rd_T32 l0 x10_1).f1, (rd_T32 l0 x10_1).f2, (rd_T32 l0 x10_1).f3⟩ : S32)]) x5_1 l0 (l0.length : Int) (wrap64 (x10_1 + 1)) a1_0) else (none)) = some (r1, r2) := by rw [if_pos rfl] at H; exact H
       clear H
       have H := H1
       clear H1
       by_cases c8 : x4_1.length < 3518437208883
       ·rw [if_pos c8] at H
        have LMc8 := Aside0.mk c8
        clear c8
        obtain ⟨y156, hy156⟩ : ∃ y_ : List (S32), y_ = (x4_1 ++ [(⟨(rd_T32 l0 x10_1).f0, (rd_T32 l0 x10_1).f1, (rd_T32 l0 x10_1).f2, (rd_T32 l0 x10_1).f3⟩ : S32)]) := ⟨_, rfl⟩
        replace H : (lease_Ask_36_at43.l0 k1 y156 x5_1 l0 (l0.length : Int) (wrap64 (x10_1 + 1)) a1_0) = some (r1, r2) := zH hy156 H
        have Ny156 := Aside0.mk hy156
        clear hy156
        have H' := Aside0.mk H
        clear H
        have p153 : 0 ≤ (x10_1 : Int) := zD
        have q153 : x10_1 < (l0.length : Int) := zD
        obtain ⟨ad153, e153, hx153_0, hx153_1, hx153_2, hx153_3⟩ := at_T32 HR0.out x10_1 p153 q153
        cases e153
        replace hx153_0 := zX HB.out hx153_0
        replace hx153_1 := zX HB.out hx153_1
        replace hx153_2 := zX HB.out hx153_2
        replace hx153_3 := zX HB.out hx153_3
        replace p153 := eq_true p153
        replace q153 := eq_true q153
        go_wp2_with (first | ((with_reducible refine gate_dst (N := 7) rfl ?_); refine box_event ?hg (N := 7) ?hd (cs := #[.int .i64 0, .string (⟨#[]⟩ : ByteArray), .bool false, .int .i64 0]) (t := 32) ?hr ?_; (case hd => rfl); (case hg => rfl); (case hr => first | (go_simp; done) | (go_simp; rfl)); intro gb154 hg w9 hbox hb; have n0_ := Aside0.mk (Kd.R_below (Kd.R_elderB (zR HO_4.out) gb154 (Nat.le_of_eq hg.symm)) hb); have n1_ := Aside0.mk (Kd.R_below (Kd.R_elderB (zR HO_5.out) gb154 (Nat.le_of_eq hg.symm)) hb); have n2_ := Aside0.mk (blk_below (g := g1_0) (o := .cells #[.int .i64 a1_0] 3 (0, 0)) (zK BK152.out) hb); have n3_ := Aside0.mk (below_step (zL HB.out) hb); have n4_ := Aside0.mk (hbox); have n5_ := Aside0.mk (zG hg (zL HB.out)); have n6_ := Aside0.mk (zG hg (zL HB.out)); have n7_ := Aside0.mk (zN (g := g1_0) (o := .cells #[.int .i64 a1_0] 3 (0, 0)) hg (zK BK152.out)); have n8_ := Aside0.mk (zO (g := g1_0) (o := .cells #[.int .i64 a1_0] 3 (0, 0)) hg (zK BK152.out)); revert n0_ n1_ n2_ n3_ n4_ n5_ n6_ n7_ n8_; clear HO_4 HO_5 BK152 HB; intro HO_4 HO_5 BK152 HB BK154 GW154 GE154 NB152_154 NB154_152; clear hb hbox hg; have hnb10 := NB154_152.out; have hnc10 := NB152_154.out; obtain ⟨hcz11_0, hcz11_1, hcz11_2, hcz11_3, hfz11_0, hfz11_1, hfz11_2, hfz11_3⟩ := zC4 BK154.out) | (go_at_call 43; (with_reducible refine (lease_Waits_1.calls ((rd_T32 l0 x10_1).f0) ((rd_T32 l0 x10_1).f1) ((rd_T32 l0 x10_1).f2) ((rd_T32 l0 x10_1).f3) g1_0 a1_0 true _ ?side1 A6.out).mono ?_); (case side1 => exact zK BK152.out); rintro e w12 ⟨rfl, hb⟩; have n0_ := Aside0.mk (Kd.R_below (zM HO_4.out (g := gb154) (fun _ hk => hk.2)) hb); have n1_ := Aside0.mk (Kd.R_below (zM HO_5.out (g := gb154) (fun _ hk => hk.2)) hb); have n2_ := Aside0.mk (blk_below (g := g1_0) (o := .cells #[.int .i64 a1_0] 3 (0, 0)) (zK BK152.out) hb); have n3_ := Aside0.mk (blk_below (g := gb154) (o := .cells #[.int .i64 ((rd_T32 l0 x10_1).f0), .string ((rd_T32 l0 x10_1).f1), .bool ((rd_T32 l0 x10_1).f2), .int .i64 ((rd_T32 l0 x10_1).f3)] 32 (0, 0)) (zP4 BK154.out) hb); have n4_ := Aside0.mk (below_step (zL HB.out) hb); revert n0_ n1_ n2_ n3_ n4_; clear HO_4 HO_5 BK152 BK154 HB; intro HO_4 HO_5 BK152 BK154 HB; (try clear hb); (try clear hb2); (try clear hk); (try clear hi); obtain ⟨hcz13_0, hcz13_1, hcz13_2, hcz13_3, hfz13_0, hfz13_1, hfz13_2, hfz13_3⟩ := zC4 BK154.out) | ((with_reducible refine gate_builtin (b := .append) (xs := #[.tmp 17, .tmp 19]) rfl ?_); at_builtin; refine Kd.R_append k32 (w0 := w) w.heap.size rfl (.tmp 17) (.tmp 19) 25 32 (.agg #[(.int .i64 0), (.string ⟨#[]⟩), (.bool false), (.int .i64 0)]) 40 rfl Tryd.underlying25 info32 rfl (by decide) (by omega) u4 x4_1 (⟨(rd_T32 l0 x10_1).f0, (rd_T32 l0 x10_1).f1, (rd_T32 l0 x10_1).f2, (rd_T32 l0 x10_1).f3⟩ : S32) [.int .i64 ((rd_T32 l0 x10_1).f0), .string ((rd_T32 l0 x10_1).f1), .bool ((rd_T32 l0 x10_1).f2), .int .i64 ((rd_T32 l0 x10_1).f3)] (fun k_ => some k_ ≠ (u5 : Value).ownBlock ∧ k_ ≠ gb154) (fun _ => False) rfl rfl ?aP (fun _ hk => hk.elim) ?aF ?aO ?aB ?aS ?aL ?_; (case aP => exact k32_mkM _ _ _ (⟨(rd_T32 l0 x10_1).f0, (rd_T32 l0 x10_1).f1, (rd_T32 l0 x10_1).f2, (rd_T32 l0 x10_1).f3⟩ : S32)); (case aB => exact (zL HB.out)); (case aF => exact (fun k_ hk => ⟨Kd.fresh' (Kd.R_lt (zR HO_5.out)) k_ hk, Kd.freshB (g := gb154) (o := .cells #[.int .i64 ((rd_T32 l0 x10_1).f0), .string ((rd_T32 l0 x10_1).f1), .bool ((rd_T32 l0 x10_1).f2), .int .i64 ((rd_T32 l0 x10_1).f3)] 32 (0, 0)) (zK BK154.out) k_ hk⟩)); (case aO => exact (zR HO_4.out)); (case aS => exact (below_size (zL HB.out))); (case aL => have := LMc8.out; omega); intro v157 w14 ho hb hg hat; rw [← Ny156.out] at ho; have n0_ := Aside0.mk (Kd.R_after (ok := (fun k_ => k_ ≠ gb154)) (by (with_reducible repeat (first | apply Kd.R_alloc | apply Kd.R_drewN | apply Kd.R_drew)); exact Kd.R_mono HO_5.out (fun _ hk => ⟨hk.2, hk.1⟩)) hg hat); have n1_ := Aside0.mk (blk_grown (g := g1_0) (o := .cells #[.int .i64 a1_0] 3 (0, 0)) (zK BK152.out) hg (Kd.R_ne HO_4.out BK152.out (by decide))); have n2_ := Aside0.mk (blk_grown (g := gb154) (o := .cells #[.int .i64 ((rd_T32 l0 x10_1).f0), .string ((rd_T32 l0 x10_1).f1), .bool ((rd_T32 l0 x10_1).f2), .int .i64 ((rd_T32 l0 x10_1).f3)] 32 (0, 0)) (zK BK154.out) hg (Kd.R_away HO_4.out (fun _ hk => hk.2))); have n3_ := Aside0.mk (hb); have n4_ := Aside0.mk (ho); revert n0_ n1_ n2_ n3_ n4_; clear HO_5 BK152 BK154 HB HO_4; intro HO_5 BK152 BK154 HB HO158; clear ho hb hg hat))
        go_roundg k1
        case measure => have := HK1.out; omega
        case rel => exact ⟨(y156), (x5_1), (wrap64 (x10_1 + 1)), zS, H', ⟨by have := HK1.out; omega⟩, ⟨by (with_reducible repeat (first | apply Kd.R_alloc | apply Kd.R_drewN | apply Kd.R_drew)); exact Kd.R_mono HO158.out (fun _ hk => hk.1)⟩, ⟨by (with_reducible repeat (first | apply Kd.R_alloc | apply Kd.R_drewN | apply Kd.R_drew)); exact Kd.R_mono HO_5.out (fun _ hk => hk.2)⟩, ⟨zK BK152.out⟩, ⟨zL HB.out⟩⟩
       ·rw [if_neg c8] at H
        exact absurd H (by simp)
      ·replace c7 := Bool.eq_false_iff.mpr c7
       subst c7
       have H1 : (if x5_1.length < 3518437208883 then (lease_Ask_36_at43.l0 k1 x4_1 (x5_1 ++ [(⟨(rd_T32 l0 x10_1).f0, (rd_T32 l0 x10_1).f1, (rd_T32 l0 x10_1).f2, (rd_T32 l0 x10_1).f3⟩ : S32)]) l0 (l0.length : Int) (wrap64 (x10_1 + 1)) a1_0) else (none)) = some (r1, r2) := by rw [if_neg (show ¬ (false = true) by decide)] at H; exact H
       clear H
       have H := H1
       clear H1
       by_cases c15 : x5_1.length < 3518437208883
       ·rw [if_pos c15] at H
        have LMc15 := Aside0.mk c15
        clear c15
        obtain ⟨y159, hy159⟩ : ∃ y_ : List (S32), y_ = (x5_1 ++ [(⟨(rd_T32 l0 x10_1).f0, (rd_T32 l0 x10_1).f1, (rd_T32 l0 x10_1).f2, (rd_T32 l0 x10_1).f3⟩ : S32)]) := ⟨_, rfl⟩
        replace H : (lease_Ask_36_at43.l0 k1 x4_1 y159 l0 (l0.length : Int) (wrap64 (x10_1 + 1)) a1_0) = some (r1, r2) := zH hy159 H
        have Ny159 := Aside0.mk hy159
        clear hy159
        have H' := Aside0.mk H
        clear H
        have p153 : 0 ≤ (x10_1 : Int) := zD
        have q153 : x10_1 < (l0.length : Int) := zD
        obtain ⟨ad153, e153, hx153_0, hx153_1, hx153_2, hx153_3⟩ := at_T32 HR0.out x10_1 p153 q153
        cases e153
        replace hx153_0 := zX HB.out hx153_0
        replace hx153_1 := zX HB.out hx153_1
        replace hx153_2 := zX HB.out hx153_2
        replace hx153_3 := zX HB.out hx153_3
        replace p153 := eq_true p153
        replace q153 := eq_true q153
        go_wp2_with (first | ((with_reducible refine gate_dst (N := 7) rfl ?_); refine box_event ?hg (N := 7) ?hd (cs := #[.int .i64 0, .string (⟨#[]⟩ : ByteArray), .bool false, .int .i64 0]) (t := 32) ?hr ?_; (case hd => rfl); (case hg => rfl); (case hr => first | (go_simp; done) | (go_simp; rfl)); intro gb154 hg w16 hbox hb; have n0_ := Aside0.mk (Kd.R_below (Kd.R_elderB (zR HO_4.out) gb154 (Nat.le_of_eq hg.symm)) hb); have n1_ := Aside0.mk (Kd.R_below (Kd.R_elderB (zR HO_5.out) gb154 (Nat.le_of_eq hg.symm)) hb); have n2_ := Aside0.mk (blk_below (g := g1_0) (o := .cells #[.int .i64 a1_0] 3 (0, 0)) (zK BK152.out) hb); have n3_ := Aside0.mk (below_step (zL HB.out) hb); have n4_ := Aside0.mk (hbox); have n5_ := Aside0.mk (zG hg (zL HB.out)); have n6_ := Aside0.mk (zG hg (zL HB.out)); have n7_ := Aside0.mk (zN (g := g1_0) (o := .cells #[.int .i64 a1_0] 3 (0, 0)) hg (zK BK152.out)); have n8_ := Aside0.mk (zO (g := g1_0) (o := .cells #[.int .i64 a1_0] 3 (0, 0)) hg (zK BK152.out)); revert n0_ n1_ n2_ n3_ n4_ n5_ n6_ n7_ n8_; clear HO_4 HO_5 BK152 HB; intro HO_4 HO_5 BK152 HB BK154 GW154 GE154 NB152_154 NB154_152; clear hb hbox hg; have hnb17 := NB154_152.out; have hnc17 := NB152_154.out; obtain ⟨hcz18_0, hcz18_1, hcz18_2, hcz18_3, hfz18_0, hfz18_1, hfz18_2, hfz18_3⟩ := zC4 BK154.out) | (go_at_call 43; (with_reducible refine (lease_Waits_1.calls ((rd_T32 l0 x10_1).f0) ((rd_T32 l0 x10_1).f1) ((rd_T32 l0 x10_1).f2) ((rd_T32 l0 x10_1).f3) g1_0 a1_0 false _ ?side1 A6.out).mono ?_); (case side1 => exact zK BK152.out); rintro e w19 ⟨rfl, hb⟩; have n0_ := Aside0.mk (Kd.R_below (zM HO_4.out (g := gb154) (fun _ hk => hk.2)) hb); have n1_ := Aside0.mk (Kd.R_below (zM HO_5.out (g := gb154) (fun _ hk => hk.2)) hb); have n2_ := Aside0.mk (blk_below (g := g1_0) (o := .cells #[.int .i64 a1_0] 3 (0, 0)) (zK BK152.out) hb); have n3_ := Aside0.mk (blk_below (g := gb154) (o := .cells #[.int .i64 ((rd_T32 l0 x10_1).f0), .string ((rd_T32 l0 x10_1).f1), .bool ((rd_T32 l0 x10_1).f2), .int .i64 ((rd_T32 l0 x10_1).f3)] 32 (0, 0)) (zP4 BK154.out) hb); have n4_ := Aside0.mk (below_step (zL HB.out) hb); revert n0_ n1_ n2_ n3_ n4_; clear HO_4 HO_5 BK152 BK154 HB; intro HO_4 HO_5 BK152 BK154 HB; (try clear hb); (try clear hb2); (try clear hk); (try clear hi); obtain ⟨hcz20_0, hcz20_1, hcz20_2, hcz20_3, hfz20_0, hfz20_1, hfz20_2, hfz20_3⟩ := zC4 BK154.out) | ((with_reducible refine gate_builtin (b := .append) (xs := #[.tmp 21, .tmp 23]) rfl ?_); at_builtin; refine Kd.R_append k32 (w0 := w) w.heap.size rfl (.tmp 21) (.tmp 23) 25 32 (.agg #[(.int .i64 0), (.string ⟨#[]⟩), (.bool false), (.int .i64 0)]) 40 rfl Tryd.underlying25 info32 rfl (by decide) (by omega) u5 x5_1 (⟨(rd_T32 l0 x10_1).f0, (rd_T32 l0 x10_1).f1, (rd_T32 l0 x10_1).f2, (rd_T32 l0 x10_1).f3⟩ : S32) [.int .i64 ((rd_T32 l0 x10_1).f0), .string ((rd_T32 l0 x10_1).f1), .bool ((rd_T32 l0 x10_1).f2), .int .i64 ((rd_T32 l0 x10_1).f3)] (fun k_ => some k_ ≠ (u4 : Value).ownBlock ∧ k_ ≠ gb154) (fun _ => False) rfl rfl ?aP (fun _ hk => hk.elim) ?aF ?aO ?aB ?aS ?aL ?_; (case aP => exact k32_mkM _ _ _ (⟨(rd_T32 l0 x10_1).f0, (rd_T32 l0 x10_1).f1, (rd_T32 l0 x10_1).f2, (rd_T32 l0 x10_1).f3⟩ : S32)); (case aB => exact (zL HB.out)); (case aF => exact (fun k_ hk => ⟨Kd.fresh' (Kd.R_lt (zR HO_4.out)) k_ hk, Kd.freshB (g := gb154) (o := .cells #[.int .i64 ((rd_T32 l0 x10_1).f0), .string ((rd_T32 l0 x10_1).f1), .bool ((rd_T32 l0 x10_1).f2), .int .i64 ((rd_T32 l0 x10_1).f3)] 32 (0, 0)) (zK BK154.out) k_ hk⟩)); (case aO => exact (zR HO_5.out)); (case aS => exact (below_size (zL HB.out))); (case aL => have := LMc15.out; omega); intro v160 w21 ho hb hg hat; rw [← Ny159.out] at ho; have n0_ := Aside0.mk (Kd.R_after (ok := (fun k_ => k_ ≠ gb154)) (by (with_reducible repeat (first | apply Kd.R_alloc | apply Kd.R_drewN | apply Kd.R_drew)); exact Kd.R_mono HO_4.out (fun _ hk => ⟨hk.2, hk.1⟩)) hg hat); have n1_ := Aside0.mk (blk_grown (g := g1_0) (o := .cells #[.int .i64 a1_0] 3 (0, 0)) (zK BK152.out) hg (Kd.R_ne HO_5.out BK152.out (by decide))); have n2_ := Aside0.mk (blk_grown (g := gb154) (o := .cells #[.int .i64 ((rd_T32 l0 x10_1).f0), .string ((rd_T32 l0 x10_1).f1), .bool ((rd_T32 l0 x10_1).f2), .int .i64 ((rd_T32 l0 x10_1).f3)] 32 (0, 0)) (zK BK154.out) hg (Kd.R_away HO_5.out (fun _ hk => hk.2))); have n3_ := Aside0.mk (hb); have n4_ := Aside0.mk (ho); revert n0_ n1_ n2_ n3_ n4_; clear HO_4 BK152 BK154 HB HO_5; intro HO_4 BK152 BK154 HB HO161; clear ho hb hg hat))
        go_roundg k1
        case measure => have := HK1.out; omega
        case rel => exact ⟨(x4_1), (y159), (wrap64 (x10_1 + 1)), zS, H', ⟨by have := HK1.out; omega⟩, ⟨by (with_reducible repeat (first | apply Kd.R_alloc | apply Kd.R_drewN | apply Kd.R_drew)); exact Kd.R_mono HO_4.out (fun _ hk => hk.2)⟩, ⟨by (with_reducible repeat (first | apply Kd.R_alloc | apply Kd.R_drewN | apply Kd.R_drew)); exact Kd.R_mono HO161.out (fun _ hk => hk.1)⟩, ⟨zK BK152.out⟩, ⟨zL HB.out⟩⟩
       ·rw [if_neg c15] at H
        exact absurd H (by simp)
     ·rw [if_neg c5] at H
      exact absurd H (by simp)
    ·rw [if_neg c4] at H
     exact absurd H (by simp)
   ·rw [if_neg c3] at H
    have c3b0 : decide (x10_1 < (l0.length : Int)) = false := decide_eq_false c3
    clear c3
    simp only [Option.some.injEq, Prod.mk.injEq] at H
    obtain ⟨rfl, rfl⟩ := H
    go_wp2
    go_ret2
    exact ⟨_, _, zE, by (with_reducible repeat (first | apply Kd.R_alloc | apply Kd.R_drewN | apply Kd.R_drew)); exact HO_4.out, by (with_reducible repeat (first | apply Kd.R_alloc | apply Kd.R_drewN | apply Kd.R_drew)); exact HO_5.out, zL HB.out⟩

/-! ### lease_Waits: function 21 -/
def lease_Waits.f (k : Nat) (a0_0 : Int) (l0_1 : List (S34)) (l0_2 : List (S32)) (a1 : Int) : Option (Int × ByteArray × Bool × Int × Bool) := (lease_Ask_36_at43.f k l0_2 a1).bind fun bt166 => (if (bt166.1.length : Int) = 0 then (some (0, (⟨#[]⟩ : ByteArray), false, 0, false)) else (if 0 < (bt166.1.length : Int) then (some ((rd_T32 bt166.1 0).f0, (rd_T32 bt166.1 0).f1, (rd_T32 bt166.1 0).f2, (rd_T32 bt166.1 0).f3, true)) else (none)))
theorem lease_Waits.mono : ∀ a0 a1 a2 a3 k, LeO (lease_Waits.f k a0 a1 a2 a3) (lease_Waits.f (k + 1) a0 a1 a2 a3) := by
 intro a0 a1 a2 a3 k
 unfold lease_Waits.f
 repeat' first
   | (with_reducible exact lease_Ask_36_at43.mono _ _ _)
   | (with_reducible exact LeO.refl _)
   | (with_reducible exact LeO.none _)
   | (with_reducible refine LeO.ite ?_ ?_)
   | (with_reducible refine LeO.bind ?_ (fun _ => ?_))
   | exact lease_Ask_36_at43.mono _ _ _
   | exact LeO.none _
   | refine LeO.ite ?_ ?_
   | refine LeO.bind ?_ (fun _ => ?_)
set_option maxHeartbeats 8000000 in
set_option maxRecDepth 100000 in
theorem lease_Waits.calls (k : Nat) (a0_0 : Int) (A0_1 : Option Addr) (c0_1 : Nat) (l0_1 : List (S34)) (A0_2 : Option Addr) (c0_2 : Nat) (l0_2 : List (S32)) (a1 : Int) (r1 : Int) (r2 : ByteArray) (r3 : Bool) (r4 : Int) (r5 : Bool) (w : World) (hr0_1 : Kd.C k34 w A0_1 l0_1.length l0_1) (hc0_1 : l0_1.length ≤ c0_1) (hr0_2 : Kd.C k32 w A0_2 l0_2.length l0_2) (hc0_2 : l0_2.length ≤ c0_2) (h : lease_Waits.f k a0_0 l0_1 l0_2 a1 = some (r1, r2, r3, r4, r5)) :
  Calls Tryd.prog 21 #[.agg #[.int .i64 a0_0, .slice A0_1 l0_1.length c0_1, .slice A0_2 l0_2.length c0_2], .int .i64 a1] w fun e w' => e = .returned (.tuple #[.agg #[.int .i64 r1, .string r2, .bool r3, .int .i64 r4], .bool r5]) ∧ Below w.heap.size w w' := by
 have hu27 := Tryd.underlying27
 have hu32 := Tryd.underlying32
 have HR0_1 := Aside0.mk hr0_1
 have HC0_1 := Aside0.mk hc0_1
 clear hr0_1 hc0_1
 have HR0_2 := Aside0.mk hr0_2
 have HC0_2 := Aside0.mk hc0_2
 clear hr0_2 hc0_2
 have HB := Aside0.mk (Below.refl w.heap.size w)
 have H : ((lease_Ask_36_at43.f k l0_2 a1).bind fun bt166 => (if (bt166.1.length : Int) = 0 then (some (0, (⟨#[]⟩ : ByteArray), false, 0, false)) else (if 0 < (bt166.1.length : Int) then (some ((rd_T32 bt166.1 0).f0, (rd_T32 bt166.1 0).f1, (rd_T32 bt166.1 0).f2, (rd_T32 bt166.1 0).f3, true)) else (none)))) = some (r1, r2, r3, r4, r5) := h
 clear h
 replace H := Option.bind_eq_some_iff.mp H
 obtain ⟨⟨t166, t167⟩, A30, H⟩ := H
 replace H : (if (t166.length : Int) = 0 then (some (0, (⟨#[]⟩ : ByteArray), false, 0, false)) else (if 0 < (t166.length : Int) then (some ((rd_T32 t166 0).f0, (rd_T32 t166 0).f1, (rd_T32 t166 0).f2, (rd_T32 t166 0).f3, true)) else (none))) = some (r1, r2, r3, r4, r5) := H
 have A3 := Aside0.mk A30
 clear A30
 by_cases c4 : (t166.length : Int) = 0
 ·rw [if_pos c4] at H
  have c4b0 : ((t166.length : Int) == 0) = true := beq_iff_eq.mpr c4
  have c4b1 : ((t166.length : Int) != 0) = false := bne_eq_false_iff_eq.mpr c4
  clear c4
  simp only [Option.some.injEq, Prod.mk.injEq] at H
  obtain ⟨rfl, rfl, rfl, rfl, rfl⟩ := H
  go_enter Tryd.func21, Tryd.ntmps21
  go_wp2_with (first | ((with_reducible refine gate_dst (N := 2) rfl ?_); refine box_event ?hg (N := 2) ?hd (cs := #[.int .i64 a0_0, .slice A0_1 l0_1.length c0_1, .slice A0_2 l0_2.length c0_2]) (t := 27) ?hr ?_; (case hd => rfl); (case hg => rfl); (case hr => first | (go_simp; done) | (go_simp; rfl)); intro gb162 hg w5 hbox hb; have n0_ := Aside0.mk (below_step (zL HB.out) hb); have n1_ := Aside0.mk (hbox); have n2_ := Aside0.mk (zG hg (zL HB.out)); have n3_ := Aside0.mk (zG hg (zL HB.out)); revert n0_ n1_ n2_ n3_; clear HB; intro HB BK162 GW162 GE162; clear hb hbox hg) | ((with_reducible refine gate_dst (N := 3) rfl ?_); refine box_event ?hg (N := 3) ?hd (cs := #[.int .i64 a1]) (t := 3) ?hr ?_; (case hd => rfl); (case hg => rfl); (case hr => first | (go_simp; done) | (go_simp; rfl)); intro gb163 hg w6 hbox hb; have n0_ := Aside0.mk (blk_below (g := gb162) (o := .cells #[.int .i64 a0_0, .slice A0_1 l0_1.length c0_1, .slice A0_2 l0_2.length c0_2] 27 (0, 0)) (zK BK162.out) hb); have n1_ := Aside0.mk (below_step (zL HB.out) hb); have n2_ := Aside0.mk (hbox); have n3_ := Aside0.mk (zG hg (zL HB.out)); have n4_ := Aside0.mk (zG hg (zL HB.out)); have n5_ := Aside0.mk (zN (g := gb162) (o := .cells #[.int .i64 a0_0, .slice A0_1 l0_1.length c0_1, .slice A0_2 l0_2.length c0_2] 27 (0, 0)) hg (zK BK162.out)); have n6_ := Aside0.mk (zO (g := gb162) (o := .cells #[.int .i64 a0_0, .slice A0_1 l0_1.length c0_1, .slice A0_2 l0_2.length c0_2] 27 (0, 0)) hg (zK BK162.out)); revert n0_ n1_ n2_ n3_ n4_ n5_ n6_; clear BK162 HB; intro BK162 HB BK163 GW163 GE163 NB162_163 NB163_162; clear hb hbox hg) | ((with_reducible refine gate_dst (N := 4) rfl ?_); refine box_event ?hg (N := 4) ?hd (cs := #[.int .i64 0, .string (⟨#[]⟩ : ByteArray), .bool false, .int .i64 0]) (t := 32) ?hr ?_; (case hd => rfl); (case hg => rfl); (case hr => first | (go_simp; done) | (go_simp; rfl)); intro gb164 hg w7 hbox hb; have n0_ := Aside0.mk (blk_below (g := gb162) (o := .cells #[.int .i64 a0_0, .slice A0_1 l0_1.length c0_1, .slice A0_2 l0_2.length c0_2] 27 (0, 0)) (zK BK162.out) hb); have n1_ := Aside0.mk (blk_below (g := gb163) (o := .cells #[.int .i64 a1] 3 (0, 0)) (zK BK163.out) hb); have n2_ := Aside0.mk (below_step (zL HB.out) hb); have n3_ := Aside0.mk (hbox); have n4_ := Aside0.mk (zG hg (zL HB.out)); have n5_ := Aside0.mk (zG hg (zL HB.out)); have n6_ := Aside0.mk (zN (g := gb162) (o := .cells #[.int .i64 a0_0, .slice A0_1 l0_1.length c0_1, .slice A0_2 l0_2.length c0_2] 27 (0, 0)) hg (zK BK162.out)); have n7_ := Aside0.mk (zO (g := gb162) (o := .cells #[.int .i64 a0_0, .slice A0_1 l0_1.length c0_1, .slice A0_2 l0_2.length c0_2] 27 (0, 0)) hg (zK BK162.out)); have n8_ := Aside0.mk (zN (g := gb163) (o := .cells #[.int .i64 a1] 3 (0, 0)) hg (zK BK163.out)); have n9_ := Aside0.mk (zO (g := gb163) (o := .cells #[.int .i64 a1] 3 (0, 0)) hg (zK BK163.out)); revert n0_ n1_ n2_ n3_ n4_ n5_ n6_ n7_ n8_ n9_; clear BK162 BK163 HB; intro BK162 BK163 HB BK164 GW164 GE164 NB162_164 NB164_162 NB163_164 NB164_163; clear hb hbox hg; have hnb8 := NB162_163.out; have hnc8 := NB163_162.out; have hnb9 := NB162_164.out; have hnc9 := NB164_162.out; obtain ⟨hcz10_0, hcz10_1, hcz10_2, hfz10_0, hfz10_1, hfz10_2⟩ := zC3 BK162.out) | ((with_reducible refine gate_callee (f := 36) rfl ?_); refine goesL_ (some 12) rfl rfl Tryd.func36 (by kernel_rfl) rfl #[.slice A0_2 l0_2.length c0_2, .func (.func 43) #[] #[.pointer (some ⟨gb163, 0, none⟩)]] rfl zA ?_; (with_reducible refine (lease_Ask_36_at43.calls k _ _ l0_2 gb163 a1 t166 t167 _ ?side1 ?side2 ?side3 A3.out).mono ?_); (case side1 => repeat (first | exact (Kd.C_below HR0_2.out HB.out) | (with_reducible refine Kd.C_alloc ?_ _) | (with_reducible refine Kd.C_drewN ?_ _) | (with_reducible refine Kd.C_drew ?_))); (case side2 => exact HC0_2.out); (case side3 => exact zK BK163.out); rintro e w11 ⟨v168, v170, rfl, ho0, ho1, hb⟩; refine ⟨_, rfl, ?_⟩; have n0_ := Aside0.mk (Kd.R_lower (Kd.R_newB ho0 (g := gb164) (o := .cells #[.int .i64 0, .string (⟨#[]⟩ : ByteArray), .bool false, .int .i64 0] 32 (0, 0)) (zK BK164.out)) (below_size (zL HB.out))); have n1_ := Aside0.mk (Kd.R_lower (Kd.R_newB ho1 (g := gb164) (o := .cells #[.int .i64 0, .string (⟨#[]⟩ : ByteArray), .bool false, .int .i64 0] 32 (0, 0)) (zK BK164.out)) (below_size (zL HB.out))); have n2_ := Aside0.mk (blk_below (g := gb162) (o := .cells #[.int .i64 a0_0, .slice A0_1 l0_1.length c0_1, .slice A0_2 l0_2.length c0_2] 27 (0, 0)) (zK BK162.out) hb); have n3_ := Aside0.mk (blk_below (g := gb163) (o := .cells #[.int .i64 a1] 3 (0, 0)) (zK BK163.out) hb); have n4_ := Aside0.mk (blk_below (g := gb164) (o := .cells #[.int .i64 0, .string (⟨#[]⟩ : ByteArray), .bool false, .int .i64 0] 32 (0, 0)) (zK BK164.out) hb); have n5_ := Aside0.mk (below_step (zL HB.out) hb); revert n0_ n1_ n2_ n3_ n4_ n5_; clear BK162 BK163 BK164 HB; intro HO169 HO171 BK162 BK163 BK164 HB; (try clear hb); (try clear hb2); (try clear hk); (try clear hi); (try clear ho0); (try clear ho1); obtain ⟨Ao12, co12, eo12⟩ := Kd.R_slice HO169.out; subst eo12; have hnb13 := NB164_163.out; have hnc13 := NB163_164.out; obtain ⟨hcz14_0, hcz14_1, hcz14_2, hcz14_3, hfz14_0, hfz14_1, hfz14_2, hfz14_3⟩ := zC4 BK164.out))
  refine bodyPost_ret (results_ct rfl _ _ gb164 32 #[.int .i64 0, .string (⟨#[]⟩ : ByteArray), .bool false, .int .i64 0] (0, 0) _ rfl (zP4 BK164.out) Tryd.underlying32 rfl (by kernel_rfl)) rfl ?_
  exact ⟨zE, zL HB.out⟩
 ·rw [if_neg c4] at H
  have c4b0 : ((t166.length : Int) == 0) = false := beq_eq_false_iff_ne.mpr c4
  have c4b1 : ((t166.length : Int) != 0) = true := bne_iff_ne.mpr c4
  have c4b2 : ¬ (t166 = []) := fun h_ => c4 (by rw [h_]; rfl)
  by_cases c15 : 0 < (t166.length : Int)
  ·rw [if_pos c15] at H
   have c15b0 : decide (0 < (t166.length : Int)) = true := decide_eq_true c15
   have c15b1 : decide (0 < t166.length) = true := decide_eq_true (by omega)
   clear c15
   simp only [Option.some.injEq, Prod.mk.injEq] at H
   obtain ⟨rfl, rfl, rfl, rfl, rfl⟩ := H
   go_enter Tryd.func21, Tryd.ntmps21
   go_wp2_with (first | ((with_reducible refine gate_dst (N := 2) rfl ?_); refine box_event ?hg (N := 2) ?hd (cs := #[.int .i64 a0_0, .slice A0_1 l0_1.length c0_1, .slice A0_2 l0_2.length c0_2]) (t := 27) ?hr ?_; (case hd => rfl); (case hg => rfl); (case hr => first | (go_simp; done) | (go_simp; rfl)); intro gb162 hg w16 hbox hb; have n0_ := Aside0.mk (below_step (zL HB.out) hb); have n1_ := Aside0.mk (hbox); have n2_ := Aside0.mk (zG hg (zL HB.out)); have n3_ := Aside0.mk (zG hg (zL HB.out)); revert n0_ n1_ n2_ n3_; clear HB; intro HB BK162 GW162 GE162; clear hb hbox hg) | ((with_reducible refine gate_dst (N := 3) rfl ?_); refine box_event ?hg (N := 3) ?hd (cs := #[.int .i64 a1]) (t := 3) ?hr ?_; (case hd => rfl); (case hg => rfl); (case hr => first | (go_simp; done) | (go_simp; rfl)); intro gb163 hg w17 hbox hb; have n0_ := Aside0.mk (blk_below (g := gb162) (o := .cells #[.int .i64 a0_0, .slice A0_1 l0_1.length c0_1, .slice A0_2 l0_2.length c0_2] 27 (0, 0)) (zK BK162.out) hb); have n1_ := Aside0.mk (below_step (zL HB.out) hb); have n2_ := Aside0.mk (hbox); have n3_ := Aside0.mk (zG hg (zL HB.out)); have n4_ := Aside0.mk (zG hg (zL HB.out)); have n5_ := Aside0.mk (zN (g := gb162) (o := .cells #[.int .i64 a0_0, .slice A0_1 l0_1.length c0_1, .slice A0_2 l0_2.length c0_2] 27 (0, 0)) hg (zK BK162.out)); have n6_ := Aside0.mk (zO (g := gb162) (o := .cells #[.int .i64 a0_0, .slice A0_1 l0_1.length c0_1, .slice A0_2 l0_2.length c0_2] 27 (0, 0)) hg (zK BK162.out)); revert n0_ n1_ n2_ n3_ n4_ n5_ n6_; clear BK162 HB; intro BK162 HB BK163 GW163 GE163 NB162_163 NB163_162; clear hb hbox hg) | ((with_reducible refine gate_dst (N := 4) rfl ?_); refine box_event ?hg (N := 4) ?hd (cs := #[.int .i64 0, .string (⟨#[]⟩ : ByteArray), .bool false, .int .i64 0]) (t := 32) ?hr ?_; (case hd => rfl); (case hg => rfl); (case hr => first | (go_simp; done) | (go_simp; rfl)); intro gb164 hg w18 hbox hb; have n0_ := Aside0.mk (blk_below (g := gb162) (o := .cells #[.int .i64 a0_0, .slice A0_1 l0_1.length c0_1, .slice A0_2 l0_2.length c0_2] 27 (0, 0)) (zK BK162.out) hb); have n1_ := Aside0.mk (blk_below (g := gb163) (o := .cells #[.int .i64 a1] 3 (0, 0)) (zK BK163.out) hb); have n2_ := Aside0.mk (below_step (zL HB.out) hb); have n3_ := Aside0.mk (hbox); have n4_ := Aside0.mk (zG hg (zL HB.out)); have n5_ := Aside0.mk (zG hg (zL HB.out)); have n6_ := Aside0.mk (zN (g := gb162) (o := .cells #[.int .i64 a0_0, .slice A0_1 l0_1.length c0_1, .slice A0_2 l0_2.length c0_2] 27 (0, 0)) hg (zK BK162.out)); have n7_ := Aside0.mk (zO (g := gb162) (o := .cells #[.int .i64 a0_0, .slice A0_1 l0_1.length c0_1, .slice A0_2 l0_2.length c0_2] 27 (0, 0)) hg (zK BK162.out)); have n8_ := Aside0.mk (zN (g := gb163) (o := .cells #[.int .i64 a1] 3 (0, 0)) hg (zK BK163.out)); have n9_ := Aside0.mk (zO (g := gb163) (o := .cells #[.int .i64 a1] 3 (0, 0)) hg (zK BK163.out)); revert n0_ n1_ n2_ n3_ n4_ n5_ n6_ n7_ n8_ n9_; clear BK162 BK163 HB; intro BK162 BK163 HB BK164 GW164 GE164 NB162_164 NB164_162 NB163_164 NB164_163; clear hb hbox hg; have hnb19 := NB162_163.out; have hnc19 := NB163_162.out; have hnb20 := NB162_164.out; have hnc20 := NB164_162.out; obtain ⟨hcz21_0, hcz21_1, hcz21_2, hfz21_0, hfz21_1, hfz21_2⟩ := zC3 BK162.out) | ((with_reducible refine gate_callee (f := 36) rfl ?_); refine goesL_ (some 12) rfl rfl Tryd.func36 (by kernel_rfl) rfl #[.slice A0_2 l0_2.length c0_2, .func (.func 43) #[] #[.pointer (some ⟨gb163, 0, none⟩)]] rfl zA ?_; (with_reducible refine (lease_Ask_36_at43.calls k _ _ l0_2 gb163 a1 t166 t167 _ ?side1 ?side2 ?side3 A3.out).mono ?_); (case side1 => repeat (first | exact (Kd.C_below HR0_2.out HB.out) | (with_reducible refine Kd.C_alloc ?_ _) | (with_reducible refine Kd.C_drewN ?_ _) | (with_reducible refine Kd.C_drew ?_))); (case side2 => exact HC0_2.out); (case side3 => exact zK BK163.out); rintro e w22 ⟨v168, v170, rfl, ho0, ho1, hb⟩; refine ⟨_, rfl, ?_⟩; have n0_ := Aside0.mk (Kd.R_lower (Kd.R_newB ho0 (g := gb164) (o := .cells #[.int .i64 0, .string (⟨#[]⟩ : ByteArray), .bool false, .int .i64 0] 32 (0, 0)) (zK BK164.out)) (below_size (zL HB.out))); have n1_ := Aside0.mk (Kd.R_lower (Kd.R_newB ho1 (g := gb164) (o := .cells #[.int .i64 0, .string (⟨#[]⟩ : ByteArray), .bool false, .int .i64 0] 32 (0, 0)) (zK BK164.out)) (below_size (zL HB.out))); have n2_ := Aside0.mk (blk_below (g := gb162) (o := .cells #[.int .i64 a0_0, .slice A0_1 l0_1.length c0_1, .slice A0_2 l0_2.length c0_2] 27 (0, 0)) (zK BK162.out) hb); have n3_ := Aside0.mk (blk_below (g := gb163) (o := .cells #[.int .i64 a1] 3 (0, 0)) (zK BK163.out) hb); have n4_ := Aside0.mk (blk_below (g := gb164) (o := .cells #[.int .i64 0, .string (⟨#[]⟩ : ByteArray), .bool false, .int .i64 0] 32 (0, 0)) (zK BK164.out) hb); have n5_ := Aside0.mk (below_step (zL HB.out) hb); revert n0_ n1_ n2_ n3_ n4_ n5_; clear BK162 BK163 BK164 HB; intro HO169 HO171 BK162 BK163 BK164 HB; (try clear hb); (try clear hb2); (try clear hk); (try clear hi); (try clear ho0); (try clear ho1); obtain ⟨Ao23, co23, eo23⟩ := Kd.R_slice HO169.out; subst eo23; have p172 : 0 ≤ (0 : Int) := (by omega); have q172 : 0 < (t166.length : Int) := zD; obtain ⟨ad172, e172, hx172_0, hx172_1, hx172_2, hx172_3⟩ := at_T32 (Kd.R_reads' HO169.out).2.2 0 p172 q172; cases e172; have qi172 : (0 < t166.length) = True := eq_true (by omega); (try rw [show ((0 : Int)).toNat = 0 from rfl] at hx172_0); (try rw [show 0 * 4 = 0 from rfl] at hx172_0); (try rw [Addr.add_zero'] at hx172_0); (try rw [show ((0 : Int)).toNat = 0 from rfl] at hx172_1); (try rw [show 0 * 4 = 0 from rfl] at hx172_1); (try rw [Addr.add_zero'] at hx172_1); (try rw [show ((0 : Int)).toNat = 0 from rfl] at hx172_2); (try rw [show 0 * 4 = 0 from rfl] at hx172_2); (try rw [Addr.add_zero'] at hx172_2); (try rw [show ((0 : Int)).toNat = 0 from rfl] at hx172_3); (try rw [show 0 * 4 = 0 from rfl] at hx172_3); (try rw [Addr.add_zero'] at hx172_3); replace p172 := eq_true p172; replace q172 := eq_true q172; have hnb24 := NB164_163.out; have hnc24 := NB163_164.out; obtain ⟨hcz25_0, hcz25_1, hcz25_2, hcz25_3, hfz25_0, hfz25_1, hfz25_2, hfz25_3⟩ := zC4 BK164.out))
   refine bodyPost_ret (results_ct rfl _ _ gb164 32 #[.int .i64 ((rd_T32 t166 0).f0), .string ((rd_T32 t166 0).f1), .bool ((rd_T32 t166 0).f2), .int .i64 ((rd_T32 t166 0).f3)] (0, 0) _ rfl (zP4 BK164.out) Tryd.underlying32 rfl (by kernel_rfl)) rfl ?_
   exact ⟨zE, zL HB.out⟩
  ·rw [if_neg c15] at H
   exact absurd H (by simp)

/-! ### text_plain: function 47 -/
mutual
def text_plain.j0 : Nat → Int → Bool → Option (Bool)
 | 0, _, _ => none
 | k + 1, x0, x3 => if x3 = true then (some true) else (if x0 ≥ 97 then (text_plain.j1 k x0 (decide (x0 ≤ 122))) else (text_plain.j1 k x0 false))
def text_plain.j1 : Nat → Int → Bool → Option (Bool)
 | 0, _, _ => none
 | k + 1, x0, x3 => if x3 = true then (some true) else (if x0 ≥ 48 then (if x0 ≤ 57 then (some true) else (if x0 = 95 then (some true) else (if x0 = 45 then (some true) else (if x0 = 46 then (some true) else (if x0 = 47 then (some true) else (some (x0 == 43))))))) else (if x0 = 95 then (some true) else (if x0 = 45 then (some true) else (if x0 = 46 then (some true) else (if x0 = 47 then (some true) else (some (x0 == 43)))))))
end
def text_plain.f (k : Nat) (a0 : Int) : Option (Bool) := if a0 ≥ 65 then (text_plain.j0 k a0 (decide (a0 ≤ 90))) else (text_plain.j0 k a0 false)
theorem text_plain.mono_l : ∀ k, (∀ y0 y1, LeO (text_plain.j0 k y0 y1) (text_plain.j0 (k + 1) y0 y1)) ∧ (∀ y0 y1, LeO (text_plain.j1 k y0 y1) (text_plain.j1 (k + 1) y0 y1))
 | 0 => ⟨fun _ _ r h => by simp [text_plain.j0] at h, fun _ _ r h => by simp [text_plain.j1] at h⟩
 | k + 1 => by
  obtain ⟨ih0, ih1⟩ := text_plain.mono_l k
  refine ⟨?_, ?_⟩
  ·intro y0 y1
   unfold text_plain.j0
   repeat' first
   | (with_reducible exact ih0 _ _)
   | (with_reducible exact ih1 _ _)
   | (with_reducible exact LeO.refl _)
   | (with_reducible exact LeO.none _)
   | (with_reducible refine LeO.ite ?_ ?_)
   | (with_reducible refine LeO.bind ?_ (fun _ => ?_))
   | exact ih0 _ _
   | exact ih1 _ _
   | exact LeO.none _
   | refine LeO.ite ?_ ?_
   | refine LeO.bind ?_ (fun _ => ?_)
  ·intro y0 y1
   unfold text_plain.j1
   repeat' first
   | (with_reducible exact ih0 _ _)
   | (with_reducible exact ih1 _ _)
   | (with_reducible exact LeO.refl _)
   | (with_reducible exact LeO.none _)
   | (with_reducible refine LeO.ite ?_ ?_)
   | (with_reducible refine LeO.bind ?_ (fun _ => ?_))
   | exact ih0 _ _
   | exact ih1 _ _
   | exact LeO.none _
   | refine LeO.ite ?_ ?_
   | refine LeO.bind ?_ (fun _ => ?_)
theorem text_plain.mono : ∀ a0 k, LeO (text_plain.f k a0) (text_plain.f (k + 1) a0) := by
 intro a0 k
 obtain ⟨ih0, ih1⟩ := text_plain.mono_l k
 unfold text_plain.f
 repeat' first
   | (with_reducible exact ih0 _ _)
   | (with_reducible exact ih1 _ _)
   | (with_reducible exact LeO.refl _)
   | (with_reducible exact LeO.none _)
   | (with_reducible refine LeO.ite ?_ ?_)
   | (with_reducible refine LeO.bind ?_ (fun _ => ?_))
   | exact ih0 _ _
   | exact ih1 _ _
   | exact LeO.none _
   | refine LeO.ite ?_ ?_
   | refine LeO.bind ?_ (fun _ => ?_)
set_option maxHeartbeats 8000000 in
set_option maxRecDepth 100000 in
theorem text_plain.calls (k : Nat) (a0 : Int) (r : Bool) (w : World) (h : text_plain.f k a0 = some r) :
  Calls Tryd.prog 47 #[.int .u8 a0] w fun e w' => e = .returned (.bool r) ∧ Drawn0 w w' := by
 have H : (if a0 ≥ 65 then (text_plain.j0 k a0 (decide (a0 ≤ 90))) else (text_plain.j0 k a0 false)) = some r := h
 clear h
 have HC2 := Aside0.mk H
 clear H
 go_enter Tryd.func47, Tryd.ntmps47
 go_upto_region 1 with (fail)
 go_cut [3] (fun v3 wc => ∃ (kq : Nat) (x3_1 : Bool), v3 = .bool x3_1 ∧ Aside0 (text_plain.j0 kq a0 x3_1 = some r) ∧ Aside0 (kq ≤ k) ∧ Drawn0 w wc)
 case first =>
  have H := HC2.out
  clear HC2
  by_cases c3 : a0 ≥ 65
  ·rw [if_pos c3] at H
   have c3b0 : decide (65 ≤ a0) = true := decide_eq_true c3
   clear c3
   (first | rw [c3b0] | (simp only [i64_w, i32_w]; rw [c3b0]) | skip)
   have H' := Aside0.mk H
   clear H
   go_wp2
   go_meet
   case rel => exact ⟨_, (decide (a0 ≤ 90)), zS, H', ⟨by first | omega | exact Nat.le_refl _⟩, by repeat (first | exact Drawn0.refl _ | apply Drawn0.step)⟩
  ·rw [if_neg c3] at H
   have c3b0 : decide (65 ≤ a0) = false := decide_eq_false c3
   clear c3
   (first | rw [c3b0] | (simp only [i64_w, i32_w]; rw [c3b0]) | skip)
   have H' := Aside0.mk H
   clear H
   go_wp2
   go_meet
   case rel => exact ⟨_, (false), zS, H', ⟨by first | omega | exact Nat.le_refl _⟩, by repeat (first | exact Drawn0.refl _ | apply Drawn0.step)⟩
 case rest =>
  clear HC2
  try clear p2
  try clear c3
  try clear c3b0
  obtain ⟨kq, x3_1, rfl, HA, HJ1, ⟨mc1, rfl⟩⟩ := hcut
  cases kq with
  | zero => exact absurd HA.out (by simp [text_plain.j0])
  | succ kj1 =>
   have H := HA.out
   clear HA
   simp only [text_plain.j0] at H
   by_cases c4 : x3_1 = true
   ·subst c4
    have H1 : (some true) = some r := by rw [if_pos rfl] at H; exact H
    clear H
    have H := H1
    clear H1
    obtain rfl := Option.some.inj H
    go_wp2
    go_ret
    exact ⟨by first | rfl | (simp; done) | (simp [*]; done), by repeat (first | exact Drawn0.refl _ | apply Drawn0.step)⟩
   ·replace c4 := Bool.eq_false_iff.mpr c4
    subst c4
    have H1 : (if a0 ≥ 97 then (text_plain.j1 kj1 a0 (decide (a0 ≤ 122))) else (text_plain.j1 kj1 a0 false)) = some r := by rw [if_neg (show ¬ (false = true) by decide)] at H; exact H
    clear H
    have H := H1
    clear H1
    have HC5 := Aside0.mk H
    clear H
    go_upto_region 2 with (fail)
    go_cut [3] (fun v3 wc => ∃ (kq : Nat) (x3_4 : Bool), v3 = .bool x3_4 ∧ Aside0 (text_plain.j1 kq a0 x3_4 = some r) ∧ Aside0 (kq ≤ kj1) ∧ Drawn0 w wc)
    case first =>
     have H := HC5.out
     clear HC5
     by_cases c6 : a0 ≥ 97
     ·rw [if_pos c6] at H
      have c6b0 : decide (97 ≤ a0) = true := decide_eq_true c6
      clear c6
      (first | rw [c6b0] | (simp only [i64_w, i32_w]; rw [c6b0]) | skip)
      have H' := Aside0.mk H
      clear H
      go_wp2
      go_meet
      case rel => exact ⟨_, (decide (a0 ≤ 122)), zS, H', ⟨by have := HJ1.out; first | omega | exact Nat.le_refl _⟩, by repeat (first | exact Drawn0.refl _ | apply Drawn0.step)⟩
     ·rw [if_neg c6] at H
      have c6b0 : decide (97 ≤ a0) = false := decide_eq_false c6
      clear c6
      (first | rw [c6b0] | (simp only [i64_w, i32_w]; rw [c6b0]) | skip)
      have H' := Aside0.mk H
      clear H
      go_wp2
      go_meet
      case rel => exact ⟨_, (false), zS, H', ⟨by have := HJ1.out; first | omega | exact Nat.le_refl _⟩, by repeat (first | exact Drawn0.refl _ | apply Drawn0.step)⟩
    case rest =>
     clear HC5
     try clear c1
     try clear p2
     try clear c3
     try clear c3b0
     try clear c4
     try clear c6
     try clear c6b0
     try clear p2
     obtain ⟨kq, x3_4, rfl, HA, HJ4, ⟨mc4, rfl⟩⟩ := hcut
     cases kq with
     | zero => exact absurd HA.out (by simp [text_plain.j1])
     | succ kj4 =>
      have H := HA.out
      clear HA
      simp only [text_plain.j1] at H
      by_cases c7 : x3_4 = true
      ·subst c7
       have H1 : (some true) = some r := by rw [if_pos rfl] at H; exact H
       clear H
       have H := H1
       clear H1
       obtain rfl := Option.some.inj H
       go_wp2
       go_ret
       exact ⟨by first | rfl | (simp; done) | (simp [*]; done), by repeat (first | exact Drawn0.refl _ | apply Drawn0.step)⟩
      ·replace c7 := Bool.eq_false_iff.mpr c7
       subst c7
       have H1 : (if a0 ≥ 48 then (if a0 ≤ 57 then (some true) else (if a0 = 95 then (some true) else (if a0 = 45 then (some true) else (if a0 = 46 then (some true) else (if a0 = 47 then (some true) else (some (a0 == 43))))))) else (if a0 = 95 then (some true) else (if a0 = 45 then (some true) else (if a0 = 46 then (some true) else (if a0 = 47 then (some true) else (some (a0 == 43))))))) = some r := by rw [if_neg (show ¬ (false = true) by decide)] at H; exact H
       clear H
       have H := H1
       clear H1
       by_cases c8 : a0 ≥ 48
       ·rw [if_pos c8] at H
        have c8b0 : decide (48 ≤ a0) = true := decide_eq_true c8
        clear c8
        by_cases c9 : a0 ≤ 57
        ·rw [if_pos c9] at H
         have c9b0 : decide (a0 ≤ 57) = true := decide_eq_true c9
         clear c9
         obtain rfl := Option.some.inj H
         go_wp2
         go_ret
         exact ⟨by first | rfl | (simp; done) | (simp [*]; done), by repeat (first | exact Drawn0.refl _ | apply Drawn0.step)⟩
        ·rw [if_neg c9] at H
         have c9b0 : decide (a0 ≤ 57) = false := decide_eq_false c9
         clear c9
         by_cases c10 : a0 = 95
         ·rw [if_pos c10] at H
          have c10b0 : (a0 == 95) = true := beq_iff_eq.mpr c10
          have c10b1 : (a0 != 95) = false := bne_eq_false_iff_eq.mpr c10
          clear c10
          obtain rfl := Option.some.inj H
          go_wp2
          go_ret
          exact ⟨by first | rfl | (simp; done) | (simp [*]; done), by repeat (first | exact Drawn0.refl _ | apply Drawn0.step)⟩
         ·rw [if_neg c10] at H
          have c10b0 : (a0 == 95) = false := beq_eq_false_iff_ne.mpr c10
          have c10b1 : (a0 != 95) = true := bne_iff_ne.mpr c10
          by_cases c11 : a0 = 45
          ·rw [if_pos c11] at H
           have c11b0 : (a0 == 45) = true := beq_iff_eq.mpr c11
           have c11b1 : (a0 != 45) = false := bne_eq_false_iff_eq.mpr c11
           clear c11
           obtain rfl := Option.some.inj H
           go_wp2
           go_ret
           exact ⟨by first | rfl | (simp; done) | (simp [*]; done), by repeat (first | exact Drawn0.refl _ | apply Drawn0.step)⟩
          ·rw [if_neg c11] at H
           have c11b0 : (a0 == 45) = false := beq_eq_false_iff_ne.mpr c11
           have c11b1 : (a0 != 45) = true := bne_iff_ne.mpr c11
           by_cases c12 : a0 = 46
           ·rw [if_pos c12] at H
            have c12b0 : (a0 == 46) = true := beq_iff_eq.mpr c12
            have c12b1 : (a0 != 46) = false := bne_eq_false_iff_eq.mpr c12
            clear c12
            obtain rfl := Option.some.inj H
            go_wp2
            go_ret
            exact ⟨by first | rfl | (simp; done) | (simp [*]; done), by repeat (first | exact Drawn0.refl _ | apply Drawn0.step)⟩
           ·rw [if_neg c12] at H
            have c12b0 : (a0 == 46) = false := beq_eq_false_iff_ne.mpr c12
            have c12b1 : (a0 != 46) = true := bne_iff_ne.mpr c12
            by_cases c13 : a0 = 47
            ·rw [if_pos c13] at H
             have c13b0 : (a0 == 47) = true := beq_iff_eq.mpr c13
             have c13b1 : (a0 != 47) = false := bne_eq_false_iff_eq.mpr c13
             clear c13
             obtain rfl := Option.some.inj H
             go_wp2
             go_ret
             exact ⟨by first | rfl | (simp; done) | (simp [*]; done), by repeat (first | exact Drawn0.refl _ | apply Drawn0.step)⟩
            ·rw [if_neg c13] at H
             have c13b0 : (a0 == 47) = false := beq_eq_false_iff_ne.mpr c13
             have c13b1 : (a0 != 47) = true := bne_iff_ne.mpr c13
             obtain rfl := Option.some.inj H
             go_wp2
             go_ret
             exact ⟨by first | rfl | (simp; done) | (simp [*]; done), by repeat (first | exact Drawn0.refl _ | apply Drawn0.step)⟩
       ·rw [if_neg c8] at H
        have c8b0 : decide (48 ≤ a0) = false := decide_eq_false c8
        clear c8
        by_cases c14 : a0 = 95
        ·rw [if_pos c14] at H
         have c14b0 : (a0 == 95) = true := beq_iff_eq.mpr c14
         have c14b1 : (a0 != 95) = false := bne_eq_false_iff_eq.mpr c14
         clear c14
         obtain rfl := Option.some.inj H
         go_wp2
         go_ret
         exact ⟨by first | rfl | (simp; done) | (simp [*]; done), by repeat (first | exact Drawn0.refl _ | apply Drawn0.step)⟩
        ·rw [if_neg c14] at H
         have c14b0 : (a0 == 95) = false := beq_eq_false_iff_ne.mpr c14
         have c14b1 : (a0 != 95) = true := bne_iff_ne.mpr c14
         by_cases c15 : a0 = 45
         ·rw [if_pos c15] at H
          have c15b0 : (a0 == 45) = true := beq_iff_eq.mpr c15
          have c15b1 : (a0 != 45) = false := bne_eq_false_iff_eq.mpr c15
          clear c15
          obtain rfl := Option.some.inj H
          go_wp2
          go_ret
          exact ⟨by first | rfl | (simp; done) | (simp [*]; done), by repeat (first | exact Drawn0.refl _ | apply Drawn0.step)⟩
         ·rw [if_neg c15] at H
          have c15b0 : (a0 == 45) = false := beq_eq_false_iff_ne.mpr c15
          have c15b1 : (a0 != 45) = true := bne_iff_ne.mpr c15
          by_cases c16 : a0 = 46
          ·rw [if_pos c16] at H
           have c16b0 : (a0 == 46) = true := beq_iff_eq.mpr c16
           have c16b1 : (a0 != 46) = false := bne_eq_false_iff_eq.mpr c16
           clear c16
           obtain rfl := Option.some.inj H
           go_wp2
           go_ret
           exact ⟨by first | rfl | (simp; done) | (simp [*]; done), by repeat (first | exact Drawn0.refl _ | apply Drawn0.step)⟩
          ·rw [if_neg c16] at H
           have c16b0 : (a0 == 46) = false := beq_eq_false_iff_ne.mpr c16
           have c16b1 : (a0 != 46) = true := bne_iff_ne.mpr c16
           by_cases c17 : a0 = 47
           ·rw [if_pos c17] at H
            have c17b0 : (a0 == 47) = true := beq_iff_eq.mpr c17
            have c17b1 : (a0 != 47) = false := bne_eq_false_iff_eq.mpr c17
            clear c17
            obtain rfl := Option.some.inj H
            go_wp2
            go_ret
            exact ⟨by first | rfl | (simp; done) | (simp [*]; done), by repeat (first | exact Drawn0.refl _ | apply Drawn0.step)⟩
           ·rw [if_neg c17] at H
            have c17b0 : (a0 == 47) = false := beq_eq_false_iff_ne.mpr c17
            have c17b1 : (a0 != 47) = true := bne_iff_ne.mpr c17
            obtain rfl := Option.some.inj H
            go_wp2
            go_ret
            exact ⟨by first | rfl | (simp; done) | (simp [*]; done), by repeat (first | exact Drawn0.refl _ | apply Drawn0.step)⟩

/-! ### strings_explode: function 61 -/
/-- strings.explode is never come to: no answer is told. -/
def strings_explode.f (_a0 : ByteArray) (_a1 : Int) : Option (List ByteArray) := none
theorem strings_explode.calls (a0 : ByteArray) (a1 : Int) (r : List ByteArray) (w : World) (h : strings_explode.f a0 a1 = some r) :
    Calls Tryd.prog 61 #[.string a0, .int .i64 a1] w fun e w' => ∃ v0_ : Value, e = .returned (v0_) ∧ Kd.R Kd.string 9 w' w.heap.size (fun _ => True) v0_ r ∧ Below w.heap.size w w' := by
  exact absurd h (by simp [strings_explode.f])



/-! ### strings_Count: function 62 -/
/-- strings.Count at a substr of one byte. -/
def strings_Count.f (a0 : ByteArray) (a1 : ByteArray) : Option (Int) := if a1.size = 1 then some ((Lib.countByte a0.data.toList (a1.data.toList.headD 0) : Nat) : Int) else none
set_option maxHeartbeats 1000000 in
set_option maxRecDepth 100000 in
theorem strings_Count.one (a0 : ByteArray) (c : UInt8) (w : World) :
    Calls Tryd.prog 62 #[.string a0, .string ⟨#[c]⟩] w fun e w' => e = .returned (.int .i64 (Lib.countByte a0.data.toList c)) ∧ Drawn0 w w' := by
  go_enter Tryd.func62, Tryd.ntmps62
  go_wp2_with fail
  rw [run_callFunc_extern Tryd.func68 (by kernel_rfl) (by kernel_rfl) (by kernel_rfl) (e := Extern.BytealgCount.count) (by kernel_rfl), Lib.run_countString]
  simp only [Result.andThen]
  rw [Oper.upon_value]
  go_wp2
  go_ret
  exact ⟨by first | rfl | (simp; rfl), Drawn0.refl _⟩
theorem one_byte' (a1 : ByteArray) (h : a1.size = 1) : ∃ c : UInt8, a1 = ⟨#[c]⟩ := by
  obtain ⟨d⟩ := a1
  obtain ⟨l⟩ := d
  match l, h with
  | [c], _ => exact ⟨c, rfl⟩
theorem strings_Count.calls (a0 : ByteArray) (a1 : ByteArray) (r : Int) (w : World) (h : strings_Count.f a0 a1 = some r) :
    Calls Tryd.prog 62 #[.string a0, .string a1] w fun e w' => e = .returned (.int .i64 r) ∧ Drawn0 w w' := by
  unfold strings_Count.f at h
  by_cases c : a1.size = 1
  · rw [if_pos c] at h
    obtain rfl := Option.some.inj h
    obtain ⟨b, rfl⟩ := one_byte' a1 c
    exact strings_Count.one a0 b w
  · rw [if_neg c] at h
    exact absurd h (by simp)



/-! ### stringslite_IndexByte: function 71 -/
def stringslite_IndexByte.f (a0 : ByteArray) (a1 : Int) : Option (Int) := some (Lib.indexByte a0.data.toList a1.toNat.toUInt8)
set_option maxHeartbeats 1000000 in
set_option maxRecDepth 100000 in
theorem stringslite_IndexByte.calls (a0 : ByteArray) (a1 : Int) (r : Int) (w : World) (h : stringslite_IndexByte.f a0 a1 = some r) :
    Calls Tryd.prog 71 #[.string a0, .int .u8 a1] w fun e w' => e = .returned (.int .i64 r) ∧ Drawn0 w w' := by
  have H : (some (Lib.indexByte a0.data.toList a1.toNat.toUInt8)) = some r := h
  clear h
  obtain rfl := Option.some.inj H
  clear H
  go_enter Tryd.func71, Tryd.ntmps71
  go_wp2_with fail
  rw [run_callFunc_extern Tryd.func75 (by kernel_rfl) (by kernel_rfl) (by kernel_rfl) (e := Extern.BytealgIndexByte.indexByte) (by kernel_rfl), Lib.run_indexByteString]
  simp only [Result.andThen]
  rw [Oper.upon_value]
  go_wp2
  go_ret
  exact ⟨rfl, Drawn0.refl _⟩



/-! ### stringslite_Index: function 69 -/
/-- strings.Index at a sub of one byte: where it first is. -/
def stringslite_Index.f (a0 : ByteArray) (a1 : ByteArray) : Option (Int) := if a1.size = 1 then some (Lib.indexByte a0.data.toList (a1.data.toList.headD 0)) else none
theorem one_byte (a1 : ByteArray) (h : a1.size = 1) : ∃ c : UInt8, a1 = ⟨#[c]⟩ := by
  obtain ⟨d⟩ := a1
  obtain ⟨l⟩ := d
  match l, h with
  | [c], _ => exact ⟨c, rfl⟩
set_option maxHeartbeats 1000000 in
set_option maxRecDepth 100000 in
theorem stringslite_Index.one (a0 : ByteArray) (c : UInt8) (w : World) :
    Calls Tryd.prog 69 #[.string a0, .string ⟨#[c]⟩] w fun e w' => e = .returned (.int .i64 (Lib.indexByte a0.data.toList c)) ∧ Drawn0 w w' := by
  go_enter Tryd.func69, Tryd.ntmps69
  go_wp2_with (go_at_call 71; (with_reducible refine (stringslite_IndexByte.calls _ _ _ _ rfl).mono ?_); rintro e w' ⟨rfl, ⟨nd, rfl⟩⟩)
  · have h : ([c] == a0.toList) = true := by assumption
    go_ret
    refine ⟨?_, Drawn0.refl _⟩
    have e : a0.data.toList = [c] := by rw [← Lib.toList_data]; exact (beq_iff_eq.1 h).symm
    rw [e]
    simp [Lib.indexByte]
  · go_ret
    exact ⟨by first | rfl | (simp; rfl), by repeat (first | exact Drawn0.refl _ | apply Drawn0.step)⟩
theorem stringslite_Index.calls (a0 : ByteArray) (a1 : ByteArray) (r : Int) (w : World) (h : stringslite_Index.f a0 a1 = some r) :
    Calls Tryd.prog 69 #[.string a0, .string a1] w fun e w' => e = .returned (.int .i64 r) ∧ Drawn0 w w' := by
  unfold stringslite_Index.f at h
  by_cases c : a1.size = 1
  · rw [if_pos c] at h
    obtain rfl := Option.some.inj h
    obtain ⟨b, rfl⟩ := one_byte a1 c
    exact stringslite_Index.one a0 b w
  · rw [if_neg c] at h
    exact absurd h (by simp)



end Go.Proofs.YtgcghjkaomgloaaDoor.PLease
