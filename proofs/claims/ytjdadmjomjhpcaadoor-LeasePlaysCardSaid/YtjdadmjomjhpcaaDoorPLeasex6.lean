-- Written by a program of this session (wip/tools/ext.py, over the kit's printer); not trusted: Lean checks it.
import Derived.Test.YtjdadmjomjhpcaaDoorPLeasex5
namespace Go.Proofs.YtjdadmjomjhpcaaDoor.PLease
open Go.RowKit Go.Proofs.YtjdadmjomjhpcaaDoorW.PrintWords Go.Proofs.YtjdadmjomjhpcaaDoorW.PrintLast Go.Proofs.YtjdadmjomjhpcaaDoorW.PrintMore
attribute [local go_sem] max2_int min2_int max_two min_two max_three min_three max_four min_four
set_option linter.unusedVariables false
set_option linter.unusedSimpArgs false
set_option maxHeartbeats 8000000
set_option maxRecDepth 100000

/-! ### lease_Give_1: function 37 -/
def lease_Give_1.f (a0_0 : Int) (a0_1 : ByteArray) (a0_2 : Bool) (a0_3 : Int) (a0_4 : Int) (a1_0 : Int) (a2_0 : ByteArray) : Option (Bool) := if a0_0 = a1_0 then (some (a0_1.toList == a2_0.toList)) else (some false)
theorem lease_Give_1.calls (a0_0 : Int) (a0_1 : ByteArray) (a0_2 : Bool) (a0_3 : Int) (a0_4 : Int) (g1_0 : Nat) (a1_0 : Int) (g2_0 : Nat) (a2_0 : ByteArray) (r : Bool) (w : World) (hb1_0 : w.heap[g1_0]? = some (.cells #[.int .i64 a1_0] 3 (0, 0))) (hb2_0 : w.heap[g2_0]? = some (.cells #[.string a2_0] 9 (0, 0))) (h : lease_Give_1.f a0_0 a0_1 a0_2 a0_3 a0_4 a1_0 a2_0 = some r) :
  Calls Tryd.prog 37 #[.agg #[.int .i64 a0_0, .string a0_1, .bool a0_2, .int .i64 a0_3, .int .i64 a0_4], .pointer (some ⟨g1_0, 0, none⟩), .pointer (some ⟨g2_0, 0, none⟩)] w fun e w' => e = .returned (.bool r) ∧ Below w.heap.size w w' := by
 have hu42 := Tryd.underlying42
 have BK361 := ka hb1_0
 clear hb1_0
 have BK363 := ka hb2_0
 clear hb2_0
 have HB := ka (Below.refl w.heap.size w)
 have H : (if a0_0 = a1_0 then (some (a0_1.toList == a2_0.toList)) else (some false)) = some r := h
 clear h
 by_cases c4 : a0_0 = a1_0
 ·rw [if_pos c4] at H
  have c4b0 := zb0 c4
  have c4b1 := zb1 c4
  clear c4
  obtain rfl := Option.some.inj H
  go_enter Tryd.func37, Tryd.ntmps37
  go_wp2_with (first | ((with_reducible refine gate_dst (N := 3) rfl ?_); refine box_event ?hg (N := 3) ?hd (cs := #[.int .i64 a0_0, .string a0_1, .bool a0_2, .int .i64 a0_3, .int .i64 a0_4]) (t := 42) ?hr ?_; (case hd => rfl); (case hg => rfl); (case hr => (go_simp; try rfl)); intro gb364 hg w5 hbox hb; have BK364 := ka (hbox); have GW364 := ka (zG hg (zL HB.out)); replace HB := ka (below_step (zL HB.out) hb); have NB361_364 := ka (zNK hg BK361.out); have NB364_361 := ka (zOK hg BK361.out); replace BK361 := ka (zB BK361.out hb); have NB363_364 := ka (zNK hg BK363.out); have NB364_363 := ka (zOK hg BK363.out); replace BK363 := ka (zB BK363.out hb); clear hb hbox hg; have hnb6 := NB364_361.out; have hnc6 := NB361_364.out; have hnb7 := NB364_363.out; have hnc7 := NB363_364.out; obtain ⟨z8_0, z8_1, z8_2, z8_3, z8_4, y8_0, y8_1, y8_2, y8_3, y8_4⟩ := zC5 BK364.out; obtain ⟨z9_0, y9_0⟩ := zC1 BK361.out; obtain ⟨z10_0, y10_0⟩ := zC1 BK363.out))
  go_ret
  exact ⟨zE, zL HB.out⟩
 rw [if_neg c4] at H
 have c4b0 := zn0 c4
 have c4b1 := zn1 c4
 obtain rfl := Option.some.inj H
 go_enter Tryd.func37, Tryd.ntmps37
 go_wp2_with (first | ((with_reducible refine gate_dst (N := 3) rfl ?_); refine box_event ?hg (N := 3) ?hd (cs := #[.int .i64 a0_0, .string a0_1, .bool a0_2, .int .i64 a0_3, .int .i64 a0_4]) (t := 42) ?hr ?_; (case hd => rfl); (case hg => rfl); (case hr => (go_simp; try rfl)); intro gb364 hg w11 hbox hb; have BK364 := ka (hbox); have GW364 := ka (zG hg (zL HB.out)); replace HB := ka (below_step (zL HB.out) hb); have NB361_364 := ka (zNK hg BK361.out); have NB364_361 := ka (zOK hg BK361.out); replace BK361 := ka (zB BK361.out hb); have NB363_364 := ka (zNK hg BK363.out); have NB364_363 := ka (zOK hg BK363.out); replace BK363 := ka (zB BK363.out hb); clear hb hbox hg; have hnb12 := NB364_361.out; have hnc12 := NB361_364.out; have hnb13 := NB364_363.out; have hnc13 := NB363_364.out; obtain ⟨z14_0, z14_1, z14_2, z14_3, z14_4, y14_0, y14_1, y14_2, y14_3, y14_4⟩ := zC5 BK364.out; obtain ⟨z15_0, y15_0⟩ := zC1 BK361.out))
 go_ret
 exact ⟨zE, zL HB.out⟩

/-! ### lease_Lease_26_at37: function 26 -/
def lease_Lease_26_at37.l0 : Nat → List (S42) → List (S42) → List (S42) → Int → Int → Int → ByteArray → Option ((List (S42)) × (List (S42)))
 | 0, _, _, _, _, _, _, _ => none
 | k + 1, x4, x5, x8, x9, x10, x367000, x368000 => if x10 < x9 then (if 0 ≤ x10 then (if x10 < (x8.length : Int) then ((lease_Give_1.f ((rd_T42 x8 x10).f0) ((rd_T42 x8 x10).f1) ((rd_T42 x8 x10).f2) ((rd_T42 x8 x10).f3) ((rd_T42 x8 x10).f4) x367000 x368000).bind fun t370 => (if t370 = true then (if x4.length < 2932031007402 then (lease_Lease_26_at37.l0 k (x4 ++ [(⟨(rd_T42 x8 x10).f0, (rd_T42 x8 x10).f1, (rd_T42 x8 x10).f2, (rd_T42 x8 x10).f3, (rd_T42 x8 x10).f4⟩ : S42)]) x5 x8 x9 (wrap64 (x10 + 1)) x367000 x368000) else (none)) else (if x5.length < 2932031007402 then (lease_Lease_26_at37.l0 k x4 (x5 ++ [(⟨(rd_T42 x8 x10).f0, (rd_T42 x8 x10).f1, (rd_T42 x8 x10).f2, (rd_T42 x8 x10).f3, (rd_T42 x8 x10).f4⟩ : S42)]) x8 x9 (wrap64 (x10 + 1)) x367000 x368000) else (none)))) else (none)) else (none)) else (some (x4, x5))
def lease_Lease_26_at37.f (k : Nat) (l0 : List (S42)) (a1_0 : Int) (a1_1 : ByteArray) : Option ((List (S42)) × (List (S42))) := lease_Lease_26_at37.l0 k ([] : List (S42)) ([] : List (S42)) l0 (l0.length : Int) 0 a1_0 a1_1
theorem lease_Lease_26_at37.mono_l : ∀ k, (∀ y0 y1 y2 y3 y4 y5 y6, LeO (lease_Lease_26_at37.l0 k y0 y1 y2 y3 y4 y5 y6) (lease_Lease_26_at37.l0 (k + 1) y0 y1 y2 y3 y4 y5 y6))
 | 0 => fun _ _ _ _ _ _ _ r h => by simp [lease_Lease_26_at37.l0] at h
 | k + 1 => by
  have ih0 := lease_Lease_26_at37.mono_l k
  ·intro y0 y1 y2 y3 y4 y5 y6
   unfold lease_Lease_26_at37.l0
   exact zLe
theorem lease_Lease_26_at37.mono : ∀ a0 a1 a2 k, LeO (lease_Lease_26_at37.f k a0 a1 a2) (lease_Lease_26_at37.f (k + 1) a0 a1 a2) := by
 intro a0 a1 a2 k
 have ih0 := lease_Lease_26_at37.mono_l k
 unfold lease_Lease_26_at37.f
 exact zLe
theorem lease_Lease_26_at37.calls (k : Nat) (A0 : Option Addr) (c0 : Nat) (l0 : List (S42)) (g1_0 : Nat) (g1_1 : Nat) (a1_0 : Int) (a1_1 : ByteArray) (r1 : List (S42)) (r2 : List (S42)) (w : World) (hr0 : Kd.C k42 w A0 l0.length l0) (hc0 : l0.length ≤ c0) (hb1_0 : w.heap[g1_0]? = some (.cells #[.int .i64 a1_0] 3 (0, 0))) (hb1_1 : w.heap[g1_1]? = some (.cells #[.string a1_1] 9 (0, 0))) (h : lease_Lease_26_at37.f k l0 a1_0 a1_1 = some (r1, r2)) :
  Calls Tryd.prog 26 #[.slice A0 l0.length c0, .func (.func 37) #[] #[.pointer (some ⟨g1_0, 0, none⟩), .pointer (some ⟨g1_1, 0, none⟩)]] w fun e w' => ∃ v0_ v1_ : Value, e = .returned (.tuple #[v0_, v1_]) ∧ Kd.R k42 42 w' w.heap.size (fun k_ => some k_ ≠ (v1_ : Value).ownBlock) v0_ r1 ∧ Kd.R k42 42 w' w.heap.size (fun k_ => some k_ ≠ (v0_ : Value).ownBlock) v1_ r2 ∧ Below w.heap.size w w' := by
 have hu42 := Tryd.underlying42
 have HR0 := ka hr0
 have HC0 := ka hc0
 clear hr0 hc0
 have BK366 := ka hb1_0
 clear hb1_0
 have BK367 := ka hb1_1
 clear hb1_1
 have HB := ka (Below.refl w.heap.size w)
 have H : (lease_Lease_26_at37.l0 k ([] : List (S42)) ([] : List (S42)) l0 (l0.length : Int) 0 a1_0 a1_1) = some (r1, r2) := h
 clear h
 have H' := ka H
 clear H
 go_enter Tryd.func26, Tryd.ntmps26
 go_wp2
 go_loopg [4, 5, 10] k (fun kq v4 v5 v10 w' => ∃ (x4_1 : List (S42)) (x5_1 : List (S42)) (x10_1 : Int), v10 = .int .i64 x10_1 ∧ Aside0 (lease_Lease_26_at37.l0 kq x4_1 x5_1 l0 (l0.length : Int) x10_1 a1_0 a1_1 = some (r1, r2)) ∧ Aside0 (kq ≤ k) ∧ Aside0 (Kd.R k42 42 w' w.heap.size (fun k_ => some k_ ≠ (v5 : Value).ownBlock) v4 x4_1) ∧ Aside0 (Kd.R k42 42 w' w.heap.size (fun k_ => some k_ ≠ (v4 : Value).ownBlock) v5 x5_1) ∧ Aside0 (w'.heap[g1_0]? = some (.cells #[.int .i64 a1_0] 3 (0, 0))) ∧ Aside0 (w'.heap[g1_1]? = some (.cells #[.string a1_1] 9 (0, 0))) ∧ Aside0 (Below w.heap.size w w'))
 case atStart => exact ⟨(([] : List (S42))), (([] : List (S42))), (0), zS, H', ⟨Nat.le_refl _⟩, ⟨zNl⟩, ⟨zNl⟩, ⟨zK BK366.out⟩, ⟨zK BK367.out⟩, ⟨zL HB.out⟩⟩
 case round =>
  clear H'
  obtain ⟨x4_1, x5_1, x10_1, rfl, HA, HK1, HO_4, HO_5, BK366, BK367, HB⟩ := hrel
  cases gk with
  | zero => exact absurd HA.out (by simp [lease_Lease_26_at37.l0])
  | succ k1 =>
   have H := HA.out
   clear HA
   simp only [lease_Lease_26_at37.l0] at H
   by_cases c3 : x10_1 < (l0.length : Int)
   ·rw [if_pos c3] at H
    have c3b0 := zdt c3
    clear c3
    replace H := zif H
    obtain ⟨c4, H⟩ := H
    have c4b0 := zdt c4
    clear c4
    replace H := zif H
    obtain ⟨c5, H⟩ := H
    have c5b0 := zdt c5
    clear c5
    replace H := Option.bind_eq_some_iff.mp H
    obtain ⟨t370, A60, H⟩ := H
    try dsimp only at H
    have A6 := ka A60
    clear A60
    by_cases c7 : t370 = true
    ·subst c7
     rw [if_pos rfl] at H
     replace H := zif H
     obtain ⟨c8, H⟩ := H
     have LMc8 := ka c8
     clear c8
     obtain ⟨y371, hy371⟩ : ∃ y_ : List (S42), y_ = (x4_1 ++ [(⟨(rd_T42 l0 x10_1).f0, (rd_T42 l0 x10_1).f1, (rd_T42 l0 x10_1).f2, (rd_T42 l0 x10_1).f3, (rd_T42 l0 x10_1).f4⟩ : S42)]) := ⟨_, rfl⟩
     replace H : (lease_Lease_26_at37.l0 k1 y371 x5_1 l0 (l0.length : Int) (wrap64 (x10_1 + 1)) a1_0 a1_1) = some (r1, r2) := zH hy371 H
     have Ny371 := ka hy371
     clear hy371
     have H' := ka H
     clear H
     have p368 : 0 ≤ (x10_1 : Int) := zD
     have q368 : x10_1 < (l0.length : Int) := zD
     obtain ⟨ad368, e368, hx368_0, hx368_1, hx368_2, hx368_3, hx368_4⟩ := at_T42 HR0.out x10_1 p368 q368
     cases e368
     replace hx368_0 := zX HB.out hx368_0
     replace hx368_1 := zX HB.out hx368_1
     replace hx368_2 := zX HB.out hx368_2
     replace hx368_3 := zX HB.out hx368_3
     replace hx368_4 := zX HB.out hx368_4
     replace p368 := eq_true p368
     replace q368 := eq_true q368
     go_wp2_with (first | ((with_reducible refine gate_dst (N := 7) rfl ?_); refine box_event ?hg (N := 7) ?hd (cs := #[.int .i64 0, .string ⟨#[]⟩, .bool false, .int .i64 0, .int .i64 0]) (t := 42) ?hr ?_; (case hd => rfl); (case hg => rfl); (case hr => (go_simp; try rfl)); intro gb369 hg w9 hbox hb; replace HO_4 := ka (Kd.R_below (Kd.R_elderB (zR HO_4.out) gb369 (Nat.le_of_eq hg.symm)) hb); replace HO_5 := ka (Kd.R_below (Kd.R_elderB (zR HO_5.out) gb369 (Nat.le_of_eq hg.symm)) hb); have BK369 := ka (hbox); have GW369 := ka (zG hg (zL HB.out)); replace HB := ka (below_step (zL HB.out) hb); have NB366_369 := ka (zNK hg BK366.out); have NB369_366 := ka (zOK hg BK366.out); replace BK366 := ka (zB BK366.out hb); have NB367_369 := ka (zNK hg BK367.out); have NB369_367 := ka (zOK hg BK367.out); replace BK367 := ka (zB BK367.out hb); clear hb hbox hg; have hnb10 := NB369_366.out; have hnc10 := NB366_369.out; have hnb11 := NB369_367.out; have hnc11 := NB367_369.out; obtain ⟨z12_0, z12_1, z12_2, z12_3, z12_4, y12_0, y12_1, y12_2, y12_3, y12_4⟩ := zC5 BK369.out) | (go_at_call 37; (with_reducible refine (lease_Give_1.calls ((rd_T42 l0 x10_1).f0) ((rd_T42 l0 x10_1).f1) ((rd_T42 l0 x10_1).f2) ((rd_T42 l0 x10_1).f3) ((rd_T42 l0 x10_1).f4) g1_0 a1_0 g1_1 a1_1 true _ ?side1 ?side2 A6.out).mono ?_); (case side1 => exact zK BK366.out); (case side2 => exact zK BK367.out); rintro e w13 ⟨rfl, hb⟩; replace HO_4 := ka (Kd.R_below (zM HO_4.out (g := gb369) (fun _ hk => hk.2)) hb); replace HO_5 := ka (Kd.R_below (zM HO_5.out (g := gb369) (fun _ hk => hk.2)) hb); replace BK366 := ka (zB BK366.out hb); replace BK367 := ka (zB BK367.out hb); replace BK369 := ka (blk_below (g := gb369) (o := .cells #[.int .i64 ((rd_T42 l0 x10_1).f0), .string ((rd_T42 l0 x10_1).f1), .bool ((rd_T42 l0 x10_1).f2), .int .i64 ((rd_T42 l0 x10_1).f3), .int .i64 ((rd_T42 l0 x10_1).f4)] 42 (0, 0)) (zP5 BK369.out) hb); replace HB := ka (below_step (zL HB.out) hb); (try clear hb); (try clear hb2); (try clear hk); (try clear hi); obtain ⟨z14_0, z14_1, z14_2, z14_3, z14_4, y14_0, y14_1, y14_2, y14_3, y14_4⟩ := zC5 BK369.out) | ((with_reducible refine gate_builtin (b := .append) (xs := #[.tmp 17, .tmp 19]) rfl ?_); at_builtin; refine Kd.R_append k42 (w0 := w) w.heap.size rfl (.tmp 17) (.tmp 19) 25 42 (.agg #[(.int .i64 0), (.string ⟨#[]⟩), (.bool false), (.int .i64 0), (.int .i64 0)]) 48 rfl Tryd.underlying25 info42 rfl (by decide) (by omega) u4 x4_1 (⟨(rd_T42 l0 x10_1).f0, (rd_T42 l0 x10_1).f1, (rd_T42 l0 x10_1).f2, (rd_T42 l0 x10_1).f3, (rd_T42 l0 x10_1).f4⟩ : S42) [.int .i64 ((rd_T42 l0 x10_1).f0), .string ((rd_T42 l0 x10_1).f1), .bool ((rd_T42 l0 x10_1).f2), .int .i64 ((rd_T42 l0 x10_1).f3), .int .i64 ((rd_T42 l0 x10_1).f4)] (fun k_ => some k_ ≠ (u5 : Value).ownBlock ∧ k_ ≠ gb369) (fun _ => False) rfl rfl ?aP (fun _ hk => hk.elim) ?aF ?aO ?aB ?aS ?aL ?_; (case aP => exact k42_mkM _ _ _ (⟨(rd_T42 l0 x10_1).f0, (rd_T42 l0 x10_1).f1, (rd_T42 l0 x10_1).f2, (rd_T42 l0 x10_1).f3, (rd_T42 l0 x10_1).f4⟩ : S42)); (case aB => exact (zL HB.out)); (case aF => exact (fun k_ hk => ⟨Kd.fresh' (Kd.R_lt (zR HO_5.out)) k_ hk, Kd.freshB (g := gb369) (o := .cells #[.int .i64 ((rd_T42 l0 x10_1).f0), .string ((rd_T42 l0 x10_1).f1), .bool ((rd_T42 l0 x10_1).f2), .int .i64 ((rd_T42 l0 x10_1).f3), .int .i64 ((rd_T42 l0 x10_1).f4)] 42 (0, 0)) (zK BK369.out) k_ hk⟩)); (case aO => exact (zR HO_4.out)); (case aS => exact (below_size (zL HB.out))); (case aL => have := LMc8.out; omega); intro v372 w15 ho hb hg hat; rw [← Ny371.out] at ho; replace HO_5 := ka (Kd.R_after (ok := (fun k_ => k_ ≠ gb369)) (by (with_reducible repeat (first | apply Kd.R_alloc | apply Kd.R_drewN | apply Kd.R_drew)); exact Kd.R_mono HO_5.out (fun _ hk => ⟨hk.2, hk.1⟩)) hg hat); replace BK366 := ka (blk_grown (g := g1_0) (o := .cells #[.int .i64 a1_0] 3 (0, 0)) (zK BK366.out) hg (Kd.R_ne HO_4.out BK366.out (by decide))); replace BK367 := ka (blk_grown (g := g1_1) (o := .cells #[.string a1_1] 9 (0, 0)) (zK BK367.out) hg (Kd.R_ne HO_4.out BK367.out (by decide))); replace BK369 := ka (blk_grown (g := gb369) (o := .cells #[.int .i64 ((rd_T42 l0 x10_1).f0), .string ((rd_T42 l0 x10_1).f1), .bool ((rd_T42 l0 x10_1).f2), .int .i64 ((rd_T42 l0 x10_1).f3), .int .i64 ((rd_T42 l0 x10_1).f4)] 42 (0, 0)) (zK BK369.out) hg (Kd.R_away HO_4.out (fun _ hk => hk.2))); replace HB := ka (hb); have HO373 := ka (ho); clear HO_4; clear ho hb hg hat))
     go_roundg k1
     case measure => have := HK1.out; omega
     case rel => exact ⟨(y371), (x5_1), (wrap64 (x10_1 + 1)), zS, H', ⟨by have := HK1.out; omega⟩, ⟨by (with_reducible repeat (first | apply Kd.R_alloc | apply Kd.R_drewN | apply Kd.R_drew)); exact Kd.R_mono HO373.out (fun _ hk => hk.1)⟩, ⟨by (with_reducible repeat (first | apply Kd.R_alloc | apply Kd.R_drewN | apply Kd.R_drew)); exact Kd.R_mono HO_5.out (fun _ hk => hk.2)⟩, ⟨zK BK366.out⟩, ⟨zK BK367.out⟩, ⟨zL HB.out⟩⟩
    replace c7 := Bool.eq_false_iff.mpr c7
    subst c7
    rw [if_neg (show ¬ (false = true) by decide)] at H
    replace H := zif H
    obtain ⟨c16, H⟩ := H
    have LMc16 := ka c16
    clear c16
    obtain ⟨y374, hy374⟩ : ∃ y_ : List (S42), y_ = (x5_1 ++ [(⟨(rd_T42 l0 x10_1).f0, (rd_T42 l0 x10_1).f1, (rd_T42 l0 x10_1).f2, (rd_T42 l0 x10_1).f3, (rd_T42 l0 x10_1).f4⟩ : S42)]) := ⟨_, rfl⟩
    replace H : (lease_Lease_26_at37.l0 k1 x4_1 y374 l0 (l0.length : Int) (wrap64 (x10_1 + 1)) a1_0 a1_1) = some (r1, r2) := zH hy374 H
    have Ny374 := ka hy374
    clear hy374
    have H' := ka H
    clear H
    have p368 : 0 ≤ (x10_1 : Int) := zD
    have q368 : x10_1 < (l0.length : Int) := zD
    obtain ⟨ad368, e368, hx368_0, hx368_1, hx368_2, hx368_3, hx368_4⟩ := at_T42 HR0.out x10_1 p368 q368
    cases e368
    replace hx368_0 := zX HB.out hx368_0
    replace hx368_1 := zX HB.out hx368_1
    replace hx368_2 := zX HB.out hx368_2
    replace hx368_3 := zX HB.out hx368_3
    replace hx368_4 := zX HB.out hx368_4
    replace p368 := eq_true p368
    replace q368 := eq_true q368
    go_wp2_with (first | ((with_reducible refine gate_dst (N := 7) rfl ?_); refine box_event ?hg (N := 7) ?hd (cs := #[.int .i64 0, .string ⟨#[]⟩, .bool false, .int .i64 0, .int .i64 0]) (t := 42) ?hr ?_; (case hd => rfl); (case hg => rfl); (case hr => (go_simp; try rfl)); intro gb369 hg w17 hbox hb; replace HO_4 := ka (Kd.R_below (Kd.R_elderB (zR HO_4.out) gb369 (Nat.le_of_eq hg.symm)) hb); replace HO_5 := ka (Kd.R_below (Kd.R_elderB (zR HO_5.out) gb369 (Nat.le_of_eq hg.symm)) hb); have BK369 := ka (hbox); have GW369 := ka (zG hg (zL HB.out)); replace HB := ka (below_step (zL HB.out) hb); have NB366_369 := ka (zNK hg BK366.out); have NB369_366 := ka (zOK hg BK366.out); replace BK366 := ka (zB BK366.out hb); have NB367_369 := ka (zNK hg BK367.out); have NB369_367 := ka (zOK hg BK367.out); replace BK367 := ka (zB BK367.out hb); clear hb hbox hg; have hnb18 := NB369_366.out; have hnc18 := NB366_369.out; have hnb19 := NB369_367.out; have hnc19 := NB367_369.out; obtain ⟨z20_0, z20_1, z20_2, z20_3, z20_4, y20_0, y20_1, y20_2, y20_3, y20_4⟩ := zC5 BK369.out) | (go_at_call 37; (with_reducible refine (lease_Give_1.calls ((rd_T42 l0 x10_1).f0) ((rd_T42 l0 x10_1).f1) ((rd_T42 l0 x10_1).f2) ((rd_T42 l0 x10_1).f3) ((rd_T42 l0 x10_1).f4) g1_0 a1_0 g1_1 a1_1 false _ ?side1 ?side2 A6.out).mono ?_); (case side1 => exact zK BK366.out); (case side2 => exact zK BK367.out); rintro e w21 ⟨rfl, hb⟩; replace HO_4 := ka (Kd.R_below (zM HO_4.out (g := gb369) (fun _ hk => hk.2)) hb); replace HO_5 := ka (Kd.R_below (zM HO_5.out (g := gb369) (fun _ hk => hk.2)) hb); replace BK366 := ka (zB BK366.out hb); replace BK367 := ka (zB BK367.out hb); replace BK369 := ka (blk_below (g := gb369) (o := .cells #[.int .i64 ((rd_T42 l0 x10_1).f0), .string ((rd_T42 l0 x10_1).f1), .bool ((rd_T42 l0 x10_1).f2), .int .i64 ((rd_T42 l0 x10_1).f3), .int .i64 ((rd_T42 l0 x10_1).f4)] 42 (0, 0)) (zP5 BK369.out) hb); replace HB := ka (below_step (zL HB.out) hb); (try clear hb); (try clear hb2); (try clear hk); (try clear hi); obtain ⟨z22_0, z22_1, z22_2, z22_3, z22_4, y22_0, y22_1, y22_2, y22_3, y22_4⟩ := zC5 BK369.out) | ((with_reducible refine gate_builtin (b := .append) (xs := #[.tmp 21, .tmp 23]) rfl ?_); at_builtin; refine Kd.R_append k42 (w0 := w) w.heap.size rfl (.tmp 21) (.tmp 23) 25 42 (.agg #[(.int .i64 0), (.string ⟨#[]⟩), (.bool false), (.int .i64 0), (.int .i64 0)]) 48 rfl Tryd.underlying25 info42 rfl (by decide) (by omega) u5 x5_1 (⟨(rd_T42 l0 x10_1).f0, (rd_T42 l0 x10_1).f1, (rd_T42 l0 x10_1).f2, (rd_T42 l0 x10_1).f3, (rd_T42 l0 x10_1).f4⟩ : S42) [.int .i64 ((rd_T42 l0 x10_1).f0), .string ((rd_T42 l0 x10_1).f1), .bool ((rd_T42 l0 x10_1).f2), .int .i64 ((rd_T42 l0 x10_1).f3), .int .i64 ((rd_T42 l0 x10_1).f4)] (fun k_ => some k_ ≠ (u4 : Value).ownBlock ∧ k_ ≠ gb369) (fun _ => False) rfl rfl ?aP (fun _ hk => hk.elim) ?aF ?aO ?aB ?aS ?aL ?_; (case aP => exact k42_mkM _ _ _ (⟨(rd_T42 l0 x10_1).f0, (rd_T42 l0 x10_1).f1, (rd_T42 l0 x10_1).f2, (rd_T42 l0 x10_1).f3, (rd_T42 l0 x10_1).f4⟩ : S42)); (case aB => exact (zL HB.out)); (case aF => exact (fun k_ hk => ⟨Kd.fresh' (Kd.R_lt (zR HO_4.out)) k_ hk, Kd.freshB (g := gb369) (o := .cells #[.int .i64 ((rd_T42 l0 x10_1).f0), .string ((rd_T42 l0 x10_1).f1), .bool ((rd_T42 l0 x10_1).f2), .int .i64 ((rd_T42 l0 x10_1).f3), .int .i64 ((rd_T42 l0 x10_1).f4)] 42 (0, 0)) (zK BK369.out) k_ hk⟩)); (case aO => exact (zR HO_5.out)); (case aS => exact (below_size (zL HB.out))); (case aL => have := LMc16.out; omega); intro v375 w23 ho hb hg hat; rw [← Ny374.out] at ho; replace HO_4 := ka (Kd.R_after (ok := (fun k_ => k_ ≠ gb369)) (by (with_reducible repeat (first | apply Kd.R_alloc | apply Kd.R_drewN | apply Kd.R_drew)); exact Kd.R_mono HO_4.out (fun _ hk => ⟨hk.2, hk.1⟩)) hg hat); replace BK366 := ka (blk_grown (g := g1_0) (o := .cells #[.int .i64 a1_0] 3 (0, 0)) (zK BK366.out) hg (Kd.R_ne HO_5.out BK366.out (by decide))); replace BK367 := ka (blk_grown (g := g1_1) (o := .cells #[.string a1_1] 9 (0, 0)) (zK BK367.out) hg (Kd.R_ne HO_5.out BK367.out (by decide))); replace BK369 := ka (blk_grown (g := gb369) (o := .cells #[.int .i64 ((rd_T42 l0 x10_1).f0), .string ((rd_T42 l0 x10_1).f1), .bool ((rd_T42 l0 x10_1).f2), .int .i64 ((rd_T42 l0 x10_1).f3), .int .i64 ((rd_T42 l0 x10_1).f4)] 42 (0, 0)) (zK BK369.out) hg (Kd.R_away HO_5.out (fun _ hk => hk.2))); replace HB := ka (hb); have HO376 := ka (ho); clear HO_5; clear ho hb hg hat))
    go_roundg k1
    case measure => have := HK1.out; omega
    case rel => exact ⟨(x4_1), (y374), (wrap64 (x10_1 + 1)), zS, H', ⟨by have := HK1.out; omega⟩, ⟨by (with_reducible repeat (first | apply Kd.R_alloc | apply Kd.R_drewN | apply Kd.R_drew)); exact Kd.R_mono HO_4.out (fun _ hk => hk.2)⟩, ⟨by (with_reducible repeat (first | apply Kd.R_alloc | apply Kd.R_drewN | apply Kd.R_drew)); exact Kd.R_mono HO376.out (fun _ hk => hk.1)⟩, ⟨zK BK366.out⟩, ⟨zK BK367.out⟩, ⟨zL HB.out⟩⟩
   rw [if_neg c3] at H
   have c3b0 := zdf c3
   clear c3
   replace H := zs2 H
   obtain ⟨rfl, rfl⟩ := H
   go_wp2
   go_ret2
   exact ⟨_, _, zE, by (with_reducible repeat (first | apply Kd.R_alloc | apply Kd.R_drewN | apply Kd.R_drew)); exact HO_4.out, by (with_reducible repeat (first | apply Kd.R_alloc | apply Kd.R_drewN | apply Kd.R_drew)); exact HO_5.out, zL HB.out⟩

/-! ### lease_Give: function 16 -/
def lease_Give.f (k : Nat) (a0_0 : Int) (l0_1 : List (S42)) (l0_2 : List (S49)) (a1 : Int) (a2 : ByteArray) (a3 : Int) (a4 : Int) : Option (Int × (List (S42)) × (List (S49)) × Int) := (lease_time.f a4).bind fun t381 => (if t381 = true then ((lease_Valid.f k a0_0 l0_1 l0_2 a1 a2 a3).bind fun t382 => (if t382 = true then ((lease_Lease_26_at37.f k l0_1 a1 a2).bind fun bt384 => ((lease_Table_settle.f k a0_0 bt384.2 l0_2 a4).bind fun bt390 => (some (bt390.1, bt390.2.1, bt390.2.2, 0)))) else (some (0, ([] : List (S42)), ([] : List (S49)), 8)))) else (some (0, ([] : List (S42)), ([] : List (S49)), 1)))
theorem lease_Give.mono : ∀ a0 a1 a2 a3 a4 a5 a6 k, LeO (lease_Give.f k a0 a1 a2 a3 a4 a5 a6) (lease_Give.f (k + 1) a0 a1 a2 a3 a4 a5 a6) := by
 intro a0 a1 a2 a3 a4 a5 a6 k
 unfold lease_Give.f
 have m0 := @lease_Lease_26_at37.mono
 have m1 := @lease_Table_settle.mono
 have m2 := @lease_Valid.mono
 exact zLe
theorem lease_Give.calls (k : Nat) (a0_0 : Int) (A0_1 : Option Addr) (c0_1 : Nat) (l0_1 : List (S42)) (A0_2 : Option Addr) (c0_2 : Nat) (l0_2 : List (S49)) (a1 : Int) (a2 : ByteArray) (a3 : Int) (a4 : Int) (r1 : Int) (r2 : List (S42)) (r3 : List (S49)) (r4 : Int) (w : World) (hr0_1 : Kd.C k42 w A0_1 l0_1.length l0_1) (hc0_1 : l0_1.length ≤ c0_1) (hr0_2 : Kd.C k49 w A0_2 l0_2.length l0_2) (hc0_2 : l0_2.length ≤ c0_2) (h : lease_Give.f k a0_0 l0_1 l0_2 a1 a2 a3 a4 = some (r1, r2, r3, r4)) :
  Calls Tryd.prog 16 #[.agg #[.int .i64 a0_0, .slice A0_1 l0_1.length c0_1, .slice A0_2 l0_2.length c0_2], .int .i64 a1, .string a2, .int .i64 a3, .int .i64 a4] w fun e w' => ∃ v1_ v2_ : Value, e = .returned (.tuple #[.agg #[.int .i64 r1, v1_, v2_], .int .i64 r4]) ∧ Kd.R k42 42 w' w.heap.size (fun _ => True) v1_ r2 ∧ Kd.R k49 49 w' w.heap.size (fun _ => True) v2_ r3 ∧ Below w.heap.size w w' := by
 have hu28 := Tryd.underlying28
 have HR0_1 := ka hr0_1
 have HC0_1 := ka hc0_1
 clear hr0_1 hc0_1
 have HR0_2 := ka hr0_2
 have HC0_2 := ka hc0_2
 clear hr0_2 hc0_2
 have HB := ka (Below.refl w.heap.size w)
 have H : ((lease_time.f a4).bind fun t381 => (if t381 = true then ((lease_Valid.f k a0_0 l0_1 l0_2 a1 a2 a3).bind fun t382 => (if t382 = true then ((lease_Lease_26_at37.f k l0_1 a1 a2).bind fun bt384 => ((lease_Table_settle.f k a0_0 bt384.2 l0_2 a4).bind fun bt390 => (some (bt390.1, bt390.2.1, bt390.2.2, 0)))) else (some (0, ([] : List (S42)), ([] : List (S49)), 8)))) else (some (0, ([] : List (S42)), ([] : List (S49)), 1)))) = some (r1, r2, r3, r4) := h
 clear h
 replace H := Option.bind_eq_some_iff.mp H
 obtain ⟨t381, A60, H⟩ := H
 try dsimp only at H
 have A6 := ka A60
 clear A60
 by_cases c7 : t381 = true
 ·subst c7
  rw [if_pos rfl] at H
  replace H := Option.bind_eq_some_iff.mp H
  obtain ⟨t382, A80, H⟩ := H
  try dsimp only at H
  have A8 := ka A80
  clear A80
  by_cases c9 : t382 = true
  ·subst c9
   rw [if_pos rfl] at H
   replace H := Option.bind_eq_some_iff.mp H
   obtain ⟨⟨t384, t385⟩, A100, H⟩ := H
   try dsimp only at H
   have A10 := ka A100
   clear A100
   replace H := Option.bind_eq_some_iff.mp H
   obtain ⟨⟨t390, t391, t394⟩, A110, H⟩ := H
   try dsimp only at H
   have A11 := ka A110
   clear A110
   replace H := zs4 H
   obtain ⟨rfl, rfl, rfl, rfl⟩ := H
   go_enter Tryd.func16, Tryd.ntmps16
   go_wp2_with (first | ((with_reducible refine gate_dst (N := 5) rfl ?_); refine box_event ?hg (N := 5) ?hd (cs := #[.int .i64 a0_0, .slice A0_1 l0_1.length c0_1, .slice A0_2 l0_2.length c0_2]) (t := 28) ?hr ?_; (case hd => rfl); (case hg => rfl); (case hr => (go_simp; try rfl)); intro gb377 hg w12 hbox hb; have BK377 := ka (hbox); have GW377 := ka (zG hg (zL HB.out)); replace HB := ka (below_step (zL HB.out) hb); clear hb hbox hg) | ((with_reducible refine gate_dst (N := 6) rfl ?_); refine box_event ?hg (N := 6) ?hd (cs := #[.int .i64 a1]) (t := 3) ?hr ?_; (case hd => rfl); (case hg => rfl); (case hr => (go_simp; try rfl)); intro gb378 hg w13 hbox hb; have BK378 := ka (hbox); have GW378 := ka (zG hg (zL HB.out)); replace HB := ka (below_step (zL HB.out) hb); have NB377_378 := ka (zNK hg BK377.out); have NB378_377 := ka (zOK hg BK377.out); replace BK377 := ka (zB BK377.out hb); clear hb hbox hg) | ((with_reducible refine gate_dst (N := 7) rfl ?_); refine box_event ?hg (N := 7) ?hd (cs := #[.string a2]) (t := 9) ?hr ?_; (case hd => rfl); (case hg => rfl); (case hr => (go_simp; try rfl)); intro gb379 hg w14 hbox hb; have BK379 := ka (hbox); have GW379 := ka (zG hg (zL HB.out)); replace HB := ka (below_step (zL HB.out) hb); have NB377_379 := ka (zNK hg BK377.out); have NB379_377 := ka (zOK hg BK377.out); replace BK377 := ka (zB BK377.out hb); have NB378_379 := ka (zNK hg BK378.out); have NB379_378 := ka (zOK hg BK378.out); replace BK378 := ka (zB BK378.out hb); clear hb hbox hg) | ((with_reducible refine gate_dst (N := 10) rfl ?_); refine box_event ?hg (N := 10) ?hd (cs := #[.int .i64 0, .slice none 0 0, .slice none 0 0]) (t := 28) ?hr ?_; (case hd => rfl); (case hg => rfl); (case hr => (go_simp; try rfl)); intro gb380 hg w15 hbox hb; have BK380 := ka (hbox); have GW380 := ka (zG hg (zL HB.out)); replace HB := ka (below_step (zL HB.out) hb); have NB377_380 := ka (zNK hg BK377.out); have NB380_377 := ka (zOK hg BK377.out); replace BK377 := ka (zB BK377.out hb); have NB378_380 := ka (zNK hg BK378.out); have NB380_378 := ka (zOK hg BK378.out); replace BK378 := ka (zB BK378.out hb); have NB379_380 := ka (zNK hg BK379.out); have NB380_379 := ka (zOK hg BK379.out); replace BK379 := ka (zB BK379.out hb); clear hb hbox hg) | ((with_reducible refine gate_callee (f := 34) rfl ?_); refine goesL_ (some 14) rfl rfl Tryd.func34 (by kernel_rfl) rfl #[.int .i64 a4] rfl zA ?_; (with_reducible refine (lease_time.calls a4 true _ A6.out).mono ?_); rintro e w' ⟨rfl, ⟨nd, rfl⟩⟩; refine ⟨_, rfl, ?_⟩; (try (rw [drewN_self w15]; generalize hq_ : World.drewN w15 _ = w15; have n0_ : Aside0 (w15.heap[gb377]? = some (.cells #[.int .i64 a0_0, .slice A0_1 l0_1.length c0_1, .slice A0_2 l0_2.length c0_2] 28 (0, 0))) := ⟨by rw [← hq_]; exact (zK BK377.out)⟩; have n1_ : Aside0 (w15.heap[gb378]? = some (.cells #[.int .i64 a1] 3 (0, 0))) := ⟨by rw [← hq_]; exact (zK BK378.out)⟩; have n2_ : Aside0 (w15.heap[gb379]? = some (.cells #[.string a2] 9 (0, 0))) := ⟨by rw [← hq_]; exact (zK BK379.out)⟩; have n3_ : Aside0 (w15.heap[gb380]? = some (.cells #[.int .i64 0, .slice none 0 0, .slice none 0 0] 28 (0, 0))) := ⟨by rw [← hq_]; exact (zK BK380.out)⟩; have n4_ : Aside0 (Below w.heap.size w w15) := ⟨by rw [← hq_]; exact (zL HB.out)⟩; clear BK377 BK378 BK379 BK380 HB hq_; have BK377 := n0_; have BK378 := n1_; have BK379 := n2_; have BK380 := n3_; have HB := n4_; clear n0_ n1_ n2_ n3_ n4_)); have hnb16 := NB377_378.out; have hnc16 := NB378_377.out; have hnb17 := NB377_379.out; have hnc17 := NB379_377.out; have hnb18 := NB377_380.out; have hnc18 := NB380_377.out; obtain ⟨z19_0, z19_1, z19_2, y19_0, y19_1, y19_2⟩ := zC3 BK377.out; have hnb20 := NB378_379.out; have hnc20 := NB379_378.out; have hnb21 := NB378_380.out; have hnc21 := NB380_378.out; obtain ⟨z22_0, y22_0⟩ := zC1 BK378.out; have hnb23 := NB379_380.out; have hnc23 := NB380_379.out; obtain ⟨z24_0, y24_0⟩ := zC1 BK379.out) | ((with_reducible refine gate_callee (f := 13) rfl ?_); refine goesL_ (some 22) rfl rfl Tryd.func13 (by kernel_rfl) rfl #[.agg #[.int .i64 a0_0, .slice A0_1 l0_1.length c0_1, .slice A0_2 l0_2.length c0_2], .int .i64 a1, .string a2, .int .i64 a3] rfl zA ?_; (with_reducible refine (lease_Valid.calls k a0_0 _ _ l0_1 _ _ l0_2 a1 a2 a3 true _ ?side1 ?side2 ?side3 ?side4 A8.out).mono ?_); (case side1 => exact zCS (Kd.C_below HR0_1.out HB.out)); (case side2 => exact HC0_1.out); (case side3 => exact zCS (Kd.C_below HR0_2.out HB.out)); (case side4 => exact HC0_2.out); rintro e w25 ⟨rfl, hb⟩; refine ⟨_, rfl, ?_⟩; replace BK377 := ka (zB BK377.out hb); replace BK378 := ka (zB BK378.out hb); replace BK379 := ka (zB BK379.out hb); replace BK380 := ka (zB BK380.out hb); replace HB := ka (below_step (zL HB.out) hb); (try clear hb); (try clear hb2); (try clear hk); (try clear hi); obtain ⟨z26_0, z26_1, z26_2, y26_0, y26_1, y26_2⟩ := zC3 BK377.out) | ((with_reducible refine gate_callee (f := 26) rfl ?_); refine goesL_ (some 29) rfl rfl Tryd.func26 (by kernel_rfl) rfl #[.slice A0_1 l0_1.length c0_1, .func (.func 37) #[] #[.pointer (some ⟨gb378, 0, none⟩), .pointer (some ⟨gb379, 0, none⟩)]] rfl zA ?_; (with_reducible refine (lease_Lease_26_at37.calls k _ _ l0_1 gb378 gb379 a1 a2 t384 t385 _ ?side1 ?side2 ?side3 ?side4 A10.out).mono ?_); (case side1 => exact zCS (Kd.C_below HR0_1.out HB.out)); (case side2 => exact HC0_1.out); (case side3 => exact zK BK378.out); (case side4 => exact zK BK379.out); rintro e w27 ⟨v386, v388, rfl, ho0, ho1, hb⟩; refine ⟨_, rfl, ?_⟩; have HO387 := ka (Kd.R_lower ho0 (below_size (zL HB.out))); have HO389 := ka (Kd.R_lower ho1 (below_size (zL HB.out))); replace BK377 := ka (zB BK377.out hb); replace BK378 := ka (zB BK378.out hb); replace BK379 := ka (zB BK379.out hb); replace BK380 := ka (zB BK380.out hb); replace HB := ka (below_step (zL HB.out) hb); (try clear hb); (try clear hb2); (try clear hk); (try clear hi); (try clear ho0); (try clear ho1); obtain ⟨Ao28, co28, eo28⟩ := Kd.R_slice HO389.out; subst eo28; obtain ⟨z29_0, z29_1, z29_2, y29_0, y29_1, y29_2⟩ := zC3 BK377.out) | ((with_reducible refine gate_callee (f := 36) rfl ?_); refine goesL_ (some 35) rfl rfl Tryd.func36 (by kernel_rfl) rfl #[.agg #[.int .i64 a0_0, .slice Ao28 t385.length co28, .slice A0_2 l0_2.length c0_2], .int .i64 a4] rfl zA ?_; (with_reducible refine (lease_Table_settle.calls k a0_0 _ _ t385 _ _ l0_2 a4 t390 t391 t394 _ ?side1 ?side2 ?side3 ?side4 A11.out).mono ?_); (case side1 => refine (Kd.R_reads' (e := 42) (base := w.heap.size) (ok := fun k_ => some k_ ≠ (v386 : Value).ownBlock) (n := t385.length) (c := co28) ?_).2.2; exact (zT HO389.out BK377.out)); (case side2 => exact (Kd.R_reads' HO389.out).2.1); (case side3 => exact Kd.C_below HR0_2.out (zL HB.out)); (case side4 => exact HC0_2.out); rintro e w30 ⟨v392, v395, rfl, ho0, ho1, hb⟩; refine ⟨_, rfl, ?_⟩; have HO393 := ka (Kd.R_lower (Kd.R_new' (Kd.R_new' ho0 (Kd.R_lt (zT HO387.out BK377.out))) (Kd.R_lt (zT HO389.out BK377.out))) (below_size (zL HB.out))); replace HO387 := ka (Kd.R_elder' (zT HO387.out BK377.out) (Kd.R_base ho0) hb); replace HO389 := ka (Kd.R_elder' (zT HO389.out BK377.out) (Kd.R_base ho0) hb); have HO396 := ka (Kd.R_lower ho1 (below_size (zL HB.out))); replace BK377 := ka (blk_below (g := gb377) (o := .cells #[.int .i64 a0_0, .slice Ao28 t385.length co28, .slice A0_2 l0_2.length c0_2] 28 (0, 0)) (by (with_reducible repeat (first | refine blk_drewN ?_ _ | refine blk_drew ?_ | refine blk_alloc ?_ _)); refine blk_put (cs := #[.int .i64 a0_0, .slice A0_1 l0_1.length c0_1, .slice A0_2 l0_2.length c0_2]) ?_ 1 _ rfl; (with_reducible repeat (first | refine blk_drewN ?_ _ | refine blk_drew ?_ | refine blk_alloc ?_ _)); exact BK377.out) hb); replace BK378 := ka (zB BK378.out hb); replace BK379 := ka (zB BK379.out hb); replace BK380 := ka (zB BK380.out hb); replace HB := ka (below_step (zL HB.out) hb); (try clear hb); (try clear hb2); (try clear hk); (try clear hi); (try clear ho0); (try clear ho1); obtain ⟨z31_0, z31_1, z31_2, y31_0, y31_1, y31_2⟩ := zC3 BK380.out; obtain ⟨Ao32, co32, eo32⟩ := Kd.R_slice HO393.out; subst eo32; obtain ⟨Ao33, co33, eo33⟩ := Kd.R_slice HO396.out; subst eo33))
   refine bodyPost_ret (results_ct rfl _ _ gb380 28 #[.int .i64 t390, .slice Ao32 t391.length co32, .slice Ao33 t394.length co33] (0, 0) _ rfl (zP3 BK380.out) Tryd.underlying28 rfl (by kernel_rfl)) rfl ?_
   exact ⟨_, _, zE, by (with_reducible repeat (first | apply Kd.R_alloc | apply Kd.R_drewN | apply Kd.R_drew)); exact Kd.R_mono (zNT HO393.out BK380.out) (fun _ hk => trivial), by (with_reducible repeat (first | apply Kd.R_alloc | apply Kd.R_drewN | apply Kd.R_drew)); exact Kd.R_mono (zNT HO396.out BK380.out) (fun _ hk => trivial), zL HB.out⟩
  replace c9 := Bool.eq_false_iff.mpr c9
  subst c9
  rw [if_neg (show ¬ (false = true) by decide)] at H
  replace H := zs4 H
  obtain ⟨rfl, rfl, rfl, rfl⟩ := H
  go_enter Tryd.func16, Tryd.ntmps16
  go_wp2_with (first | ((with_reducible refine gate_dst (N := 5) rfl ?_); refine box_event ?hg (N := 5) ?hd (cs := #[.int .i64 a0_0, .slice A0_1 l0_1.length c0_1, .slice A0_2 l0_2.length c0_2]) (t := 28) ?hr ?_; (case hd => rfl); (case hg => rfl); (case hr => (go_simp; try rfl)); intro gb377 hg w34 hbox hb; have BK377 := ka (hbox); have GW377 := ka (zG hg (zL HB.out)); replace HB := ka (below_step (zL HB.out) hb); clear hb hbox hg) | ((with_reducible refine gate_dst (N := 6) rfl ?_); refine box_event ?hg (N := 6) ?hd (cs := #[.int .i64 a1]) (t := 3) ?hr ?_; (case hd => rfl); (case hg => rfl); (case hr => (go_simp; try rfl)); intro gb378 hg w35 hbox hb; have BK378 := ka (hbox); have GW378 := ka (zG hg (zL HB.out)); replace HB := ka (below_step (zL HB.out) hb); have NB377_378 := ka (zNK hg BK377.out); have NB378_377 := ka (zOK hg BK377.out); replace BK377 := ka (zB BK377.out hb); clear hb hbox hg) | ((with_reducible refine gate_dst (N := 7) rfl ?_); refine box_event ?hg (N := 7) ?hd (cs := #[.string a2]) (t := 9) ?hr ?_; (case hd => rfl); (case hg => rfl); (case hr => (go_simp; try rfl)); intro gb379 hg w36 hbox hb; have BK379 := ka (hbox); have GW379 := ka (zG hg (zL HB.out)); replace HB := ka (below_step (zL HB.out) hb); have NB377_379 := ka (zNK hg BK377.out); have NB379_377 := ka (zOK hg BK377.out); replace BK377 := ka (zB BK377.out hb); have NB378_379 := ka (zNK hg BK378.out); have NB379_378 := ka (zOK hg BK378.out); replace BK378 := ka (zB BK378.out hb); clear hb hbox hg) | ((with_reducible refine gate_dst (N := 10) rfl ?_); refine box_event ?hg (N := 10) ?hd (cs := #[.int .i64 0, .slice none 0 0, .slice none 0 0]) (t := 28) ?hr ?_; (case hd => rfl); (case hg => rfl); (case hr => (go_simp; try rfl)); intro gb380 hg w37 hbox hb; have BK380 := ka (hbox); have GW380 := ka (zG hg (zL HB.out)); replace HB := ka (below_step (zL HB.out) hb); have NB377_380 := ka (zNK hg BK377.out); have NB380_377 := ka (zOK hg BK377.out); replace BK377 := ka (zB BK377.out hb); have NB378_380 := ka (zNK hg BK378.out); have NB380_378 := ka (zOK hg BK378.out); replace BK378 := ka (zB BK378.out hb); have NB379_380 := ka (zNK hg BK379.out); have NB380_379 := ka (zOK hg BK379.out); replace BK379 := ka (zB BK379.out hb); clear hb hbox hg) | ((with_reducible refine gate_callee (f := 34) rfl ?_); refine goesL_ (some 14) rfl rfl Tryd.func34 (by kernel_rfl) rfl #[.int .i64 a4] rfl zA ?_; (with_reducible refine (lease_time.calls a4 true _ A6.out).mono ?_); rintro e w' ⟨rfl, ⟨nd, rfl⟩⟩; refine ⟨_, rfl, ?_⟩; (try (rw [drewN_self w37]; generalize hq_ : World.drewN w37 _ = w37; have n0_ : Aside0 (w37.heap[gb377]? = some (.cells #[.int .i64 a0_0, .slice A0_1 l0_1.length c0_1, .slice A0_2 l0_2.length c0_2] 28 (0, 0))) := ⟨by rw [← hq_]; exact (zK BK377.out)⟩; have n1_ : Aside0 (w37.heap[gb378]? = some (.cells #[.int .i64 a1] 3 (0, 0))) := ⟨by rw [← hq_]; exact (zK BK378.out)⟩; have n2_ : Aside0 (w37.heap[gb379]? = some (.cells #[.string a2] 9 (0, 0))) := ⟨by rw [← hq_]; exact (zK BK379.out)⟩; have n3_ : Aside0 (w37.heap[gb380]? = some (.cells #[.int .i64 0, .slice none 0 0, .slice none 0 0] 28 (0, 0))) := ⟨by rw [← hq_]; exact (zK BK380.out)⟩; have n4_ : Aside0 (Below w.heap.size w w37) := ⟨by rw [← hq_]; exact (zL HB.out)⟩; clear BK377 BK378 BK379 BK380 HB hq_; have BK377 := n0_; have BK378 := n1_; have BK379 := n2_; have BK380 := n3_; have HB := n4_; clear n0_ n1_ n2_ n3_ n4_; (try (obtain ⟨z29_0, z29_1, z29_2, y29_0, y29_1, y29_2⟩ := zC3 BK377.out)); (try (obtain ⟨z22_0, y22_0⟩ := zC1 BK378.out)); (try (obtain ⟨z24_0, y24_0⟩ := zC1 BK379.out)); (try (obtain ⟨z31_0, z31_1, z31_2, y31_0, y31_1, y31_2⟩ := zC3 BK380.out)))); have hnb38 := NB377_378.out; have hnc38 := NB378_377.out; have hnb39 := NB377_379.out; have hnc39 := NB379_377.out; have hnb40 := NB377_380.out; have hnc40 := NB380_377.out; obtain ⟨z41_0, z41_1, z41_2, y41_0, y41_1, y41_2⟩ := zC3 BK377.out; have hnb42 := NB378_379.out; have hnc42 := NB379_378.out; have hnb43 := NB378_380.out; have hnc43 := NB380_378.out; obtain ⟨z44_0, y44_0⟩ := zC1 BK378.out; have hnb45 := NB379_380.out; have hnc45 := NB380_379.out; obtain ⟨z46_0, y46_0⟩ := zC1 BK379.out) | ((with_reducible refine gate_callee (f := 13) rfl ?_); refine goesL_ (some 22) rfl rfl Tryd.func13 (by kernel_rfl) rfl #[.agg #[.int .i64 a0_0, .slice A0_1 l0_1.length c0_1, .slice A0_2 l0_2.length c0_2], .int .i64 a1, .string a2, .int .i64 a3] rfl zA ?_; (with_reducible refine (lease_Valid.calls k a0_0 _ _ l0_1 _ _ l0_2 a1 a2 a3 false _ ?side1 ?side2 ?side3 ?side4 A8.out).mono ?_); (case side1 => exact zCS (Kd.C_below HR0_1.out HB.out)); (case side2 => exact HC0_1.out); (case side3 => exact zCS (Kd.C_below HR0_2.out HB.out)); (case side4 => exact HC0_2.out); rintro e w47 ⟨rfl, hb⟩; refine ⟨_, rfl, ?_⟩; replace BK377 := ka (zB BK377.out hb); replace BK378 := ka (zB BK378.out hb); replace BK379 := ka (zB BK379.out hb); replace BK380 := ka (zB BK380.out hb); replace HB := ka (below_step (zL HB.out) hb); (try clear hb); (try clear hb2); (try clear hk); (try clear hi); obtain ⟨z48_0, z48_1, z48_2, y48_0, y48_1, y48_2⟩ := zC3 BK380.out))
  refine bodyPost_ret (results_ct rfl _ _ gb380 28 #[.int .i64 0, .slice none 0 0, .slice none 0 0] (0, 0) _ rfl (zP3 BK380.out) Tryd.underlying28 rfl (by kernel_rfl)) rfl ?_
  exact ⟨_, _, zE, zNl, zNl, zL HB.out⟩
 replace c7 := Bool.eq_false_iff.mpr c7
 subst c7
 rw [if_neg (show ¬ (false = true) by decide)] at H
 replace H := zs4 H
 obtain ⟨rfl, rfl, rfl, rfl⟩ := H
 go_enter Tryd.func16, Tryd.ntmps16
 go_wp2_with (first | ((with_reducible refine gate_dst (N := 5) rfl ?_); refine box_event ?hg (N := 5) ?hd (cs := #[.int .i64 a0_0, .slice A0_1 l0_1.length c0_1, .slice A0_2 l0_2.length c0_2]) (t := 28) ?hr ?_; (case hd => rfl); (case hg => rfl); (case hr => (go_simp; try rfl)); intro gb377 hg w49 hbox hb; have BK377 := ka (hbox); have GW377 := ka (zG hg (zL HB.out)); replace HB := ka (below_step (zL HB.out) hb); clear hb hbox hg) | ((with_reducible refine gate_dst (N := 6) rfl ?_); refine box_event ?hg (N := 6) ?hd (cs := #[.int .i64 a1]) (t := 3) ?hr ?_; (case hd => rfl); (case hg => rfl); (case hr => (go_simp; try rfl)); intro gb378 hg w50 hbox hb; have BK378 := ka (hbox); have GW378 := ka (zG hg (zL HB.out)); replace HB := ka (below_step (zL HB.out) hb); have NB377_378 := ka (zNK hg BK377.out); have NB378_377 := ka (zOK hg BK377.out); replace BK377 := ka (zB BK377.out hb); clear hb hbox hg) | ((with_reducible refine gate_dst (N := 7) rfl ?_); refine box_event ?hg (N := 7) ?hd (cs := #[.string a2]) (t := 9) ?hr ?_; (case hd => rfl); (case hg => rfl); (case hr => (go_simp; try rfl)); intro gb379 hg w51 hbox hb; have BK379 := ka (hbox); have GW379 := ka (zG hg (zL HB.out)); replace HB := ka (below_step (zL HB.out) hb); have NB377_379 := ka (zNK hg BK377.out); have NB379_377 := ka (zOK hg BK377.out); replace BK377 := ka (zB BK377.out hb); have NB378_379 := ka (zNK hg BK378.out); have NB379_378 := ka (zOK hg BK378.out); replace BK378 := ka (zB BK378.out hb); clear hb hbox hg) | ((with_reducible refine gate_dst (N := 10) rfl ?_); refine box_event ?hg (N := 10) ?hd (cs := #[.int .i64 0, .slice none 0 0, .slice none 0 0]) (t := 28) ?hr ?_; (case hd => rfl); (case hg => rfl); (case hr => (go_simp; try rfl)); intro gb380 hg w52 hbox hb; have BK380 := ka (hbox); have GW380 := ka (zG hg (zL HB.out)); replace HB := ka (below_step (zL HB.out) hb); have NB377_380 := ka (zNK hg BK377.out); have NB380_377 := ka (zOK hg BK377.out); replace BK377 := ka (zB BK377.out hb); have NB378_380 := ka (zNK hg BK378.out); have NB380_378 := ka (zOK hg BK378.out); replace BK378 := ka (zB BK378.out hb); have NB379_380 := ka (zNK hg BK379.out); have NB380_379 := ka (zOK hg BK379.out); replace BK379 := ka (zB BK379.out hb); clear hb hbox hg) | ((with_reducible refine gate_callee (f := 34) rfl ?_); refine goesL_ (some 14) rfl rfl Tryd.func34 (by kernel_rfl) rfl #[.int .i64 a4] rfl zA ?_; (with_reducible refine (lease_time.calls a4 false _ A6.out).mono ?_); rintro e w' ⟨rfl, ⟨nd, rfl⟩⟩; refine ⟨_, rfl, ?_⟩; (try (rw [drewN_self w52]; generalize hq_ : World.drewN w52 _ = w52; have n0_ : Aside0 (w52.heap[gb377]? = some (.cells #[.int .i64 a0_0, .slice A0_1 l0_1.length c0_1, .slice A0_2 l0_2.length c0_2] 28 (0, 0))) := ⟨by rw [← hq_]; exact (zK BK377.out)⟩; have n1_ : Aside0 (w52.heap[gb378]? = some (.cells #[.int .i64 a1] 3 (0, 0))) := ⟨by rw [← hq_]; exact (zK BK378.out)⟩; have n2_ : Aside0 (w52.heap[gb379]? = some (.cells #[.string a2] 9 (0, 0))) := ⟨by rw [← hq_]; exact (zK BK379.out)⟩; have n3_ : Aside0 (w52.heap[gb380]? = some (.cells #[.int .i64 0, .slice none 0 0, .slice none 0 0] 28 (0, 0))) := ⟨by rw [← hq_]; exact (zK BK380.out)⟩; have n4_ : Aside0 (Below w.heap.size w w52) := ⟨by rw [← hq_]; exact (zL HB.out)⟩; clear BK377 BK378 BK379 BK380 HB hq_; have BK377 := n0_; have BK378 := n1_; have BK379 := n2_; have BK380 := n3_; have HB := n4_; clear n0_ n1_ n2_ n3_ n4_; (try (obtain ⟨z41_0, z41_1, z41_2, y41_0, y41_1, y41_2⟩ := zC3 BK377.out)); (try (obtain ⟨z44_0, y44_0⟩ := zC1 BK378.out)); (try (obtain ⟨z46_0, y46_0⟩ := zC1 BK379.out)); (try (obtain ⟨z48_0, z48_1, z48_2, y48_0, y48_1, y48_2⟩ := zC3 BK380.out)))); have hnb53 := NB380_377.out; have hnc53 := NB377_380.out; have hnb54 := NB380_378.out; have hnc54 := NB378_380.out; have hnb55 := NB380_379.out; have hnc55 := NB379_380.out; obtain ⟨z56_0, z56_1, z56_2, y56_0, y56_1, y56_2⟩ := zC3 BK380.out))
 refine bodyPost_ret (results_ct rfl _ _ gb380 28 #[.int .i64 0, .slice none 0 0, .slice none 0 0] (0, 0) _ rfl (zP3 BK380.out) Tryd.underlying28 rfl (by kernel_rfl)) rfl ?_
 exact ⟨_, _, zE, zNl, zNl, zL HB.out⟩

/-! ### cooperagelaw16_shown: function 4 -/
def cooperagelaw16_shown.f (k : Nat)  : Option (Bool) := (lease_Take.f k 0 ([] : List (S42)) ([] : List (S49)) 1 (⟨#[97]⟩ : ByteArray) true 9 0).bind fun bt398 => ((lease_Take.f k bt398.1 bt398.2.1 bt398.2.2.1 2 (⟨#[97]⟩ : ByteArray) false 9 0).bind fun bt407 => ((lease_Take.f k bt407.1 bt407.2.1 bt407.2.2.1 3 (⟨#[97]⟩ : ByteArray) false 9 0).bind fun bt416 => ((lease_Give.f k bt416.1 bt416.2.1 bt416.2.2.1 1 (⟨#[97]⟩ : ByteArray) 1 0).bind fun bt425 => (if bt398.2.2.2.1 = 1 then (if bt407.2.2.2.1 = 0 then (if bt416.2.2.2.1 = 0 then (if bt425.2.2.2 = 0 then ((lease_Valid.f k bt425.1 bt425.2.1 bt425.2.2.1 2 (⟨#[97]⟩ : ByteArray) 2).bind fun t433 => (if t433 = true then ((lease_Valid.f k bt425.1 bt425.2.1 bt425.2.2.1 3 (⟨#[97]⟩ : ByteArray) 3).bind fun t434 => (if t434 = true then (some ((bt425.2.2.1.length : Int) == 0)) else (some false))) else (some false))) else (some false)) else (some false)) else (some false)) else (some false)))))
theorem cooperagelaw16_shown.mono : ∀ k, LeO (cooperagelaw16_shown.f k ) (cooperagelaw16_shown.f (k + 1) ) := by
 intro  k
 unfold cooperagelaw16_shown.f
 have m0 := @lease_Give.mono
 have m1 := @lease_Take.mono
 have m2 := @lease_Valid.mono
 exact zLe
theorem cooperagelaw16_shown.calls (k : Nat)  (r : Bool) (w : World) (h : cooperagelaw16_shown.f k  = some r) :
  Calls Tryd.prog 4 #[] w fun e w' => e = .returned (.bool r) ∧ Below w.heap.size w w' := by
 have hu28 := Tryd.underlying28
 have hu49 := Tryd.underlying49
 have HB := ka (Below.refl w.heap.size w)
 have H : ((lease_Take.f k 0 ([] : List (S42)) ([] : List (S49)) 1 (⟨#[97]⟩ : ByteArray) true 9 0).bind fun bt398 => ((lease_Take.f k bt398.1 bt398.2.1 bt398.2.2.1 2 (⟨#[97]⟩ : ByteArray) false 9 0).bind fun bt407 => ((lease_Take.f k bt407.1 bt407.2.1 bt407.2.2.1 3 (⟨#[97]⟩ : ByteArray) false 9 0).bind fun bt416 => ((lease_Give.f k bt416.1 bt416.2.1 bt416.2.2.1 1 (⟨#[97]⟩ : ByteArray) 1 0).bind fun bt425 => (if bt398.2.2.2.1 = 1 then (if bt407.2.2.2.1 = 0 then (if bt416.2.2.2.1 = 0 then (if bt425.2.2.2 = 0 then ((lease_Valid.f k bt425.1 bt425.2.1 bt425.2.2.1 2 (⟨#[97]⟩ : ByteArray) 2).bind fun t433 => (if t433 = true then ((lease_Valid.f k bt425.1 bt425.2.1 bt425.2.2.1 3 (⟨#[97]⟩ : ByteArray) 3).bind fun t434 => (if t434 = true then (some ((bt425.2.2.1.length : Int) == 0)) else (some false))) else (some false))) else (some false)) else (some false)) else (some false)) else (some false)))))) = some r := h
 clear h
 replace H := Option.bind_eq_some_iff.mp H
 obtain ⟨⟨t398, t399, t402, t405, t406⟩, A10, H⟩ := H
 try dsimp only at H
 have A1 := ka A10
 clear A10
 replace H := Option.bind_eq_some_iff.mp H
 obtain ⟨⟨t407, t408, t411, t414, t415⟩, A20, H⟩ := H
 try dsimp only at H
 have A2 := ka A20
 clear A20
 replace H := Option.bind_eq_some_iff.mp H
 obtain ⟨⟨t416, t417, t420, t423, t424⟩, A30, H⟩ := H
 try dsimp only at H
 have A3 := ka A30
 clear A30
 replace H := Option.bind_eq_some_iff.mp H
 obtain ⟨⟨t425, t426, t429, t432⟩, A40, H⟩ := H
 try dsimp only at H
 have A4 := ka A40
 clear A40
 by_cases c5 : t405 = 1
 case' neg =>
  rw [if_neg c5] at H
  have c5b0 := zn0 c5
  have c5b1 := zn1 c5
 case' pos =>
  rw [if_pos c5] at H
  have c5b0 := zb0 c5
  have c5b1 := zb1 c5
  clear c5
  by_cases c6 : t414 = 0
  case' neg =>
   rw [if_neg c6] at H
   have c6b0 := zn0 c6
   have c6b1 := zn1 c6
  case' pos =>
   rw [if_pos c6] at H
   have c6b0 := zb0 c6
   have c6b1 := zb1 c6
   clear c6
   by_cases c7 : t423 = 0
   case' neg =>
    rw [if_neg c7] at H
    have c7b0 := zn0 c7
    have c7b1 := zn1 c7
   case' pos =>
    rw [if_pos c7] at H
    have c7b0 := zb0 c7
    have c7b1 := zb1 c7
    clear c7
    by_cases c8 : t432 = 0
    case pos =>
     rw [if_pos c8] at H
     have c8b0 := zb0 c8
     have c8b1 := zb1 c8
     clear c8
     replace H := Option.bind_eq_some_iff.mp H
     obtain ⟨t433, A90, H⟩ := H
     try dsimp only at H
     have A9 := ka A90
     clear A90
     by_cases c10 : t433 = true
     ·subst c10
      rw [if_pos rfl] at H
      replace H := Option.bind_eq_some_iff.mp H
      obtain ⟨t434, A110, H⟩ := H
      try dsimp only at H
      have A11 := ka A110
      clear A110
      by_cases c12 : t434 = true
      ·subst c12
       rw [if_pos rfl] at H
       obtain rfl := Option.some.inj H
       go_enter Tryd.func4, Tryd.ntmps4
       go_wp2_with (first | ((with_reducible refine gate_dst (N := 1) rfl ?_); (try (refine gate_guard (by rfl) ?_; dsimp only)); refine box_event ?hg (N := 1) ?hd (cs := #[.int .i64 0, .slice none 0 0, .slice none 0 0]) (t := 28) ?hr ?_; (case hd => rfl); (case hg => rfl); (case hr => (go_simp; try rfl)); intro gb397 hg w13 hbox hb; have BK397 := ka (hbox); have GW397 := ka (zG hg (zL HB.out)); replace HB := ka (below_step (zL HB.out) hb); clear hb hbox hg; obtain ⟨z14_0, z14_1, z14_2, y14_0, y14_1, y14_2⟩ := zC3 BK397.out) | ((with_reducible refine gate_callee (f := 15) rfl ?_); refine goesL_ (some 13) rfl rfl Tryd.func15 (by kernel_rfl) rfl #[.agg #[.int .i64 0, .slice none 0 0, .slice none 0 0], .agg #[.int .i64 1, .string ⟨#[97]⟩, .bool true, .int .i64 9], .int .i64 0] rfl zA ?_; (refine (lease_Take.calls k 0 _ _ ([] : List (S42)) _ _ ([] : List (S49)) 1 (⟨#[97]⟩ : ByteArray) true 9 0 t398 t399 t402 t405 t406 _ ?side1 ?side2 ?side3 ?side4 A1.out).mono ?_); (case side1 => exact Kd.C_nil _ _); (case side2 => exact Nat.le_refl _); (case side3 => exact Kd.C_nil _ _); (case side4 => exact Nat.le_refl _); rintro e w15 ⟨v400, v403, rfl, ho0, ho1, hb⟩; refine ⟨_, rfl, ?_⟩; have HO401 := ka (Kd.R_lower ho0 (below_size (zL HB.out))); have HO404 := ka (Kd.R_lower ho1 (below_size (zL HB.out))); replace BK397 := ka (blk_below (g := gb397) (o := .cells #[.int .i64 0, .slice none 0 0, .slice none 0 0] 28 (0, 0)) (zP3 BK397.out) hb); replace HB := ka (below_step (zL HB.out) hb); (try clear hb); (try clear hb2); (try clear hk); (try clear hi); (try clear ho0); (try clear ho1); obtain ⟨z16_0, z16_1, z16_2, y16_0, y16_1, y16_2⟩ := zC3 BK397.out; obtain ⟨Ao17, co17, eo17⟩ := Kd.R_slice HO401.out; subst eo17; obtain ⟨Ao18, co18, eo18⟩ := Kd.R_slice HO404.out; subst eo18) | ((with_reducible refine gate_callee (f := 15) rfl ?_); refine goesL_ (some 20) rfl rfl Tryd.func15 (by kernel_rfl) rfl #[.agg #[.int .i64 t398, .slice Ao17 t399.length co17, .slice Ao18 t402.length co18], .agg #[.int .i64 2, .string ⟨#[97]⟩, .bool false, .int .i64 9], .int .i64 0] rfl zA ?_; (with_reducible refine (lease_Take.calls k t398 _ _ t399 _ _ t402 2 (⟨#[97]⟩ : ByteArray) false 9 0 t407 t408 t411 t414 t415 _ ?side1 ?side2 ?side3 ?side4 A2.out).mono ?_); (case side1 => refine (Kd.R_reads' (e := 42) (base := w.heap.size) (ok := fun k_ => True) (n := t399.length) (c := co17) ?_).2.2; exact (zT HO401.out BK397.out)); (case side2 => exact (Kd.R_reads' HO401.out).2.1); (case side3 => refine (Kd.R_reads' (e := 49) (base := w.heap.size) (ok := fun k_ => True) (n := t402.length) (c := co18) ?_).2.2; exact (zT HO404.out BK397.out)); (case side4 => exact (Kd.R_reads' HO404.out).2.1); rintro e w19 ⟨v409, v412, rfl, ho0, ho1, hb⟩; refine ⟨_, rfl, ?_⟩; have HO410 := ka (Kd.R_lower (Kd.R_new' ho0 (Kd.R_lt (zT HO401.out BK397.out))) (below_size (zL HB.out))); replace HO401 := ka (Kd.R_elder' (zT HO401.out BK397.out) (Kd.R_base ho0) hb); have HO413 := ka (Kd.R_lower (Kd.R_new' ho1 (Kd.R_lt (zT HO404.out BK397.out))) (below_size (zL HB.out))); replace HO404 := ka (Kd.R_elder' (zT HO404.out BK397.out) (Kd.R_base ho1) hb); replace BK397 := ka (blk_below (g := gb397) (o := .cells #[.int .i64 t398, .slice Ao17 t399.length co17, .slice Ao18 t402.length co18] 28 (0, 0)) (zP3 BK397.out) hb); replace HB := ka (below_step (zL HB.out) hb); (try clear hb); (try clear hb2); (try clear hk); (try clear hi); (try clear ho0); (try clear ho1); obtain ⟨z20_0, z20_1, z20_2, y20_0, y20_1, y20_2⟩ := zC3 BK397.out; obtain ⟨Ao21, co21, eo21⟩ := Kd.R_slice HO410.out; subst eo21; obtain ⟨Ao22, co22, eo22⟩ := Kd.R_slice HO413.out; subst eo22) | ((with_reducible refine gate_callee (f := 15) rfl ?_); refine goesL_ (some 27) rfl rfl Tryd.func15 (by kernel_rfl) rfl #[.agg #[.int .i64 t407, .slice Ao21 t408.length co21, .slice Ao22 t411.length co22], .agg #[.int .i64 3, .string ⟨#[97]⟩, .bool false, .int .i64 9], .int .i64 0] rfl zA ?_; (with_reducible refine (lease_Take.calls k t407 _ _ t408 _ _ t411 3 (⟨#[97]⟩ : ByteArray) false 9 0 t416 t417 t420 t423 t424 _ ?side1 ?side2 ?side3 ?side4 A3.out).mono ?_); (case side1 => refine (Kd.R_reads' (e := 42) (base := w.heap.size) (ok := fun k_ => (True ∧ some k_ ≠ (.slice Ao17 t399.length co17 : Value).ownBlock)) (n := t408.length) (c := co21) ?_).2.2; exact (zT HO410.out BK397.out)); (case side2 => exact (Kd.R_reads' HO410.out).2.1); (case side3 => refine (Kd.R_reads' (e := 49) (base := w.heap.size) (ok := fun k_ => (True ∧ some k_ ≠ (.slice Ao18 t402.length co18 : Value).ownBlock)) (n := t411.length) (c := co22) ?_).2.2; exact (zT HO413.out BK397.out)); (case side4 => exact (Kd.R_reads' HO413.out).2.1); rintro e w23 ⟨v418, v421, rfl, ho0, ho1, hb⟩; refine ⟨_, rfl, ?_⟩; have HO419 := ka (Kd.R_lower (Kd.R_new' (Kd.R_new' ho0 (Kd.R_lt (zT HO401.out BK397.out))) (Kd.R_lt (zT HO410.out BK397.out))) (below_size (zL HB.out))); replace HO401 := ka (Kd.R_elder' (zT HO401.out BK397.out) (Kd.R_base ho0) hb); replace HO410 := ka (Kd.R_elder' (zT HO410.out BK397.out) (Kd.R_base ho0) hb); have HO422 := ka (Kd.R_lower (Kd.R_new' (Kd.R_new' ho1 (Kd.R_lt (zT HO404.out BK397.out))) (Kd.R_lt (zT HO413.out BK397.out))) (below_size (zL HB.out))); replace HO404 := ka (Kd.R_elder' (zT HO404.out BK397.out) (Kd.R_base ho1) hb); replace HO413 := ka (Kd.R_elder' (zT HO413.out BK397.out) (Kd.R_base ho1) hb); replace BK397 := ka (blk_below (g := gb397) (o := .cells #[.int .i64 t407, .slice Ao21 t408.length co21, .slice Ao22 t411.length co22] 28 (0, 0)) (zP3 BK397.out) hb); replace HB := ka (below_step (zL HB.out) hb); (try clear hb); (try clear hb2); (try clear hk); (try clear hi); (try clear ho0); (try clear ho1); obtain ⟨z24_0, z24_1, z24_2, y24_0, y24_1, y24_2⟩ := zC3 BK397.out; obtain ⟨Ao25, co25, eo25⟩ := Kd.R_slice HO419.out; subst eo25; obtain ⟨Ao26, co26, eo26⟩ := Kd.R_slice HO422.out; subst eo26) | ((with_reducible refine gate_callee (f := 16) rfl ?_); refine goesL_ (some 33) rfl rfl Tryd.func16 (by kernel_rfl) rfl #[.agg #[.int .i64 t416, .slice Ao25 t417.length co25, .slice Ao26 t420.length co26], .int .i64 1, .string ⟨#[97]⟩, .int .i64 1, .int .i64 0] rfl zA ?_; (with_reducible refine (lease_Give.calls k t416 _ _ t417 _ _ t420 1 (⟨#[97]⟩ : ByteArray) 1 0 t425 t426 t429 t432 _ ?side1 ?side2 ?side3 ?side4 A4.out).mono ?_); (case side1 => refine (Kd.R_reads' (e := 42) (base := w.heap.size) (ok := fun k_ => ((True ∧ some k_ ≠ (.slice Ao17 t399.length co17 : Value).ownBlock) ∧ some k_ ≠ (.slice Ao21 t408.length co21 : Value).ownBlock)) (n := t417.length) (c := co25) ?_).2.2; exact (zT HO419.out BK397.out)); (case side2 => exact (Kd.R_reads' HO419.out).2.1); (case side3 => refine (Kd.R_reads' (e := 49) (base := w.heap.size) (ok := fun k_ => ((True ∧ some k_ ≠ (.slice Ao18 t402.length co18 : Value).ownBlock) ∧ some k_ ≠ (.slice Ao22 t411.length co22 : Value).ownBlock)) (n := t420.length) (c := co26) ?_).2.2; exact (zT HO422.out BK397.out)); (case side4 => exact (Kd.R_reads' HO422.out).2.1); rintro e w27 ⟨v427, v430, rfl, ho0, ho1, hb⟩; refine ⟨_, rfl, ?_⟩; have HO428 := ka (Kd.R_lower (Kd.R_new' (Kd.R_new' (Kd.R_new' ho0 (Kd.R_lt (zT HO401.out BK397.out))) (Kd.R_lt (zT HO410.out BK397.out))) (Kd.R_lt (zT HO419.out BK397.out))) (below_size (zL HB.out))); replace HO401 := ka (Kd.R_elder' (zT HO401.out BK397.out) (Kd.R_base ho0) hb); replace HO410 := ka (Kd.R_elder' (zT HO410.out BK397.out) (Kd.R_base ho0) hb); replace HO419 := ka (Kd.R_elder' (zT HO419.out BK397.out) (Kd.R_base ho0) hb); have HO431 := ka (Kd.R_lower (Kd.R_new' (Kd.R_new' (Kd.R_new' ho1 (Kd.R_lt (zT HO404.out BK397.out))) (Kd.R_lt (zT HO413.out BK397.out))) (Kd.R_lt (zT HO422.out BK397.out))) (below_size (zL HB.out))); replace HO404 := ka (Kd.R_elder' (zT HO404.out BK397.out) (Kd.R_base ho1) hb); replace HO413 := ka (Kd.R_elder' (zT HO413.out BK397.out) (Kd.R_base ho1) hb); replace HO422 := ka (Kd.R_elder' (zT HO422.out BK397.out) (Kd.R_base ho1) hb); replace BK397 := ka (blk_below (g := gb397) (o := .cells #[.int .i64 t416, .slice Ao25 t417.length co25, .slice Ao26 t420.length co26] 28 (0, 0)) (zP3 BK397.out) hb); replace HB := ka (below_step (zL HB.out) hb); (try clear hb); (try clear hb2); (try clear hk); (try clear hi); (try clear ho0); (try clear ho1); obtain ⟨z28_0, z28_1, z28_2, y28_0, y28_1, y28_2⟩ := zC3 BK397.out; obtain ⟨Ao29, co29, eo29⟩ := Kd.R_slice HO428.out; subst eo29; obtain ⟨Ao30, co30, eo30⟩ := Kd.R_slice HO431.out; subst eo30) | (go_at_call 13; (with_reducible refine (lease_Valid.calls k t425 _ _ t426 _ _ t429 2 (⟨#[97]⟩ : ByteArray) 2 true _ ?side1 ?side2 ?side3 ?side4 A9.out).mono ?_); (case side1 => refine (Kd.R_reads' (e := 42) (base := w.heap.size) (ok := fun k_ => (((True ∧ some k_ ≠ (.slice Ao17 t399.length co17 : Value).ownBlock) ∧ some k_ ≠ (.slice Ao21 t408.length co21 : Value).ownBlock) ∧ some k_ ≠ (.slice Ao25 t417.length co25 : Value).ownBlock)) (n := t426.length) (c := co29) ?_).2.2; exact (zT HO428.out BK397.out)); (case side2 => exact (Kd.R_reads' HO428.out).2.1); (case side3 => refine (Kd.R_reads' (e := 49) (base := w.heap.size) (ok := fun k_ => (((True ∧ some k_ ≠ (.slice Ao18 t402.length co18 : Value).ownBlock) ∧ some k_ ≠ (.slice Ao22 t411.length co22 : Value).ownBlock) ∧ some k_ ≠ (.slice Ao26 t420.length co26 : Value).ownBlock)) (n := t429.length) (c := co30) ?_).2.2; exact (zT HO431.out BK397.out)); (case side4 => exact (Kd.R_reads' HO431.out).2.1); rintro e w31 ⟨rfl, hb⟩; replace HO401 := ka (Kd.R_below (zT HO401.out BK397.out) hb); replace HO404 := ka (Kd.R_below (zT HO404.out BK397.out) hb); replace HO410 := ka (Kd.R_below (zT HO410.out BK397.out) hb); replace HO413 := ka (Kd.R_below (zT HO413.out BK397.out) hb); replace HO419 := ka (Kd.R_below (zT HO419.out BK397.out) hb); replace HO422 := ka (Kd.R_below (zT HO422.out BK397.out) hb); replace HO428 := ka (Kd.R_below (zT HO428.out BK397.out) hb); replace HO431 := ka (Kd.R_below (zT HO431.out BK397.out) hb); replace BK397 := ka (blk_below (g := gb397) (o := .cells #[.int .i64 t425, .slice Ao29 t426.length co29, .slice Ao30 t429.length co30] 28 (0, 0)) (zP3 BK397.out) hb); replace HB := ka (below_step (zL HB.out) hb); (try clear hb); (try clear hb2); (try clear hk); (try clear hi); obtain ⟨z32_0, z32_1, z32_2, y32_0, y32_1, y32_2⟩ := zC3 BK397.out) | (go_at_call 13; (with_reducible refine (lease_Valid.calls k t425 _ _ t426 _ _ t429 3 (⟨#[97]⟩ : ByteArray) 3 true _ ?side1 ?side2 ?side3 ?side4 A11.out).mono ?_); (case side1 => exact zCS (Kd.R_reads' HO428.out).2.2); (case side2 => exact (Kd.R_reads' HO428.out).2.1); (case side3 => exact zCS (Kd.R_reads' HO431.out).2.2); (case side4 => exact (Kd.R_reads' HO431.out).2.1); rintro e w33 ⟨rfl, hb⟩; replace HO401 := ka (Kd.R_below (zR HO401.out) hb); replace HO404 := ka (Kd.R_below (zR HO404.out) hb); replace HO410 := ka (Kd.R_below (zR HO410.out) hb); replace HO413 := ka (Kd.R_below (zR HO413.out) hb); replace HO419 := ka (Kd.R_below (zR HO419.out) hb); replace HO422 := ka (Kd.R_below (zR HO422.out) hb); replace HO428 := ka (Kd.R_below (zR HO428.out) hb); replace HO431 := ka (Kd.R_below (zR HO431.out) hb); replace BK397 := ka (zB BK397.out hb); replace HB := ka (below_step (zL HB.out) hb); (try clear hb); (try clear hb2); (try clear hk); (try clear hi); obtain ⟨z34_0, z34_1, z34_2, y34_0, y34_1, y34_2⟩ := zC3 BK397.out))
       go_ret
       exact ⟨zE, zL HB.out⟩
      ·replace c12 := Bool.eq_false_iff.mpr c12
       subst c12
       rw [if_neg (show ¬ (false = true) by decide)] at H
       obtain rfl := Option.some.inj H
       go_enter Tryd.func4, Tryd.ntmps4
       go_wp2_with (first | ((with_reducible refine gate_dst (N := 1) rfl ?_); (try (refine gate_guard (by rfl) ?_; dsimp only)); refine box_event ?hg (N := 1) ?hd (cs := #[.int .i64 0, .slice none 0 0, .slice none 0 0]) (t := 28) ?hr ?_; (case hd => rfl); (case hg => rfl); (case hr => (go_simp; try rfl)); intro gb397 hg w35 hbox hb; have BK397 := ka (hbox); have GW397 := ka (zG hg (zL HB.out)); replace HB := ka (below_step (zL HB.out) hb); clear hb hbox hg; obtain ⟨z36_0, z36_1, z36_2, y36_0, y36_1, y36_2⟩ := zC3 BK397.out) | ((with_reducible refine gate_callee (f := 15) rfl ?_); refine goesL_ (some 13) rfl rfl Tryd.func15 (by kernel_rfl) rfl #[.agg #[.int .i64 0, .slice none 0 0, .slice none 0 0], .agg #[.int .i64 1, .string ⟨#[97]⟩, .bool true, .int .i64 9], .int .i64 0] rfl zA ?_; (refine (lease_Take.calls k 0 _ _ ([] : List (S42)) _ _ ([] : List (S49)) 1 (⟨#[97]⟩ : ByteArray) true 9 0 t398 t399 t402 t405 t406 _ ?side1 ?side2 ?side3 ?side4 A1.out).mono ?_); (case side1 => exact Kd.C_nil _ _); (case side2 => exact Nat.le_refl _); (case side3 => exact Kd.C_nil _ _); (case side4 => exact Nat.le_refl _); rintro e w37 ⟨v400, v403, rfl, ho0, ho1, hb⟩; refine ⟨_, rfl, ?_⟩; have HO401 := ka (Kd.R_lower ho0 (below_size (zL HB.out))); have HO404 := ka (Kd.R_lower ho1 (below_size (zL HB.out))); replace BK397 := ka (blk_below (g := gb397) (o := .cells #[.int .i64 0, .slice none 0 0, .slice none 0 0] 28 (0, 0)) (zP3 BK397.out) hb); replace HB := ka (below_step (zL HB.out) hb); (try clear hb); (try clear hb2); (try clear hk); (try clear hi); (try clear ho0); (try clear ho1); obtain ⟨z38_0, z38_1, z38_2, y38_0, y38_1, y38_2⟩ := zC3 BK397.out; obtain ⟨Ao39, co39, eo39⟩ := Kd.R_slice HO401.out; subst eo39; obtain ⟨Ao40, co40, eo40⟩ := Kd.R_slice HO404.out; subst eo40) | ((with_reducible refine gate_callee (f := 15) rfl ?_); refine goesL_ (some 20) rfl rfl Tryd.func15 (by kernel_rfl) rfl #[.agg #[.int .i64 t398, .slice Ao39 t399.length co39, .slice Ao40 t402.length co40], .agg #[.int .i64 2, .string ⟨#[97]⟩, .bool false, .int .i64 9], .int .i64 0] rfl zA ?_; (with_reducible refine (lease_Take.calls k t398 _ _ t399 _ _ t402 2 (⟨#[97]⟩ : ByteArray) false 9 0 t407 t408 t411 t414 t415 _ ?side1 ?side2 ?side3 ?side4 A2.out).mono ?_); (case side1 => refine (Kd.R_reads' (e := 42) (base := w.heap.size) (ok := fun k_ => True) (n := t399.length) (c := co39) ?_).2.2; exact (zT HO401.out BK397.out)); (case side2 => exact (Kd.R_reads' HO401.out).2.1); (case side3 => refine (Kd.R_reads' (e := 49) (base := w.heap.size) (ok := fun k_ => True) (n := t402.length) (c := co40) ?_).2.2; exact (zT HO404.out BK397.out)); (case side4 => exact (Kd.R_reads' HO404.out).2.1); rintro e w41 ⟨v409, v412, rfl, ho0, ho1, hb⟩; refine ⟨_, rfl, ?_⟩; have HO410 := ka (Kd.R_lower (Kd.R_new' ho0 (Kd.R_lt (zT HO401.out BK397.out))) (below_size (zL HB.out))); replace HO401 := ka (Kd.R_elder' (zT HO401.out BK397.out) (Kd.R_base ho0) hb); have HO413 := ka (Kd.R_lower (Kd.R_new' ho1 (Kd.R_lt (zT HO404.out BK397.out))) (below_size (zL HB.out))); replace HO404 := ka (Kd.R_elder' (zT HO404.out BK397.out) (Kd.R_base ho1) hb); replace BK397 := ka (blk_below (g := gb397) (o := .cells #[.int .i64 t398, .slice Ao39 t399.length co39, .slice Ao40 t402.length co40] 28 (0, 0)) (zP3 BK397.out) hb); replace HB := ka (below_step (zL HB.out) hb); (try clear hb); (try clear hb2); (try clear hk); (try clear hi); (try clear ho0); (try clear ho1); obtain ⟨z42_0, z42_1, z42_2, y42_0, y42_1, y42_2⟩ := zC3 BK397.out; obtain ⟨Ao43, co43, eo43⟩ := Kd.R_slice HO410.out; subst eo43; obtain ⟨Ao44, co44, eo44⟩ := Kd.R_slice HO413.out; subst eo44) | ((with_reducible refine gate_callee (f := 15) rfl ?_); refine goesL_ (some 27) rfl rfl Tryd.func15 (by kernel_rfl) rfl #[.agg #[.int .i64 t407, .slice Ao43 t408.length co43, .slice Ao44 t411.length co44], .agg #[.int .i64 3, .string ⟨#[97]⟩, .bool false, .int .i64 9], .int .i64 0] rfl zA ?_; (with_reducible refine (lease_Take.calls k t407 _ _ t408 _ _ t411 3 (⟨#[97]⟩ : ByteArray) false 9 0 t416 t417 t420 t423 t424 _ ?side1 ?side2 ?side3 ?side4 A3.out).mono ?_); (case side1 => refine (Kd.R_reads' (e := 42) (base := w.heap.size) (ok := fun k_ => (True ∧ some k_ ≠ (.slice Ao39 t399.length co39 : Value).ownBlock)) (n := t408.length) (c := co43) ?_).2.2; exact (zT HO410.out BK397.out)); (case side2 => exact (Kd.R_reads' HO410.out).2.1); (case side3 => refine (Kd.R_reads' (e := 49) (base := w.heap.size) (ok := fun k_ => (True ∧ some k_ ≠ (.slice Ao40 t402.length co40 : Value).ownBlock)) (n := t411.length) (c := co44) ?_).2.2; exact (zT HO413.out BK397.out)); (case side4 => exact (Kd.R_reads' HO413.out).2.1); rintro e w45 ⟨v418, v421, rfl, ho0, ho1, hb⟩; refine ⟨_, rfl, ?_⟩; have HO419 := ka (Kd.R_lower (Kd.R_new' (Kd.R_new' ho0 (Kd.R_lt (zT HO401.out BK397.out))) (Kd.R_lt (zT HO410.out BK397.out))) (below_size (zL HB.out))); replace HO401 := ka (Kd.R_elder' (zT HO401.out BK397.out) (Kd.R_base ho0) hb); replace HO410 := ka (Kd.R_elder' (zT HO410.out BK397.out) (Kd.R_base ho0) hb); have HO422 := ka (Kd.R_lower (Kd.R_new' (Kd.R_new' ho1 (Kd.R_lt (zT HO404.out BK397.out))) (Kd.R_lt (zT HO413.out BK397.out))) (below_size (zL HB.out))); replace HO404 := ka (Kd.R_elder' (zT HO404.out BK397.out) (Kd.R_base ho1) hb); replace HO413 := ka (Kd.R_elder' (zT HO413.out BK397.out) (Kd.R_base ho1) hb); replace BK397 := ka (blk_below (g := gb397) (o := .cells #[.int .i64 t407, .slice Ao43 t408.length co43, .slice Ao44 t411.length co44] 28 (0, 0)) (zP3 BK397.out) hb); replace HB := ka (below_step (zL HB.out) hb); (try clear hb); (try clear hb2); (try clear hk); (try clear hi); (try clear ho0); (try clear ho1); obtain ⟨z46_0, z46_1, z46_2, y46_0, y46_1, y46_2⟩ := zC3 BK397.out; obtain ⟨Ao47, co47, eo47⟩ := Kd.R_slice HO419.out; subst eo47; obtain ⟨Ao48, co48, eo48⟩ := Kd.R_slice HO422.out; subst eo48) | ((with_reducible refine gate_callee (f := 16) rfl ?_); refine goesL_ (some 33) rfl rfl Tryd.func16 (by kernel_rfl) rfl #[.agg #[.int .i64 t416, .slice Ao47 t417.length co47, .slice Ao48 t420.length co48], .int .i64 1, .string ⟨#[97]⟩, .int .i64 1, .int .i64 0] rfl zA ?_; (with_reducible refine (lease_Give.calls k t416 _ _ t417 _ _ t420 1 (⟨#[97]⟩ : ByteArray) 1 0 t425 t426 t429 t432 _ ?side1 ?side2 ?side3 ?side4 A4.out).mono ?_); (case side1 => refine (Kd.R_reads' (e := 42) (base := w.heap.size) (ok := fun k_ => ((True ∧ some k_ ≠ (.slice Ao39 t399.length co39 : Value).ownBlock) ∧ some k_ ≠ (.slice Ao43 t408.length co43 : Value).ownBlock)) (n := t417.length) (c := co47) ?_).2.2; exact (zT HO419.out BK397.out)); (case side2 => exact (Kd.R_reads' HO419.out).2.1); (case side3 => refine (Kd.R_reads' (e := 49) (base := w.heap.size) (ok := fun k_ => ((True ∧ some k_ ≠ (.slice Ao40 t402.length co40 : Value).ownBlock) ∧ some k_ ≠ (.slice Ao44 t411.length co44 : Value).ownBlock)) (n := t420.length) (c := co48) ?_).2.2; exact (zT HO422.out BK397.out)); (case side4 => exact (Kd.R_reads' HO422.out).2.1); rintro e w49 ⟨v427, v430, rfl, ho0, ho1, hb⟩; refine ⟨_, rfl, ?_⟩; have HO428 := ka (Kd.R_lower (Kd.R_new' (Kd.R_new' (Kd.R_new' ho0 (Kd.R_lt (zT HO401.out BK397.out))) (Kd.R_lt (zT HO410.out BK397.out))) (Kd.R_lt (zT HO419.out BK397.out))) (below_size (zL HB.out))); replace HO401 := ka (Kd.R_elder' (zT HO401.out BK397.out) (Kd.R_base ho0) hb); replace HO410 := ka (Kd.R_elder' (zT HO410.out BK397.out) (Kd.R_base ho0) hb); replace HO419 := ka (Kd.R_elder' (zT HO419.out BK397.out) (Kd.R_base ho0) hb); have HO431 := ka (Kd.R_lower (Kd.R_new' (Kd.R_new' (Kd.R_new' ho1 (Kd.R_lt (zT HO404.out BK397.out))) (Kd.R_lt (zT HO413.out BK397.out))) (Kd.R_lt (zT HO422.out BK397.out))) (below_size (zL HB.out))); replace HO404 := ka (Kd.R_elder' (zT HO404.out BK397.out) (Kd.R_base ho1) hb); replace HO413 := ka (Kd.R_elder' (zT HO413.out BK397.out) (Kd.R_base ho1) hb); replace HO422 := ka (Kd.R_elder' (zT HO422.out BK397.out) (Kd.R_base ho1) hb); replace BK397 := ka (blk_below (g := gb397) (o := .cells #[.int .i64 t416, .slice Ao47 t417.length co47, .slice Ao48 t420.length co48] 28 (0, 0)) (zP3 BK397.out) hb); replace HB := ka (below_step (zL HB.out) hb); (try clear hb); (try clear hb2); (try clear hk); (try clear hi); (try clear ho0); (try clear ho1); obtain ⟨z50_0, z50_1, z50_2, y50_0, y50_1, y50_2⟩ := zC3 BK397.out; obtain ⟨Ao51, co51, eo51⟩ := Kd.R_slice HO428.out; subst eo51; obtain ⟨Ao52, co52, eo52⟩ := Kd.R_slice HO431.out; subst eo52) | (go_at_call 13; (with_reducible refine (lease_Valid.calls k t425 _ _ t426 _ _ t429 2 (⟨#[97]⟩ : ByteArray) 2 true _ ?side1 ?side2 ?side3 ?side4 A9.out).mono ?_); (case side1 => refine (Kd.R_reads' (e := 42) (base := w.heap.size) (ok := fun k_ => (((True ∧ some k_ ≠ (.slice Ao39 t399.length co39 : Value).ownBlock) ∧ some k_ ≠ (.slice Ao43 t408.length co43 : Value).ownBlock) ∧ some k_ ≠ (.slice Ao47 t417.length co47 : Value).ownBlock)) (n := t426.length) (c := co51) ?_).2.2; exact (zT HO428.out BK397.out)); (case side2 => exact (Kd.R_reads' HO428.out).2.1); (case side3 => refine (Kd.R_reads' (e := 49) (base := w.heap.size) (ok := fun k_ => (((True ∧ some k_ ≠ (.slice Ao40 t402.length co40 : Value).ownBlock) ∧ some k_ ≠ (.slice Ao44 t411.length co44 : Value).ownBlock) ∧ some k_ ≠ (.slice Ao48 t420.length co48 : Value).ownBlock)) (n := t429.length) (c := co52) ?_).2.2; exact (zT HO431.out BK397.out)); (case side4 => exact (Kd.R_reads' HO431.out).2.1); rintro e w53 ⟨rfl, hb⟩; replace HO401 := ka (Kd.R_below (zT HO401.out BK397.out) hb); replace HO404 := ka (Kd.R_below (zT HO404.out BK397.out) hb); replace HO410 := ka (Kd.R_below (zT HO410.out BK397.out) hb); replace HO413 := ka (Kd.R_below (zT HO413.out BK397.out) hb); replace HO419 := ka (Kd.R_below (zT HO419.out BK397.out) hb); replace HO422 := ka (Kd.R_below (zT HO422.out BK397.out) hb); replace HO428 := ka (Kd.R_below (zT HO428.out BK397.out) hb); replace HO431 := ka (Kd.R_below (zT HO431.out BK397.out) hb); replace BK397 := ka (blk_below (g := gb397) (o := .cells #[.int .i64 t425, .slice Ao51 t426.length co51, .slice Ao52 t429.length co52] 28 (0, 0)) (zP3 BK397.out) hb); replace HB := ka (below_step (zL HB.out) hb); (try clear hb); (try clear hb2); (try clear hk); (try clear hi); obtain ⟨z54_0, z54_1, z54_2, y54_0, y54_1, y54_2⟩ := zC3 BK397.out) | (go_at_call 13; (with_reducible refine (lease_Valid.calls k t425 _ _ t426 _ _ t429 3 (⟨#[97]⟩ : ByteArray) 3 false _ ?side1 ?side2 ?side3 ?side4 A11.out).mono ?_); (case side1 => exact zCS (Kd.R_reads' HO428.out).2.2); (case side2 => exact (Kd.R_reads' HO428.out).2.1); (case side3 => exact zCS (Kd.R_reads' HO431.out).2.2); (case side4 => exact (Kd.R_reads' HO431.out).2.1); rintro e w55 ⟨rfl, hb⟩; replace HO401 := ka (Kd.R_below (zR HO401.out) hb); replace HO404 := ka (Kd.R_below (zR HO404.out) hb); replace HO410 := ka (Kd.R_below (zR HO410.out) hb); replace HO413 := ka (Kd.R_below (zR HO413.out) hb); replace HO419 := ka (Kd.R_below (zR HO419.out) hb); replace HO422 := ka (Kd.R_below (zR HO422.out) hb); replace HO428 := ka (Kd.R_below (zR HO428.out) hb); replace HO431 := ka (Kd.R_below (zR HO431.out) hb); replace BK397 := ka (zB BK397.out hb); replace HB := ka (below_step (zL HB.out) hb); (try clear hb); (try clear hb2); (try clear hk); (try clear hi)))
       go_ret
       exact ⟨zE, zL HB.out⟩
     ·replace c10 := Bool.eq_false_iff.mpr c10
      subst c10
      rw [if_neg (show ¬ (false = true) by decide)] at H
      obtain rfl := Option.some.inj H
      go_enter Tryd.func4, Tryd.ntmps4
      go_wp2_with (first | ((with_reducible refine gate_dst (N := 1) rfl ?_); (try (refine gate_guard (by rfl) ?_; dsimp only)); refine box_event ?hg (N := 1) ?hd (cs := #[.int .i64 0, .slice none 0 0, .slice none 0 0]) (t := 28) ?hr ?_; (case hd => rfl); (case hg => rfl); (case hr => (go_simp; try rfl)); intro gb397 hg w56 hbox hb; have BK397 := ka (hbox); have GW397 := ka (zG hg (zL HB.out)); replace HB := ka (below_step (zL HB.out) hb); clear hb hbox hg; obtain ⟨z57_0, z57_1, z57_2, y57_0, y57_1, y57_2⟩ := zC3 BK397.out) | ((with_reducible refine gate_callee (f := 15) rfl ?_); refine goesL_ (some 13) rfl rfl Tryd.func15 (by kernel_rfl) rfl #[.agg #[.int .i64 0, .slice none 0 0, .slice none 0 0], .agg #[.int .i64 1, .string ⟨#[97]⟩, .bool true, .int .i64 9], .int .i64 0] rfl zA ?_; (refine (lease_Take.calls k 0 _ _ ([] : List (S42)) _ _ ([] : List (S49)) 1 (⟨#[97]⟩ : ByteArray) true 9 0 t398 t399 t402 t405 t406 _ ?side1 ?side2 ?side3 ?side4 A1.out).mono ?_); (case side1 => exact Kd.C_nil _ _); (case side2 => exact Nat.le_refl _); (case side3 => exact Kd.C_nil _ _); (case side4 => exact Nat.le_refl _); rintro e w58 ⟨v400, v403, rfl, ho0, ho1, hb⟩; refine ⟨_, rfl, ?_⟩; have HO401 := ka (Kd.R_lower ho0 (below_size (zL HB.out))); have HO404 := ka (Kd.R_lower ho1 (below_size (zL HB.out))); replace BK397 := ka (blk_below (g := gb397) (o := .cells #[.int .i64 0, .slice none 0 0, .slice none 0 0] 28 (0, 0)) (zP3 BK397.out) hb); replace HB := ka (below_step (zL HB.out) hb); (try clear hb); (try clear hb2); (try clear hk); (try clear hi); (try clear ho0); (try clear ho1); obtain ⟨z59_0, z59_1, z59_2, y59_0, y59_1, y59_2⟩ := zC3 BK397.out; obtain ⟨Ao60, co60, eo60⟩ := Kd.R_slice HO401.out; subst eo60; obtain ⟨Ao61, co61, eo61⟩ := Kd.R_slice HO404.out; subst eo61) | ((with_reducible refine gate_callee (f := 15) rfl ?_); refine goesL_ (some 20) rfl rfl Tryd.func15 (by kernel_rfl) rfl #[.agg #[.int .i64 t398, .slice Ao60 t399.length co60, .slice Ao61 t402.length co61], .agg #[.int .i64 2, .string ⟨#[97]⟩, .bool false, .int .i64 9], .int .i64 0] rfl zA ?_; (with_reducible refine (lease_Take.calls k t398 _ _ t399 _ _ t402 2 (⟨#[97]⟩ : ByteArray) false 9 0 t407 t408 t411 t414 t415 _ ?side1 ?side2 ?side3 ?side4 A2.out).mono ?_); (case side1 => refine (Kd.R_reads' (e := 42) (base := w.heap.size) (ok := fun k_ => True) (n := t399.length) (c := co60) ?_).2.2; exact (zT HO401.out BK397.out)); (case side2 => exact (Kd.R_reads' HO401.out).2.1); (case side3 => refine (Kd.R_reads' (e := 49) (base := w.heap.size) (ok := fun k_ => True) (n := t402.length) (c := co61) ?_).2.2; exact (zT HO404.out BK397.out)); (case side4 => exact (Kd.R_reads' HO404.out).2.1); rintro e w62 ⟨v409, v412, rfl, ho0, ho1, hb⟩; refine ⟨_, rfl, ?_⟩; have HO410 := ka (Kd.R_lower (Kd.R_new' ho0 (Kd.R_lt (zT HO401.out BK397.out))) (below_size (zL HB.out))); replace HO401 := ka (Kd.R_elder' (zT HO401.out BK397.out) (Kd.R_base ho0) hb); have HO413 := ka (Kd.R_lower (Kd.R_new' ho1 (Kd.R_lt (zT HO404.out BK397.out))) (below_size (zL HB.out))); replace HO404 := ka (Kd.R_elder' (zT HO404.out BK397.out) (Kd.R_base ho1) hb); replace BK397 := ka (blk_below (g := gb397) (o := .cells #[.int .i64 t398, .slice Ao60 t399.length co60, .slice Ao61 t402.length co61] 28 (0, 0)) (zP3 BK397.out) hb); replace HB := ka (below_step (zL HB.out) hb); (try clear hb); (try clear hb2); (try clear hk); (try clear hi); (try clear ho0); (try clear ho1); obtain ⟨z63_0, z63_1, z63_2, y63_0, y63_1, y63_2⟩ := zC3 BK397.out; obtain ⟨Ao64, co64, eo64⟩ := Kd.R_slice HO410.out; subst eo64; obtain ⟨Ao65, co65, eo65⟩ := Kd.R_slice HO413.out; subst eo65) | ((with_reducible refine gate_callee (f := 15) rfl ?_); refine goesL_ (some 27) rfl rfl Tryd.func15 (by kernel_rfl) rfl #[.agg #[.int .i64 t407, .slice Ao64 t408.length co64, .slice Ao65 t411.length co65], .agg #[.int .i64 3, .string ⟨#[97]⟩, .bool false, .int .i64 9], .int .i64 0] rfl zA ?_; (with_reducible refine (lease_Take.calls k t407 _ _ t408 _ _ t411 3 (⟨#[97]⟩ : ByteArray) false 9 0 t416 t417 t420 t423 t424 _ ?side1 ?side2 ?side3 ?side4 A3.out).mono ?_); (case side1 => refine (Kd.R_reads' (e := 42) (base := w.heap.size) (ok := fun k_ => (True ∧ some k_ ≠ (.slice Ao60 t399.length co60 : Value).ownBlock)) (n := t408.length) (c := co64) ?_).2.2; exact (zT HO410.out BK397.out)); (case side2 => exact (Kd.R_reads' HO410.out).2.1); (case side3 => refine (Kd.R_reads' (e := 49) (base := w.heap.size) (ok := fun k_ => (True ∧ some k_ ≠ (.slice Ao61 t402.length co61 : Value).ownBlock)) (n := t411.length) (c := co65) ?_).2.2; exact (zT HO413.out BK397.out)); (case side4 => exact (Kd.R_reads' HO413.out).2.1); rintro e w66 ⟨v418, v421, rfl, ho0, ho1, hb⟩; refine ⟨_, rfl, ?_⟩; have HO419 := ka (Kd.R_lower (Kd.R_new' (Kd.R_new' ho0 (Kd.R_lt (zT HO401.out BK397.out))) (Kd.R_lt (zT HO410.out BK397.out))) (below_size (zL HB.out))); replace HO401 := ka (Kd.R_elder' (zT HO401.out BK397.out) (Kd.R_base ho0) hb); replace HO410 := ka (Kd.R_elder' (zT HO410.out BK397.out) (Kd.R_base ho0) hb); have HO422 := ka (Kd.R_lower (Kd.R_new' (Kd.R_new' ho1 (Kd.R_lt (zT HO404.out BK397.out))) (Kd.R_lt (zT HO413.out BK397.out))) (below_size (zL HB.out))); replace HO404 := ka (Kd.R_elder' (zT HO404.out BK397.out) (Kd.R_base ho1) hb); replace HO413 := ka (Kd.R_elder' (zT HO413.out BK397.out) (Kd.R_base ho1) hb); replace BK397 := ka (blk_below (g := gb397) (o := .cells #[.int .i64 t407, .slice Ao64 t408.length co64, .slice Ao65 t411.length co65] 28 (0, 0)) (zP3 BK397.out) hb); replace HB := ka (below_step (zL HB.out) hb); (try clear hb); (try clear hb2); (try clear hk); (try clear hi); (try clear ho0); (try clear ho1); obtain ⟨z67_0, z67_1, z67_2, y67_0, y67_1, y67_2⟩ := zC3 BK397.out; obtain ⟨Ao68, co68, eo68⟩ := Kd.R_slice HO419.out; subst eo68; obtain ⟨Ao69, co69, eo69⟩ := Kd.R_slice HO422.out; subst eo69) | ((with_reducible refine gate_callee (f := 16) rfl ?_); refine goesL_ (some 33) rfl rfl Tryd.func16 (by kernel_rfl) rfl #[.agg #[.int .i64 t416, .slice Ao68 t417.length co68, .slice Ao69 t420.length co69], .int .i64 1, .string ⟨#[97]⟩, .int .i64 1, .int .i64 0] rfl zA ?_; (with_reducible refine (lease_Give.calls k t416 _ _ t417 _ _ t420 1 (⟨#[97]⟩ : ByteArray) 1 0 t425 t426 t429 t432 _ ?side1 ?side2 ?side3 ?side4 A4.out).mono ?_); (case side1 => refine (Kd.R_reads' (e := 42) (base := w.heap.size) (ok := fun k_ => ((True ∧ some k_ ≠ (.slice Ao60 t399.length co60 : Value).ownBlock) ∧ some k_ ≠ (.slice Ao64 t408.length co64 : Value).ownBlock)) (n := t417.length) (c := co68) ?_).2.2; exact (zT HO419.out BK397.out)); (case side2 => exact (Kd.R_reads' HO419.out).2.1); (case side3 => refine (Kd.R_reads' (e := 49) (base := w.heap.size) (ok := fun k_ => ((True ∧ some k_ ≠ (.slice Ao61 t402.length co61 : Value).ownBlock) ∧ some k_ ≠ (.slice Ao65 t411.length co65 : Value).ownBlock)) (n := t420.length) (c := co69) ?_).2.2; exact (zT HO422.out BK397.out)); (case side4 => exact (Kd.R_reads' HO422.out).2.1); rintro e w70 ⟨v427, v430, rfl, ho0, ho1, hb⟩; refine ⟨_, rfl, ?_⟩; have HO428 := ka (Kd.R_lower (Kd.R_new' (Kd.R_new' (Kd.R_new' ho0 (Kd.R_lt (zT HO401.out BK397.out))) (Kd.R_lt (zT HO410.out BK397.out))) (Kd.R_lt (zT HO419.out BK397.out))) (below_size (zL HB.out))); replace HO401 := ka (Kd.R_elder' (zT HO401.out BK397.out) (Kd.R_base ho0) hb); replace HO410 := ka (Kd.R_elder' (zT HO410.out BK397.out) (Kd.R_base ho0) hb); replace HO419 := ka (Kd.R_elder' (zT HO419.out BK397.out) (Kd.R_base ho0) hb); have HO431 := ka (Kd.R_lower (Kd.R_new' (Kd.R_new' (Kd.R_new' ho1 (Kd.R_lt (zT HO404.out BK397.out))) (Kd.R_lt (zT HO413.out BK397.out))) (Kd.R_lt (zT HO422.out BK397.out))) (below_size (zL HB.out))); replace HO404 := ka (Kd.R_elder' (zT HO404.out BK397.out) (Kd.R_base ho1) hb); replace HO413 := ka (Kd.R_elder' (zT HO413.out BK397.out) (Kd.R_base ho1) hb); replace HO422 := ka (Kd.R_elder' (zT HO422.out BK397.out) (Kd.R_base ho1) hb); replace BK397 := ka (blk_below (g := gb397) (o := .cells #[.int .i64 t416, .slice Ao68 t417.length co68, .slice Ao69 t420.length co69] 28 (0, 0)) (zP3 BK397.out) hb); replace HB := ka (below_step (zL HB.out) hb); (try clear hb); (try clear hb2); (try clear hk); (try clear hi); (try clear ho0); (try clear ho1); obtain ⟨z71_0, z71_1, z71_2, y71_0, y71_1, y71_2⟩ := zC3 BK397.out; obtain ⟨Ao72, co72, eo72⟩ := Kd.R_slice HO428.out; subst eo72; obtain ⟨Ao73, co73, eo73⟩ := Kd.R_slice HO431.out; subst eo73) | (go_at_call 13; (with_reducible refine (lease_Valid.calls k t425 _ _ t426 _ _ t429 2 (⟨#[97]⟩ : ByteArray) 2 false _ ?side1 ?side2 ?side3 ?side4 A9.out).mono ?_); (case side1 => refine (Kd.R_reads' (e := 42) (base := w.heap.size) (ok := fun k_ => (((True ∧ some k_ ≠ (.slice Ao60 t399.length co60 : Value).ownBlock) ∧ some k_ ≠ (.slice Ao64 t408.length co64 : Value).ownBlock) ∧ some k_ ≠ (.slice Ao68 t417.length co68 : Value).ownBlock)) (n := t426.length) (c := co72) ?_).2.2; exact (zT HO428.out BK397.out)); (case side2 => exact (Kd.R_reads' HO428.out).2.1); (case side3 => refine (Kd.R_reads' (e := 49) (base := w.heap.size) (ok := fun k_ => (((True ∧ some k_ ≠ (.slice Ao61 t402.length co61 : Value).ownBlock) ∧ some k_ ≠ (.slice Ao65 t411.length co65 : Value).ownBlock) ∧ some k_ ≠ (.slice Ao69 t420.length co69 : Value).ownBlock)) (n := t429.length) (c := co73) ?_).2.2; exact (zT HO431.out BK397.out)); (case side4 => exact (Kd.R_reads' HO431.out).2.1); rintro e w74 ⟨rfl, hb⟩; replace HO401 := ka (Kd.R_below (zT HO401.out BK397.out) hb); replace HO404 := ka (Kd.R_below (zT HO404.out BK397.out) hb); replace HO410 := ka (Kd.R_below (zT HO410.out BK397.out) hb); replace HO413 := ka (Kd.R_below (zT HO413.out BK397.out) hb); replace HO419 := ka (Kd.R_below (zT HO419.out BK397.out) hb); replace HO422 := ka (Kd.R_below (zT HO422.out BK397.out) hb); replace HO428 := ka (Kd.R_below (zT HO428.out BK397.out) hb); replace HO431 := ka (Kd.R_below (zT HO431.out BK397.out) hb); replace BK397 := ka (blk_below (g := gb397) (o := .cells #[.int .i64 t425, .slice Ao72 t426.length co72, .slice Ao73 t429.length co73] 28 (0, 0)) (zP3 BK397.out) hb); replace HB := ka (below_step (zL HB.out) hb); (try clear hb); (try clear hb2); (try clear hk); (try clear hi)))
      go_ret
      exact ⟨zE, zL HB.out⟩
    case' neg =>
     rw [if_neg c8] at H
     have c8b0 := zn0 c8
     have c8b1 := zn1 c8
 all_goals
  obtain rfl := Option.some.inj H
  go_enter Tryd.func4, Tryd.ntmps4
  go_wp2_with (first | ((with_reducible refine gate_dst (N := 1) rfl ?_); (try (refine gate_guard (by rfl) ?_; dsimp only)); refine box_event ?hg (N := 1) ?hd (cs := #[.int .i64 0, .slice none 0 0, .slice none 0 0]) (t := 28) ?hr ?_; (case hd => rfl); (case hg => rfl); (case hr => (go_simp; try rfl)); intro gb397 hg w75 hbox hb; have BK397 := ka (hbox); have GW397 := ka (zG hg (zL HB.out)); replace HB := ka (below_step (zL HB.out) hb); clear hb hbox hg; obtain ⟨z76_0, z76_1, z76_2, y76_0, y76_1, y76_2⟩ := zC3 BK397.out) | ((with_reducible refine gate_callee (f := 15) rfl ?_); refine goesL_ (some 13) rfl rfl Tryd.func15 (by kernel_rfl) rfl #[.agg #[.int .i64 0, .slice none 0 0, .slice none 0 0], .agg #[.int .i64 1, .string ⟨#[97]⟩, .bool true, .int .i64 9], .int .i64 0] rfl zA ?_; (refine (lease_Take.calls k 0 _ _ ([] : List (S42)) _ _ ([] : List (S49)) 1 (⟨#[97]⟩ : ByteArray) true 9 0 t398 t399 t402 t405 t406 _ ?side1 ?side2 ?side3 ?side4 A1.out).mono ?_); (case side1 => exact Kd.C_nil _ _); (case side2 => exact Nat.le_refl _); (case side3 => exact Kd.C_nil _ _); (case side4 => exact Nat.le_refl _); rintro e w77 ⟨v400, v403, rfl, ho0, ho1, hb⟩; refine ⟨_, rfl, ?_⟩; have HO401 := ka (Kd.R_lower ho0 (below_size (zL HB.out))); have HO404 := ka (Kd.R_lower ho1 (below_size (zL HB.out))); replace BK397 := ka (blk_below (g := gb397) (o := .cells #[.int .i64 0, .slice none 0 0, .slice none 0 0] 28 (0, 0)) (zP3 BK397.out) hb); replace HB := ka (below_step (zL HB.out) hb); (try clear hb); (try clear hb2); (try clear hk); (try clear hi); (try clear ho0); (try clear ho1); obtain ⟨z78_0, z78_1, z78_2, y78_0, y78_1, y78_2⟩ := zC3 BK397.out; obtain ⟨Ao79, co79, eo79⟩ := Kd.R_slice HO401.out; subst eo79; obtain ⟨Ao80, co80, eo80⟩ := Kd.R_slice HO404.out; subst eo80) | ((with_reducible refine gate_callee (f := 15) rfl ?_); refine goesL_ (some 20) rfl rfl Tryd.func15 (by kernel_rfl) rfl #[.agg #[.int .i64 t398, .slice Ao79 t399.length co79, .slice Ao80 t402.length co80], .agg #[.int .i64 2, .string ⟨#[97]⟩, .bool false, .int .i64 9], .int .i64 0] rfl zA ?_; (with_reducible refine (lease_Take.calls k t398 _ _ t399 _ _ t402 2 (⟨#[97]⟩ : ByteArray) false 9 0 t407 t408 t411 t414 t415 _ ?side1 ?side2 ?side3 ?side4 A2.out).mono ?_); (case side1 => refine (Kd.R_reads' (e := 42) (base := w.heap.size) (ok := fun k_ => True) (n := t399.length) (c := co79) ?_).2.2; exact (zT HO401.out BK397.out)); (case side2 => exact (Kd.R_reads' HO401.out).2.1); (case side3 => refine (Kd.R_reads' (e := 49) (base := w.heap.size) (ok := fun k_ => True) (n := t402.length) (c := co80) ?_).2.2; exact (zT HO404.out BK397.out)); (case side4 => exact (Kd.R_reads' HO404.out).2.1); rintro e w81 ⟨v409, v412, rfl, ho0, ho1, hb⟩; refine ⟨_, rfl, ?_⟩; have HO410 := ka (Kd.R_lower (Kd.R_new' ho0 (Kd.R_lt (zT HO401.out BK397.out))) (below_size (zL HB.out))); replace HO401 := ka (Kd.R_elder' (zT HO401.out BK397.out) (Kd.R_base ho0) hb); have HO413 := ka (Kd.R_lower (Kd.R_new' ho1 (Kd.R_lt (zT HO404.out BK397.out))) (below_size (zL HB.out))); replace HO404 := ka (Kd.R_elder' (zT HO404.out BK397.out) (Kd.R_base ho1) hb); replace BK397 := ka (blk_below (g := gb397) (o := .cells #[.int .i64 t398, .slice Ao79 t399.length co79, .slice Ao80 t402.length co80] 28 (0, 0)) (zP3 BK397.out) hb); replace HB := ka (below_step (zL HB.out) hb); (try clear hb); (try clear hb2); (try clear hk); (try clear hi); (try clear ho0); (try clear ho1); obtain ⟨z82_0, z82_1, z82_2, y82_0, y82_1, y82_2⟩ := zC3 BK397.out; obtain ⟨Ao83, co83, eo83⟩ := Kd.R_slice HO410.out; subst eo83; obtain ⟨Ao84, co84, eo84⟩ := Kd.R_slice HO413.out; subst eo84) | ((with_reducible refine gate_callee (f := 15) rfl ?_); refine goesL_ (some 27) rfl rfl Tryd.func15 (by kernel_rfl) rfl #[.agg #[.int .i64 t407, .slice Ao83 t408.length co83, .slice Ao84 t411.length co84], .agg #[.int .i64 3, .string ⟨#[97]⟩, .bool false, .int .i64 9], .int .i64 0] rfl zA ?_; (with_reducible refine (lease_Take.calls k t407 _ _ t408 _ _ t411 3 (⟨#[97]⟩ : ByteArray) false 9 0 t416 t417 t420 t423 t424 _ ?side1 ?side2 ?side3 ?side4 A3.out).mono ?_); (case side1 => refine (Kd.R_reads' (e := 42) (base := w.heap.size) (ok := fun k_ => (True ∧ some k_ ≠ (.slice Ao79 t399.length co79 : Value).ownBlock)) (n := t408.length) (c := co83) ?_).2.2; exact (zT HO410.out BK397.out)); (case side2 => exact (Kd.R_reads' HO410.out).2.1); (case side3 => refine (Kd.R_reads' (e := 49) (base := w.heap.size) (ok := fun k_ => (True ∧ some k_ ≠ (.slice Ao80 t402.length co80 : Value).ownBlock)) (n := t411.length) (c := co84) ?_).2.2; exact (zT HO413.out BK397.out)); (case side4 => exact (Kd.R_reads' HO413.out).2.1); rintro e w85 ⟨v418, v421, rfl, ho0, ho1, hb⟩; refine ⟨_, rfl, ?_⟩; have HO419 := ka (Kd.R_lower (Kd.R_new' (Kd.R_new' ho0 (Kd.R_lt (zT HO401.out BK397.out))) (Kd.R_lt (zT HO410.out BK397.out))) (below_size (zL HB.out))); replace HO401 := ka (Kd.R_elder' (zT HO401.out BK397.out) (Kd.R_base ho0) hb); replace HO410 := ka (Kd.R_elder' (zT HO410.out BK397.out) (Kd.R_base ho0) hb); have HO422 := ka (Kd.R_lower (Kd.R_new' (Kd.R_new' ho1 (Kd.R_lt (zT HO404.out BK397.out))) (Kd.R_lt (zT HO413.out BK397.out))) (below_size (zL HB.out))); replace HO404 := ka (Kd.R_elder' (zT HO404.out BK397.out) (Kd.R_base ho1) hb); replace HO413 := ka (Kd.R_elder' (zT HO413.out BK397.out) (Kd.R_base ho1) hb); replace BK397 := ka (blk_below (g := gb397) (o := .cells #[.int .i64 t407, .slice Ao83 t408.length co83, .slice Ao84 t411.length co84] 28 (0, 0)) (zP3 BK397.out) hb); replace HB := ka (below_step (zL HB.out) hb); (try clear hb); (try clear hb2); (try clear hk); (try clear hi); (try clear ho0); (try clear ho1); obtain ⟨z86_0, z86_1, z86_2, y86_0, y86_1, y86_2⟩ := zC3 BK397.out; obtain ⟨Ao87, co87, eo87⟩ := Kd.R_slice HO419.out; subst eo87; obtain ⟨Ao88, co88, eo88⟩ := Kd.R_slice HO422.out; subst eo88) | ((with_reducible refine gate_callee (f := 16) rfl ?_); refine goesL_ (some 33) rfl rfl Tryd.func16 (by kernel_rfl) rfl #[.agg #[.int .i64 t416, .slice Ao87 t417.length co87, .slice Ao88 t420.length co88], .int .i64 1, .string ⟨#[97]⟩, .int .i64 1, .int .i64 0] rfl zA ?_; (with_reducible refine (lease_Give.calls k t416 _ _ t417 _ _ t420 1 (⟨#[97]⟩ : ByteArray) 1 0 t425 t426 t429 t432 _ ?side1 ?side2 ?side3 ?side4 A4.out).mono ?_); (case side1 => refine (Kd.R_reads' (e := 42) (base := w.heap.size) (ok := fun k_ => ((True ∧ some k_ ≠ (.slice Ao79 t399.length co79 : Value).ownBlock) ∧ some k_ ≠ (.slice Ao83 t408.length co83 : Value).ownBlock)) (n := t417.length) (c := co87) ?_).2.2; exact (zT HO419.out BK397.out)); (case side2 => exact (Kd.R_reads' HO419.out).2.1); (case side3 => refine (Kd.R_reads' (e := 49) (base := w.heap.size) (ok := fun k_ => ((True ∧ some k_ ≠ (.slice Ao80 t402.length co80 : Value).ownBlock) ∧ some k_ ≠ (.slice Ao84 t411.length co84 : Value).ownBlock)) (n := t420.length) (c := co88) ?_).2.2; exact (zT HO422.out BK397.out)); (case side4 => exact (Kd.R_reads' HO422.out).2.1); rintro e w89 ⟨v427, v430, rfl, ho0, ho1, hb⟩; refine ⟨_, rfl, ?_⟩; have HO428 := ka (Kd.R_lower (Kd.R_new' (Kd.R_new' (Kd.R_new' ho0 (Kd.R_lt (zT HO401.out BK397.out))) (Kd.R_lt (zT HO410.out BK397.out))) (Kd.R_lt (zT HO419.out BK397.out))) (below_size (zL HB.out))); replace HO401 := ka (Kd.R_elder' (zT HO401.out BK397.out) (Kd.R_base ho0) hb); replace HO410 := ka (Kd.R_elder' (zT HO410.out BK397.out) (Kd.R_base ho0) hb); replace HO419 := ka (Kd.R_elder' (zT HO419.out BK397.out) (Kd.R_base ho0) hb); have HO431 := ka (Kd.R_lower (Kd.R_new' (Kd.R_new' (Kd.R_new' ho1 (Kd.R_lt (zT HO404.out BK397.out))) (Kd.R_lt (zT HO413.out BK397.out))) (Kd.R_lt (zT HO422.out BK397.out))) (below_size (zL HB.out))); replace HO404 := ka (Kd.R_elder' (zT HO404.out BK397.out) (Kd.R_base ho1) hb); replace HO413 := ka (Kd.R_elder' (zT HO413.out BK397.out) (Kd.R_base ho1) hb); replace HO422 := ka (Kd.R_elder' (zT HO422.out BK397.out) (Kd.R_base ho1) hb); replace BK397 := ka (blk_below (g := gb397) (o := .cells #[.int .i64 t416, .slice Ao87 t417.length co87, .slice Ao88 t420.length co88] 28 (0, 0)) (zP3 BK397.out) hb); replace HB := ka (below_step (zL HB.out) hb); (try clear hb); (try clear hb2); (try clear hk); (try clear hi); (try clear ho0); (try clear ho1); obtain ⟨z90_0, z90_1, z90_2, y90_0, y90_1, y90_2⟩ := zC3 BK397.out; obtain ⟨Ao91, co91, eo91⟩ := Kd.R_slice HO428.out; subst eo91; obtain ⟨Ao92, co92, eo92⟩ := Kd.R_slice HO431.out; subst eo92))
  go_ret
  exact ⟨zE, zL HB.out⟩

/-! ### cooperagelaw16_right: function 5 -/
def cooperagelaw16_right.l0 : Nat → List (S34) → Int → Option (Bool)
 | 0, _, _ => none
 | k + 1, x0, x3 => if x3 < (x0.length : Int) then (if 0 ≤ x3 then (if (((rd_T34 x0 x3).f5).size : Int) > 150 then (some false) else (cooperagelaw16_right.l0 k x0 (wrap64 (x3 + 1)))) else (none)) else (some true)
def cooperagelaw16_right.f (k : Nat) (l0 : List (S34)) : Option (Bool) := if (l0.length : Int) > 60 then (some false) else (cooperagelaw16_right.l0 k l0 0)
theorem cooperagelaw16_right.mono_l : ∀ k, (∀ y0 y1, LeO (cooperagelaw16_right.l0 k y0 y1) (cooperagelaw16_right.l0 (k + 1) y0 y1))
 | 0 => fun _ _ r h => by simp [cooperagelaw16_right.l0] at h
 | k + 1 => by
  have ih0 := cooperagelaw16_right.mono_l k
  ·intro y0 y1
   unfold cooperagelaw16_right.l0
   exact zLe
theorem cooperagelaw16_right.mono : ∀ a0 k, LeO (cooperagelaw16_right.f k a0) (cooperagelaw16_right.f (k + 1) a0) := by
 intro a0 k
 have ih0 := cooperagelaw16_right.mono_l k
 unfold cooperagelaw16_right.f
 exact zLe
theorem cooperagelaw16_right.calls (k : Nat) (A0 : Option Addr) (c0 : Nat) (l0 : List (S34)) (r : Bool) (w : World) (hr0 : Kd.C k34 w A0 l0.length l0) (hc0 : l0.length ≤ c0) (h : cooperagelaw16_right.f k l0 = some r) :
  Calls Tryd.prog 5 #[.slice A0 l0.length c0] w fun e w' => e = .returned (.bool r) ∧ Drawn0 w w' := by
 have HR0 := ka hr0
 have HC0 := ka hc0
 clear hr0 hc0
 have H : (if (l0.length : Int) > 60 then (some false) else (cooperagelaw16_right.l0 k l0 0)) = some r := h
 clear h
 by_cases c2 : (l0.length : Int) > 60
 ·rw [if_pos c2] at H
  have c2b0 : decide (60 < (l0.length : Int)) = true := zdt c2
  have c2b1 : decide (60 < l0.length) = true := decide_eq_true (by omega)
  clear c2
  obtain rfl := Option.some.inj H
  go_enter Tryd.func5, Tryd.ntmps5
  go_wp2
  go_ret
  exact ⟨by first | rfl | (simp; done) | (simp [*]; done), zd0⟩
 rw [if_neg c2] at H
 have c2b0 : decide (60 < (l0.length : Int)) = false := zdf c2
 have c2b1 : decide (60 < l0.length) = false := decide_eq_false (by omega)
 clear c2
 have H' := ka H
 clear H
 go_enter Tryd.func5, Tryd.ntmps5
 go_wp2
 go_loopg [3] k (fun kq v3 w' => ∃ (x3_1 : Int), v3 = .int .i64 x3_1 ∧ Aside0 (cooperagelaw16_right.l0 kq l0 x3_1 = some r) ∧ Aside0 (kq ≤ k) ∧ Drawn0 w w')
 case atStart => exact ⟨(0), zS, H', ⟨Nat.le_refl _⟩, zd0⟩
 case round =>
  clear H'
  try clear c2
  try clear c2b0
  try clear c2b1
  obtain ⟨x3_1, rfl, HA, HK1, ⟨m1, rfl⟩⟩ := hrel
  cases gk with
  | zero => exact absurd HA.out (by simp [cooperagelaw16_right.l0])
  | succ k1 =>
   have H := HA.out
   clear HA
   simp only [cooperagelaw16_right.l0] at H
   by_cases c3 : x3_1 < (l0.length : Int)
   ·rw [if_pos c3] at H
    have c3b0 := zdt c3
    clear c3
    replace H := zif H
    obtain ⟨c4, H⟩ := H
    have c4b0 := zdt c4
    clear c4
    by_cases c5 : (((rd_T34 l0 x3_1).f5).size : Int) > 150
    ·rw [if_pos c5] at H
     have c5b0 : decide (150 < (((rd_T34 l0 x3_1).f5).size : Int)) = true := zdt c5
     have c5b1 : decide (150 < ((rd_T34 l0 x3_1).f5).size) = true := decide_eq_true (by omega)
     clear c5
     obtain rfl := Option.some.inj H
     have p435 : 0 ≤ (x3_1 : Int) := zD
     have q435 : x3_1 < (l0.length : Int) := zD
     obtain ⟨ad435, e435, hx435_0, hx435_1, hx435_2, hx435_3, hx435_4, hx435_5, hx435_6⟩ := at_T34 HR0.out x3_1 p435 q435
     cases e435
     replace p435 := eq_true p435
     replace q435 := eq_true q435
     go_wp2
     go_ret
     exact ⟨by first | rfl | (simp; done) | (simp [*]; done), zd0⟩
    rw [if_neg c5] at H
    have c5b0 : decide (150 < (((rd_T34 l0 x3_1).f5).size : Int)) = false := zdf c5
    have c5b1 : decide (150 < ((rd_T34 l0 x3_1).f5).size) = false := decide_eq_false (by omega)
    clear c5
    have H' := ka H
    clear H
    have p435 : 0 ≤ (x3_1 : Int) := zD
    have q435 : x3_1 < (l0.length : Int) := zD
    obtain ⟨ad435, e435, hx435_0, hx435_1, hx435_2, hx435_3, hx435_4, hx435_5, hx435_6⟩ := at_T34 HR0.out x3_1 p435 q435
    cases e435
    replace p435 := eq_true p435
    replace q435 := eq_true q435
    go_wp2
    go_roundg k1
    case measure => have := HK1.out; omega
    case rel => exact ⟨(wrap64 (x3_1 + 1)), zS, H', ⟨by have := HK1.out; omega⟩, zd0⟩
   rw [if_neg c3] at H
   have c3b0 := zdf c3
   clear c3
   obtain rfl := Option.some.inj H
   go_wp2
   go_ret
   exact ⟨by first | rfl | (simp; done) | (simp [*]; done), zd0⟩

/-! ### cooperagelaw16_pick: function 17 -/
def cooperagelaw16_pick.f (a0 : Int) (a1 : Int) : Option (Int) := if a0 < 0 then (if a1 = 0 then (none) else (some (Int.tmod (wrap64 (-(wrap64 (a0 + 1)))) a1))) else (if a1 = 0 then (none) else (some (Int.tmod a0 a1)))
theorem cooperagelaw16_pick.calls (a0 : Int) (a1 : Int) (r : Int) (w : World) (h : cooperagelaw16_pick.f a0 a1 = some r) :
  Calls Tryd.prog 17 #[.int .i64 a0, .int .i64 a1] w fun e w' => e = .returned (.int .i64 r) ∧ Drawn0 w w' := by
 have H : (if a0 < 0 then (if a1 = 0 then (none) else (some (Int.tmod (wrap64 (-(wrap64 (a0 + 1)))) a1))) else (if a1 = 0 then (none) else (some (Int.tmod a0 a1)))) = some r := h
 clear h
 by_cases c3 : a0 < 0
 ·rw [if_pos c3] at H
  have c3b0 := zdt c3
  clear c3
  by_cases c4 : a1 = 0
  ·rw [if_pos c4] at H
   exact absurd H (by simp)
  rw [if_neg c4] at H
  have c4b0 := zn0 c4
  have c4b1 := zn1 c4
  obtain rfl := Option.some.inj H
  go_enter Tryd.func17, Tryd.ntmps17
  go_wp2
  go_ret
  exact ⟨by first | rfl | (simp; done) | (simp [*]; done), zd0⟩
 rw [if_neg c3] at H
 have c3b0 := zdf c3
 clear c3
 by_cases c5 : a1 = 0
 ·rw [if_pos c5] at H
  exact absurd H (by simp)
 rw [if_neg c5] at H
 have c5b0 := zn0 c5
 have c5b1 := zn1 c5
 obtain rfl := Option.some.inj H
 go_enter Tryd.func17, Tryd.ntmps17
 go_wp2
 go_ret
 exact ⟨by first | rfl | (simp; done) | (simp [*]; done), zd0⟩

end Go.Proofs.YtjdadmjomjhpcaaDoor.PLease
