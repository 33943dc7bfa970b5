-- Written by a program of this session (wip/tools/ext.py, over the kit's printer); not trusted: Lean checks it.
import Derived.Test.YtjdadmjomjhpcaaDoorPLeasex1
import Derived.Test.YtjdadmjomjhpcaaDoorPLeasex4
namespace Go.Proofs.YtjdadmjomjhpcaaDoor.PLease
open Go.RowKit Go.Proofs.YtjdadmjomjhpcaaDoorW.PrintWords Go.Proofs.YtjdadmjomjhpcaaDoorW.PrintLast Go.Proofs.YtjdadmjomjhpcaaDoorW.PrintMore
attribute [local go_sem] max2_int min2_int max_two min_two max_three min_three max_four min_four
set_option linter.unusedVariables false
set_option linter.unusedSimpArgs false
set_option maxHeartbeats 8000000
set_option maxRecDepth 100000

/-! ### lease_Renew: function 18 -/
mutual
def lease_Renew.j0 : Nat → Int → ByteArray → Int → Int → Int → Bool → Int → List (S42) → List (S49) → Option (Int × (List (S42)) × (List (S49)) × Int)
 | 0, _, _, _, _, _, _, _, _, _ => none
 | k + 1, x1, x2, x3, x4, x5, x16, x437000, x437001, x437002 => if x16 = true then (some (0, ([] : List (S42)), ([] : List (S49)), 1)) else ((lease_Valid.f k x437000 x437001 x437002 x1 x2 x3).bind fun t440 => (if t440 = true then ((lease_Lease_38.f x437001).bind fun t441 => (lease_Renew.l0 k x1 x2 x4 x5 (t441.length : Int) 0 x437000 t441 x437002)) else (some (0, ([] : List (S42)), ([] : List (S49)), 8))))
def lease_Renew.l0 : Nat → Int → ByteArray → Int → Int → Int → Int → Int → List (S42) → List (S49) → Option (Int × (List (S42)) × (List (S49)) × Int)
 | 0, _, _, _, _, _, _, _, _, _ => none
 | k + 1, x1, x2, x4, x5, x40, x41, x437000, x437001, x437002 => if x41 < x40 then (if 0 ≤ x41 then (if x41 < (x437001.length : Int) then (if ((rd_T42 x437001 x41).f0) = x1 then (if ((rd_T42 x437001 x41).f1).toList = x2.toList then (lease_Renew.l0 k x1 x2 x4 x5 x40 (wrap64 (x41 + 1)) x437000 (x437001.set (x41 : Int).toNat (⟨(rd_T42 x437001 x41).f0, (rd_T42 x437001 x41).f1, (rd_T42 x437001 x41).f2, (rd_T42 x437001 x41).f3, wrap64 (x5 + x4)⟩ : S42)) x437002) else (lease_Renew.l0 k x1 x2 x4 x5 x40 (wrap64 (x41 + 1)) x437000 x437001 x437002)) else (lease_Renew.l0 k x1 x2 x4 x5 x40 (wrap64 (x41 + 1)) x437000 x437001 x437002)) else (none)) else (none)) else (some (x437000, x437001, x437002, 0))
end
def lease_Renew.f (k : Nat) (a0_0 : Int) (l0_1 : List (S42)) (l0_2 : List (S49)) (a1 : Int) (a2 : ByteArray) (a3 : Int) (a4 : Int) (a5 : Int) : Option (Int × (List (S42)) × (List (S49)) × Int) := (lease_lives.f a4).bind fun t438 => (if t438 = true then ((lease_time.f a5).bind fun t439 => (lease_Renew.j0 k a1 a2 a3 a4 a5 (!t439) a0_0 l0_1 l0_2)) else (lease_Renew.j0 k a1 a2 a3 a4 a5 true a0_0 l0_1 l0_2))
theorem lease_Renew.mono_l : ∀ k, (∀ y0 y1 y2 y3 y4 y5 y6 y7 y8, LeO (lease_Renew.j0 k y0 y1 y2 y3 y4 y5 y6 y7 y8) (lease_Renew.j0 (k + 1) y0 y1 y2 y3 y4 y5 y6 y7 y8)) ∧ (∀ y0 y1 y2 y3 y4 y5 y6 y7 y8, LeO (lease_Renew.l0 k y0 y1 y2 y3 y4 y5 y6 y7 y8) (lease_Renew.l0 (k + 1) y0 y1 y2 y3 y4 y5 y6 y7 y8))
 | 0 => ⟨fun _ _ _ _ _ _ _ _ _ r h => by simp [lease_Renew.j0] at h, fun _ _ _ _ _ _ _ _ _ r h => by simp [lease_Renew.l0] at h⟩
 | k + 1 => by
  obtain ⟨ih0, ih1⟩ := lease_Renew.mono_l k
  have m0 := @lease_Valid.mono
  refine ⟨?_, ?_⟩
  ·intros
   unfold lease_Renew.j0
   exact zLe
  ·intros
   unfold lease_Renew.l0
   exact zLe
theorem lease_Renew.mono : ∀ a0 a1 a2 a3 a4 a5 a6 a7 k, LeO (lease_Renew.f k a0 a1 a2 a3 a4 a5 a6 a7) (lease_Renew.f (k + 1) a0 a1 a2 a3 a4 a5 a6 a7) := by
 intro a0 a1 a2 a3 a4 a5 a6 a7 k
 obtain ⟨ih0, ih1⟩ := lease_Renew.mono_l k
 unfold lease_Renew.f
 have m0 := @lease_Valid.mono
 exact zLe
theorem lease_Renew.calls (k : Nat) (a0_0 : Int) (A0_1 : Option Addr) (c0_1 : Nat) (l0_1 : List (S42)) (P0_2_ : Nat → Prop) (A0_2 : Option Addr) (c0_2 : Nat) (l0_2 : List (S49)) (a1 : Int) (a2 : ByteArray) (a3 : Int) (a4 : Int) (a5 : Int) (r1 : Int) (r2 : List (S42)) (r3 : List (S49)) (r4 : Int) (w : World) (hr0_1 : Kd.C k42 w A0_1 l0_1.length l0_1) (hc0_1 : l0_1.length ≤ c0_1) (hs0_2 : Kd.V k49 49 w w.heap.size (fun k_ => P0_2_ k_) (.slice A0_2 l0_2.length c0_2) l0_2) (h : lease_Renew.f k a0_0 l0_1 l0_2 a1 a2 a3 a4 a5 = some (r1, r2, r3, r4)) :
  Calls Tryd.prog 18 #[.agg #[.int .i64 a0_0, .slice A0_1 l0_1.length c0_1, .slice A0_2 l0_2.length c0_2], .int .i64 a1, .string a2, .int .i64 a3, .int .i64 a4, .int .i64 a5] w fun e w' => ∃ v1_ v2_ : Value, e = .returned (.tuple #[.agg #[.int .i64 r1, v1_, v2_], .int .i64 r4]) ∧ Kd.R k42 42 w' w.heap.size (fun k_ => (w.heap.size ≤ k_)) v1_ r2 ∧ Kd.V k49 49 w' w.heap.size (fun k_ => (P0_2_ k_ ∨ w.heap.size ≤ k_) ∧ some k_ ≠ (v1_ : Value).ownBlock) v2_ r3 ∧ Below w.heap.size w w' := by
 have hu28 := Tryd.underlying28
 have hu42 := Tryd.underlying42
 have HR0_1 := ka hr0_1
 have HC0_1 := ka hc0_1
 clear hr0_1 hc0_1
 have HO0_2 := ka (show Kd.V k49 49 w w.heap.size (fun k_ => (P0_2_ k_ ∨ w.heap.size ≤ k_)) (.slice A0_2 l0_2.length c0_2) l0_2 from Kd.V_mono hs0_2 (fun k_ hk => .inl hk))
 have HB := ka (Below.refl w.heap.size w)
 have H : ((lease_lives.f a4).bind fun t438 => (if t438 = true then ((lease_time.f a5).bind fun t439 => (lease_Renew.j0 k a1 a2 a3 a4 a5 (!t439) a0_0 l0_1 l0_2)) else (lease_Renew.j0 k a1 a2 a3 a4 a5 true a0_0 l0_1 l0_2))) = some (r1, r2, r3, r4) := h
 clear h
 have HC7 := ka H
 clear H
 go_enter Tryd.func18, Tryd.ntmps18
 go_upto_region 1 with (first | ((with_reducible refine gate_dst (N := 6) rfl ?_); refine box_event ?hg (N := 6) ?hd (cs := #[.int .i64 a0_0, .slice A0_1 l0_1.length c0_1, .slice A0_2 l0_2.length c0_2]) (t := 28) ?hr ?_; (case hd => rfl); (case hg => rfl); (case hr => (go_simp; try rfl)); intro gb436 hg w8 hbox hb; replace HO0_2 := ka (Kd.V_below (Kd.V_elderB (zV HO0_2.out) gb436 (Nat.le_of_eq hg.symm)) hb); have BK436 := ka (hbox); have GW436 := ka (zG hg (zL HB.out)); replace HB := ka (below_step (zL HB.out) hb); clear hb hbox hg) | ((with_reducible refine gate_dst (N := 12) rfl ?_); refine box_event ?hg (N := 12) ?hd (cs := #[.int .i64 0, .slice none 0 0, .slice none 0 0]) (t := 28) ?hr ?_; (case hd => rfl); (case hg => rfl); (case hr => (go_simp; try rfl)); intro gb437 hg w9 hbox hb; replace HO0_2 := ka (Kd.V_below (Kd.V_elderB (zV HO0_2.out) gb437 (Nat.le_of_eq hg.symm)) hb); have BK437 := ka (hbox); have GW437 := ka (zG hg (zL HB.out)); replace HB := ka (below_step (zL HB.out) hb); have NB436_437 := ka (zNK hg BK436.out); have NB437_436 := ka (zOK hg BK436.out); replace BK436 := ka (zB BK436.out hb); clear hb hbox hg))
 (try simp only [Act.put, List.setIfInBounds_toArray, List.set_cons_zero, List.set_cons_succ])
 go_cut [16] (fun v16 wc => ∃ (kq : Nat) (x16_6 : Bool), v16 = .bool x16_6 ∧ Aside0 (lease_Renew.j0 kq a1 a2 a3 a4 a5 x16_6 a0_0 l0_1 l0_2 = some (r1, r2, r3, r4)) ∧ Aside0 (kq ≤ k) ∧ Aside0 (Kd.V k49 49 wc w.heap.size (fun k_ => (P0_2_ k_ ∨ w.heap.size ≤ k_) ∧ k_ ≠ gb436 ∧ k_ ≠ gb437) (.slice A0_2 l0_2.length c0_2) l0_2) ∧ Aside0 (wc.heap[gb436]? = some (.cells #[.int .i64 a0_0, (.slice A0_1 l0_1.length c0_1), (.slice A0_2 l0_2.length c0_2)] 28 (0, 0))) ∧ Aside0 (wc.heap[gb437]? = some (.cells #[.int .i64 0, (.slice none 0 0), (.slice none 0 0)] 28 (0, 0))) ∧ Aside0 (Below w.heap.size w wc))
 case first =>
  have H := HC7.out
  clear HC7
  replace H := Option.bind_eq_some_iff.mp H
  obtain ⟨t438, A100, H⟩ := H
  try dsimp only at H
  have A10 := ka A100
  clear A100
  by_cases c11 : t438 = true
  ·subst c11
   rw [if_pos rfl] at H
   replace H := Option.bind_eq_some_iff.mp H
   obtain ⟨t439, A120, H⟩ := H
   try dsimp only at H
   have A12 := ka A120
   clear A120
   have H' := ka H
   clear H
   go_wp2_with (first | ((with_reducible refine gate_callee (f := 33) rfl ?_); refine goesL_ (some 18) rfl rfl Tryd.func33 (by kernel_rfl) rfl #[.int .i64 a4] rfl zA ?_; (with_reducible refine (lease_lives.calls a4 true _ A10.out).mono ?_); rintro e w' ⟨rfl, ⟨nd, rfl⟩⟩; refine ⟨_, rfl, ?_⟩) | (go_at_call 34; (with_reducible refine (lease_time.calls a5 t439 _ A12.out).mono ?_); rintro e w' ⟨rfl, ⟨nd, rfl⟩⟩))
   go_meet
   case rel => exact ⟨_, (!t439), zS, H', ⟨by first | omega | exact Nat.le_refl _⟩, ⟨by (with_reducible repeat (first | apply Kd.V_alloc | apply Kd.V_drewN | apply Kd.V_drew)); exact Kd.V_mono HO0_2.out (fun _ hk => ⟨hk.1.1, ⟨hk.1.2, hk.2⟩⟩)⟩, ⟨zK BK436.out⟩, ⟨zK BK437.out⟩, ⟨zL HB.out⟩⟩
  replace c11 := Bool.eq_false_iff.mpr c11
  subst c11
  rw [if_neg (show ¬ (false = true) by decide)] at H
  have H' := ka H
  clear H
  go_wp2_with (first | ((with_reducible refine gate_callee (f := 33) rfl ?_); refine goesL_ (some 18) rfl rfl Tryd.func33 (by kernel_rfl) rfl #[.int .i64 a4] rfl zA ?_; (with_reducible refine (lease_lives.calls a4 false _ A10.out).mono ?_); rintro e w' ⟨rfl, ⟨nd, rfl⟩⟩; refine ⟨_, rfl, ?_⟩))
  go_meet
  case rel => exact ⟨_, (true), zS, H', ⟨by first | omega | exact Nat.le_refl _⟩, ⟨by (with_reducible repeat (first | apply Kd.V_alloc | apply Kd.V_drewN | apply Kd.V_drew)); exact Kd.V_mono HO0_2.out (fun _ hk => ⟨hk.1.1, ⟨hk.1.2, hk.2⟩⟩)⟩, ⟨zK BK436.out⟩, ⟨zK BK437.out⟩, ⟨zL HB.out⟩⟩
 case rest =>
  clear HC7
  obtain ⟨kq, x16_6, rfl, HA, HJ6, HO_437002, BK436, BK437, HB⟩ := hcut
  cases kq with
  | zero => exact absurd HA.out (by simp [lease_Renew.j0])
  | succ kj6 =>
   have H := HA.out
   clear HA
   simp only [lease_Renew.j0] at H
   by_cases c13 : x16_6 = true
   ·subst c13
    rw [if_pos rfl] at H
    replace H := zs4 H
    obtain ⟨rfl, rfl, rfl, rfl⟩ := H
    have hnb14 := NB437_436.out
    have hnc14 := NB436_437.out
    obtain ⟨z15_0, z15_1, z15_2, y15_0, y15_1, y15_2⟩ := zC3 BK437.out
    go_wp2
    refine bodyPost_ret (results_ct rfl _ _ gb437 28 #[.int .i64 0, .slice none 0 0, .slice none 0 0] (0, 0) _ rfl (zP3 BK437.out) Tryd.underlying28 rfl (by kernel_rfl)) rfl ?_
    exact ⟨_, _, zE, zNl, Kd.V_nil _ _ _ _ _, zL HB.out⟩
   replace c13 := Bool.eq_false_iff.mpr c13
   subst c13
   rw [if_neg (show ¬ (false = true) by decide)] at H
   replace H := Option.bind_eq_some_iff.mp H
   obtain ⟨t440, A160, H⟩ := H
   try dsimp only at H
   have A16 := ka A160
   clear A160
   by_cases c17 : t440 = true
   ·subst c17
    rw [if_pos rfl] at H
    replace H := Option.bind_eq_some_iff.mp H
    obtain ⟨t441, A180, H⟩ := H
    try dsimp only at H
    have A18 := ka A180
    clear A180
    have H' := ka H
    clear H
    have hnb19 := NB436_437.out
    have hnc19 := NB437_436.out
    obtain ⟨z20_0, z20_1, z20_2, y20_0, y20_1, y20_2⟩ := zC3 BK436.out
    go_wp2_with (first | ((with_reducible refine gate_callee (f := 13) rfl ?_); refine goesL_ (some 31) rfl rfl Tryd.func13 (by kernel_rfl) rfl #[.agg #[.int .i64 a0_0, .slice A0_1 l0_1.length c0_1, .slice A0_2 l0_2.length c0_2], .int .i64 a1, .string a2, .int .i64 a3] rfl zA ?_; (with_reducible refine (lease_Valid.calls kj6 a0_0 _ _ l0_1 _ _ l0_2 a1 a2 a3 true _ ?side1 ?side2 ?side3 ?side4 A16.out).mono ?_); (case side1 => exact zCS (Kd.C_below HR0_1.out HB.out)); (case side2 => exact HC0_1.out); (case side3 => exact zCS (Kd.V_reads' HO_437002.out).2.2); (case side4 => exact (Kd.V_reads' HO_437002.out).2.1); rintro e w21 ⟨rfl, hb⟩; refine ⟨_, rfl, ?_⟩; replace HO_437002 := ka (Kd.V_below (zV HO_437002.out) hb); replace BK436 := ka (zB BK436.out hb); replace BK437 := ka (zB BK437.out hb); replace HB := ka (below_step (zL HB.out) hb); (try clear hb); (try clear hb2); (try clear hk); (try clear hi); obtain ⟨z22_0, z22_1, z22_2, y22_0, y22_1, y22_2⟩ := zC3 BK436.out) | ((with_reducible refine gate_callee (f := 38) rfl ?_); refine goesL_ (some 36) rfl rfl Tryd.func38 (by kernel_rfl) rfl #[.slice A0_1 l0_1.length c0_1] rfl zA ?_; (with_reducible refine (lease_Lease_38.calls _ _ l0_1 t441 _ ?side1 ?side2 A18.out).mono ?_); (case side1 => exact zCS (Kd.C_below HR0_1.out HB.out)); (case side2 => exact HC0_1.out); rintro e w23 ⟨v442, rfl, ho0, hb⟩; refine ⟨_, rfl, ?_⟩; replace HO_437002 := ka (Kd.V_elder' (zV HO_437002.out) (Kd.R_base ho0) hb); have HO443 := ka (Kd.R_lower (Kd.R_newM (M := fun k_ => (w.heap.size ≤ k_)) ho0 (below_size (zL HB.out)) (fun k_ h_ => h_)) (below_size (zL HB.out))); replace BK436 := ka (zB BK436.out hb); replace BK437 := ka (zB BK437.out hb); replace HB := ka (below_step (zL HB.out) hb); (try clear hb); (try clear hb2); (try clear hk); (try clear hi); (try clear ho0); obtain ⟨Ao24, co24, eo24⟩ := Kd.R_slice HO443.out; subst eo24; obtain ⟨z25_0, z25_1, z25_2, y25_0, y25_1, y25_2⟩ := zC3 BK436.out))
    go_loopg [41] kj6 (fun kq v41 w' => ∃ (x41_2 : Int) (x437001_2 : List (S42)) (u437001 : Value), Aside0 (u437001 = (.slice Ao24 t441.length co24)) ∧ v41 = .int .i64 x41_2 ∧ Aside0 (lease_Renew.l0 kq a1 a2 a4 a5 (t441.length : Int) x41_2 a0_0 x437001_2 l0_2 = some (r1, r2, r3, r4)) ∧ Aside0 (kq ≤ kj6) ∧ Aside0 (Kd.R k42 42 w' w.heap.size (fun k_ => (w.heap.size ≤ k_)) u437001 x437001_2) ∧ Aside0 (Kd.V k49 49 w' w.heap.size (fun k_ => (P0_2_ k_ ∨ w.heap.size ≤ k_) ∧ some k_ ≠ (u437001 : Value).ownBlock ∧ k_ ≠ gb436 ∧ k_ ≠ gb437) (.slice A0_2 l0_2.length c0_2) l0_2) ∧ Aside0 (w'.heap[gb436]? = some (.cells #[.int .i64 a0_0, u437001, (.slice A0_2 l0_2.length c0_2)] 28 (0, 0))) ∧ Aside0 (w'.heap[gb437]? = some (.cells #[.int .i64 0, (.slice none 0 0), (.slice none 0 0)] 28 (0, 0))) ∧ Aside0 (Below w.heap.size w w'))
    case atStart => exact ⟨(0), (t441), (.slice Ao24 t441.length co24), ⟨rfl⟩, zS, H', ⟨Nat.le_refl _⟩, ⟨by (with_reducible repeat (first | apply Kd.R_alloc | apply Kd.R_drewN | apply Kd.R_drew)); exact Kd.R_mono (zNT HO443.out BK436.out) (fun _ hk => hk.1.1)⟩, ⟨by (with_reducible repeat (first | apply Kd.V_alloc | apply Kd.V_drewN | apply Kd.V_drew)); exact Kd.V_mono (zNV HO_437002.out (g := gb436) (fun _ hk => hk.1.2.1)) (fun _ hk => ⟨hk.1.1.1, ⟨hk.1.2, ⟨hk.1.1.2.1, hk.1.1.2.2⟩⟩⟩)⟩, ⟨by (with_reducible repeat (first | refine blk_drewN ?_ _ | refine blk_drew ?_ | refine blk_alloc ?_ _)); refine blk_put (cs := #[.int .i64 a0_0, .slice A0_1 l0_1.length c0_1, .slice A0_2 l0_2.length c0_2]) ?_ 1 _ rfl; (with_reducible repeat (first | refine blk_drewN ?_ _ | refine blk_drew ?_ | refine blk_alloc ?_ _)); exact BK436.out⟩, ⟨zK BK437.out⟩, ⟨zL HB.out⟩⟩
    case round =>
     clear H'
     try clear c13
     try clear c17
     try clear z20_0 z20_1 z20_2
     try clear z22_0 z22_1 z22_2
     try clear z25_0 z25_1 z25_2
     try clear y20_0 y20_1 y20_2
     try clear y22_0 y22_1 y22_2
     try clear y25_0 y25_1 y25_2
     obtain ⟨x41_2, x437001_2, u437001, hu39, rfl, HA, HK2, HO_437001, HO_437002, BK436, BK437, HB⟩ := hrel
     cases gk with
     | zero => exact absurd HA.out (by simp [lease_Renew.l0])
     | succ k2 =>
      have H := HA.out
      clear HA
      simp only [lease_Renew.l0] at H
      by_cases c26 : x41_2 < (t441.length : Int)
      case neg =>
       rw [if_neg c26] at H
       have c26b0 := zdf c26
       clear c26
       replace H := zs4 H
       obtain ⟨rfl, rfl, rfl, rfl⟩ := H
       have hnb53 := NB436_437.out
       have hnc53 := NB437_436.out
       obtain ⟨z54_0, z54_1, z54_2, y54_0, y54_1, y54_2⟩ := zC3 BK436.out
       obtain ⟨z55_0, z55_1, z55_2, y55_0, y55_1, y55_2⟩ := zC3 BK437.out
       obtain ⟨Ao56, co56, eo56⟩ := Kd.R_slice HO_437001.out
       subst eo56
       rw [← hu39.out]
       go_wp2
       refine bodyPost_ret (results_ct rfl _ _ gb437 28 #[.int .i64 a0_0, .slice Ao56 x437001_2.length co56, .slice A0_2 l0_2.length c0_2] (0, 0) _ rfl (zP3 BK437.out) Tryd.underlying28 rfl (by kernel_rfl)) rfl ?_
       exact ⟨_, _, zE, by (with_reducible repeat (first | apply Kd.R_alloc | apply Kd.R_drewN | apply Kd.R_drew)); exact Kd.R_mono (zNT HO_437001.out BK437.out) (fun _ hk => hk.1), by (with_reducible repeat (first | apply Kd.V_alloc | apply Kd.V_drewN | apply Kd.V_drew)); exact Kd.V_mono (zNV HO_437002.out (g := gb437) (fun _ hk => hk.2.2.2)) (fun _ hk => ⟨hk.1.1, hk.1.2.1⟩), zL HB.out⟩
      case' pos =>
       rw [if_pos c26] at H
       have c26b0 := zdt c26
       clear c26
       by_cases c27 : 0 ≤ x41_2
       case neg =>
        rw [if_neg c27] at H
        exact absurd H (by simp)
       case' pos =>
        rw [if_pos c27] at H
        have c27b0 := zdt c27
        clear c27
        by_cases c28 : x41_2 < (x437001_2.length : Int)
        case neg =>
         rw [if_neg c28] at H
         exact absurd H (by simp)
        case' pos =>
         rw [if_pos c28] at H
         have c28b0 := zdt c28
         clear c28
         by_cases c29 : ((rd_T42 x437001_2 x41_2).f0) = a1
         case' neg =>
          rw [if_neg c29] at H
          have c29b0 := zn0 c29
          have c29b1 := zn1 c29
         case' pos =>
          rw [if_pos c29] at H
          have c29b0 := zb0 c29
          have c29b1 := zb1 c29
          clear c29
          by_cases c30 : ((rd_T42 x437001_2 x41_2).f1).toList = a2.toList
          case pos =>
           rw [if_pos c30] at H
           have c30b0 := zb0 c30
           have c30b1 := zb1 c30
           clear c30
           obtain ⟨y446, hy446⟩ : ∃ y_ : List (S42), y_ = (x437001_2.set (x41_2 : Int).toNat (⟨(rd_T42 x437001_2 x41_2).f0, (rd_T42 x437001_2 x41_2).f1, (rd_T42 x437001_2 x41_2).f2, (rd_T42 x437001_2 x41_2).f3, wrap64 (a5 + a4)⟩ : S42)) := ⟨_, rfl⟩
           replace H : (lease_Renew.l0 k2 a1 a2 a4 a5 (t441.length : Int) (wrap64 (x41_2 + 1)) a0_0 y446 l0_2) = some (r1, r2, r3, r4) := zH hy446 H
           have Ny446 := ka hy446
           clear hy446
           have H' := ka H
           clear H
           obtain ⟨Ao32, co32, eo32⟩ := Kd.R_slice HO_437001.out
           subst eo32
           rw [← hu39.out]
           have p444 : 0 ≤ (x41_2 : Int) := zD
           have q444 : x41_2 < (x437001_2.length : Int) := zD
           obtain ⟨ad444, e444, hx444_0, hx444_1, hx444_2, hx444_3, hx444_4⟩ := at_T42 (Kd.R_reads' HO_437001.out).2.2 x41_2 p444 q444
           cases e444
           replace p444 := eq_true p444
           replace q444 := eq_true q444
           go_wp2_with (first | ((with_reducible refine gate_dst (N := 15) rfl ?_); refine box_event ?hg (N := 15) ?hd (cs := #[.int .i64 0, .string ⟨#[]⟩, .bool false, .int .i64 0, .int .i64 0]) (t := 42) ?hr ?_; (case hd => rfl); (case hg => rfl); (case hr => (go_simp; try rfl)); intro gb445 hg w33 hbox hb; replace HO_437001 := ka (Kd.R_below (Kd.R_elderB (zR HO_437001.out) gb445 (Nat.le_of_eq hg.symm)) hb); replace HO_437002 := ka (Kd.V_below (Kd.V_elderB (zV HO_437002.out) gb445 (Nat.le_of_eq hg.symm)) hb); have BK445 := ka (hbox); have GW445 := ka (zG hg (zL HB.out)); replace HB := ka (below_step (zL HB.out) hb); have NB436_445 := ka (zNK hg BK436.out); have NB445_436 := ka (zOK hg BK436.out); replace BK436 := ka (zB BK436.out hb); have NB437_445 := ka (zNK hg BK437.out); have NB445_437 := ka (zOK hg BK437.out); replace BK437 := ka (zB BK437.out hb); clear hb hbox hg; have hnb34 := NB445_436.out; have hnc34 := NB436_445.out; have hnb35 := NB445_437.out; have hnc35 := NB437_445.out; obtain ⟨z36_0, z36_1, z36_2, z36_3, z36_4, y36_0, y36_1, y36_2, y36_3, y36_4⟩ := zC5 BK445.out) | ((with_reducible refine gate_store (t := 42) (p := 15) rfl ?_); refine store_event (t := 42) (p := 15) (v := ?vo_w37) (w1 := (((((w33.setCell ⟨gb445, 0, none⟩ (.int .i64 ((rd_T42 x437001_2 x41_2).f0))).setCell ⟨gb445, 1, none⟩ (.string ((rd_T42 x437001_2 x41_2).f1))).setCell ⟨gb445, 2, none⟩ (.bool ((rd_T42 x437001_2 x41_2).f2))).setCell ⟨gb445, 3, none⟩ (.int .i64 ((rd_T42 x437001_2 x41_2).f3))).setCell ⟨gb445, 4, none⟩ (.int .i64 ((rd_T42 x437001_2 x41_2).f4)))) ?hg ?ho ?hn ?hr ?_; (case ho => rfl); (case hg => rfl); (case hn => rfl); (case hr => (go_simp; try rfl)); intro w37 hw; have n0_ : Aside0 (Kd.R k42 42 w37 w.heap.size (fun k_ => (w.heap.size ≤ k_) ∧ k_ ≠ gb445) (.slice (some ad444) x437001_2.length co32) x437001_2) := ⟨(by rw [hw]; exact (Kd.R_mono (zNM HO_437001.out (g := gb445) (fun _ hk => hk.2)) (fun _ hk => ⟨hk.1.1, hk.1.2⟩)))⟩; have n1_ : Aside0 (Kd.V k49 49 w37 w.heap.size (fun k_ => (P0_2_ k_ ∨ w.heap.size ≤ k_) ∧ some k_ ≠ (.slice (some ad444) x437001_2.length co32 : Value).ownBlock ∧ k_ ≠ gb436 ∧ k_ ≠ gb437 ∧ k_ ≠ gb445) (.slice A0_2 l0_2.length c0_2) l0_2) := ⟨(by rw [hw]; exact (Kd.V_mono (zNV HO_437002.out (g := gb445) (fun _ hk => hk.2)) (fun _ hk => ⟨hk.1.1.1, ⟨hk.1.1.2.1, ⟨hk.1.1.2.2.1, ⟨hk.1.1.2.2.2, hk.1.2⟩⟩⟩⟩)))⟩; have n2_ : Aside0 (w37.heap[gb436]? = some (.cells #[.int .i64 a0_0, .slice (some ad444) x437001_2.length co32, .slice A0_2 l0_2.length c0_2] 28 (0, 0))) := ⟨(by rw [hw]; exact (zK BK436.out))⟩; have n3_ : Aside0 (w37.heap[gb437]? = some (.cells #[.int .i64 0, .slice none 0 0, .slice none 0 0] 28 (0, 0))) := ⟨(by rw [hw]; exact (zK BK437.out))⟩; have n4_ : Aside0 (w37.heap[gb445]? = some (.cells #[.int .i64 ((rd_T42 x437001_2 x41_2).f0), .string ((rd_T42 x437001_2 x41_2).f1), .bool ((rd_T42 x437001_2 x41_2).f2), .int .i64 ((rd_T42 x437001_2 x41_2).f3), .int .i64 ((rd_T42 x437001_2 x41_2).f4)] 42 (0, 0))) := ⟨(by rw [hw]; exact (zP5 BK445.out))⟩; have n5_ : Aside0 (Below w.heap.size w w37) := ⟨(by rw [hw]; exact (zL HB.out))⟩; clear hw; revert n0_ n1_ n2_ n3_ n4_ n5_; clear HO_437001 HO_437002 BK436 BK437 BK445 HB; intro HO_437001 HO_437002 BK436 BK437 BK445 HB; obtain ⟨z38_0, z38_1, z38_2, z38_3, z38_4, y38_0, y38_1, y38_2, y38_3, y38_4⟩ := zC5 BK445.out; have hnb39 := NB436_437.out; have hnc39 := NB437_436.out; obtain ⟨z40_0, z40_1, z40_2, y40_0, y40_1, y40_2⟩ := zC3 BK436.out; have p31 : 0 ≤ (x41_2 : Int) := zD; have q31 : (x41_2 : Int) < ((x437001_2.length : Int) : Int) := zD; obtain ⟨go31, co31, eo31, gb31, gl31, cl31, HG31⟩ := Kd.R_form HO_437001.out (by omega); (first | cases eo31 | (injection eo31 with ea_ en_ ec_; (first | subst ea_ | (injection ea_ with ea_; subst ea_)); subst ec_; clear en_)); have GB31 := ka gb31; have GG31 := ka HG31; clear gb31 gl31 HG31; (first | simp only [add_plain] at hx444_0 | skip); (first | simp only [add_plain] at hx444_1 | skip); (first | simp only [add_plain] at hx444_2 | skip); (first | simp only [add_plain] at hx444_3 | skip); (first | simp only [add_plain] at hx444_4 | skip); obtain ⟨ce31, hcl31, hM31, hcc31, hfr31⟩ := Kd.R_elem HO_437001.out z42 (x41_2 : Int) p31 q31; obtain rfl := k42_openM hM31; have hx31_0 : w37.cell? ⟨go31, (x41_2 : Int).toNat * 5, none⟩ = some (.int .i64 ((rd_T42 x437001_2 x41_2).f0)) := hcc31 0 _ rfl; have hx31_1 : w37.cell? ⟨go31, (x41_2 : Int).toNat * 5 + 1, none⟩ = some (.string ((rd_T42 x437001_2 x41_2).f1)) := hcc31 1 _ rfl; have hx31_2 : w37.cell? ⟨go31, (x41_2 : Int).toNat * 5 + 2, none⟩ = some (.bool ((rd_T42 x437001_2 x41_2).f2)) := hcc31 2 _ rfl; have hx31_3 : w37.cell? ⟨go31, (x41_2 : Int).toNat * 5 + 3, none⟩ = some (.int .i64 ((rd_T42 x437001_2 x41_2).f3)) := hcc31 3 _ rfl; have hx31_4 : w37.cell? ⟨go31, (x41_2 : Int).toNat * 5 + 4, none⟩ = some (.int .i64 ((rd_T42 x437001_2 x41_2).f4)) := hcc31 4 _ rfl; have hf31_0 : w37.frozen? ⟨go31, (x41_2 : Int).toNat * 5, none⟩ = false := hfr31 0; have hf31_1 : w37.frozen? ⟨go31, (x41_2 : Int).toNat * 5 + 1, none⟩ = false := hfr31 1; have hf31_2 : w37.frozen? ⟨go31, (x41_2 : Int).toNat * 5 + 2, none⟩ = false := hfr31 2; have hf31_3 : w37.frozen? ⟨go31, (x41_2 : Int).toNat * 5 + 3, none⟩ = false := hfr31 3; have hf31_4 : w37.frozen? ⟨go31, (x41_2 : Int).toNat * 5 + 4, none⟩ = false := hfr31 4; clear hcl31 hcc31 hfr31 hM31; replace p31 := eq_true p31; replace q31 := eq_true q31; have HX41 := ka (show Kd.R k42 42 w37 w.heap.size (fun k_ => (w.heap.size ≤ k_) ∧ k_ ≠ gb445) (.slice (some ⟨go31, 0, none⟩) x437001_2.length co32) x437001_2 from (zR HO_437001.out)); obtain ⟨ce41, hcl41, hM41, hcc41, hfr41⟩ := Kd.R_elem HX41.out z42 (x41_2 : Int) zD (by have h_ : (x41_2 : Int) < ((x437001_2.length : Int) : Int) := zD; first | exact h_ | (have e_ := (Kd.R_reads' HO_437001.out).1; omega) | simpa using h_); obtain rfl := k42_openM hM41; have HP41 := Kd.R_seg HX41.out (x41_2 : Int) zD (by have h_ : (x41_2 : Int) < ((x437001_2.length : Int) : Int) := zD; first | exact h_ | (have e_ := (Kd.R_reads' HO_437001.out).1; omega) | simpa using h_) (seg := [.int .i64 (wrap64 (a5 + a4))]) (j := 4) hcl41 hcc41 (show 5 ≤ 5 from by decide) (x' := (⟨(rd_T42 x437001_2 x41_2).f0, (rd_T42 x437001_2 x41_2).f1, (rd_T42 x437001_2 x41_2).f2, (rd_T42 x437001_2 x41_2).f3, wrap64 (a5 + a4)⟩ : S42)) (k42_mkM _ _ _ (⟨(rd_T42 x437001_2 x41_2).f0, (rd_T42 x437001_2 x41_2).f1, (rd_T42 x437001_2 x41_2).f2, (rd_T42 x437001_2 x41_2).f3, wrap64 (a5 + a4)⟩ : S42) ) (fun _ hk => hk); have hx41_4 := hcc41 4 _ rfl; (try simp only [show (k42).sz = 5 from rfl, Nat.mul_one, Nat.add_zero] at hx41_4); have hf41_4 := hfr41 4; (try simp only [show (k42).sz = 5 from rfl, Nat.mul_one, Nat.add_zero] at hf41_4); clear hcl41 hcc41 hfr41 hM41) | ((with_reducible refine gate_store (t := 3) (p := 63) rfl ?_); refine store_event (t := 3) (p := 63) (v := ?vo_w42) (w1 := (w37.setCell ⟨go31, (x41_2 : Int).toNat * 5 + 4, none⟩ (.int .i64 (wrap64 (a5 + a4))))) ?hg ?ho ?hn ?hr ?_; (case ho => rfl); (case hg => rfl); (case hn => rfl); (case hr => (go_simp; try rfl)); intro w42 hw; have hg : w37.grownBy w42 (some go31) := (by rw [hw]; exact HP41.2); have hp_ : Kd.R k42 42 w42 w.heap.size (fun k_ => (w.heap.size ≤ k_) ∧ k_ ≠ gb445) (.slice (some ⟨go31, 0, none⟩) x437001_2.length co32) y446 := (by rw [hw, Ny446.out]; exact HP41.1); clear HP41; replace HO_437002 := ka (Kd.V_afterv (v := (.slice (some ⟨go31, 0, none⟩) x437001_2.length co32)) (v1 := (.slice (some ⟨go31, 0, none⟩) x437001_2.length co32)) (ok := (fun k_ => (P0_2_ k_ ∨ w.heap.size ≤ k_) ∧ k_ ≠ gb436 ∧ k_ ≠ gb437 ∧ k_ ≠ gb445)) (by (with_reducible repeat (first | apply Kd.V_alloc | apply Kd.V_drewN | apply Kd.V_drew)); exact Kd.V_mono HO_437002.out (fun _ hk => ⟨⟨hk.1, ⟨hk.2.2.1, ⟨hk.2.2.2.1, hk.2.2.2.2⟩⟩⟩, hk.2.1⟩)) hg (.inl rfl)); replace BK436 := ka (blk_grown (g := gb436) (o := .cells #[.int .i64 a0_0, .slice (some ⟨go31, 0, none⟩) x437001_2.length co32, .slice A0_2 l0_2.length c0_2] 28 (0, 0)) (zK BK436.out) hg (Kd.R_ne HO_437001.out BK436.out (by decide))); replace BK437 := ka (blk_grown (g := gb437) (o := .cells #[.int .i64 0, .slice none 0 0, .slice none 0 0] 28 (0, 0)) (zK BK437.out) hg (Kd.R_ne HO_437001.out BK437.out (by decide))); replace BK445 := ka (blk_grown (g := gb445) (o := .cells #[.int .i64 ((rd_T42 x437001_2 x41_2).f0), .string ((rd_T42 x437001_2 x41_2).f1), .bool ((rd_T42 x437001_2 x41_2).f2), .int .i64 ((rd_T42 x437001_2 x41_2).f3), .int .i64 ((rd_T42 x437001_2 x41_2).f4)] 42 (0, 0)) (zK BK445.out) hg (Kd.R_away HO_437001.out (fun _ hk => hk.2))); replace HO_437001 := ka (hp_); replace HB := ka ((by rw [hw]; exact below_set (HB.out) GB31.out : Below w.heap.size w w42)); clear hg hw hp_))
           rw [hu39.out]
           go_roundg k2
           case measure => have := HJ6.out; have := HK2.out; omega
           case rel => exact ⟨(wrap64 (x41_2 + 1)), (y446), (.slice (some ⟨go31, 0, none⟩) x437001_2.length co32), hu39, zS, H', ⟨by have := HJ6.out; have := HK2.out; omega⟩, ⟨by (with_reducible repeat (first | apply Kd.R_alloc | apply Kd.R_drewN | apply Kd.R_drew)); exact Kd.R_mono HO_437001.out (fun _ hk => hk.1)⟩, ⟨by (with_reducible repeat (first | apply Kd.V_alloc | apply Kd.V_drewN | apply Kd.V_drew)); exact Kd.V_mono HO_437002.out (fun _ hk => ⟨hk.1.1, ⟨hk.2, ⟨hk.1.2.1, hk.1.2.2.1⟩⟩⟩)⟩, ⟨zK BK436.out⟩, ⟨zK BK437.out⟩, ⟨zL HB.out⟩⟩
          case' neg =>
           rw [if_neg c30] at H
           have c30b0 := zn0 c30
           have c30b1 := zn1 c30
      all_goals
       have H' := ka H
       clear H
       obtain ⟨Ao43, co43, eo43⟩ := Kd.R_slice HO_437001.out
       subst eo43
       rw [← hu39.out]
       have p444 : 0 ≤ (x41_2 : Int) := zD
       have q444 : x41_2 < (x437001_2.length : Int) := zD
       obtain ⟨ad444, e444, hx444_0, hx444_1, hx444_2, hx444_3, hx444_4⟩ := at_T42 (Kd.R_reads' HO_437001.out).2.2 x41_2 p444 q444
       cases e444
       replace p444 := eq_true p444
       replace q444 := eq_true q444
       go_wp2_with (first | ((with_reducible refine gate_dst (N := 15) rfl ?_); refine box_event ?hg (N := 15) ?hd (cs := #[.int .i64 0, .string ⟨#[]⟩, .bool false, .int .i64 0, .int .i64 0]) (t := 42) ?hr ?_; (case hd => rfl); (case hg => rfl); (case hr => (go_simp; try rfl)); intro gb445 hg w44 hbox hb; replace HO_437001 := ka (Kd.R_below (Kd.R_elderB (zR HO_437001.out) gb445 (Nat.le_of_eq hg.symm)) hb); replace HO_437002 := ka (Kd.V_below (Kd.V_elderB (zV HO_437002.out) gb445 (Nat.le_of_eq hg.symm)) hb); have BK445 := ka (hbox); have GW445 := ka (zG hg (zL HB.out)); replace HB := ka (below_step (zL HB.out) hb); have NB436_445 := ka (zNK hg BK436.out); have NB445_436 := ka (zOK hg BK436.out); replace BK436 := ka (zB BK436.out hb); have NB437_445 := ka (zNK hg BK437.out); have NB445_437 := ka (zOK hg BK437.out); replace BK437 := ka (zB BK437.out hb); clear hb hbox hg; have hnb45 := NB445_436.out; have hnc45 := NB436_445.out; have hnb46 := NB445_437.out; have hnc46 := NB437_445.out; obtain ⟨z47_0, z47_1, z47_2, z47_3, z47_4, y47_0, y47_1, y47_2, y47_3, y47_4⟩ := zC5 BK445.out))
       rw [hu39.out]
       go_roundg k2
       case measure => have := HJ6.out; have := HK2.out; omega
       case rel => exact ⟨(wrap64 (x41_2 + 1)), (x437001_2), (.slice (some ad444) x437001_2.length co43), hu39, zS, H', ⟨by have := HJ6.out; have := HK2.out; omega⟩, ⟨by (with_reducible repeat (first | apply Kd.R_alloc | apply Kd.R_drewN | apply Kd.R_drew)); exact Kd.R_mono (zNM HO_437001.out (g := gb445) (fun _ hk => hk.2)) (fun _ hk => hk.1.1)⟩, ⟨by (with_reducible repeat (first | apply Kd.V_alloc | apply Kd.V_drewN | apply Kd.V_drew)); exact Kd.V_mono (zNV HO_437002.out (g := gb445) (fun _ hk => hk.2)) (fun _ hk => ⟨hk.1.1.1, ⟨hk.1.1.2.1, ⟨hk.1.1.2.2.1, hk.1.1.2.2.2⟩⟩⟩)⟩, ⟨zK BK436.out⟩, ⟨zK BK437.out⟩, ⟨zL HB.out⟩⟩
   replace c17 := Bool.eq_false_iff.mpr c17
   subst c17
   rw [if_neg (show ¬ (false = true) by decide)] at H
   replace H := zs4 H
   obtain ⟨rfl, rfl, rfl, rfl⟩ := H
   have hnb57 := NB436_437.out
   have hnc57 := NB437_436.out
   obtain ⟨z58_0, z58_1, z58_2, y58_0, y58_1, y58_2⟩ := zC3 BK436.out
   go_wp2_with (first | ((with_reducible refine gate_callee (f := 13) rfl ?_); refine goesL_ (some 31) rfl rfl Tryd.func13 (by kernel_rfl) rfl #[.agg #[.int .i64 a0_0, .slice A0_1 l0_1.length c0_1, .slice A0_2 l0_2.length c0_2], .int .i64 a1, .string a2, .int .i64 a3] rfl zA ?_; (with_reducible refine (lease_Valid.calls kj6 a0_0 _ _ l0_1 _ _ l0_2 a1 a2 a3 false _ ?side1 ?side2 ?side3 ?side4 A16.out).mono ?_); (case side1 => exact zCS (Kd.C_below HR0_1.out HB.out)); (case side2 => exact HC0_1.out); (case side3 => exact zCS (Kd.V_reads' HO_437002.out).2.2); (case side4 => exact (Kd.V_reads' HO_437002.out).2.1); rintro e w59 ⟨rfl, hb⟩; refine ⟨_, rfl, ?_⟩; replace HO_437002 := ka (Kd.V_below (zV HO_437002.out) hb); replace BK436 := ka (zB BK436.out hb); replace BK437 := ka (zB BK437.out hb); replace HB := ka (below_step (zL HB.out) hb); (try clear hb); (try clear hb2); (try clear hk); (try clear hi); obtain ⟨z60_0, z60_1, z60_2, y60_0, y60_1, y60_2⟩ := zC3 BK437.out))
   refine bodyPost_ret (results_ct rfl _ _ gb437 28 #[.int .i64 0, .slice none 0 0, .slice none 0 0] (0, 0) _ rfl (zP3 BK437.out) Tryd.underlying28 rfl (by kernel_rfl)) rfl ?_
   exact ⟨_, _, zE, zNl, Kd.V_nil _ _ _ _ _, zL HB.out⟩

/-! ### lease_Leave_1: function 39 -/
def lease_Leave_1.f (a0_0 : Int) (a0_1 : ByteArray) (a0_2 : Bool) (a0_3 : Int) (a0_4 : Int) (a1_0 : Int) : Option (Bool) := some (a0_0 == a1_0)
theorem lease_Leave_1.calls (a0_0 : Int) (a0_1 : ByteArray) (a0_2 : Bool) (a0_3 : Int) (a0_4 : Int) (g1_0 : Nat) (a1_0 : Int) (r : Bool) (w : World) (hb1_0 : w.heap[g1_0]? = some (.cells #[.int .i64 a1_0] 3 (0, 0))) (h : lease_Leave_1.f a0_0 a0_1 a0_2 a0_3 a0_4 a1_0 = some r) :
  Calls Tryd.prog 39 #[.agg #[.int .i64 a0_0, .string a0_1, .bool a0_2, .int .i64 a0_3, .int .i64 a0_4], .pointer (some ⟨g1_0, 0, none⟩)] w fun e w' => e = .returned (.bool r) ∧ Below w.heap.size w w' := by
 have hu42 := Tryd.underlying42
 have BK457 := ka hb1_0
 clear hb1_0
 have HB := ka (Below.refl w.heap.size w)
 have H : (some (a0_0 == a1_0)) = some r := h
 clear h
 obtain rfl := Option.some.inj H
 go_enter Tryd.func39, Tryd.ntmps39
 go_wp2_with (first | ((with_reducible refine gate_dst (N := 2) rfl ?_); refine box_event ?hg (N := 2) ?hd (cs := #[.int .i64 a0_0, .string a0_1, .bool a0_2, .int .i64 a0_3, .int .i64 a0_4]) (t := 42) ?hr ?_; (case hd => rfl); (case hg => rfl); (case hr => (go_simp; try rfl)); intro gb458 hg w3 hbox hb; have BK458 := ka (hbox); have GW458 := ka (zG hg (zL HB.out)); replace HB := ka (below_step (zL HB.out) hb); have NB457_458 := ka (zNK hg BK457.out); have NB458_457 := ka (zOK hg BK457.out); replace BK457 := ka (zB BK457.out hb); clear hb hbox hg; have hnb4 := NB458_457.out; have hnc4 := NB457_458.out; obtain ⟨z5_0, z5_1, z5_2, z5_3, z5_4, y5_0, y5_1, y5_2, y5_3, y5_4⟩ := zC5 BK458.out; obtain ⟨z6_0, y6_0⟩ := zC1 BK457.out))
 go_ret
 exact ⟨zE, zL HB.out⟩

/-! ### lease_Lease_26_at39: function 26 -/
def lease_Lease_26_at39.l0 : Nat → List (S42) → List (S42) → List (S42) → Int → Int → Int → Option ((List (S42)) × (List (S42)))
 | 0, _, _, _, _, _, _ => none
 | k + 1, x4, x5, x8, x9, x10, x461000 => if x10 < x9 then (if 0 ≤ x10 then (if x10 < (x8.length : Int) then ((lease_Leave_1.f ((rd_T42 x8 x10).f0) ((rd_T42 x8 x10).f1) ((rd_T42 x8 x10).f2) ((rd_T42 x8 x10).f3) ((rd_T42 x8 x10).f4) x461000).bind fun t463 => (if t463 = true then (if x4.length < 2932031007402 then (lease_Lease_26_at39.l0 k (x4 ++ [(⟨(rd_T42 x8 x10).f0, (rd_T42 x8 x10).f1, (rd_T42 x8 x10).f2, (rd_T42 x8 x10).f3, (rd_T42 x8 x10).f4⟩ : S42)]) x5 x8 x9 (wrap64 (x10 + 1)) x461000) else (none)) else (if x5.length < 2932031007402 then (lease_Lease_26_at39.l0 k x4 (x5 ++ [(⟨(rd_T42 x8 x10).f0, (rd_T42 x8 x10).f1, (rd_T42 x8 x10).f2, (rd_T42 x8 x10).f3, (rd_T42 x8 x10).f4⟩ : S42)]) x8 x9 (wrap64 (x10 + 1)) x461000) else (none)))) else (none)) else (none)) else (some (x4, x5))
def lease_Lease_26_at39.f (k : Nat) (l0 : List (S42)) (a1_0 : Int) : Option ((List (S42)) × (List (S42))) := lease_Lease_26_at39.l0 k ([] : List (S42)) ([] : List (S42)) l0 (l0.length : Int) 0 a1_0
theorem lease_Lease_26_at39.mono_l : ∀ k, (∀ y0 y1 y2 y3 y4 y5, LeO (lease_Lease_26_at39.l0 k y0 y1 y2 y3 y4 y5) (lease_Lease_26_at39.l0 (k + 1) y0 y1 y2 y3 y4 y5))
 | 0 => fun _ _ _ _ _ _ r h => by simp [lease_Lease_26_at39.l0] at h
 | k + 1 => by
  have ih0 := lease_Lease_26_at39.mono_l k
  ·intro y0 y1 y2 y3 y4 y5
   unfold lease_Lease_26_at39.l0
   exact zLe
theorem lease_Lease_26_at39.mono : ∀ a0 a1 k, LeO (lease_Lease_26_at39.f k a0 a1) (lease_Lease_26_at39.f (k + 1) a0 a1) := by
 intro a0 a1 k
 have ih0 := lease_Lease_26_at39.mono_l k
 unfold lease_Lease_26_at39.f
 exact zLe
theorem lease_Lease_26_at39.calls (k : Nat) (A0 : Option Addr) (c0 : Nat) (l0 : List (S42)) (g1_0 : Nat) (a1_0 : Int) (r1 : List (S42)) (r2 : List (S42)) (w : World) (hr0 : Kd.C k42 w A0 l0.length l0) (hc0 : l0.length ≤ c0) (hb1_0 : w.heap[g1_0]? = some (.cells #[.int .i64 a1_0] 3 (0, 0))) (h : lease_Lease_26_at39.f k l0 a1_0 = some (r1, r2)) :
  Calls Tryd.prog 26 #[.slice A0 l0.length c0, .func (.func 39) #[] #[.pointer (some ⟨g1_0, 0, none⟩)]] w fun e w' => ∃ v0_ v1_ : Value, e = .returned (.tuple #[v0_, v1_]) ∧ Kd.R k42 42 w' w.heap.size (fun k_ => some k_ ≠ (v1_ : Value).ownBlock) v0_ r1 ∧ Kd.R k42 42 w' w.heap.size (fun k_ => some k_ ≠ (v0_ : Value).ownBlock) v1_ r2 ∧ Below w.heap.size w w' := by
 have hu42 := Tryd.underlying42
 have HR0 := ka hr0
 have HC0 := ka hc0
 clear hr0 hc0
 have BK460 := ka hb1_0
 clear hb1_0
 have HB := ka (Below.refl w.heap.size w)
 have H : (lease_Lease_26_at39.l0 k ([] : List (S42)) ([] : List (S42)) l0 (l0.length : Int) 0 a1_0) = some (r1, r2) := h
 clear h
 have H' := ka H
 clear H
 go_enter Tryd.func26, Tryd.ntmps26
 go_wp2
 go_loopg [4, 5, 10] k (fun kq v4 v5 v10 w' => ∃ (x4_1 : List (S42)) (x5_1 : List (S42)) (x10_1 : Int), v10 = .int .i64 x10_1 ∧ Aside0 (lease_Lease_26_at39.l0 kq x4_1 x5_1 l0 (l0.length : Int) x10_1 a1_0 = some (r1, r2)) ∧ Aside0 (kq ≤ k) ∧ Aside0 (Kd.R k42 42 w' w.heap.size (fun k_ => some k_ ≠ (v5 : Value).ownBlock) v4 x4_1) ∧ Aside0 (Kd.R k42 42 w' w.heap.size (fun k_ => some k_ ≠ (v4 : Value).ownBlock) v5 x5_1) ∧ Aside0 (w'.heap[g1_0]? = some (.cells #[.int .i64 a1_0] 3 (0, 0))) ∧ Aside0 (Below w.heap.size w w'))
 case atStart => exact ⟨(([] : List (S42))), (([] : List (S42))), (0), zS, H', ⟨Nat.le_refl _⟩, ⟨zNl⟩, ⟨zNl⟩, ⟨zK BK460.out⟩, ⟨zL HB.out⟩⟩
 case round =>
  clear H'
  obtain ⟨x4_1, x5_1, x10_1, rfl, HA, HK1, HO_4, HO_5, BK460, HB⟩ := hrel
  cases gk with
  | zero => exact absurd HA.out (by simp [lease_Lease_26_at39.l0])
  | succ k1 =>
   have H := HA.out
   clear HA
   simp only [lease_Lease_26_at39.l0] at H
   by_cases c3 : x10_1 < (l0.length : Int)
   ·rw [if_pos c3] at H
    have c3b0 := zdt c3
    clear c3
    replace H := zif H
    obtain ⟨c4, H⟩ := H
    have c4b0 := zdt c4
    clear c4
    replace H := zif H
    obtain ⟨c5, H⟩ := H
    have c5b0 := zdt c5
    clear c5
    replace H := Option.bind_eq_some_iff.mp H
    obtain ⟨t463, A60, H⟩ := H
    try dsimp only at H
    have A6 := ka A60
    clear A60
    by_cases c7 : t463 = true
    ·subst c7
     rw [if_pos rfl] at H
     replace H := zif H
     obtain ⟨c8, H⟩ := H
     have LMc8 := ka c8
     clear c8
     obtain ⟨y464, hy464⟩ : ∃ y_ : List (S42), y_ = (x4_1 ++ [(⟨(rd_T42 l0 x10_1).f0, (rd_T42 l0 x10_1).f1, (rd_T42 l0 x10_1).f2, (rd_T42 l0 x10_1).f3, (rd_T42 l0 x10_1).f4⟩ : S42)]) := ⟨_, rfl⟩
     replace H : (lease_Lease_26_at39.l0 k1 y464 x5_1 l0 (l0.length : Int) (wrap64 (x10_1 + 1)) a1_0) = some (r1, r2) := zH hy464 H
     have Ny464 := ka hy464
     clear hy464
     have H' := ka H
     clear H
     have p461 : 0 ≤ (x10_1 : Int) := zD
     have q461 : x10_1 < (l0.length : Int) := zD
     obtain ⟨ad461, e461, hx461_0, hx461_1, hx461_2, hx461_3, hx461_4⟩ := at_T42 HR0.out x10_1 p461 q461
     cases e461
     replace hx461_0 := zX HB.out hx461_0
     replace hx461_1 := zX HB.out hx461_1
     replace hx461_2 := zX HB.out hx461_2
     replace hx461_3 := zX HB.out hx461_3
     replace hx461_4 := zX HB.out hx461_4
     replace p461 := eq_true p461
     replace q461 := eq_true q461
     go_wp2_with (first | ((with_reducible refine gate_dst (N := 7) rfl ?_); refine box_event ?hg (N := 7) ?hd (cs := #[.int .i64 0, .string ⟨#[]⟩, .bool false, .int .i64 0, .int .i64 0]) (t := 42) ?hr ?_; (case hd => rfl); (case hg => rfl); (case hr => (go_simp; try rfl)); intro gb462 hg w9 hbox hb; replace HO_4 := ka (Kd.R_below (Kd.R_elderB (zR HO_4.out) gb462 (Nat.le_of_eq hg.symm)) hb); replace HO_5 := ka (Kd.R_below (Kd.R_elderB (zR HO_5.out) gb462 (Nat.le_of_eq hg.symm)) hb); have BK462 := ka (hbox); have GW462 := ka (zG hg (zL HB.out)); replace HB := ka (below_step (zL HB.out) hb); have NB460_462 := ka (zNK hg BK460.out); have NB462_460 := ka (zOK hg BK460.out); replace BK460 := ka (zB BK460.out hb); clear hb hbox hg; have hnb10 := NB462_460.out; have hnc10 := NB460_462.out; obtain ⟨z11_0, z11_1, z11_2, z11_3, z11_4, y11_0, y11_1, y11_2, y11_3, y11_4⟩ := zC5 BK462.out) | (go_at_call 39; (with_reducible refine (lease_Leave_1.calls ((rd_T42 l0 x10_1).f0) ((rd_T42 l0 x10_1).f1) ((rd_T42 l0 x10_1).f2) ((rd_T42 l0 x10_1).f3) ((rd_T42 l0 x10_1).f4) g1_0 a1_0 true _ ?side1 A6.out).mono ?_); (case side1 => exact zK BK460.out); rintro e w12 ⟨rfl, hb⟩; replace HO_4 := ka (Kd.R_below (zM HO_4.out (g := gb462) (fun _ hk => hk.2)) hb); replace HO_5 := ka (Kd.R_below (zM HO_5.out (g := gb462) (fun _ hk => hk.2)) hb); replace BK460 := ka (zB BK460.out hb); replace BK462 := ka (blk_below (g := gb462) (o := .cells #[.int .i64 ((rd_T42 l0 x10_1).f0), .string ((rd_T42 l0 x10_1).f1), .bool ((rd_T42 l0 x10_1).f2), .int .i64 ((rd_T42 l0 x10_1).f3), .int .i64 ((rd_T42 l0 x10_1).f4)] 42 (0, 0)) (zP5 BK462.out) hb); replace HB := ka (below_step (zL HB.out) hb); (try clear hb); (try clear hb2); (try clear hk); (try clear hi); obtain ⟨z13_0, z13_1, z13_2, z13_3, z13_4, y13_0, y13_1, y13_2, y13_3, y13_4⟩ := zC5 BK462.out) | ((with_reducible refine gate_builtin (b := .append) (xs := #[.tmp 17, .tmp 19]) rfl ?_); at_builtin; refine Kd.R_append k42 (w0 := w) w.heap.size rfl (.tmp 17) (.tmp 19) 25 42 (.agg #[(.int .i64 0), (.string ⟨#[]⟩), (.bool false), (.int .i64 0), (.int .i64 0)]) 48 rfl Tryd.underlying25 info42 rfl (by decide) (by omega) u4 x4_1 (⟨(rd_T42 l0 x10_1).f0, (rd_T42 l0 x10_1).f1, (rd_T42 l0 x10_1).f2, (rd_T42 l0 x10_1).f3, (rd_T42 l0 x10_1).f4⟩ : S42) [.int .i64 ((rd_T42 l0 x10_1).f0), .string ((rd_T42 l0 x10_1).f1), .bool ((rd_T42 l0 x10_1).f2), .int .i64 ((rd_T42 l0 x10_1).f3), .int .i64 ((rd_T42 l0 x10_1).f4)] (fun k_ => some k_ ≠ (u5 : Value).ownBlock ∧ k_ ≠ gb462) (fun _ => False) rfl rfl ?aP (fun _ hk => hk.elim) ?aF ?aO ?aB ?aS ?aL ?_; (case aP => exact k42_mkM _ _ _ (⟨(rd_T42 l0 x10_1).f0, (rd_T42 l0 x10_1).f1, (rd_T42 l0 x10_1).f2, (rd_T42 l0 x10_1).f3, (rd_T42 l0 x10_1).f4⟩ : S42)); (case aB => exact (zL HB.out)); (case aF => exact (fun k_ hk => ⟨Kd.fresh' (Kd.R_lt (zR HO_5.out)) k_ hk, Kd.freshB (g := gb462) (o := .cells #[.int .i64 ((rd_T42 l0 x10_1).f0), .string ((rd_T42 l0 x10_1).f1), .bool ((rd_T42 l0 x10_1).f2), .int .i64 ((rd_T42 l0 x10_1).f3), .int .i64 ((rd_T42 l0 x10_1).f4)] 42 (0, 0)) (zK BK462.out) k_ hk⟩)); (case aO => exact (zR HO_4.out)); (case aS => exact (below_size (zL HB.out))); (case aL => have := LMc8.out; omega); intro v465 w14 ho hb hg hat; rw [← Ny464.out] at ho; replace HO_5 := ka (Kd.R_after (ok := (fun k_ => k_ ≠ gb462)) (by (with_reducible repeat (first | apply Kd.R_alloc | apply Kd.R_drewN | apply Kd.R_drew)); exact Kd.R_mono HO_5.out (fun _ hk => ⟨hk.2, hk.1⟩)) hg hat); replace BK460 := ka (blk_grown (g := g1_0) (o := .cells #[.int .i64 a1_0] 3 (0, 0)) (zK BK460.out) hg (Kd.R_ne HO_4.out BK460.out (by decide))); replace BK462 := ka (blk_grown (g := gb462) (o := .cells #[.int .i64 ((rd_T42 l0 x10_1).f0), .string ((rd_T42 l0 x10_1).f1), .bool ((rd_T42 l0 x10_1).f2), .int .i64 ((rd_T42 l0 x10_1).f3), .int .i64 ((rd_T42 l0 x10_1).f4)] 42 (0, 0)) (zK BK462.out) hg (Kd.R_away HO_4.out (fun _ hk => hk.2))); replace HB := ka (hb); have HO466 := ka (ho); clear HO_4; clear ho hb hg hat))
     go_roundg k1
     case measure => have := HK1.out; omega
     case rel => exact ⟨(y464), (x5_1), (wrap64 (x10_1 + 1)), zS, H', ⟨by have := HK1.out; omega⟩, ⟨by (with_reducible repeat (first | apply Kd.R_alloc | apply Kd.R_drewN | apply Kd.R_drew)); exact Kd.R_mono HO466.out (fun _ hk => hk.1)⟩, ⟨by (with_reducible repeat (first | apply Kd.R_alloc | apply Kd.R_drewN | apply Kd.R_drew)); exact Kd.R_mono HO_5.out (fun _ hk => hk.2)⟩, ⟨zK BK460.out⟩, ⟨zL HB.out⟩⟩
    replace c7 := Bool.eq_false_iff.mpr c7
    subst c7
    rw [if_neg (show ¬ (false = true) by decide)] at H
    replace H := zif H
    obtain ⟨c15, H⟩ := H
    have LMc15 := ka c15
    clear c15
    obtain ⟨y467, hy467⟩ : ∃ y_ : List (S42), y_ = (x5_1 ++ [(⟨(rd_T42 l0 x10_1).f0, (rd_T42 l0 x10_1).f1, (rd_T42 l0 x10_1).f2, (rd_T42 l0 x10_1).f3, (rd_T42 l0 x10_1).f4⟩ : S42)]) := ⟨_, rfl⟩
    replace H : (lease_Lease_26_at39.l0 k1 x4_1 y467 l0 (l0.length : Int) (wrap64 (x10_1 + 1)) a1_0) = some (r1, r2) := zH hy467 H
    have Ny467 := ka hy467
    clear hy467
    have H' := ka H
    clear H
    have p461 : 0 ≤ (x10_1 : Int) := zD
    have q461 : x10_1 < (l0.length : Int) := zD
    obtain ⟨ad461, e461, hx461_0, hx461_1, hx461_2, hx461_3, hx461_4⟩ := at_T42 HR0.out x10_1 p461 q461
    cases e461
    replace hx461_0 := zX HB.out hx461_0
    replace hx461_1 := zX HB.out hx461_1
    replace hx461_2 := zX HB.out hx461_2
    replace hx461_3 := zX HB.out hx461_3
    replace hx461_4 := zX HB.out hx461_4
    replace p461 := eq_true p461
    replace q461 := eq_true q461
    go_wp2_with (first | ((with_reducible refine gate_dst (N := 7) rfl ?_); refine box_event ?hg (N := 7) ?hd (cs := #[.int .i64 0, .string ⟨#[]⟩, .bool false, .int .i64 0, .int .i64 0]) (t := 42) ?hr ?_; (case hd => rfl); (case hg => rfl); (case hr => (go_simp; try rfl)); intro gb462 hg w16 hbox hb; replace HO_4 := ka (Kd.R_below (Kd.R_elderB (zR HO_4.out) gb462 (Nat.le_of_eq hg.symm)) hb); replace HO_5 := ka (Kd.R_below (Kd.R_elderB (zR HO_5.out) gb462 (Nat.le_of_eq hg.symm)) hb); have BK462 := ka (hbox); have GW462 := ka (zG hg (zL HB.out)); replace HB := ka (below_step (zL HB.out) hb); have NB460_462 := ka (zNK hg BK460.out); have NB462_460 := ka (zOK hg BK460.out); replace BK460 := ka (zB BK460.out hb); clear hb hbox hg; have hnb17 := NB462_460.out; have hnc17 := NB460_462.out; obtain ⟨z18_0, z18_1, z18_2, z18_3, z18_4, y18_0, y18_1, y18_2, y18_3, y18_4⟩ := zC5 BK462.out) | (go_at_call 39; (with_reducible refine (lease_Leave_1.calls ((rd_T42 l0 x10_1).f0) ((rd_T42 l0 x10_1).f1) ((rd_T42 l0 x10_1).f2) ((rd_T42 l0 x10_1).f3) ((rd_T42 l0 x10_1).f4) g1_0 a1_0 false _ ?side1 A6.out).mono ?_); (case side1 => exact zK BK460.out); rintro e w19 ⟨rfl, hb⟩; replace HO_4 := ka (Kd.R_below (zM HO_4.out (g := gb462) (fun _ hk => hk.2)) hb); replace HO_5 := ka (Kd.R_below (zM HO_5.out (g := gb462) (fun _ hk => hk.2)) hb); replace BK460 := ka (zB BK460.out hb); replace BK462 := ka (blk_below (g := gb462) (o := .cells #[.int .i64 ((rd_T42 l0 x10_1).f0), .string ((rd_T42 l0 x10_1).f1), .bool ((rd_T42 l0 x10_1).f2), .int .i64 ((rd_T42 l0 x10_1).f3), .int .i64 ((rd_T42 l0 x10_1).f4)] 42 (0, 0)) (zP5 BK462.out) hb); replace HB := ka (below_step (zL HB.out) hb); (try clear hb); (try clear hb2); (try clear hk); (try clear hi); obtain ⟨z20_0, z20_1, z20_2, z20_3, z20_4, y20_0, y20_1, y20_2, y20_3, y20_4⟩ := zC5 BK462.out) | ((with_reducible refine gate_builtin (b := .append) (xs := #[.tmp 21, .tmp 23]) rfl ?_); at_builtin; refine Kd.R_append k42 (w0 := w) w.heap.size rfl (.tmp 21) (.tmp 23) 25 42 (.agg #[(.int .i64 0), (.string ⟨#[]⟩), (.bool false), (.int .i64 0), (.int .i64 0)]) 48 rfl Tryd.underlying25 info42 rfl (by decide) (by omega) u5 x5_1 (⟨(rd_T42 l0 x10_1).f0, (rd_T42 l0 x10_1).f1, (rd_T42 l0 x10_1).f2, (rd_T42 l0 x10_1).f3, (rd_T42 l0 x10_1).f4⟩ : S42) [.int .i64 ((rd_T42 l0 x10_1).f0), .string ((rd_T42 l0 x10_1).f1), .bool ((rd_T42 l0 x10_1).f2), .int .i64 ((rd_T42 l0 x10_1).f3), .int .i64 ((rd_T42 l0 x10_1).f4)] (fun k_ => some k_ ≠ (u4 : Value).ownBlock ∧ k_ ≠ gb462) (fun _ => False) rfl rfl ?aP (fun _ hk => hk.elim) ?aF ?aO ?aB ?aS ?aL ?_; (case aP => exact k42_mkM _ _ _ (⟨(rd_T42 l0 x10_1).f0, (rd_T42 l0 x10_1).f1, (rd_T42 l0 x10_1).f2, (rd_T42 l0 x10_1).f3, (rd_T42 l0 x10_1).f4⟩ : S42)); (case aB => exact (zL HB.out)); (case aF => exact (fun k_ hk => ⟨Kd.fresh' (Kd.R_lt (zR HO_4.out)) k_ hk, Kd.freshB (g := gb462) (o := .cells #[.int .i64 ((rd_T42 l0 x10_1).f0), .string ((rd_T42 l0 x10_1).f1), .bool ((rd_T42 l0 x10_1).f2), .int .i64 ((rd_T42 l0 x10_1).f3), .int .i64 ((rd_T42 l0 x10_1).f4)] 42 (0, 0)) (zK BK462.out) k_ hk⟩)); (case aO => exact (zR HO_5.out)); (case aS => exact (below_size (zL HB.out))); (case aL => have := LMc15.out; omega); intro v468 w21 ho hb hg hat; rw [← Ny467.out] at ho; replace HO_4 := ka (Kd.R_after (ok := (fun k_ => k_ ≠ gb462)) (by (with_reducible repeat (first | apply Kd.R_alloc | apply Kd.R_drewN | apply Kd.R_drew)); exact Kd.R_mono HO_4.out (fun _ hk => ⟨hk.2, hk.1⟩)) hg hat); replace BK460 := ka (blk_grown (g := g1_0) (o := .cells #[.int .i64 a1_0] 3 (0, 0)) (zK BK460.out) hg (Kd.R_ne HO_5.out BK460.out (by decide))); replace BK462 := ka (blk_grown (g := gb462) (o := .cells #[.int .i64 ((rd_T42 l0 x10_1).f0), .string ((rd_T42 l0 x10_1).f1), .bool ((rd_T42 l0 x10_1).f2), .int .i64 ((rd_T42 l0 x10_1).f3), .int .i64 ((rd_T42 l0 x10_1).f4)] 42 (0, 0)) (zK BK462.out) hg (Kd.R_away HO_5.out (fun _ hk => hk.2))); replace HB := ka (hb); have HO469 := ka (ho); clear HO_5; clear ho hb hg hat))
    go_roundg k1
    case measure => have := HK1.out; omega
    case rel => exact ⟨(x4_1), (y467), (wrap64 (x10_1 + 1)), zS, H', ⟨by have := HK1.out; omega⟩, ⟨by (with_reducible repeat (first | apply Kd.R_alloc | apply Kd.R_drewN | apply Kd.R_drew)); exact Kd.R_mono HO_4.out (fun _ hk => hk.2)⟩, ⟨by (with_reducible repeat (first | apply Kd.R_alloc | apply Kd.R_drewN | apply Kd.R_drew)); exact Kd.R_mono HO469.out (fun _ hk => hk.1)⟩, ⟨zK BK460.out⟩, ⟨zL HB.out⟩⟩
   rw [if_neg c3] at H
   have c3b0 := zdf c3
   clear c3
   replace H := zs2 H
   obtain ⟨rfl, rfl⟩ := H
   go_wp2
   go_ret2
   exact ⟨_, _, zE, by (with_reducible repeat (first | apply Kd.R_alloc | apply Kd.R_drewN | apply Kd.R_drew)); exact HO_4.out, by (with_reducible repeat (first | apply Kd.R_alloc | apply Kd.R_drewN | apply Kd.R_drew)); exact HO_5.out, zL HB.out⟩

/-! ### lease_Leave_2: function 40 -/
def lease_Leave_2.f (a0_0 : Int) (a0_1 : ByteArray) (a0_2 : Bool) (a0_3 : Int) (a1_0 : Int) : Option (Bool) := some (a0_0 == a1_0)
theorem lease_Leave_2.calls (a0_0 : Int) (a0_1 : ByteArray) (a0_2 : Bool) (a0_3 : Int) (g1_0 : Nat) (a1_0 : Int) (r : Bool) (w : World) (hb1_0 : w.heap[g1_0]? = some (.cells #[.int .i64 a1_0] 3 (0, 0))) (h : lease_Leave_2.f a0_0 a0_1 a0_2 a0_3 a1_0 = some r) :
  Calls Tryd.prog 40 #[.agg #[.int .i64 a0_0, .string a0_1, .bool a0_2, .int .i64 a0_3], .pointer (some ⟨g1_0, 0, none⟩)] w fun e w' => e = .returned (.bool r) ∧ Below w.heap.size w w' := by
 have hu49 := Tryd.underlying49
 have BK487 := ka hb1_0
 clear hb1_0
 have HB := ka (Below.refl w.heap.size w)
 have H : (some (a0_0 == a1_0)) = some r := h
 clear h
 obtain rfl := Option.some.inj H
 go_enter Tryd.func40, Tryd.ntmps40
 go_wp2_with (first | ((with_reducible refine gate_dst (N := 2) rfl ?_); refine box_event ?hg (N := 2) ?hd (cs := #[.int .i64 a0_0, .string a0_1, .bool a0_2, .int .i64 a0_3]) (t := 49) ?hr ?_; (case hd => rfl); (case hg => rfl); (case hr => (go_simp; try rfl)); intro gb488 hg w3 hbox hb; have BK488 := ka (hbox); have GW488 := ka (zG hg (zL HB.out)); replace HB := ka (below_step (zL HB.out) hb); have NB487_488 := ka (zNK hg BK487.out); have NB488_487 := ka (zOK hg BK487.out); replace BK487 := ka (zB BK487.out hb); clear hb hbox hg; have hnb4 := NB488_487.out; have hnc4 := NB487_488.out; obtain ⟨z5_0, z5_1, z5_2, z5_3, y5_0, y5_1, y5_2, y5_3⟩ := zC4 BK488.out; obtain ⟨z6_0, y6_0⟩ := zC1 BK487.out))
 go_ret
 exact ⟨zE, zL HB.out⟩

/-! ### lease_Ask_28_at40: function 28 -/
def lease_Ask_28_at40.l0 : Nat → List (S49) → List (S49) → List (S49) → Int → Int → Int → Option ((List (S49)) × (List (S49)))
 | 0, _, _, _, _, _, _ => none
 | k + 1, x4, x5, x8, x9, x10, x491000 => if x10 < x9 then (if 0 ≤ x10 then (if x10 < (x8.length : Int) then ((lease_Leave_2.f ((rd_T49 x8 x10).f0) ((rd_T49 x8 x10).f1) ((rd_T49 x8 x10).f2) ((rd_T49 x8 x10).f3) x491000).bind fun t493 => (if t493 = true then (if x4.length < 3518437208883 then (lease_Ask_28_at40.l0 k (x4 ++ [(⟨(rd_T49 x8 x10).f0, (rd_T49 x8 x10).f1, (rd_T49 x8 x10).f2, (rd_T49 x8 x10).f3⟩ : S49)]) x5 x8 x9 (wrap64 (x10 + 1)) x491000) else (none)) else (if x5.length < 3518437208883 then (lease_Ask_28_at40.l0 k x4 (x5 ++ [(⟨(rd_T49 x8 x10).f0, (rd_T49 x8 x10).f1, (rd_T49 x8 x10).f2, (rd_T49 x8 x10).f3⟩ : S49)]) x8 x9 (wrap64 (x10 + 1)) x491000) else (none)))) else (none)) else (none)) else (some (x4, x5))
def lease_Ask_28_at40.f (k : Nat) (l0 : List (S49)) (a1_0 : Int) : Option ((List (S49)) × (List (S49))) := lease_Ask_28_at40.l0 k ([] : List (S49)) ([] : List (S49)) l0 (l0.length : Int) 0 a1_0
theorem lease_Ask_28_at40.mono_l : ∀ k, (∀ y0 y1 y2 y3 y4 y5, LeO (lease_Ask_28_at40.l0 k y0 y1 y2 y3 y4 y5) (lease_Ask_28_at40.l0 (k + 1) y0 y1 y2 y3 y4 y5))
 | 0 => fun _ _ _ _ _ _ r h => by simp [lease_Ask_28_at40.l0] at h
 | k + 1 => by
  have ih0 := lease_Ask_28_at40.mono_l k
  ·intro y0 y1 y2 y3 y4 y5
   unfold lease_Ask_28_at40.l0
   exact zLe
theorem lease_Ask_28_at40.mono : ∀ a0 a1 k, LeO (lease_Ask_28_at40.f k a0 a1) (lease_Ask_28_at40.f (k + 1) a0 a1) := by
 intro a0 a1 k
 have ih0 := lease_Ask_28_at40.mono_l k
 unfold lease_Ask_28_at40.f
 exact zLe
theorem lease_Ask_28_at40.calls (k : Nat) (A0 : Option Addr) (c0 : Nat) (l0 : List (S49)) (g1_0 : Nat) (a1_0 : Int) (r1 : List (S49)) (r2 : List (S49)) (w : World) (hr0 : Kd.C k49 w A0 l0.length l0) (hc0 : l0.length ≤ c0) (hb1_0 : w.heap[g1_0]? = some (.cells #[.int .i64 a1_0] 3 (0, 0))) (h : lease_Ask_28_at40.f k l0 a1_0 = some (r1, r2)) :
  Calls Tryd.prog 28 #[.slice A0 l0.length c0, .func (.func 40) #[] #[.pointer (some ⟨g1_0, 0, none⟩)]] w fun e w' => ∃ v0_ v1_ : Value, e = .returned (.tuple #[v0_, v1_]) ∧ Kd.R k49 49 w' w.heap.size (fun k_ => some k_ ≠ (v1_ : Value).ownBlock) v0_ r1 ∧ Kd.R k49 49 w' w.heap.size (fun k_ => some k_ ≠ (v0_ : Value).ownBlock) v1_ r2 ∧ Below w.heap.size w w' := by
 have hu49 := Tryd.underlying49
 have HR0 := ka hr0
 have HC0 := ka hc0
 clear hr0 hc0
 have BK490 := ka hb1_0
 clear hb1_0
 have HB := ka (Below.refl w.heap.size w)
 have H : (lease_Ask_28_at40.l0 k ([] : List (S49)) ([] : List (S49)) l0 (l0.length : Int) 0 a1_0) = some (r1, r2) := h
 clear h
 have H' := ka H
 clear H
 go_enter Tryd.func28, Tryd.ntmps28
 go_wp2
 go_loopg [4, 5, 10] k (fun kq v4 v5 v10 w' => ∃ (x4_1 : List (S49)) (x5_1 : List (S49)) (x10_1 : Int), v10 = .int .i64 x10_1 ∧ Aside0 (lease_Ask_28_at40.l0 kq x4_1 x5_1 l0 (l0.length : Int) x10_1 a1_0 = some (r1, r2)) ∧ Aside0 (kq ≤ k) ∧ Aside0 (Kd.R k49 49 w' w.heap.size (fun k_ => some k_ ≠ (v5 : Value).ownBlock) v4 x4_1) ∧ Aside0 (Kd.R k49 49 w' w.heap.size (fun k_ => some k_ ≠ (v4 : Value).ownBlock) v5 x5_1) ∧ Aside0 (w'.heap[g1_0]? = some (.cells #[.int .i64 a1_0] 3 (0, 0))) ∧ Aside0 (Below w.heap.size w w'))
 case atStart => exact ⟨(([] : List (S49))), (([] : List (S49))), (0), zS, H', ⟨Nat.le_refl _⟩, ⟨zNl⟩, ⟨zNl⟩, ⟨zK BK490.out⟩, ⟨zL HB.out⟩⟩
 case round =>
  clear H'
  obtain ⟨x4_1, x5_1, x10_1, rfl, HA, HK1, HO_4, HO_5, BK490, HB⟩ := hrel
  cases gk with
  | zero => exact absurd HA.out (by simp [lease_Ask_28_at40.l0])
  | succ k1 =>
   have H := HA.out
   clear HA
   simp only [lease_Ask_28_at40.l0] at H
   by_cases c3 : x10_1 < (l0.length : Int)
   ·rw [if_pos c3] at H
    have c3b0 := zdt c3
    clear c3
    replace H := zif H
    obtain ⟨c4, H⟩ := H
    have c4b0 := zdt c4
    clear c4
    replace H := zif H
    obtain ⟨c5, H⟩ := H
    have c5b0 := zdt c5
    clear c5
    replace H := Option.bind_eq_some_iff.mp H
    obtain ⟨t493, A60, H⟩ := H
    try dsimp only at H
    have A6 := ka A60
    clear A60
    by_cases c7 : t493 = true
    ·subst c7
     rw [if_pos rfl] at H
     replace H := zif H
     obtain ⟨c8, H⟩ := H
     have LMc8 := ka c8
     clear c8
     obtain ⟨y494, hy494⟩ : ∃ y_ : List (S49), y_ = (x4_1 ++ [(⟨(rd_T49 l0 x10_1).f0, (rd_T49 l0 x10_1).f1, (rd_T49 l0 x10_1).f2, (rd_T49 l0 x10_1).f3⟩ : S49)]) := ⟨_, rfl⟩
     replace H : (lease_Ask_28_at40.l0 k1 y494 x5_1 l0 (l0.length : Int) (wrap64 (x10_1 + 1)) a1_0) = some (r1, r2) := zH hy494 H
     have Ny494 := ka hy494
     clear hy494
     have H' := ka H
     clear H
     have p491 : 0 ≤ (x10_1 : Int) := zD
     have q491 : x10_1 < (l0.length : Int) := zD
     obtain ⟨ad491, e491, hx491_0, hx491_1, hx491_2, hx491_3⟩ := at_T49 HR0.out x10_1 p491 q491
     cases e491
     replace hx491_0 := zX HB.out hx491_0
     replace hx491_1 := zX HB.out hx491_1
     replace hx491_2 := zX HB.out hx491_2
     replace hx491_3 := zX HB.out hx491_3
     replace p491 := eq_true p491
     replace q491 := eq_true q491
     go_wp2_with (first | ((with_reducible refine gate_dst (N := 7) rfl ?_); refine box_event ?hg (N := 7) ?hd (cs := #[.int .i64 0, .string ⟨#[]⟩, .bool false, .int .i64 0]) (t := 49) ?hr ?_; (case hd => rfl); (case hg => rfl); (case hr => (go_simp; try rfl)); intro gb492 hg w9 hbox hb; replace HO_4 := ka (Kd.R_below (Kd.R_elderB (zR HO_4.out) gb492 (Nat.le_of_eq hg.symm)) hb); replace HO_5 := ka (Kd.R_below (Kd.R_elderB (zR HO_5.out) gb492 (Nat.le_of_eq hg.symm)) hb); have BK492 := ka (hbox); have GW492 := ka (zG hg (zL HB.out)); replace HB := ka (below_step (zL HB.out) hb); have NB490_492 := ka (zNK hg BK490.out); have NB492_490 := ka (zOK hg BK490.out); replace BK490 := ka (zB BK490.out hb); clear hb hbox hg; have hnb10 := NB492_490.out; have hnc10 := NB490_492.out; obtain ⟨z11_0, z11_1, z11_2, z11_3, y11_0, y11_1, y11_2, y11_3⟩ := zC4 BK492.out) | (go_at_call 40; (with_reducible refine (lease_Leave_2.calls ((rd_T49 l0 x10_1).f0) ((rd_T49 l0 x10_1).f1) ((rd_T49 l0 x10_1).f2) ((rd_T49 l0 x10_1).f3) g1_0 a1_0 true _ ?side1 A6.out).mono ?_); (case side1 => exact zK BK490.out); rintro e w12 ⟨rfl, hb⟩; replace HO_4 := ka (Kd.R_below (zM HO_4.out (g := gb492) (fun _ hk => hk.2)) hb); replace HO_5 := ka (Kd.R_below (zM HO_5.out (g := gb492) (fun _ hk => hk.2)) hb); replace BK490 := ka (zB BK490.out hb); replace BK492 := ka (blk_below (g := gb492) (o := .cells #[.int .i64 ((rd_T49 l0 x10_1).f0), .string ((rd_T49 l0 x10_1).f1), .bool ((rd_T49 l0 x10_1).f2), .int .i64 ((rd_T49 l0 x10_1).f3)] 49 (0, 0)) (zP4 BK492.out) hb); replace HB := ka (below_step (zL HB.out) hb); (try clear hb); (try clear hb2); (try clear hk); (try clear hi); obtain ⟨z13_0, z13_1, z13_2, z13_3, y13_0, y13_1, y13_2, y13_3⟩ := zC4 BK492.out) | ((with_reducible refine gate_builtin (b := .append) (xs := #[.tmp 17, .tmp 19]) rfl ?_); at_builtin; refine Kd.R_append k49 (w0 := w) w.heap.size rfl (.tmp 17) (.tmp 19) 26 49 (.agg #[(.int .i64 0), (.string ⟨#[]⟩), (.bool false), (.int .i64 0)]) 40 rfl Tryd.underlying26 info49 rfl (by decide) (by omega) u4 x4_1 (⟨(rd_T49 l0 x10_1).f0, (rd_T49 l0 x10_1).f1, (rd_T49 l0 x10_1).f2, (rd_T49 l0 x10_1).f3⟩ : S49) [.int .i64 ((rd_T49 l0 x10_1).f0), .string ((rd_T49 l0 x10_1).f1), .bool ((rd_T49 l0 x10_1).f2), .int .i64 ((rd_T49 l0 x10_1).f3)] (fun k_ => some k_ ≠ (u5 : Value).ownBlock ∧ k_ ≠ gb492) (fun _ => False) rfl rfl ?aP (fun _ hk => hk.elim) ?aF ?aO ?aB ?aS ?aL ?_; (case aP => exact k49_mkM _ _ _ (⟨(rd_T49 l0 x10_1).f0, (rd_T49 l0 x10_1).f1, (rd_T49 l0 x10_1).f2, (rd_T49 l0 x10_1).f3⟩ : S49)); (case aB => exact (zL HB.out)); (case aF => exact (fun k_ hk => ⟨Kd.fresh' (Kd.R_lt (zR HO_5.out)) k_ hk, Kd.freshB (g := gb492) (o := .cells #[.int .i64 ((rd_T49 l0 x10_1).f0), .string ((rd_T49 l0 x10_1).f1), .bool ((rd_T49 l0 x10_1).f2), .int .i64 ((rd_T49 l0 x10_1).f3)] 49 (0, 0)) (zK BK492.out) k_ hk⟩)); (case aO => exact (zR HO_4.out)); (case aS => exact (below_size (zL HB.out))); (case aL => have := LMc8.out; omega); intro v495 w14 ho hb hg hat; rw [← Ny494.out] at ho; replace HO_5 := ka (Kd.R_after (ok := (fun k_ => k_ ≠ gb492)) (by (with_reducible repeat (first | apply Kd.R_alloc | apply Kd.R_drewN | apply Kd.R_drew)); exact Kd.R_mono HO_5.out (fun _ hk => ⟨hk.2, hk.1⟩)) hg hat); replace BK490 := ka (blk_grown (g := g1_0) (o := .cells #[.int .i64 a1_0] 3 (0, 0)) (zK BK490.out) hg (Kd.R_ne HO_4.out BK490.out (by decide))); replace BK492 := ka (blk_grown (g := gb492) (o := .cells #[.int .i64 ((rd_T49 l0 x10_1).f0), .string ((rd_T49 l0 x10_1).f1), .bool ((rd_T49 l0 x10_1).f2), .int .i64 ((rd_T49 l0 x10_1).f3)] 49 (0, 0)) (zK BK492.out) hg (Kd.R_away HO_4.out (fun _ hk => hk.2))); replace HB := ka (hb); have HO496 := ka (ho); clear HO_4; clear ho hb hg hat))
     go_roundg k1
     case measure => have := HK1.out; omega
     case rel => exact ⟨(y494), (x5_1), (wrap64 (x10_1 + 1)), zS, H', ⟨by have := HK1.out; omega⟩, ⟨by (with_reducible repeat (first | apply Kd.R_alloc | apply Kd.R_drewN | apply Kd.R_drew)); exact Kd.R_mono HO496.out (fun _ hk => hk.1)⟩, ⟨by (with_reducible repeat (first | apply Kd.R_alloc | apply Kd.R_drewN | apply Kd.R_drew)); exact Kd.R_mono HO_5.out (fun _ hk => hk.2)⟩, ⟨zK BK490.out⟩, ⟨zL HB.out⟩⟩
    replace c7 := Bool.eq_false_iff.mpr c7
    subst c7
    rw [if_neg (show ¬ (false = true) by decide)] at H
    replace H := zif H
    obtain ⟨c15, H⟩ := H
    have LMc15 := ka c15
    clear c15
    obtain ⟨y497, hy497⟩ : ∃ y_ : List (S49), y_ = (x5_1 ++ [(⟨(rd_T49 l0 x10_1).f0, (rd_T49 l0 x10_1).f1, (rd_T49 l0 x10_1).f2, (rd_T49 l0 x10_1).f3⟩ : S49)]) := ⟨_, rfl⟩
    replace H : (lease_Ask_28_at40.l0 k1 x4_1 y497 l0 (l0.length : Int) (wrap64 (x10_1 + 1)) a1_0) = some (r1, r2) := zH hy497 H
    have Ny497 := ka hy497
    clear hy497
    have H' := ka H
    clear H
    have p491 : 0 ≤ (x10_1 : Int) := zD
    have q491 : x10_1 < (l0.length : Int) := zD
    obtain ⟨ad491, e491, hx491_0, hx491_1, hx491_2, hx491_3⟩ := at_T49 HR0.out x10_1 p491 q491
    cases e491
    replace hx491_0 := zX HB.out hx491_0
    replace hx491_1 := zX HB.out hx491_1
    replace hx491_2 := zX HB.out hx491_2
    replace hx491_3 := zX HB.out hx491_3
    replace p491 := eq_true p491
    replace q491 := eq_true q491
    go_wp2_with (first | ((with_reducible refine gate_dst (N := 7) rfl ?_); refine box_event ?hg (N := 7) ?hd (cs := #[.int .i64 0, .string ⟨#[]⟩, .bool false, .int .i64 0]) (t := 49) ?hr ?_; (case hd => rfl); (case hg => rfl); (case hr => (go_simp; try rfl)); intro gb492 hg w16 hbox hb; replace HO_4 := ka (Kd.R_below (Kd.R_elderB (zR HO_4.out) gb492 (Nat.le_of_eq hg.symm)) hb); replace HO_5 := ka (Kd.R_below (Kd.R_elderB (zR HO_5.out) gb492 (Nat.le_of_eq hg.symm)) hb); have BK492 := ka (hbox); have GW492 := ka (zG hg (zL HB.out)); replace HB := ka (below_step (zL HB.out) hb); have NB490_492 := ka (zNK hg BK490.out); have NB492_490 := ka (zOK hg BK490.out); replace BK490 := ka (zB BK490.out hb); clear hb hbox hg; have hnb17 := NB492_490.out; have hnc17 := NB490_492.out; obtain ⟨z18_0, z18_1, z18_2, z18_3, y18_0, y18_1, y18_2, y18_3⟩ := zC4 BK492.out) | (go_at_call 40; (with_reducible refine (lease_Leave_2.calls ((rd_T49 l0 x10_1).f0) ((rd_T49 l0 x10_1).f1) ((rd_T49 l0 x10_1).f2) ((rd_T49 l0 x10_1).f3) g1_0 a1_0 false _ ?side1 A6.out).mono ?_); (case side1 => exact zK BK490.out); rintro e w19 ⟨rfl, hb⟩; replace HO_4 := ka (Kd.R_below (zM HO_4.out (g := gb492) (fun _ hk => hk.2)) hb); replace HO_5 := ka (Kd.R_below (zM HO_5.out (g := gb492) (fun _ hk => hk.2)) hb); replace BK490 := ka (zB BK490.out hb); replace BK492 := ka (blk_below (g := gb492) (o := .cells #[.int .i64 ((rd_T49 l0 x10_1).f0), .string ((rd_T49 l0 x10_1).f1), .bool ((rd_T49 l0 x10_1).f2), .int .i64 ((rd_T49 l0 x10_1).f3)] 49 (0, 0)) (zP4 BK492.out) hb); replace HB := ka (below_step (zL HB.out) hb); (try clear hb); (try clear hb2); (try clear hk); (try clear hi); obtain ⟨z20_0, z20_1, z20_2, z20_3, y20_0, y20_1, y20_2, y20_3⟩ := zC4 BK492.out) | ((with_reducible refine gate_builtin (b := .append) (xs := #[.tmp 21, .tmp 23]) rfl ?_); at_builtin; refine Kd.R_append k49 (w0 := w) w.heap.size rfl (.tmp 21) (.tmp 23) 26 49 (.agg #[(.int .i64 0), (.string ⟨#[]⟩), (.bool false), (.int .i64 0)]) 40 rfl Tryd.underlying26 info49 rfl (by decide) (by omega) u5 x5_1 (⟨(rd_T49 l0 x10_1).f0, (rd_T49 l0 x10_1).f1, (rd_T49 l0 x10_1).f2, (rd_T49 l0 x10_1).f3⟩ : S49) [.int .i64 ((rd_T49 l0 x10_1).f0), .string ((rd_T49 l0 x10_1).f1), .bool ((rd_T49 l0 x10_1).f2), .int .i64 ((rd_T49 l0 x10_1).f3)] (fun k_ => some k_ ≠ (u4 : Value).ownBlock ∧ k_ ≠ gb492) (fun _ => False) rfl rfl ?aP (fun _ hk => hk.elim) ?aF ?aO ?aB ?aS ?aL ?_; (case aP => exact k49_mkM _ _ _ (⟨(rd_T49 l0 x10_1).f0, (rd_T49 l0 x10_1).f1, (rd_T49 l0 x10_1).f2, (rd_T49 l0 x10_1).f3⟩ : S49)); (case aB => exact (zL HB.out)); (case aF => exact (fun k_ hk => ⟨Kd.fresh' (Kd.R_lt (zR HO_4.out)) k_ hk, Kd.freshB (g := gb492) (o := .cells #[.int .i64 ((rd_T49 l0 x10_1).f0), .string ((rd_T49 l0 x10_1).f1), .bool ((rd_T49 l0 x10_1).f2), .int .i64 ((rd_T49 l0 x10_1).f3)] 49 (0, 0)) (zK BK492.out) k_ hk⟩)); (case aO => exact (zR HO_5.out)); (case aS => exact (below_size (zL HB.out))); (case aL => have := LMc15.out; omega); intro v498 w21 ho hb hg hat; rw [← Ny497.out] at ho; replace HO_4 := ka (Kd.R_after (ok := (fun k_ => k_ ≠ gb492)) (by (with_reducible repeat (first | apply Kd.R_alloc | apply Kd.R_drewN | apply Kd.R_drew)); exact Kd.R_mono HO_4.out (fun _ hk => ⟨hk.2, hk.1⟩)) hg hat); replace BK490 := ka (blk_grown (g := g1_0) (o := .cells #[.int .i64 a1_0] 3 (0, 0)) (zK BK490.out) hg (Kd.R_ne HO_5.out BK490.out (by decide))); replace BK492 := ka (blk_grown (g := gb492) (o := .cells #[.int .i64 ((rd_T49 l0 x10_1).f0), .string ((rd_T49 l0 x10_1).f1), .bool ((rd_T49 l0 x10_1).f2), .int .i64 ((rd_T49 l0 x10_1).f3)] 49 (0, 0)) (zK BK492.out) hg (Kd.R_away HO_5.out (fun _ hk => hk.2))); replace HB := ka (hb); have HO499 := ka (ho); clear HO_5; clear ho hb hg hat))
    go_roundg k1
    case measure => have := HK1.out; omega
    case rel => exact ⟨(x4_1), (y497), (wrap64 (x10_1 + 1)), zS, H', ⟨by have := HK1.out; omega⟩, ⟨by (with_reducible repeat (first | apply Kd.R_alloc | apply Kd.R_drewN | apply Kd.R_drew)); exact Kd.R_mono HO_4.out (fun _ hk => hk.2)⟩, ⟨by (with_reducible repeat (first | apply Kd.R_alloc | apply Kd.R_drewN | apply Kd.R_drew)); exact Kd.R_mono HO499.out (fun _ hk => hk.1)⟩, ⟨zK BK490.out⟩, ⟨zL HB.out⟩⟩
   rw [if_neg c3] at H
   have c3b0 := zdf c3
   clear c3
   replace H := zs2 H
   obtain ⟨rfl, rfl⟩ := H
   go_wp2
   go_ret2
   exact ⟨_, _, zE, by (with_reducible repeat (first | apply Kd.R_alloc | apply Kd.R_drewN | apply Kd.R_drew)); exact HO_4.out, by (with_reducible repeat (first | apply Kd.R_alloc | apply Kd.R_drewN | apply Kd.R_drew)); exact HO_5.out, zL HB.out⟩

/-! ### lease_Leave: function 19 -/
def lease_Leave.f (k : Nat) (a0_0 : Int) (l0_1 : List (S42)) (l0_2 : List (S49)) (a1 : Int) (a2 : Int) : Option (Int × (List (S42)) × (List (S49))) := (lease_time.f a2).bind fun t450 => (if t450 = true then ((lease_Lease_26_at39.f k l0_1 a1).bind fun bt452 => ((lease_Ask_28_at40.f k l0_2 a1).bind fun bt459 => ((lease_Table_settle.f k a0_0 bt452.2 bt459.2 a2).bind fun bt465 => (some (bt465.1, bt465.2.1, bt465.2.2))))) else (some (a0_0, l0_1, l0_2)))
theorem lease_Leave.mono : ∀ a0 a1 a2 a3 a4 k, LeO (lease_Leave.f k a0 a1 a2 a3 a4) (lease_Leave.f (k + 1) a0 a1 a2 a3 a4) := by
 intro a0 a1 a2 a3 a4 k
 unfold lease_Leave.f
 have m0 := @lease_Ask_28_at40.mono
 have m1 := @lease_Lease_26_at39.mono
 have m2 := @lease_Table_settle.mono
 exact zLe
theorem lease_Leave.calls (k : Nat) (a0_0 : Int) (P0_1_ : Nat → Prop) (A0_1 : Option Addr) (c0_1 : Nat) (l0_1 : List (S42)) (P0_2_ : Nat → Prop) (A0_2 : Option Addr) (c0_2 : Nat) (l0_2 : List (S49)) (a1 : Int) (a2 : Int) (r1 : Int) (r2 : List (S42)) (r3 : List (S49)) (w : World) (hs0_1 : Kd.V k42 42 w w.heap.size (fun k_ => P0_1_ k_) (.slice A0_1 l0_1.length c0_1) l0_1) (hs0_2 : Kd.V k49 49 w w.heap.size (fun k_ => P0_2_ k_) (.slice A0_2 l0_2.length c0_2) l0_2) (h : lease_Leave.f k a0_0 l0_1 l0_2 a1 a2 = some (r1, r2, r3)) :
  Calls Tryd.prog 19 #[.agg #[.int .i64 a0_0, .slice A0_1 l0_1.length c0_1, .slice A0_2 l0_2.length c0_2], .int .i64 a1, .int .i64 a2] w fun e w' => ∃ v1_ v2_ : Value, e = .returned (.agg #[.int .i64 r1, v1_, v2_]) ∧ Kd.V k42 42 w' w.heap.size (fun k_ => ((P0_1_ k_ ∨ P0_2_ k_) ∨ w.heap.size ≤ k_)) v1_ r2 ∧ Kd.V k49 49 w' w.heap.size (fun k_ => ((P0_1_ k_ ∨ P0_2_ k_) ∨ w.heap.size ≤ k_)) v2_ r3 ∧ Below w.heap.size w w' := by
 have hu28 := Tryd.underlying28
 have HO0_1 := ka (show Kd.V k42 42 w w.heap.size (fun k_ => ((P0_1_ k_ ∨ P0_2_ k_) ∨ w.heap.size ≤ k_)) (.slice A0_1 l0_1.length c0_1) l0_1 from Kd.V_mono hs0_1 (fun k_ hk => .inl (.inl hk)))
 have HO0_2 := ka (show Kd.V k49 49 w w.heap.size (fun k_ => ((P0_1_ k_ ∨ P0_2_ k_) ∨ w.heap.size ≤ k_)) (.slice A0_2 l0_2.length c0_2) l0_2 from Kd.V_mono hs0_2 (fun k_ hk => .inl (.inr hk)))
 have HB := ka (Below.refl w.heap.size w)
 have H : ((lease_time.f a2).bind fun t450 => (if t450 = true then ((lease_Lease_26_at39.f k l0_1 a1).bind fun bt452 => ((lease_Ask_28_at40.f k l0_2 a1).bind fun bt459 => ((lease_Table_settle.f k a0_0 bt452.2 bt459.2 a2).bind fun bt465 => (some (bt465.1, bt465.2.1, bt465.2.2))))) else (some (a0_0, l0_1, l0_2)))) = some (r1, r2, r3) := h
 clear h
 replace H := Option.bind_eq_some_iff.mp H
 obtain ⟨t450, A40, H⟩ := H
 try dsimp only at H
 have A4 := ka A40
 clear A40
 by_cases c5 : t450 = true
 ·subst c5
  rw [if_pos rfl] at H
  replace H := Option.bind_eq_some_iff.mp H
  obtain ⟨⟨t452, t453⟩, A60, H⟩ := H
  try dsimp only at H
  have A6 := ka A60
  clear A60
  replace H := Option.bind_eq_some_iff.mp H
  obtain ⟨⟨t459, t460⟩, A70, H⟩ := H
  try dsimp only at H
  have A7 := ka A70
  clear A70
  replace H := Option.bind_eq_some_iff.mp H
  obtain ⟨⟨t465, t466, t469⟩, A80, H⟩ := H
  try dsimp only at H
  have A8 := ka A80
  clear A80
  replace H := zs3 H
  obtain ⟨rfl, rfl, rfl⟩ := H
  go_enter Tryd.func19, Tryd.ntmps19
  go_wp2_with (first | ((with_reducible refine gate_dst (N := 3) rfl ?_); refine box_event ?hg (N := 3) ?hd (cs := #[.int .i64 a0_0, .slice A0_1 l0_1.length c0_1, .slice A0_2 l0_2.length c0_2]) (t := 28) ?hr ?_; (case hd => rfl); (case hg => rfl); (case hr => (go_simp; try rfl)); intro gb447 hg w9 hbox hb; replace HO0_1 := ka (Kd.V_below (Kd.V_elderB (zV HO0_1.out) gb447 (Nat.le_of_eq hg.symm)) hb); replace HO0_2 := ka (Kd.V_below (Kd.V_elderB (zV HO0_2.out) gb447 (Nat.le_of_eq hg.symm)) hb); have BK447 := ka (hbox); have GW447 := ka (zG hg (zL HB.out)); replace HB := ka (below_step (zL HB.out) hb); clear hb hbox hg) | ((with_reducible refine gate_dst (N := 4) rfl ?_); refine box_event ?hg (N := 4) ?hd (cs := #[.int .i64 a1]) (t := 3) ?hr ?_; (case hd => rfl); (case hg => rfl); (case hr => (go_simp; try rfl)); intro gb448 hg w10 hbox hb; replace HO0_1 := ka (Kd.V_below (Kd.V_elderB (zV HO0_1.out) gb448 (Nat.le_of_eq hg.symm)) hb); replace HO0_2 := ka (Kd.V_below (Kd.V_elderB (zV HO0_2.out) gb448 (Nat.le_of_eq hg.symm)) hb); have BK448 := ka (hbox); have GW448 := ka (zG hg (zL HB.out)); replace HB := ka (below_step (zL HB.out) hb); have NB447_448 := ka (zNK hg BK447.out); have NB448_447 := ka (zOK hg BK447.out); replace BK447 := ka (zB BK447.out hb); clear hb hbox hg) | ((with_reducible refine gate_dst (N := 6) rfl ?_); refine box_event ?hg (N := 6) ?hd (cs := #[.int .i64 0, .slice none 0 0, .slice none 0 0]) (t := 28) ?hr ?_; (case hd => rfl); (case hg => rfl); (case hr => (go_simp; try rfl)); intro gb449 hg w11 hbox hb; replace HO0_1 := ka (Kd.V_below (Kd.V_elderB (zV HO0_1.out) gb449 (Nat.le_of_eq hg.symm)) hb); replace HO0_2 := ka (Kd.V_below (Kd.V_elderB (zV HO0_2.out) gb449 (Nat.le_of_eq hg.symm)) hb); have BK449 := ka (hbox); have GW449 := ka (zG hg (zL HB.out)); replace HB := ka (below_step (zL HB.out) hb); have NB447_449 := ka (zNK hg BK447.out); have NB449_447 := ka (zOK hg BK447.out); replace BK447 := ka (zB BK447.out hb); have NB448_449 := ka (zNK hg BK448.out); have NB449_448 := ka (zOK hg BK448.out); replace BK448 := ka (zB BK448.out hb); clear hb hbox hg) | ((with_reducible refine gate_callee (f := 34) rfl ?_); refine goesL_ (some 8) rfl rfl Tryd.func34 (by kernel_rfl) rfl #[.int .i64 a2] rfl zA ?_; (with_reducible refine (lease_time.calls a2 true _ A4.out).mono ?_); rintro e w' ⟨rfl, ⟨nd, rfl⟩⟩; refine ⟨_, rfl, ?_⟩; (try (rw [drewN_self w11]; generalize hq_ : World.drewN w11 _ = w11; have n0_ : Aside0 (Kd.V k42 42 w11 w.heap.size (fun k_ => ((P0_1_ k_ ∨ P0_2_ k_) ∨ w.heap.size ≤ k_) ∧ k_ ≠ gb447 ∧ k_ ≠ gb448 ∧ k_ ≠ gb449) (.slice A0_1 l0_1.length c0_1) l0_1) := ⟨by rw [← hq_]; exact (by (with_reducible repeat (first | apply Kd.V_alloc | apply Kd.V_drewN | apply Kd.V_drew)); exact Kd.V_mono HO0_1.out (fun _ hk => ⟨hk.1.1.1, ⟨hk.1.1.2, ⟨hk.1.2, hk.2⟩⟩⟩))⟩; have n1_ : Aside0 (Kd.V k49 49 w11 w.heap.size (fun k_ => ((P0_1_ k_ ∨ P0_2_ k_) ∨ w.heap.size ≤ k_) ∧ k_ ≠ gb447 ∧ k_ ≠ gb448 ∧ k_ ≠ gb449) (.slice A0_2 l0_2.length c0_2) l0_2) := ⟨by rw [← hq_]; exact (by (with_reducible repeat (first | apply Kd.V_alloc | apply Kd.V_drewN | apply Kd.V_drew)); exact Kd.V_mono HO0_2.out (fun _ hk => ⟨hk.1.1.1, ⟨hk.1.1.2, ⟨hk.1.2, hk.2⟩⟩⟩))⟩; have n2_ : Aside0 (w11.heap[gb447]? = some (.cells #[.int .i64 a0_0, .slice A0_1 l0_1.length c0_1, .slice A0_2 l0_2.length c0_2] 28 (0, 0))) := ⟨by rw [← hq_]; exact (zK BK447.out)⟩; have n3_ : Aside0 (w11.heap[gb448]? = some (.cells #[.int .i64 a1] 3 (0, 0))) := ⟨by rw [← hq_]; exact (zK BK448.out)⟩; have n4_ : Aside0 (w11.heap[gb449]? = some (.cells #[.int .i64 0, .slice none 0 0, .slice none 0 0] 28 (0, 0))) := ⟨by rw [← hq_]; exact (zK BK449.out)⟩; have n5_ : Aside0 (Below w.heap.size w w11) := ⟨by rw [← hq_]; exact (zL HB.out)⟩; clear HO0_1 HO0_2 BK447 BK448 BK449 HB hq_; have HO0_1 := n0_; have HO0_2 := n1_; have BK447 := n2_; have BK448 := n3_; have BK449 := n4_; have HB := n5_; clear n0_ n1_ n2_ n3_ n4_ n5_)); have hnb12 := NB447_448.out; have hnc12 := NB448_447.out; have hnb13 := NB447_449.out; have hnc13 := NB449_447.out; obtain ⟨z14_0, z14_1, z14_2, y14_0, y14_1, y14_2⟩ := zC3 BK447.out) | ((with_reducible refine gate_callee (f := 26) rfl ?_); refine goesL_ (some 15) rfl rfl Tryd.func26 (by kernel_rfl) rfl #[.slice A0_1 l0_1.length c0_1, .func (.func 39) #[] #[.pointer (some ⟨gb448, 0, none⟩)]] rfl zA ?_; (with_reducible refine (lease_Lease_26_at39.calls k _ _ l0_1 gb448 a1 t452 t453 _ ?side1 ?side2 ?side3 A6.out).mono ?_); (case side1 => exact zCS (Kd.V_reads' HO0_1.out).2.2); (case side2 => exact (Kd.V_reads' HO0_1.out).2.1); (case side3 => exact zK BK448.out); rintro e w15 ⟨v454, v456, rfl, ho0, ho1, hb⟩; refine ⟨_, rfl, ?_⟩; replace HO0_1 := ka (Kd.V_mono (Kd.V_told (Kd.V_told (Kd.V_old (zV HO0_1.out) hb) (Kd.R_base ho0)) (Kd.R_base ho1)) (fun _ h_ => h_.1)); replace HO0_2 := ka (Kd.V_mono (Kd.V_told (Kd.V_told (Kd.V_old (zV HO0_2.out) hb) (Kd.R_base ho0)) (Kd.R_base ho1)) (fun _ h_ => h_.1)); have HO455 := ka (Kd.R_lower (Kd.R_newM (M := fun k_ => (w.heap.size ≤ k_)) ho0 (below_size (zL HB.out)) (fun k_ h_ => h_)) (below_size (zL HB.out))); have HO457 := ka (Kd.R_lower (Kd.R_newM (M := fun k_ => (w.heap.size ≤ k_)) ho1 (below_size (zL HB.out)) (fun k_ h_ => h_)) (below_size (zL HB.out))); replace BK447 := ka (zB BK447.out hb); replace BK448 := ka (zB BK448.out hb); replace BK449 := ka (zB BK449.out hb); replace HB := ka (below_step (zL HB.out) hb); (try clear hb); (try clear hb2); (try clear hk); (try clear hi); (try clear ho0); (try clear ho1); obtain ⟨Ao16, co16, eo16⟩ := Kd.R_slice HO457.out; subst eo16; obtain ⟨z17_0, z17_1, z17_2, y17_0, y17_1, y17_2⟩ := zC3 BK447.out) | ((with_reducible refine gate_callee (f := 28) rfl ?_); refine goesL_ (some 23) rfl rfl Tryd.func28 (by kernel_rfl) rfl #[.slice A0_2 l0_2.length c0_2, .func (.func 40) #[] #[.pointer (some ⟨gb448, 0, none⟩)]] rfl zA ?_; (with_reducible refine (lease_Ask_28_at40.calls k _ _ l0_2 gb448 a1 t459 t460 _ ?side1 ?side2 ?side3 A7.out).mono ?_); (case side1 => refine (Kd.V_reads' (e := 49) (base := w.heap.size) (ok := fun k_ => (((((P0_1_ k_ ∨ P0_2_ k_) ∨ w.heap.size ≤ k_) ∧ (k_ ≠ gb447 ∧ (k_ ≠ gb448 ∧ k_ ≠ gb449))) ∧ some k_ ≠ (v454 : Value).ownBlock) ∧ some k_ ≠ (.slice Ao16 t453.length co16 : Value).ownBlock)) (n := l0_2.length) (c := c0_2) ?_).2.2; exact (zMV HO0_2.out (g := gb447) (fun _ hk => hk.1.1.2.1))); (case side2 => exact (Kd.V_reads' HO0_2.out).2.1); (case side3 => exact zK BK448.out); rintro e w18 ⟨v461, v463, rfl, ho0, ho1, hb⟩; refine ⟨_, rfl, ?_⟩; replace HO0_1 := ka (Kd.V_mono (Kd.V_told (Kd.V_told (Kd.V_old (zMV HO0_1.out (g := gb447) (fun _ hk => hk.1.1.2.1)) hb) (Kd.R_base ho0)) (Kd.R_base ho1)) (fun _ h_ => h_.1)); replace HO0_2 := ka (Kd.V_mono (Kd.V_told (Kd.V_told (Kd.V_old (zMV HO0_2.out (g := gb447) (fun _ hk => hk.1.1.2.1)) hb) (Kd.R_base ho0)) (Kd.R_base ho1)) (fun _ h_ => h_.1)); replace HO455 := ka (Kd.R_below (zT HO455.out BK447.out) hb); replace HO457 := ka (Kd.R_below (zT HO457.out BK447.out) hb); have HO462 := ka (Kd.R_lower (Kd.R_newM (M := fun k_ => (w.heap.size ≤ k_)) ho0 (below_size (zL HB.out)) (fun k_ h_ => h_)) (below_size (zL HB.out))); have HO464 := ka (Kd.R_lower (Kd.R_newM (M := fun k_ => (w.heap.size ≤ k_)) ho1 (below_size (zL HB.out)) (fun k_ h_ => h_)) (below_size (zL HB.out))); replace BK447 := ka (blk_below (g := gb447) (o := .cells #[.int .i64 a0_0, .slice Ao16 t453.length co16, .slice A0_2 l0_2.length c0_2] 28 (0, 0)) (by (with_reducible repeat (first | refine blk_drewN ?_ _ | refine blk_drew ?_ | refine blk_alloc ?_ _)); refine blk_put (cs := #[.int .i64 a0_0, .slice A0_1 l0_1.length c0_1, .slice A0_2 l0_2.length c0_2]) ?_ 1 _ rfl; (with_reducible repeat (first | refine blk_drewN ?_ _ | refine blk_drew ?_ | refine blk_alloc ?_ _)); exact BK447.out) hb); replace BK448 := ka (zB BK448.out hb); replace BK449 := ka (zB BK449.out hb); replace HB := ka (below_step (zL HB.out) hb); (try clear hb); (try clear hb2); (try clear hk); (try clear hi); (try clear ho0); (try clear ho1); obtain ⟨Ao19, co19, eo19⟩ := Kd.R_slice HO464.out; subst eo19; obtain ⟨z20_0, z20_1, z20_2, y20_0, y20_1, y20_2⟩ := zC3 BK447.out) | ((with_reducible refine gate_callee (f := 36) rfl ?_); refine goesL_ (some 29) rfl rfl Tryd.func36 (by kernel_rfl) rfl #[.agg #[.int .i64 a0_0, .slice Ao16 t453.length co16, .slice Ao19 t460.length co19], .int .i64 a2] rfl zA ?_; (with_reducible refine (lease_Table_settle.calls k a0_0 _ _ t453 _ _ t460 a2 t465 t466 t469 _ ?side1 ?side2 ?side3 ?side4 A8.out).mono ?_); (case side1 => refine (Kd.R_reads' (e := 42) (base := w.heap.size) (ok := fun k_ => ((w.heap.size ≤ k_) ∧ some k_ ≠ (v454 : Value).ownBlock)) (n := t453.length) (c := co16) ?_).2.2; exact (zT HO457.out BK447.out)); (case side2 => exact (Kd.R_reads' HO457.out).2.1); (case side3 => refine (Kd.R_reads' (e := 49) (base := w.heap.size) (ok := fun k_ => ((w.heap.size ≤ k_) ∧ some k_ ≠ (v461 : Value).ownBlock)) (n := t460.length) (c := co19) ?_).2.2; exact (zT HO464.out BK447.out)); (case side4 => exact (Kd.R_reads' HO464.out).2.1); rintro e w21 ⟨v467, v470, rfl, ho0, ho1, hb⟩; refine ⟨_, rfl, ?_⟩; replace HO0_1 := ka (Kd.V_mono (Kd.V_told (Kd.V_told (Kd.V_old (zMV HO0_1.out (g := gb447) (fun _ hk => hk.1.1.1.1.2.1)) hb) (Kd.R_base ho0)) (Kd.R_base ho1)) (fun _ h_ => h_.1)); replace HO0_2 := ka (Kd.V_mono (Kd.V_told (Kd.V_told (Kd.V_old (zMV HO0_2.out (g := gb447) (fun _ hk => hk.1.1.1.1.2.1)) hb) (Kd.R_base ho0)) (Kd.R_base ho1)) (fun _ h_ => h_.1)); have HO468 := ka (Kd.R_lower (Kd.R_new' (Kd.R_new' (Kd.R_newM (M := fun k_ => (w.heap.size ≤ k_)) ho0 (below_size (zL HB.out)) (fun k_ h_ => h_)) (Kd.R_lt (zT HO455.out BK447.out))) (Kd.R_lt (zT HO457.out BK447.out))) (below_size (zL HB.out))); replace HO455 := ka (Kd.R_elder' (zT HO455.out BK447.out) (Kd.R_base ho0) hb); replace HO457 := ka (Kd.R_elder' (zT HO457.out BK447.out) (Kd.R_base ho0) hb); have HO471 := ka (Kd.R_lower (Kd.R_new' (Kd.R_new' (Kd.R_newM (M := fun k_ => (w.heap.size ≤ k_)) ho1 (below_size (zL HB.out)) (fun k_ h_ => h_)) (Kd.R_lt (zT HO462.out BK447.out))) (Kd.R_lt (zT HO464.out BK447.out))) (below_size (zL HB.out))); replace HO462 := ka (Kd.R_elder' (zT HO462.out BK447.out) (Kd.R_base ho1) hb); replace HO464 := ka (Kd.R_elder' (zT HO464.out BK447.out) (Kd.R_base ho1) hb); replace BK447 := ka (blk_below (g := gb447) (o := .cells #[.int .i64 a0_0, .slice Ao16 t453.length co16, .slice Ao19 t460.length co19] 28 (0, 0)) (by (with_reducible repeat (first | refine blk_drewN ?_ _ | refine blk_drew ?_ | refine blk_alloc ?_ _)); refine blk_put (cs := #[.int .i64 a0_0, .slice Ao16 t453.length co16, .slice A0_2 l0_2.length c0_2]) ?_ 2 _ rfl; (with_reducible repeat (first | refine blk_drewN ?_ _ | refine blk_drew ?_ | refine blk_alloc ?_ _)); exact BK447.out) hb); replace BK448 := ka (zB BK448.out hb); replace BK449 := ka (zB BK449.out hb); replace HB := ka (below_step (zL HB.out) hb); (try clear hb); (try clear hb2); (try clear hk); (try clear hi); (try clear ho0); (try clear ho1); have hnb22 := NB449_448.out; have hnc22 := NB448_449.out; obtain ⟨z23_0, z23_1, z23_2, y23_0, y23_1, y23_2⟩ := zC3 BK449.out; obtain ⟨Ao24, co24, eo24⟩ := Kd.R_slice HO468.out; subst eo24; obtain ⟨Ao25, co25, eo25⟩ := Kd.R_slice HO471.out; subst eo25))
  refine bodyPost_ret (results_cell_row rfl _ _ gb449 28 #[.int .i64 t465, .slice Ao24 t466.length co24, .slice Ao25 t469.length co25] (0, 0) _ rfl (zP3 BK449.out) Tryd.underlying28 rfl (by kernel_rfl)) rfl ?_
  exact ⟨_, _, zE, Kd.V_mono (Kd.R_V (by (with_reducible repeat (first | apply Kd.R_alloc | apply Kd.R_drewN | apply Kd.R_drew)); exact Kd.R_mono (zNT HO468.out BK449.out) (fun _ hk => hk.1.1.1.1))) (fun k_ hk => by first | exact ⟨(.inr (hk.1)), hk.2⟩ | exact (.inr (hk))), Kd.V_mono (Kd.R_V (by (with_reducible repeat (first | apply Kd.R_alloc | apply Kd.R_drewN | apply Kd.R_drew)); exact Kd.R_mono (zNT HO471.out BK449.out) (fun _ hk => hk.1.1.1.1))) (fun k_ hk => by first | exact ⟨(.inr (hk.1)), hk.2⟩ | exact (.inr (hk))), zL HB.out⟩
 replace c5 := Bool.eq_false_iff.mpr c5
 subst c5
 rw [if_neg (show ¬ (false = true) by decide)] at H
 replace H := zs3 H
 obtain ⟨rfl, rfl, rfl⟩ := H
 go_enter Tryd.func19, Tryd.ntmps19
 go_wp2_with (first | ((with_reducible refine gate_dst (N := 3) rfl ?_); refine box_event ?hg (N := 3) ?hd (cs := #[.int .i64 a0_0, .slice A0_1 l0_1.length c0_1, .slice A0_2 l0_2.length c0_2]) (t := 28) ?hr ?_; (case hd => rfl); (case hg => rfl); (case hr => (go_simp; try rfl)); intro gb447 hg w26 hbox hb; replace HO0_1 := ka (Kd.V_below (Kd.V_elderB (zV HO0_1.out) gb447 (Nat.le_of_eq hg.symm)) hb); replace HO0_2 := ka (Kd.V_below (Kd.V_elderB (zV HO0_2.out) gb447 (Nat.le_of_eq hg.symm)) hb); have BK447 := ka (hbox); have GW447 := ka (zG hg (zL HB.out)); replace HB := ka (below_step (zL HB.out) hb); clear hb hbox hg) | ((with_reducible refine gate_dst (N := 4) rfl ?_); refine box_event ?hg (N := 4) ?hd (cs := #[.int .i64 a1]) (t := 3) ?hr ?_; (case hd => rfl); (case hg => rfl); (case hr => (go_simp; try rfl)); intro gb448 hg w27 hbox hb; replace HO0_1 := ka (Kd.V_below (Kd.V_elderB (zV HO0_1.out) gb448 (Nat.le_of_eq hg.symm)) hb); replace HO0_2 := ka (Kd.V_below (Kd.V_elderB (zV HO0_2.out) gb448 (Nat.le_of_eq hg.symm)) hb); have BK448 := ka (hbox); have GW448 := ka (zG hg (zL HB.out)); replace HB := ka (below_step (zL HB.out) hb); have NB447_448 := ka (zNK hg BK447.out); have NB448_447 := ka (zOK hg BK447.out); replace BK447 := ka (zB BK447.out hb); clear hb hbox hg) | ((with_reducible refine gate_dst (N := 6) rfl ?_); refine box_event ?hg (N := 6) ?hd (cs := #[.int .i64 0, .slice none 0 0, .slice none 0 0]) (t := 28) ?hr ?_; (case hd => rfl); (case hg => rfl); (case hr => (go_simp; try rfl)); intro gb449 hg w28 hbox hb; replace HO0_1 := ka (Kd.V_below (Kd.V_elderB (zV HO0_1.out) gb449 (Nat.le_of_eq hg.symm)) hb); replace HO0_2 := ka (Kd.V_below (Kd.V_elderB (zV HO0_2.out) gb449 (Nat.le_of_eq hg.symm)) hb); have BK449 := ka (hbox); have GW449 := ka (zG hg (zL HB.out)); replace HB := ka (below_step (zL HB.out) hb); have NB447_449 := ka (zNK hg BK447.out); have NB449_447 := ka (zOK hg BK447.out); replace BK447 := ka (zB BK447.out hb); have NB448_449 := ka (zNK hg BK448.out); have NB449_448 := ka (zOK hg BK448.out); replace BK448 := ka (zB BK448.out hb); clear hb hbox hg) | ((with_reducible refine gate_callee (f := 34) rfl ?_); refine goesL_ (some 8) rfl rfl Tryd.func34 (by kernel_rfl) rfl #[.int .i64 a2] rfl zA ?_; (with_reducible refine (lease_time.calls a2 false _ A4.out).mono ?_); rintro e w' ⟨rfl, ⟨nd, rfl⟩⟩; refine ⟨_, rfl, ?_⟩; (try (rw [drewN_self w28]; generalize hq_ : World.drewN w28 _ = w28; have n0_ : Aside0 (Kd.V k42 42 w28 w.heap.size (fun k_ => ((P0_1_ k_ ∨ P0_2_ k_) ∨ w.heap.size ≤ k_) ∧ k_ ≠ gb447 ∧ k_ ≠ gb448 ∧ k_ ≠ gb449) (.slice A0_1 l0_1.length c0_1) l0_1) := ⟨by rw [← hq_]; exact (by (with_reducible repeat (first | apply Kd.V_alloc | apply Kd.V_drewN | apply Kd.V_drew)); exact Kd.V_mono HO0_1.out (fun _ hk => ⟨hk.1.1.1, ⟨hk.1.1.2, ⟨hk.1.2, hk.2⟩⟩⟩))⟩; have n1_ : Aside0 (Kd.V k49 49 w28 w.heap.size (fun k_ => ((P0_1_ k_ ∨ P0_2_ k_) ∨ w.heap.size ≤ k_) ∧ k_ ≠ gb447 ∧ k_ ≠ gb448 ∧ k_ ≠ gb449) (.slice A0_2 l0_2.length c0_2) l0_2) := ⟨by rw [← hq_]; exact (by (with_reducible repeat (first | apply Kd.V_alloc | apply Kd.V_drewN | apply Kd.V_drew)); exact Kd.V_mono HO0_2.out (fun _ hk => ⟨hk.1.1.1, ⟨hk.1.1.2, ⟨hk.1.2, hk.2⟩⟩⟩))⟩; have n2_ : Aside0 (w28.heap[gb447]? = some (.cells #[.int .i64 a0_0, .slice A0_1 l0_1.length c0_1, .slice A0_2 l0_2.length c0_2] 28 (0, 0))) := ⟨by rw [← hq_]; exact (zK BK447.out)⟩; have n3_ : Aside0 (w28.heap[gb448]? = some (.cells #[.int .i64 a1] 3 (0, 0))) := ⟨by rw [← hq_]; exact (zK BK448.out)⟩; have n4_ : Aside0 (w28.heap[gb449]? = some (.cells #[.int .i64 0, .slice none 0 0, .slice none 0 0] 28 (0, 0))) := ⟨by rw [← hq_]; exact (zK BK449.out)⟩; have n5_ : Aside0 (Below w.heap.size w w28) := ⟨by rw [← hq_]; exact (zL HB.out)⟩; clear HO0_1 HO0_2 BK447 BK448 BK449 HB hq_; have HO0_1 := n0_; have HO0_2 := n1_; have BK447 := n2_; have BK448 := n3_; have BK449 := n4_; have HB := n5_; clear n0_ n1_ n2_ n3_ n4_ n5_; (try (obtain ⟨z20_0, z20_1, z20_2, y20_0, y20_1, y20_2⟩ := zC3 BK447.out)); (try (obtain ⟨z23_0, z23_1, z23_2, y23_0, y23_1, y23_2⟩ := zC3 BK449.out)))); have hnb29 := NB447_448.out; have hnc29 := NB448_447.out; have hnb30 := NB447_449.out; have hnc30 := NB449_447.out; obtain ⟨z31_0, z31_1, z31_2, y31_0, y31_1, y31_2⟩ := zC3 BK447.out; have hnb32 := NB449_448.out; have hnc32 := NB448_449.out; obtain ⟨z33_0, z33_1, z33_2, y33_0, y33_1, y33_2⟩ := zC3 BK449.out))
 refine bodyPost_ret (results_cell_row rfl _ _ gb449 28 #[.int .i64 a0_0, .slice A0_1 l0_1.length c0_1, .slice A0_2 l0_2.length c0_2] (0, 0) _ rfl (zP3 BK449.out) Tryd.underlying28 rfl (by kernel_rfl)) rfl ?_
 exact ⟨_, _, zE, by (with_reducible repeat (first | apply Kd.V_alloc | apply Kd.V_drewN | apply Kd.V_drew)); exact Kd.V_mono (zNV HO0_1.out (g := gb449) (fun _ hk => hk.2.2.2)) (fun _ hk => hk.1.1), by (with_reducible repeat (first | apply Kd.V_alloc | apply Kd.V_drewN | apply Kd.V_drew)); exact Kd.V_mono (zNV HO0_2.out (g := gb449) (fun _ hk => hk.2.2.2)) (fun _ hk => hk.1.1), zL HB.out⟩

/-! ### lease_Tick_1: function 41 -/
def lease_Tick_1.f (a0_0 : Int) (a0_1 : ByteArray) (a0_2 : Bool) (a0_3 : Int) (a0_4 : Int) (a1_0 : Int) : Option (Bool) := some (decide (a0_4 ≤ a1_0))
theorem lease_Tick_1.calls (a0_0 : Int) (a0_1 : ByteArray) (a0_2 : Bool) (a0_3 : Int) (a0_4 : Int) (g1_0 : Nat) (a1_0 : Int) (r : Bool) (w : World) (hb1_0 : w.heap[g1_0]? = some (.cells #[.int .i64 a1_0] 3 (0, 0))) (h : lease_Tick_1.f a0_0 a0_1 a0_2 a0_3 a0_4 a1_0 = some r) :
  Calls Tryd.prog 41 #[.agg #[.int .i64 a0_0, .string a0_1, .bool a0_2, .int .i64 a0_3, .int .i64 a0_4], .pointer (some ⟨g1_0, 0, none⟩)] w fun e w' => e = .returned (.bool r) ∧ Below w.heap.size w w' := by
 have hu42 := Tryd.underlying42
 have BK482 := ka hb1_0
 clear hb1_0
 have HB := ka (Below.refl w.heap.size w)
 have H : (some (decide (a0_4 ≤ a1_0))) = some r := h
 clear h
 obtain rfl := Option.some.inj H
 go_enter Tryd.func41, Tryd.ntmps41
 go_wp2_with (first | ((with_reducible refine gate_dst (N := 2) rfl ?_); refine box_event ?hg (N := 2) ?hd (cs := #[.int .i64 a0_0, .string a0_1, .bool a0_2, .int .i64 a0_3, .int .i64 a0_4]) (t := 42) ?hr ?_; (case hd => rfl); (case hg => rfl); (case hr => (go_simp; try rfl)); intro gb483 hg w3 hbox hb; have BK483 := ka (hbox); have GW483 := ka (zG hg (zL HB.out)); replace HB := ka (below_step (zL HB.out) hb); have NB482_483 := ka (zNK hg BK482.out); have NB483_482 := ka (zOK hg BK482.out); replace BK482 := ka (zB BK482.out hb); clear hb hbox hg; have hnb4 := NB483_482.out; have hnc4 := NB482_483.out; obtain ⟨z5_0, z5_1, z5_2, z5_3, z5_4, y5_0, y5_1, y5_2, y5_3, y5_4⟩ := zC5 BK483.out; obtain ⟨z6_0, y6_0⟩ := zC1 BK482.out))
 go_ret
 exact ⟨zE, zL HB.out⟩

end Go.Proofs.YtjdadmjomjhpcaaDoor.PLease
