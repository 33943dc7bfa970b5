-- Written by a program of this session (wip/tools/ext.py, over the kit's printer); not trusted: Lean checks it.
import Derived.Test.YtjdadmjomjhpcaaDoorPLeasex6
import Derived.Test.YtjdadmjomjhpcaaDoorPLeasex12
import Derived.Test.YtjdadmjomjhpcaaDoorPLeasex15
namespace Go.Proofs.YtjdadmjomjhpcaaDoor.PLease
open Go.RowKit Go.Proofs.YtjdadmjomjhpcaaDoorW.PrintWords Go.Proofs.YtjdadmjomjhpcaaDoorW.PrintLast Go.Proofs.YtjdadmjomjhpcaaDoorW.PrintMore
attribute [local go_sem] max2_int min2_int max_two min_two max_three min_three max_four min_four
set_option linter.unusedVariables false
set_option linter.unusedSimpArgs false
set_option maxHeartbeats 8000000
set_option maxRecDepth 100000

/-! ### cooperagelaw16_must: function 7 -/
mutual
def cooperagelaw16_must.j1 : Nat → Int → Int → Int → List (S45) → List (S52) → Int → List (S45) → List (S52) → Option (Int × (List (S45)) × (List (S52)) × Int × Int)
 | 0, _, _, _, _, _, _, _, _ => none
 | k + 1, x10, x11, x692000, x692001, x692002, x695000, x695001, x695002 => if x10 = 0 then (some (x695000, x695001, x695002, x11, x10)) else (some (x692000, x692001, x692002, 0, x10))
def cooperagelaw16_must.j0 : Nat → Int → Int → Int → Int → Bool → Int → List (S45) → List (S52) → Int → Int → Int → Int → Int → ByteArray → Bool → Option (Int × (List (S45)) × (List (S52)) × Int × Int)
 | 0, _, _, _, _, _, _, _, _, _, _, _, _, _, _, _ => none
 | k + 1, x2, x10, x11, x14, x31, x692000, x692001, x692002, x693000, x693001, x693002, x693003, x693004, x693005, x693006 => if x31 = true then ((cooperageref16_Give.f k x692000 x692001 x692002 x693001 x693005 x693003 x2).bind fun bt696 => (cooperagelaw16_must.j1 k bt696.2.2.2 x11 x692000 x692001 x692002 bt696.1 bt696.2.1 bt696.2.2.1)) else (if x14 = 7 then ((cooperageref16_Renew.f k x692000 x692001 x692002 x693001 x693005 x693003 x693002 x2).bind fun bt704 => (cooperagelaw16_must.j1 k bt704.2.2.2 x11 x692000 x692001 x692002 bt704.1 bt704.2.1 bt704.2.2.1)) else (if x14 = 8 then ((cooperageref16_Leave.f k x692000 x692001 x692002 x693001 x2).bind fun bt712 => (cooperagelaw16_must.j1 k x10 x11 x692000 x692001 x692002 bt712.1 bt712.2.1 bt712.2.2)) else (if x14 = 9 then ((cooperageref16_Tick.f k x692000 x692001 x692002 x2).bind fun bt719 => (cooperagelaw16_must.j1 k x10 x11 x692000 x692001 x692002 bt719.1 bt719.2.1 bt719.2.2)) else ((cooperageref16_Take.f k x692000 x692001 x692002 x693001 x693005 x693006 x693002 x2).bind fun bt726 => (cooperagelaw16_must.j1 k bt726.2.2.2.2 bt726.2.2.2.1 x692000 x692001 x692002 bt726.1 bt726.2.1 bt726.2.2.1)))))
end
def cooperagelaw16_must.f (k : Nat) (a0_0 : Int) (l0_1 : List (S45)) (l0_2 : List (S52)) (a1_0 : Int) (a1_1 : Int) (a1_2 : Int) (a1_3 : Int) (a1_4 : Int) (a1_5 : ByteArray) (a1_6 : Bool) (a2 : Int) : Option (Int × (List (S45)) × (List (S52)) × Int × Int) := (cooperagelaw16_pick.f a1_0 10).bind fun t695 => (if t695 = 5 then (cooperagelaw16_must.j0 k a2 0 0 t695 (t695 == 5) a0_0 l0_1 l0_2 a1_0 a1_1 a1_2 a1_3 a1_4 a1_5 a1_6) else (cooperagelaw16_must.j0 k a2 0 0 t695 (t695 == 6) a0_0 l0_1 l0_2 a1_0 a1_1 a1_2 a1_3 a1_4 a1_5 a1_6))
theorem cooperagelaw16_must.mono_l : ∀ k, (∀ y0 y1 y2 y3 y4 y5 y6 y7, LeO (cooperagelaw16_must.j1 k y0 y1 y2 y3 y4 y5 y6 y7) (cooperagelaw16_must.j1 (k + 1) y0 y1 y2 y3 y4 y5 y6 y7)) ∧ (∀ y0 y1 y2 y3 y4 y5 y6 y7 y8 y9 y10 y11 y12 y13 y14, LeO (cooperagelaw16_must.j0 k y0 y1 y2 y3 y4 y5 y6 y7 y8 y9 y10 y11 y12 y13 y14) (cooperagelaw16_must.j0 (k + 1) y0 y1 y2 y3 y4 y5 y6 y7 y8 y9 y10 y11 y12 y13 y14))
 | 0 => ⟨fun _ _ _ _ _ _ _ _ r h => by simp [cooperagelaw16_must.j1] at h, fun _ _ _ _ _ _ _ _ _ _ _ _ _ _ _ r h => by simp [cooperagelaw16_must.j0] at h⟩
 | k + 1 => by
  obtain ⟨ih0, ih1⟩ := cooperagelaw16_must.mono_l k
  have m0 := @cooperageref16_Give.mono
  have m1 := @cooperageref16_Leave.mono
  have m2 := @cooperageref16_Renew.mono
  have m3 := @cooperageref16_Take.mono
  have m4 := @cooperageref16_Tick.mono
  refine ⟨?_, ?_⟩
  ·intros
   unfold cooperagelaw16_must.j1
   exact zLe
  ·intros
   unfold cooperagelaw16_must.j0
   exact zLe
theorem cooperagelaw16_must.mono : ∀ a0 a1 a2 a3 a4 a5 a6 a7 a8 a9 a10 k, LeO (cooperagelaw16_must.f k a0 a1 a2 a3 a4 a5 a6 a7 a8 a9 a10) (cooperagelaw16_must.f (k + 1) a0 a1 a2 a3 a4 a5 a6 a7 a8 a9 a10) := by
 intro a0 a1 a2 a3 a4 a5 a6 a7 a8 a9 a10 k
 obtain ⟨ih0, ih1⟩ := cooperagelaw16_must.mono_l k
 unfold cooperagelaw16_must.f
 have m0 := @cooperageref16_Give.mono
 have m1 := @cooperageref16_Leave.mono
 have m2 := @cooperageref16_Renew.mono
 have m3 := @cooperageref16_Take.mono
 have m4 := @cooperageref16_Tick.mono
 exact zLe
theorem cooperagelaw16_must.calls (k : Nat) (a0_0 : Int) (P0_1_ : Nat → Prop) (A0_1 : Option Addr) (c0_1 : Nat) (l0_1 : List (S45)) (P0_2_ : Nat → Prop) (A0_2 : Option Addr) (c0_2 : Nat) (l0_2 : List (S52)) (a1_0 : Int) (a1_1 : Int) (a1_2 : Int) (a1_3 : Int) (a1_4 : Int) (a1_5 : ByteArray) (a1_6 : Bool) (a2 : Int) (r1 : Int) (r2 : List (S45)) (r3 : List (S52)) (r4 : Int) (r5 : Int) (w : World) (hs0_1 : Kd.V k45 45 w w.heap.size (fun k_ => P0_1_ k_) (.slice A0_1 l0_1.length c0_1) l0_1) (hs0_2 : Kd.V k52 52 w w.heap.size (fun k_ => P0_2_ k_) (.slice A0_2 l0_2.length c0_2) l0_2) (h : cooperagelaw16_must.f k a0_0 l0_1 l0_2 a1_0 a1_1 a1_2 a1_3 a1_4 a1_5 a1_6 a2 = some (r1, r2, r3, r4, r5)) :
  Calls Tryd.prog 7 #[.agg #[.int .i64 a0_0, .slice A0_1 l0_1.length c0_1, .slice A0_2 l0_2.length c0_2], .agg #[.int .i64 a1_0, .int .i64 a1_1, .int .i64 a1_2, .int .i64 a1_3, .int .i64 a1_4, .string a1_5, .bool a1_6], .int .i64 a2] w fun e w' => ∃ v1_ v2_ : Value, e = .returned (.tuple #[.agg #[.int .i64 r1, v1_, v2_], .int .i64 r4, .int .i64 r5]) ∧ Kd.V k45 45 w' w.heap.size (fun k_ => ((P0_1_ k_ ∨ P0_2_ k_) ∨ w.heap.size ≤ k_)) v1_ r2 ∧ Kd.V k52 52 w' w.heap.size (fun k_ => ((P0_1_ k_ ∨ P0_2_ k_) ∨ w.heap.size ≤ k_)) v2_ r3 ∧ Below w.heap.size w w' := by
 have hu32 := Tryd.underlying32
 have hu34 := Tryd.underlying34
 have hu52 := Tryd.underlying52
 have HO0_1 := ka (show Kd.V k45 45 w w.heap.size (fun k_ => ((P0_1_ k_ ∨ P0_2_ k_) ∨ w.heap.size ≤ k_)) (.slice A0_1 l0_1.length c0_1) l0_1 from Kd.V_mono hs0_1 (fun k_ hk => .inl (.inl hk)))
 have HO0_2 := ka (show Kd.V k52 52 w w.heap.size (fun k_ => ((P0_1_ k_ ∨ P0_2_ k_) ∨ w.heap.size ≤ k_)) (.slice A0_2 l0_2.length c0_2) l0_2 from Kd.V_mono hs0_2 (fun k_ hk => .inl (.inr hk)))
 have HB := ka (Below.refl w.heap.size w)
 have H : ((cooperagelaw16_pick.f a1_0 10).bind fun t695 => (if t695 = 5 then (cooperagelaw16_must.j0 k a2 0 0 t695 (t695 == 5) a0_0 l0_1 l0_2 a1_0 a1_1 a1_2 a1_3 a1_4 a1_5 a1_6) else (cooperagelaw16_must.j0 k a2 0 0 t695 (t695 == 6) a0_0 l0_1 l0_2 a1_0 a1_1 a1_2 a1_3 a1_4 a1_5 a1_6))) = some (r1, r2, r3, r4, r5) := h
 clear h
 replace H := Option.bind_eq_some_iff.mp H
 obtain ⟨t695, A40, H⟩ := H
 try dsimp only at H
 have A4 := ka A40
 clear A40
 have HC5 := ka H
 clear H
 go_enter Tryd.func7, Tryd.ntmps7
 go_upto_block 0 with (first | ((with_reducible refine gate_dst (N := 3) rfl ?_); refine box_event ?hg (N := 3) ?hd (cs := #[.int .i64 a0_0, .slice A0_1 l0_1.length c0_1, .slice A0_2 l0_2.length c0_2]) (t := 32) ?hr ?_; (case hd => rfl); (case hg => rfl); (case hr => (go_simp; try rfl)); intro gb691 hg w6 hbox hb; replace HO0_1 := ka (Kd.V_below (Kd.V_elderB (zV HO0_1.out) gb691 (Nat.le_of_eq hg.symm)) hb); replace HO0_2 := ka (Kd.V_below (Kd.V_elderB (zV HO0_2.out) gb691 (Nat.le_of_eq hg.symm)) hb); have BK691 := ka (hbox); have GW691 := ka (zG hg (zL HB.out)); replace HB := ka (below_step (zL HB.out) hb); clear hb hbox hg) | ((with_reducible refine gate_dst (N := 4) rfl ?_); refine box_event ?hg (N := 4) ?hd (cs := #[.int .i64 a1_0, .int .i64 a1_1, .int .i64 a1_2, .int .i64 a1_3, .int .i64 a1_4, .string a1_5, .bool a1_6]) (t := 34) ?hr ?_; (case hd => rfl); (case hg => rfl); (case hr => (go_simp; try rfl)); intro gb692 hg w7 hbox hb; replace HO0_1 := ka (Kd.V_below (Kd.V_elderB (zV HO0_1.out) gb692 (Nat.le_of_eq hg.symm)) hb); replace HO0_2 := ka (Kd.V_below (Kd.V_elderB (zV HO0_2.out) gb692 (Nat.le_of_eq hg.symm)) hb); have BK692 := ka (hbox); have GW692 := ka (zG hg (zL HB.out)); replace HB := ka (below_step (zL HB.out) hb); have NB691_692 := ka (zNK hg BK691.out); have NB692_691 := ka (zOK hg BK691.out); replace BK691 := ka (zB BK691.out hb); clear hb hbox hg) | ((with_reducible refine gate_dst (N := 6) rfl ?_); refine box_event ?hg (N := 6) ?hd (cs := #[.int .i64 0, .slice none 0 0, .slice none 0 0]) (t := 32) ?hr ?_; (case hd => rfl); (case hg => rfl); (case hr => (go_simp; try rfl)); intro gb693 hg w8 hbox hb; replace HO0_1 := ka (Kd.V_below (Kd.V_elderB (zV HO0_1.out) gb693 (Nat.le_of_eq hg.symm)) hb); replace HO0_2 := ka (Kd.V_below (Kd.V_elderB (zV HO0_2.out) gb693 (Nat.le_of_eq hg.symm)) hb); have BK693 := ka (hbox); have GW693 := ka (zG hg (zL HB.out)); replace HB := ka (below_step (zL HB.out) hb); have NB691_693 := ka (zNK hg BK691.out); have NB693_691 := ka (zOK hg BK691.out); replace BK691 := ka (zB BK691.out hb); have NB692_693 := ka (zNK hg BK692.out); have NB693_692 := ka (zOK hg BK692.out); replace BK692 := ka (zB BK692.out hb); clear hb hbox hg) | ((with_reducible refine gate_dst (N := 9) rfl ?_); refine box_event ?hg (N := 9) ?hd (cs := #[.int .i64 0, .slice none 0 0, .slice none 0 0]) (t := 32) ?hr ?_; (case hd => rfl); (case hg => rfl); (case hr => (go_simp; try rfl)); intro gb694 hg w9 hbox hb; replace HO0_1 := ka (Kd.V_below (Kd.V_elderB (zV HO0_1.out) gb694 (Nat.le_of_eq hg.symm)) hb); replace HO0_2 := ka (Kd.V_below (Kd.V_elderB (zV HO0_2.out) gb694 (Nat.le_of_eq hg.symm)) hb); have BK694 := ka (hbox); have GW694 := ka (zG hg (zL HB.out)); replace HB := ka (below_step (zL HB.out) hb); have NB691_694 := ka (zNK hg BK691.out); have NB694_691 := ka (zOK hg BK691.out); replace BK691 := ka (zB BK691.out hb); have NB692_694 := ka (zNK hg BK692.out); have NB694_692 := ka (zOK hg BK692.out); replace BK692 := ka (zB BK692.out hb); have NB693_694 := ka (zNK hg BK693.out); have NB694_693 := ka (zOK hg BK693.out); replace BK693 := ka (zB BK693.out hb); clear hb hbox hg; have hnb10 := NB692_691.out; have hnc10 := NB691_692.out; have hnb11 := NB692_693.out; have hnc11 := NB693_692.out; have hnb12 := NB692_694.out; have hnc12 := NB694_692.out; obtain ⟨z13_0, z13_1, z13_2, z13_3, z13_4, z13_5, z13_6, y13_0, y13_1, y13_2, y13_3, y13_4, y13_5, y13_6⟩ := zC7 BK692.out) | ((with_reducible refine gate_callee (f := 17) rfl ?_); refine goesL_ (some 14) rfl rfl Tryd.func17 (by kernel_rfl) rfl #[.int .i64 a1_0, .int .i64 10] rfl zA ?_; (with_reducible refine (cooperagelaw16_pick.calls a1_0 10 t695 _ A4.out).mono ?_); rintro e w' ⟨rfl, ⟨nd, rfl⟩⟩; refine ⟨_, rfl, ?_⟩))
 (try simp only [Act.put, List.setIfInBounds_toArray, List.set_cons_zero, List.set_cons_succ])
 go_cut [10, 11] (fun v10 v11 wc => ∃ (kq : Nat) (x10_4 : Int) (x11_4 : Int) (x695000_4 : Int) (x695001_4 : List (S45)) (x695002_4 : List (S52)) (u695001 : Value) (u695002 : Value), v10 = .int .i64 x10_4 ∧ v11 = .int .i64 x11_4 ∧ Aside0 (cooperagelaw16_must.j1 kq x10_4 x11_4 a0_0 l0_1 l0_2 x695000_4 x695001_4 x695002_4 = some (r1, r2, r3, r4, r5)) ∧ Aside0 (kq ≤ k) ∧ Aside0 (Kd.V k45 45 wc w.heap.size (fun k_ => ((P0_1_ k_ ∨ P0_2_ k_) ∨ w.heap.size ≤ k_) ∧ k_ ≠ gb691 ∧ k_ ≠ gb692 ∧ k_ ≠ gb693 ∧ k_ ≠ gb694) (.slice A0_1 l0_1.length c0_1) l0_1) ∧ Aside0 (Kd.V k52 52 wc w.heap.size (fun k_ => ((P0_1_ k_ ∨ P0_2_ k_) ∨ w.heap.size ≤ k_) ∧ k_ ≠ gb691 ∧ k_ ≠ gb692 ∧ k_ ≠ gb693 ∧ k_ ≠ gb694) (.slice A0_2 l0_2.length c0_2) l0_2) ∧ Aside0 (Kd.V k45 45 wc w.heap.size (fun k_ => ((P0_1_ k_ ∨ P0_2_ k_) ∨ w.heap.size ≤ k_) ∧ k_ ≠ gb691 ∧ k_ ≠ gb692 ∧ k_ ≠ gb693 ∧ k_ ≠ gb694) u695001 x695001_4) ∧ Aside0 (Kd.V k52 52 wc w.heap.size (fun k_ => ((P0_1_ k_ ∨ P0_2_ k_) ∨ w.heap.size ≤ k_) ∧ k_ ≠ gb691 ∧ k_ ≠ gb692 ∧ k_ ≠ gb693 ∧ k_ ≠ gb694) u695002 x695002_4) ∧ Aside0 (wc.heap[gb691]? = some (.cells #[.int .i64 a0_0, (.slice A0_1 l0_1.length c0_1), (.slice A0_2 l0_2.length c0_2)] 32 (0, 0))) ∧ Aside0 (wc.heap[gb692]? = some (.cells #[.int .i64 a1_0, .int .i64 a1_1, .int .i64 a1_2, .int .i64 a1_3, .int .i64 a1_4, .string a1_5, .bool a1_6] 34 (0, 0))) ∧ Aside0 (wc.heap[gb693]? = some (.cells #[.int .i64 0, (.slice none 0 0), (.slice none 0 0)] 32 (0, 0))) ∧ Aside0 (wc.heap[gb694]? = some (.cells #[.int .i64 x695000_4, u695001, u695002] 32 (0, 0))) ∧ Aside0 (Below w.heap.size w wc))
 case first =>
  have H := HC5.out
  clear HC5
  have HC14 := ka H
  clear H
  go_upto_if 31 with (fail)
  go_cut [31] (fun v31 wc => ∃ (kq : Nat) (x31_13 : Bool), v31 = .bool x31_13 ∧ Aside0 (cooperagelaw16_must.j0 kq a2 0 0 t695 x31_13 a0_0 l0_1 l0_2 a1_0 a1_1 a1_2 a1_3 a1_4 a1_5 a1_6 = some (r1, r2, r3, r4, r5)) ∧ Aside0 (kq ≤ k) ∧ Aside0 (Kd.V k45 45 wc w.heap.size (fun k_ => ((P0_1_ k_ ∨ P0_2_ k_) ∨ w.heap.size ≤ k_) ∧ k_ ≠ gb691 ∧ k_ ≠ gb692 ∧ k_ ≠ gb693 ∧ k_ ≠ gb694) (.slice A0_1 l0_1.length c0_1) l0_1) ∧ Aside0 (Kd.V k52 52 wc w.heap.size (fun k_ => ((P0_1_ k_ ∨ P0_2_ k_) ∨ w.heap.size ≤ k_) ∧ k_ ≠ gb691 ∧ k_ ≠ gb692 ∧ k_ ≠ gb693 ∧ k_ ≠ gb694) (.slice A0_2 l0_2.length c0_2) l0_2) ∧ Aside0 (wc.heap[gb691]? = some (.cells #[.int .i64 a0_0, (.slice A0_1 l0_1.length c0_1), (.slice A0_2 l0_2.length c0_2)] 32 (0, 0))) ∧ Aside0 (wc.heap[gb692]? = some (.cells #[.int .i64 a1_0, .int .i64 a1_1, .int .i64 a1_2, .int .i64 a1_3, .int .i64 a1_4, .string a1_5, .bool a1_6] 34 (0, 0))) ∧ Aside0 (wc.heap[gb693]? = some (.cells #[.int .i64 0, (.slice none 0 0), (.slice none 0 0)] 32 (0, 0))) ∧ Aside0 (wc.heap[gb694]? = some (.cells #[.int .i64 0, (.slice none 0 0), (.slice none 0 0)] 32 (0, 0))) ∧ Aside0 (Below w.heap.size w wc))
  case first =>
   have H := HC14.out
   clear HC14
   by_cases c15 : t695 = 5
   ·rw [if_pos c15] at H
    have c15b0 := zb0 c15
    have c15b1 := zb1 c15
    clear c15
    (first | rw [c15b0] | (simp only [i64_w, i32_w]; rw [c15b0]) | rw [isE_ c15b0] | skip)
    have H' := ka H
    clear H
    go_wp2
    go_meet
    case rel => exact ⟨_, ((t695 == 5)), zS, H', ⟨by first | omega | exact Nat.le_refl _⟩, ⟨by (with_reducible repeat (first | apply Kd.V_alloc | apply Kd.V_drewN | apply Kd.V_drew)); exact Kd.V_mono HO0_1.out (fun _ hk => ⟨hk.1.1.1.1, ⟨hk.1.1.1.2, ⟨hk.1.1.2, ⟨hk.1.2, hk.2⟩⟩⟩⟩)⟩, ⟨by (with_reducible repeat (first | apply Kd.V_alloc | apply Kd.V_drewN | apply Kd.V_drew)); exact Kd.V_mono HO0_2.out (fun _ hk => ⟨hk.1.1.1.1, ⟨hk.1.1.1.2, ⟨hk.1.1.2, ⟨hk.1.2, hk.2⟩⟩⟩⟩)⟩, ⟨zK BK691.out⟩, ⟨zK BK692.out⟩, ⟨zK BK693.out⟩, ⟨zK BK694.out⟩, ⟨zL HB.out⟩⟩
   rw [if_neg c15] at H
   have c15b0 := zn0 c15
   have c15b1 := zn1 c15
   (first | rw [c15b0] | (simp only [i64_w, i32_w]; rw [c15b0]) | rw [isE_ c15b0] | skip)
   have H' := ka H
   clear H
   go_wp2
   go_meet
   case rel => exact ⟨_, ((t695 == 6)), zS, H', ⟨by first | omega | exact Nat.le_refl _⟩, ⟨by (with_reducible repeat (first | apply Kd.V_alloc | apply Kd.V_drewN | apply Kd.V_drew)); exact Kd.V_mono HO0_1.out (fun _ hk => ⟨hk.1.1.1.1, ⟨hk.1.1.1.2, ⟨hk.1.1.2, ⟨hk.1.2, hk.2⟩⟩⟩⟩)⟩, ⟨by (with_reducible repeat (first | apply Kd.V_alloc | apply Kd.V_drewN | apply Kd.V_drew)); exact Kd.V_mono HO0_2.out (fun _ hk => ⟨hk.1.1.1.1, ⟨hk.1.1.1.2, ⟨hk.1.1.2, ⟨hk.1.2, hk.2⟩⟩⟩⟩)⟩, ⟨zK BK691.out⟩, ⟨zK BK692.out⟩, ⟨zK BK693.out⟩, ⟨zK BK694.out⟩, ⟨zL HB.out⟩⟩
  case rest =>
   clear HC14
   try clear z13_0 z13_1 z13_2 z13_3 z13_4 z13_5 z13_6
   try clear y13_0 y13_1 y13_2 y13_3 y13_4 y13_5 y13_6
   obtain ⟨kq, x31_13, rfl, HA, HJ13, HO_692001, HO_692002, BK691, BK692, BK693, BK694, HB⟩ := hcut
   cases kq with
   | zero => exact absurd HA.out (by simp [cooperagelaw16_must.j0])
   | succ kj13 =>
    have H := HA.out
    clear HA
    simp only [cooperagelaw16_must.j0] at H
    by_cases c16 : x31_13 = true
    ·subst c16
     rw [if_pos rfl] at H
     replace H := Option.bind_eq_some_iff.mp H
     obtain ⟨⟨t696, t697, t700, t703⟩, A170, H⟩ := H
     try dsimp only at H
     have A17 := ka A170
     clear A170
     have H' := ka H
     clear H
     have hnb18 := NB691_692.out
     have hnc18 := NB692_691.out
     have hnb19 := NB691_693.out
     have hnc19 := NB693_691.out
     have hnb20 := NB691_694.out
     have hnc20 := NB694_691.out
     obtain ⟨z21_0, z21_1, z21_2, y21_0, y21_1, y21_2⟩ := zC3 BK691.out
     have hnb22 := NB692_693.out
     have hnc22 := NB693_692.out
     have hnb23 := NB692_694.out
     have hnc23 := NB694_692.out
     obtain ⟨z24_0, z24_1, z24_2, z24_3, z24_4, z24_5, z24_6, y24_0, y24_1, y24_2, y24_3, y24_4, y24_5, y24_6⟩ := zC7 BK692.out
     go_wp2_with (first | ((with_reducible refine gate_callee (f := 21) rfl ?_); refine goesL_ (some 43) rfl rfl Tryd.func21 (by kernel_rfl) rfl #[.agg #[.int .i64 a0_0, .slice A0_1 l0_1.length c0_1, .slice A0_2 l0_2.length c0_2], .int .i64 a1_1, .string a1_5, .int .i64 a1_3, .int .i64 a2] rfl zA ?_; (with_reducible refine (cooperageref16_Give.calls kj13 a0_0 _ _ l0_1 _ _ l0_2 a1_1 a1_5 a1_3 a2 t696 t697 t700 t703 _ ?side1 ?side2 ?side3 ?side4 A17.out).mono ?_); (case side1 => exact zCS (Kd.V_reads' HO_692001.out).2.2); (case side2 => exact (Kd.V_reads' HO_692001.out).2.1); (case side3 => exact zCS (Kd.V_reads' HO_692002.out).2.2); (case side4 => exact (Kd.V_reads' HO_692002.out).2.1); rintro e w25 ⟨v698, v701, rfl, ho0, ho1, hb⟩; refine ⟨_, rfl, ?_⟩; replace HO_692001 := ka (Kd.V_mono (Kd.V_told (Kd.V_told (Kd.V_old (zV HO_692001.out) hb) (Kd.R_base ho0)) (Kd.R_base ho1)) (fun _ h_ => h_.1)); replace HO_692002 := ka (Kd.V_mono (Kd.V_told (Kd.V_told (Kd.V_old (zV HO_692002.out) hb) (Kd.R_base ho0)) (Kd.R_base ho1)) (fun _ h_ => h_.1)); have HO699 := ka (Kd.R_lower (Kd.R_newM (M := fun k_ => (w.heap.size ≤ k_)) ho0 (below_size (zL HB.out)) (fun k_ h_ => h_)) (below_size (zL HB.out))); have HO702 := ka (Kd.R_lower (Kd.R_newM (M := fun k_ => (w.heap.size ≤ k_)) ho1 (below_size (zL HB.out)) (fun k_ h_ => h_)) (below_size (zL HB.out))); replace BK691 := ka (zB BK691.out hb); replace BK692 := ka (zB BK692.out hb); replace BK693 := ka (zB BK693.out hb); replace BK694 := ka (zB BK694.out hb); replace HB := ka (below_step (zL HB.out) hb); (try clear hb); (try clear hb2); (try clear hk); (try clear hi); (try clear ho0); (try clear ho1); have hnb26 := NB694_693.out; have hnc26 := NB693_694.out; obtain ⟨z27_0, z27_1, z27_2, y27_0, y27_1, y27_2⟩ := zC3 BK694.out; obtain ⟨Ao28, co28, eo28⟩ := Kd.R_slice HO699.out; subst eo28; obtain ⟨Ao29, co29, eo29⟩ := Kd.R_slice HO702.out; subst eo29))
     go_meet
     case rel => exact ⟨_, (t703), (0), (t696), (t697), (t700), (.slice Ao28 t697.length co28), (.slice Ao29 t700.length co29), zS, zS, H', ⟨by have := HJ13.out; first | omega | exact Nat.le_refl _⟩, ⟨by (with_reducible repeat (first | apply Kd.V_alloc | apply Kd.V_drewN | apply Kd.V_drew)); exact Kd.V_mono (zNV HO_692001.out (g := gb694) (fun _ hk => hk.1.1.2.2.2.2)) (fun _ hk => ⟨hk.1.1.1.1, ⟨hk.1.1.1.2.1, ⟨hk.1.1.1.2.2.1, ⟨hk.1.1.1.2.2.2.1, hk.1.1.1.2.2.2.2⟩⟩⟩⟩)⟩, ⟨by (with_reducible repeat (first | apply Kd.V_alloc | apply Kd.V_drewN | apply Kd.V_drew)); exact Kd.V_mono (zNV HO_692002.out (g := gb694) (fun _ hk => hk.1.1.2.2.2.2)) (fun _ hk => ⟨hk.1.1.1.1, ⟨hk.1.1.1.2.1, ⟨hk.1.1.1.2.2.1, ⟨hk.1.1.1.2.2.2.1, hk.1.1.1.2.2.2.2⟩⟩⟩⟩)⟩, ⟨Kd.V_mono (Kd.R_V (zNT (Kd.R_types (Kd.R_types (Kd.R_types (Kd.R_types HO699.out BK691.out (by decide)) BK692.out (by decide)) BK693.out (by decide)) BK694.out (by decide)) BK694.out)) (fun k_ hk => ⟨.inr (hk.1.1.1.1.1.1), ⟨hk.1.1.1.1.2, ⟨hk.1.1.1.2, ⟨hk.1.1.2, hk.1.2⟩⟩⟩⟩)⟩, ⟨Kd.V_mono (Kd.R_V (zNT (Kd.R_types (Kd.R_types (Kd.R_types (Kd.R_types HO702.out BK691.out (by decide)) BK692.out (by decide)) BK693.out (by decide)) BK694.out (by decide)) BK694.out)) (fun k_ hk => ⟨.inr (hk.1.1.1.1.1.1), ⟨hk.1.1.1.1.2, ⟨hk.1.1.1.2, ⟨hk.1.1.2, hk.1.2⟩⟩⟩⟩)⟩, ⟨zK BK691.out⟩, ⟨zK BK692.out⟩, ⟨zK BK693.out⟩, ⟨zP3 BK694.out⟩, ⟨zL HB.out⟩⟩
    replace c16 := Bool.eq_false_iff.mpr c16
    subst c16
    rw [if_neg (show ¬ (false = true) by decide)] at H
    by_cases c30 : t695 = 7
    ·rw [if_pos c30] at H
     have c30b0 := zb0 c30
     have c30b1 := zb1 c30
     clear c30
     replace H := Option.bind_eq_some_iff.mp H
     obtain ⟨⟨t704, t705, t708, t711⟩, A310, H⟩ := H
     try dsimp only at H
     have A31 := ka A310
     clear A310
     have H' := ka H
     clear H
     have hnb32 := NB691_692.out
     have hnc32 := NB692_691.out
     have hnb33 := NB691_693.out
     have hnc33 := NB693_691.out
     have hnb34 := NB691_694.out
     have hnc34 := NB694_691.out
     obtain ⟨z35_0, z35_1, z35_2, y35_0, y35_1, y35_2⟩ := zC3 BK691.out
     have hnb36 := NB692_693.out
     have hnc36 := NB693_692.out
     have hnb37 := NB692_694.out
     have hnc37 := NB694_692.out
     obtain ⟨z38_0, z38_1, z38_2, z38_3, z38_4, z38_5, z38_6, y38_0, y38_1, y38_2, y38_3, y38_4, y38_5, y38_6⟩ := zC7 BK692.out
     go_wp2_with (first | ((with_reducible refine gate_callee (f := 22) rfl ?_); refine goesL_ (some 59) rfl rfl Tryd.func22 (by kernel_rfl) rfl #[.agg #[.int .i64 a0_0, .slice A0_1 l0_1.length c0_1, .slice A0_2 l0_2.length c0_2], .int .i64 a1_1, .string a1_5, .int .i64 a1_3, .int .i64 a1_2, .int .i64 a2] rfl zA ?_; (with_reducible refine (cooperageref16_Renew.calls kj13 a0_0 _ _ l0_1 (fun k_ => (((P0_1_ k_ ∨ P0_2_ k_) ∨ w.heap.size ≤ k_) ∧ (k_ ≠ gb691 ∧ (k_ ≠ gb692 ∧ (k_ ≠ gb693 ∧ k_ ≠ gb694))))) _ _ l0_2 a1_1 a1_5 a1_3 a1_2 a2 t704 t705 t708 t711 _ ?side1 ?side2 ?side3 A31.out).mono ?_); (case side1 => exact zCS (Kd.V_reads' HO_692001.out).2.2); (case side2 => exact (Kd.V_reads' HO_692001.out).2.1); (case side3 => exact HO_692002.out); rintro e w39 ⟨v706, v709, rfl, ho0, ho1, hb⟩; refine ⟨_, rfl, ?_⟩; replace HO_692001 := ka (Kd.V_elder' (zV HO_692001.out) (Kd.R_base ho0) hb); replace HO_692002 := ka (Kd.V_elder' (zV HO_692002.out) (Kd.R_base ho0) hb); have HO707 := ka (Kd.R_lower (Kd.R_newM (M := fun k_ => (w.heap.size ≤ k_)) (Kd.R_mono (ok' := fun k_ => True) ho0 (fun _ hk_ => trivial)) (below_size (zL HB.out)) (fun k_ h_ => h_)) (below_size (zL HB.out))); have HO710 := ka (Kd.V_lower (Kd.V_mono (ok' := fun k_ => ((P0_1_ k_ ∨ P0_2_ k_) ∨ w.heap.size ≤ k_) ∧ some k_ ≠ (v706 : Value).ownBlock ∧ k_ ≠ gb691 ∧ k_ ≠ gb692 ∧ k_ ≠ gb693 ∧ k_ ≠ gb694) ho1 (fun k_ hk_ => ⟨Or.elim hk_.1 (fun hs_ => hs_.1) (fun hn_ => (.inr (Nat.le_trans (below_size (zL HB.out)) hn_))), hk_.2, Or.elim hk_.1 (fun hs_ => hs_.2.1) (fun hn_ => (Kd.freshB (g := gb691) (o := .cells #[.int .i64 a0_0, .slice A0_1 l0_1.length c0_1, .slice A0_2 l0_2.length c0_2] 32 (0, 0)) (zK BK691.out) k_ hn_)), Or.elim hk_.1 (fun hs_ => hs_.2.2.1) (fun hn_ => (Kd.freshB (g := gb692) (o := .cells #[.int .i64 a1_0, .int .i64 a1_1, .int .i64 a1_2, .int .i64 a1_3, .int .i64 a1_4, .string a1_5, .bool a1_6] 34 (0, 0)) (zK BK692.out) k_ hn_)), Or.elim hk_.1 (fun hs_ => hs_.2.2.2.1) (fun hn_ => (Kd.freshB (g := gb693) (o := .cells #[.int .i64 0, .slice none 0 0, .slice none 0 0] 32 (0, 0)) (zK BK693.out) k_ hn_)), Or.elim hk_.1 (fun hs_ => hs_.2.2.2.2) (fun hn_ => (Kd.freshB (g := gb694) (o := .cells #[.int .i64 0, .slice none 0 0, .slice none 0 0] 32 (0, 0)) (zK BK694.out) k_ hn_))⟩)) (below_size (zL HB.out))); replace BK691 := ka (zB BK691.out hb); replace BK692 := ka (zB BK692.out hb); replace BK693 := ka (zB BK693.out hb); replace BK694 := ka (zB BK694.out hb); replace HB := ka (below_step (zL HB.out) hb); (try clear hb); (try clear hb2); (try clear hk); (try clear hi); (try clear ho0); (try clear ho1); have hnb40 := NB694_693.out; have hnc40 := NB693_694.out; obtain ⟨z41_0, z41_1, z41_2, y41_0, y41_1, y41_2⟩ := zC3 BK694.out; obtain ⟨Ao42, co42, eo42⟩ := Kd.R_slice HO707.out; subst eo42; obtain ⟨Ao43, co43, eo43⟩ := Kd.V_slice HO710.out; subst eo43))
     go_meet
     case rel => exact ⟨_, (t711), (0), (t704), (t705), (t708), (.slice Ao42 t705.length co42), (.slice Ao43 t708.length co43), zS, zS, H', ⟨by have := HJ13.out; first | omega | exact Nat.le_refl _⟩, ⟨by (with_reducible repeat (first | apply Kd.V_alloc | apply Kd.V_drewN | apply Kd.V_drew)); exact Kd.V_mono (zNV HO_692001.out (g := gb694) (fun _ hk => hk.1.2.2.2.2)) (fun _ hk => ⟨hk.1.1.1, ⟨hk.1.1.2.1, ⟨hk.1.1.2.2.1, ⟨hk.1.1.2.2.2.1, hk.1.1.2.2.2.2⟩⟩⟩⟩)⟩, ⟨by (with_reducible repeat (first | apply Kd.V_alloc | apply Kd.V_drewN | apply Kd.V_drew)); exact Kd.V_mono (zNV HO_692002.out (g := gb694) (fun _ hk => hk.1.2.2.2.2)) (fun _ hk => ⟨hk.1.1.1, ⟨hk.1.1.2.1, ⟨hk.1.1.2.2.1, ⟨hk.1.1.2.2.2.1, hk.1.1.2.2.2.2⟩⟩⟩⟩)⟩, ⟨Kd.V_mono (Kd.R_V (zNT (Kd.R_types (Kd.R_types (Kd.R_types (Kd.R_types HO707.out BK691.out (by decide)) BK692.out (by decide)) BK693.out (by decide)) BK694.out (by decide)) BK694.out)) (fun k_ hk => ⟨.inr (hk.1.1.1.1.1.1), ⟨hk.1.1.1.1.2, ⟨hk.1.1.1.2, ⟨hk.1.1.2, hk.1.2⟩⟩⟩⟩)⟩, ⟨by (with_reducible repeat (first | apply Kd.V_alloc | apply Kd.V_drewN | apply Kd.V_drew)); exact Kd.V_mono (zNV HO710.out (g := gb694) (fun _ hk => hk.2.2.2.2.2)) (fun _ hk => ⟨hk.1.1, ⟨hk.1.2.2.1, ⟨hk.1.2.2.2.1, ⟨hk.1.2.2.2.2.1, hk.1.2.2.2.2.2⟩⟩⟩⟩)⟩, ⟨zK BK691.out⟩, ⟨zK BK692.out⟩, ⟨zK BK693.out⟩, ⟨zP3 BK694.out⟩, ⟨zL HB.out⟩⟩
    rw [if_neg c30] at H
    have c30b0 := zn0 c30
    have c30b1 := zn1 c30
    by_cases c44 : t695 = 8
    ·rw [if_pos c44] at H
     have c44b0 := zb0 c44
     have c44b1 := zb1 c44
     clear c44
     replace H := Option.bind_eq_some_iff.mp H
     obtain ⟨⟨t712, t713, t716⟩, A450, H⟩ := H
     try dsimp only at H
     have A45 := ka A450
     clear A450
     have H' := ka H
     clear H
     have hnb46 := NB691_692.out
     have hnc46 := NB692_691.out
     have hnb47 := NB691_693.out
     have hnc47 := NB693_691.out
     have hnb48 := NB691_694.out
     have hnc48 := NB694_691.out
     obtain ⟨z49_0, z49_1, z49_2, y49_0, y49_1, y49_2⟩ := zC3 BK691.out
     have hnb50 := NB692_693.out
     have hnc50 := NB693_692.out
     have hnb51 := NB692_694.out
     have hnc51 := NB694_692.out
     obtain ⟨z52_0, z52_1, z52_2, z52_3, z52_4, z52_5, z52_6, y52_0, y52_1, y52_2, y52_3, y52_4, y52_5, y52_6⟩ := zC7 BK692.out
     go_wp2_with (first | ((with_reducible refine gate_callee (f := 23) rfl ?_); refine goesL_ (some 68) rfl rfl Tryd.func23 (by kernel_rfl) rfl #[.agg #[.int .i64 a0_0, .slice A0_1 l0_1.length c0_1, .slice A0_2 l0_2.length c0_2], .int .i64 a1_1, .int .i64 a2] rfl zA ?_; (with_reducible refine (cooperageref16_Leave.calls kj13 a0_0 (fun k_ => (((P0_1_ k_ ∨ P0_2_ k_) ∨ w.heap.size ≤ k_) ∧ (k_ ≠ gb691 ∧ (k_ ≠ gb692 ∧ (k_ ≠ gb693 ∧ k_ ≠ gb694))))) _ _ l0_1 (fun k_ => (((P0_1_ k_ ∨ P0_2_ k_) ∨ w.heap.size ≤ k_) ∧ (k_ ≠ gb691 ∧ (k_ ≠ gb692 ∧ (k_ ≠ gb693 ∧ k_ ≠ gb694))))) _ _ l0_2 a1_1 a2 t712 t713 t716 _ ?side1 ?side2 A45.out).mono ?_); (case side1 => exact HO_692001.out); (case side2 => exact HO_692002.out); rintro e w53 ⟨v714, v717, rfl, ho0, ho1, hb⟩; refine ⟨_, rfl, ?_⟩; replace HO_692001 := ka (Kd.V_below (zV HO_692001.out) hb); replace HO_692002 := ka (Kd.V_below (zV HO_692002.out) hb); have HO715 := ka (Kd.V_lower (Kd.V_mono (ok' := fun k_ => ((P0_1_ k_ ∨ P0_2_ k_) ∨ w.heap.size ≤ k_) ∧ k_ ≠ gb691 ∧ k_ ≠ gb692 ∧ k_ ≠ gb693 ∧ k_ ≠ gb694) ho0 (fun k_ hk_ => ⟨Or.elim hk_ (fun hs_ => Or.elim hs_ (fun hs_ => hs_.1) (fun hs_ => hs_.1)) (fun hn_ => (.inr (Nat.le_trans (below_size (zL HB.out)) hn_))), Or.elim hk_ (fun hs_ => Or.elim hs_ (fun hs_ => hs_.2.1) (fun hs_ => hs_.2.1)) (fun hn_ => (Kd.freshB (g := gb691) (o := .cells #[.int .i64 a0_0, .slice A0_1 l0_1.length c0_1, .slice A0_2 l0_2.length c0_2] 32 (0, 0)) (zK BK691.out) k_ hn_)), Or.elim hk_ (fun hs_ => Or.elim hs_ (fun hs_ => hs_.2.2.1) (fun hs_ => hs_.2.2.1)) (fun hn_ => (Kd.freshB (g := gb692) (o := .cells #[.int .i64 a1_0, .int .i64 a1_1, .int .i64 a1_2, .int .i64 a1_3, .int .i64 a1_4, .string a1_5, .bool a1_6] 34 (0, 0)) (zK BK692.out) k_ hn_)), Or.elim hk_ (fun hs_ => Or.elim hs_ (fun hs_ => hs_.2.2.2.1) (fun hs_ => hs_.2.2.2.1)) (fun hn_ => (Kd.freshB (g := gb693) (o := .cells #[.int .i64 0, .slice none 0 0, .slice none 0 0] 32 (0, 0)) (zK BK693.out) k_ hn_)), Or.elim hk_ (fun hs_ => Or.elim hs_ (fun hs_ => hs_.2.2.2.2) (fun hs_ => hs_.2.2.2.2)) (fun hn_ => (Kd.freshB (g := gb694) (o := .cells #[.int .i64 0, .slice none 0 0, .slice none 0 0] 32 (0, 0)) (zK BK694.out) k_ hn_))⟩)) (below_size (zL HB.out))); have HO718 := ka (Kd.V_lower (Kd.V_mono (ok' := fun k_ => ((P0_1_ k_ ∨ P0_2_ k_) ∨ w.heap.size ≤ k_) ∧ k_ ≠ gb691 ∧ k_ ≠ gb692 ∧ k_ ≠ gb693 ∧ k_ ≠ gb694) ho1 (fun k_ hk_ => ⟨Or.elim hk_ (fun hs_ => Or.elim hs_ (fun hs_ => hs_.1) (fun hs_ => hs_.1)) (fun hn_ => (.inr (Nat.le_trans (below_size (zL HB.out)) hn_))), Or.elim hk_ (fun hs_ => Or.elim hs_ (fun hs_ => hs_.2.1) (fun hs_ => hs_.2.1)) (fun hn_ => (Kd.freshB (g := gb691) (o := .cells #[.int .i64 a0_0, .slice A0_1 l0_1.length c0_1, .slice A0_2 l0_2.length c0_2] 32 (0, 0)) (zK BK691.out) k_ hn_)), Or.elim hk_ (fun hs_ => Or.elim hs_ (fun hs_ => hs_.2.2.1) (fun hs_ => hs_.2.2.1)) (fun hn_ => (Kd.freshB (g := gb692) (o := .cells #[.int .i64 a1_0, .int .i64 a1_1, .int .i64 a1_2, .int .i64 a1_3, .int .i64 a1_4, .string a1_5, .bool a1_6] 34 (0, 0)) (zK BK692.out) k_ hn_)), Or.elim hk_ (fun hs_ => Or.elim hs_ (fun hs_ => hs_.2.2.2.1) (fun hs_ => hs_.2.2.2.1)) (fun hn_ => (Kd.freshB (g := gb693) (o := .cells #[.int .i64 0, .slice none 0 0, .slice none 0 0] 32 (0, 0)) (zK BK693.out) k_ hn_)), Or.elim hk_ (fun hs_ => Or.elim hs_ (fun hs_ => hs_.2.2.2.2) (fun hs_ => hs_.2.2.2.2)) (fun hn_ => (Kd.freshB (g := gb694) (o := .cells #[.int .i64 0, .slice none 0 0, .slice none 0 0] 32 (0, 0)) (zK BK694.out) k_ hn_))⟩)) (below_size (zL HB.out))); replace BK691 := ka (zB BK691.out hb); replace BK692 := ka (zB BK692.out hb); replace BK693 := ka (zB BK693.out hb); replace BK694 := ka (zB BK694.out hb); replace HB := ka (below_step (zL HB.out) hb); (try clear hb); (try clear hb2); (try clear hk); (try clear hi); (try clear ho0); (try clear ho1); have hnb54 := NB694_693.out; have hnc54 := NB693_694.out; obtain ⟨z55_0, z55_1, z55_2, y55_0, y55_1, y55_2⟩ := zC3 BK694.out; obtain ⟨Ao56, co56, eo56⟩ := Kd.V_slice HO715.out; subst eo56; obtain ⟨Ao57, co57, eo57⟩ := Kd.V_slice HO718.out; subst eo57))
     go_meet
     case rel => exact ⟨_, (0), (0), (t712), (t713), (t716), (.slice Ao56 t713.length co56), (.slice Ao57 t716.length co57), zS, zS, H', ⟨by have := HJ13.out; first | omega | exact Nat.le_refl _⟩, ⟨by (with_reducible repeat (first | apply Kd.V_alloc | apply Kd.V_drewN | apply Kd.V_drew)); exact Kd.V_mono (zNV HO_692001.out (g := gb694) (fun _ hk => hk.2.2.2.2)) (fun _ hk => ⟨hk.1.1, ⟨hk.1.2.1, ⟨hk.1.2.2.1, ⟨hk.1.2.2.2.1, hk.1.2.2.2.2⟩⟩⟩⟩)⟩, ⟨by (with_reducible repeat (first | apply Kd.V_alloc | apply Kd.V_drewN | apply Kd.V_drew)); exact Kd.V_mono (zNV HO_692002.out (g := gb694) (fun _ hk => hk.2.2.2.2)) (fun _ hk => ⟨hk.1.1, ⟨hk.1.2.1, ⟨hk.1.2.2.1, ⟨hk.1.2.2.2.1, hk.1.2.2.2.2⟩⟩⟩⟩)⟩, ⟨by (with_reducible repeat (first | apply Kd.V_alloc | apply Kd.V_drewN | apply Kd.V_drew)); exact Kd.V_mono (zNV HO715.out (g := gb694) (fun _ hk => hk.2.2.2.2)) (fun _ hk => ⟨hk.1.1, ⟨hk.1.2.1, ⟨hk.1.2.2.1, ⟨hk.1.2.2.2.1, hk.1.2.2.2.2⟩⟩⟩⟩)⟩, ⟨by (with_reducible repeat (first | apply Kd.V_alloc | apply Kd.V_drewN | apply Kd.V_drew)); exact Kd.V_mono (zNV HO718.out (g := gb694) (fun _ hk => hk.2.2.2.2)) (fun _ hk => ⟨hk.1.1, ⟨hk.1.2.1, ⟨hk.1.2.2.1, ⟨hk.1.2.2.2.1, hk.1.2.2.2.2⟩⟩⟩⟩)⟩, ⟨zK BK691.out⟩, ⟨zK BK692.out⟩, ⟨zK BK693.out⟩, ⟨zP3 BK694.out⟩, ⟨zL HB.out⟩⟩
    rw [if_neg c44] at H
    have c44b0 := zn0 c44
    have c44b1 := zn1 c44
    by_cases c58 : t695 = 9
    ·rw [if_pos c58] at H
     have c58b0 := zb0 c58
     have c58b1 := zb1 c58
     clear c58
     replace H := Option.bind_eq_some_iff.mp H
     obtain ⟨⟨t719, t720, t723⟩, A590, H⟩ := H
     try dsimp only at H
     have A59 := ka A590
     clear A590
     have H' := ka H
     clear H
     have hnb60 := NB691_692.out
     have hnc60 := NB692_691.out
     have hnb61 := NB691_693.out
     have hnc61 := NB693_691.out
     have hnb62 := NB691_694.out
     have hnc62 := NB694_691.out
     obtain ⟨z63_0, z63_1, z63_2, y63_0, y63_1, y63_2⟩ := zC3 BK691.out
     go_wp2_with (first | ((with_reducible refine gate_callee (f := 24) rfl ?_); refine goesL_ (some 73) rfl rfl Tryd.func24 (by kernel_rfl) rfl #[.agg #[.int .i64 a0_0, .slice A0_1 l0_1.length c0_1, .slice A0_2 l0_2.length c0_2], .int .i64 a2] rfl zA ?_; (with_reducible refine (cooperageref16_Tick.calls kj13 a0_0 (fun k_ => (((P0_1_ k_ ∨ P0_2_ k_) ∨ w.heap.size ≤ k_) ∧ (k_ ≠ gb691 ∧ (k_ ≠ gb692 ∧ (k_ ≠ gb693 ∧ k_ ≠ gb694))))) _ _ l0_1 (fun k_ => (((P0_1_ k_ ∨ P0_2_ k_) ∨ w.heap.size ≤ k_) ∧ (k_ ≠ gb691 ∧ (k_ ≠ gb692 ∧ (k_ ≠ gb693 ∧ k_ ≠ gb694))))) _ _ l0_2 a2 t719 t720 t723 _ ?side1 ?side2 A59.out).mono ?_); (case side1 => exact HO_692001.out); (case side2 => exact HO_692002.out); rintro e w64 ⟨v721, v724, rfl, ho0, ho1, hb⟩; refine ⟨_, rfl, ?_⟩; replace HO_692001 := ka (Kd.V_below (zV HO_692001.out) hb); replace HO_692002 := ka (Kd.V_below (zV HO_692002.out) hb); have HO722 := ka (Kd.V_lower (Kd.V_mono (ok' := fun k_ => ((P0_1_ k_ ∨ P0_2_ k_) ∨ w.heap.size ≤ k_) ∧ k_ ≠ gb691 ∧ k_ ≠ gb692 ∧ k_ ≠ gb693 ∧ k_ ≠ gb694) ho0 (fun k_ hk_ => ⟨Or.elim hk_ (fun hs_ => Or.elim hs_ (fun hs_ => hs_.1) (fun hs_ => hs_.1)) (fun hn_ => (.inr (Nat.le_trans (below_size (zL HB.out)) hn_))), Or.elim hk_ (fun hs_ => Or.elim hs_ (fun hs_ => hs_.2.1) (fun hs_ => hs_.2.1)) (fun hn_ => (Kd.freshB (g := gb691) (o := .cells #[.int .i64 a0_0, .slice A0_1 l0_1.length c0_1, .slice A0_2 l0_2.length c0_2] 32 (0, 0)) (zK BK691.out) k_ hn_)), Or.elim hk_ (fun hs_ => Or.elim hs_ (fun hs_ => hs_.2.2.1) (fun hs_ => hs_.2.2.1)) (fun hn_ => (Kd.freshB (g := gb692) (o := .cells #[.int .i64 a1_0, .int .i64 a1_1, .int .i64 a1_2, .int .i64 a1_3, .int .i64 a1_4, .string a1_5, .bool a1_6] 34 (0, 0)) (zK BK692.out) k_ hn_)), Or.elim hk_ (fun hs_ => Or.elim hs_ (fun hs_ => hs_.2.2.2.1) (fun hs_ => hs_.2.2.2.1)) (fun hn_ => (Kd.freshB (g := gb693) (o := .cells #[.int .i64 0, .slice none 0 0, .slice none 0 0] 32 (0, 0)) (zK BK693.out) k_ hn_)), Or.elim hk_ (fun hs_ => Or.elim hs_ (fun hs_ => hs_.2.2.2.2) (fun hs_ => hs_.2.2.2.2)) (fun hn_ => (Kd.freshB (g := gb694) (o := .cells #[.int .i64 0, .slice none 0 0, .slice none 0 0] 32 (0, 0)) (zK BK694.out) k_ hn_))⟩)) (below_size (zL HB.out))); have HO725 := ka (Kd.V_lower (Kd.V_mono (ok' := fun k_ => ((P0_1_ k_ ∨ P0_2_ k_) ∨ w.heap.size ≤ k_) ∧ k_ ≠ gb691 ∧ k_ ≠ gb692 ∧ k_ ≠ gb693 ∧ k_ ≠ gb694) ho1 (fun k_ hk_ => ⟨Or.elim hk_ (fun hs_ => Or.elim hs_ (fun hs_ => hs_.1) (fun hs_ => hs_.1)) (fun hn_ => (.inr (Nat.le_trans (below_size (zL HB.out)) hn_))), Or.elim hk_ (fun hs_ => Or.elim hs_ (fun hs_ => hs_.2.1) (fun hs_ => hs_.2.1)) (fun hn_ => (Kd.freshB (g := gb691) (o := .cells #[.int .i64 a0_0, .slice A0_1 l0_1.length c0_1, .slice A0_2 l0_2.length c0_2] 32 (0, 0)) (zK BK691.out) k_ hn_)), Or.elim hk_ (fun hs_ => Or.elim hs_ (fun hs_ => hs_.2.2.1) (fun hs_ => hs_.2.2.1)) (fun hn_ => (Kd.freshB (g := gb692) (o := .cells #[.int .i64 a1_0, .int .i64 a1_1, .int .i64 a1_2, .int .i64 a1_3, .int .i64 a1_4, .string a1_5, .bool a1_6] 34 (0, 0)) (zK BK692.out) k_ hn_)), Or.elim hk_ (fun hs_ => Or.elim hs_ (fun hs_ => hs_.2.2.2.1) (fun hs_ => hs_.2.2.2.1)) (fun hn_ => (Kd.freshB (g := gb693) (o := .cells #[.int .i64 0, .slice none 0 0, .slice none 0 0] 32 (0, 0)) (zK BK693.out) k_ hn_)), Or.elim hk_ (fun hs_ => Or.elim hs_ (fun hs_ => hs_.2.2.2.2) (fun hs_ => hs_.2.2.2.2)) (fun hn_ => (Kd.freshB (g := gb694) (o := .cells #[.int .i64 0, .slice none 0 0, .slice none 0 0] 32 (0, 0)) (zK BK694.out) k_ hn_))⟩)) (below_size (zL HB.out))); replace BK691 := ka (zB BK691.out hb); replace BK692 := ka (zB BK692.out hb); replace BK693 := ka (zB BK693.out hb); replace BK694 := ka (zB BK694.out hb); replace HB := ka (below_step (zL HB.out) hb); (try clear hb); (try clear hb2); (try clear hk); (try clear hi); (try clear ho0); (try clear ho1); have hnb65 := NB694_692.out; have hnc65 := NB692_694.out; have hnb66 := NB694_693.out; have hnc66 := NB693_694.out; obtain ⟨z67_0, z67_1, z67_2, y67_0, y67_1, y67_2⟩ := zC3 BK694.out; obtain ⟨Ao68, co68, eo68⟩ := Kd.V_slice HO722.out; subst eo68; obtain ⟨Ao69, co69, eo69⟩ := Kd.V_slice HO725.out; subst eo69))
     go_meet
     case rel => exact ⟨_, (0), (0), (t719), (t720), (t723), (.slice Ao68 t720.length co68), (.slice Ao69 t723.length co69), zS, zS, H', ⟨by have := HJ13.out; first | omega | exact Nat.le_refl _⟩, ⟨by (with_reducible repeat (first | apply Kd.V_alloc | apply Kd.V_drewN | apply Kd.V_drew)); exact Kd.V_mono (zNV HO_692001.out (g := gb694) (fun _ hk => hk.2.2.2.2)) (fun _ hk => ⟨hk.1.1, ⟨hk.1.2.1, ⟨hk.1.2.2.1, ⟨hk.1.2.2.2.1, hk.1.2.2.2.2⟩⟩⟩⟩)⟩, ⟨by (with_reducible repeat (first | apply Kd.V_alloc | apply Kd.V_drewN | apply Kd.V_drew)); exact Kd.V_mono (zNV HO_692002.out (g := gb694) (fun _ hk => hk.2.2.2.2)) (fun _ hk => ⟨hk.1.1, ⟨hk.1.2.1, ⟨hk.1.2.2.1, ⟨hk.1.2.2.2.1, hk.1.2.2.2.2⟩⟩⟩⟩)⟩, ⟨by (with_reducible repeat (first | apply Kd.V_alloc | apply Kd.V_drewN | apply Kd.V_drew)); exact Kd.V_mono (zNV HO722.out (g := gb694) (fun _ hk => hk.2.2.2.2)) (fun _ hk => ⟨hk.1.1, ⟨hk.1.2.1, ⟨hk.1.2.2.1, ⟨hk.1.2.2.2.1, hk.1.2.2.2.2⟩⟩⟩⟩)⟩, ⟨by (with_reducible repeat (first | apply Kd.V_alloc | apply Kd.V_drewN | apply Kd.V_drew)); exact Kd.V_mono (zNV HO725.out (g := gb694) (fun _ hk => hk.2.2.2.2)) (fun _ hk => ⟨hk.1.1, ⟨hk.1.2.1, ⟨hk.1.2.2.1, ⟨hk.1.2.2.2.1, hk.1.2.2.2.2⟩⟩⟩⟩)⟩, ⟨zK BK691.out⟩, ⟨zK BK692.out⟩, ⟨zK BK693.out⟩, ⟨zP3 BK694.out⟩, ⟨zL HB.out⟩⟩
    rw [if_neg c58] at H
    have c58b0 := zn0 c58
    have c58b1 := zn1 c58
    replace H := Option.bind_eq_some_iff.mp H
    obtain ⟨⟨t726, t727, t730, t733, t734⟩, A700, H⟩ := H
    try dsimp only at H
    have A70 := ka A700
    clear A700
    have H' := ka H
    clear H
    have hnb71 := NB691_692.out
    have hnc71 := NB692_691.out
    have hnb72 := NB691_693.out
    have hnc72 := NB693_691.out
    have hnb73 := NB691_694.out
    have hnc73 := NB694_691.out
    obtain ⟨z74_0, z74_1, z74_2, y74_0, y74_1, y74_2⟩ := zC3 BK691.out
    have hnb75 := NB692_693.out
    have hnc75 := NB693_692.out
    have hnb76 := NB692_694.out
    have hnc76 := NB694_692.out
    obtain ⟨z77_0, z77_1, z77_2, z77_3, z77_4, z77_5, z77_6, y77_0, y77_1, y77_2, y77_3, y77_4, y77_5, y77_6⟩ := zC7 BK692.out
    go_wp2_with (first | ((with_reducible refine gate_callee (f := 25) rfl ?_); refine goesL_ (some 27) rfl rfl Tryd.func25 (by kernel_rfl) rfl #[.agg #[.int .i64 a0_0, .slice A0_1 l0_1.length c0_1, .slice A0_2 l0_2.length c0_2], .agg #[.int .i64 a1_1, .string a1_5, .bool a1_6, .int .i64 a1_2], .int .i64 a2] rfl zA ?_; (with_reducible refine (cooperageref16_Take.calls kj13 a0_0 _ _ l0_1 _ _ l0_2 a1_1 a1_5 a1_6 a1_2 a2 t726 t727 t730 t733 t734 _ ?side1 ?side2 ?side3 ?side4 A70.out).mono ?_); (case side1 => exact zCS (Kd.V_reads' HO_692001.out).2.2); (case side2 => exact (Kd.V_reads' HO_692001.out).2.1); (case side3 => exact zCS (Kd.V_reads' HO_692002.out).2.2); (case side4 => exact (Kd.V_reads' HO_692002.out).2.1); rintro e w78 ⟨v728, v731, rfl, ho0, ho1, hb⟩; refine ⟨_, rfl, ?_⟩; replace HO_692001 := ka (Kd.V_mono (Kd.V_told (Kd.V_told (Kd.V_old (zV HO_692001.out) hb) (Kd.R_base ho0)) (Kd.R_base ho1)) (fun _ h_ => h_.1)); replace HO_692002 := ka (Kd.V_mono (Kd.V_told (Kd.V_told (Kd.V_old (zV HO_692002.out) hb) (Kd.R_base ho0)) (Kd.R_base ho1)) (fun _ h_ => h_.1)); have HO729 := ka (Kd.R_lower (Kd.R_newM (M := fun k_ => (w.heap.size ≤ k_)) ho0 (below_size (zL HB.out)) (fun k_ h_ => h_)) (below_size (zL HB.out))); have HO732 := ka (Kd.R_lower (Kd.R_newM (M := fun k_ => (w.heap.size ≤ k_)) ho1 (below_size (zL HB.out)) (fun k_ h_ => h_)) (below_size (zL HB.out))); replace BK691 := ka (zB BK691.out hb); replace BK692 := ka (zB BK692.out hb); replace BK693 := ka (zB BK693.out hb); replace BK694 := ka (zB BK694.out hb); replace HB := ka (below_step (zL HB.out) hb); (try clear hb); (try clear hb2); (try clear hk); (try clear hi); (try clear ho0); (try clear ho1); have hnb79 := NB694_693.out; have hnc79 := NB693_694.out; obtain ⟨z80_0, z80_1, z80_2, y80_0, y80_1, y80_2⟩ := zC3 BK694.out; obtain ⟨Ao81, co81, eo81⟩ := Kd.R_slice HO729.out; subst eo81; obtain ⟨Ao82, co82, eo82⟩ := Kd.R_slice HO732.out; subst eo82))
    go_meet
    case rel => exact ⟨_, (t734), (t733), (t726), (t727), (t730), (.slice Ao81 t727.length co81), (.slice Ao82 t730.length co82), zS, zS, H', ⟨by have := HJ13.out; first | omega | exact Nat.le_refl _⟩, ⟨by (with_reducible repeat (first | apply Kd.V_alloc | apply Kd.V_drewN | apply Kd.V_drew)); exact Kd.V_mono (zNV HO_692001.out (g := gb694) (fun _ hk => hk.1.1.2.2.2.2)) (fun _ hk => ⟨hk.1.1.1.1, ⟨hk.1.1.1.2.1, ⟨hk.1.1.1.2.2.1, ⟨hk.1.1.1.2.2.2.1, hk.1.1.1.2.2.2.2⟩⟩⟩⟩)⟩, ⟨by (with_reducible repeat (first | apply Kd.V_alloc | apply Kd.V_drewN | apply Kd.V_drew)); exact Kd.V_mono (zNV HO_692002.out (g := gb694) (fun _ hk => hk.1.1.2.2.2.2)) (fun _ hk => ⟨hk.1.1.1.1, ⟨hk.1.1.1.2.1, ⟨hk.1.1.1.2.2.1, ⟨hk.1.1.1.2.2.2.1, hk.1.1.1.2.2.2.2⟩⟩⟩⟩)⟩, ⟨Kd.V_mono (Kd.R_V (zNT (Kd.R_types (Kd.R_types (Kd.R_types (Kd.R_types HO729.out BK691.out (by decide)) BK692.out (by decide)) BK693.out (by decide)) BK694.out (by decide)) BK694.out)) (fun k_ hk => ⟨.inr (hk.1.1.1.1.1.1), ⟨hk.1.1.1.1.2, ⟨hk.1.1.1.2, ⟨hk.1.1.2, hk.1.2⟩⟩⟩⟩)⟩, ⟨Kd.V_mono (Kd.R_V (zNT (Kd.R_types (Kd.R_types (Kd.R_types (Kd.R_types HO732.out BK691.out (by decide)) BK692.out (by decide)) BK693.out (by decide)) BK694.out (by decide)) BK694.out)) (fun k_ hk => ⟨.inr (hk.1.1.1.1.1.1), ⟨hk.1.1.1.1.2, ⟨hk.1.1.1.2, ⟨hk.1.1.2, hk.1.2⟩⟩⟩⟩)⟩, ⟨zK BK691.out⟩, ⟨zK BK692.out⟩, ⟨zK BK693.out⟩, ⟨zP3 BK694.out⟩, ⟨zL HB.out⟩⟩
 case rest =>
  clear HC5
  try clear z13_0 z13_1 z13_2 z13_3 z13_4 z13_5 z13_6
  try clear y13_0 y13_1 y13_2 y13_3 y13_4 y13_5 y13_6
  obtain ⟨kq, x10_4, x11_4, x695000_4, x695001_4, x695002_4, u695001, u695002, rfl, rfl, HA, HJ4, HO_692001, HO_692002, HO_695001, HO_695002, BK691, BK692, BK693, BK694, HB⟩ := hcut
  cases kq with
  | zero => exact absurd HA.out (by simp [cooperagelaw16_must.j1])
  | succ kj4 =>
   have H := HA.out
   clear HA
   simp only [cooperagelaw16_must.j1] at H
   by_cases c83 : x10_4 = 0
   ·rw [if_pos c83] at H
    have c83b0 := zb0 c83
    have c83b1 := zb1 c83
    clear c83
    replace H := zs5 H
    obtain ⟨rfl, rfl, rfl, rfl, rfl⟩ := H
    have hnb84 := NB694_691.out
    have hnc84 := NB691_694.out
    have hnb85 := NB694_692.out
    have hnc85 := NB692_694.out
    have hnb86 := NB694_693.out
    have hnc86 := NB693_694.out
    obtain ⟨z87_0, z87_1, z87_2, y87_0, y87_1, y87_2⟩ := zC3 BK694.out
    have hnb88 := NB693_691.out
    have hnc88 := NB691_693.out
    have hnb89 := NB693_692.out
    have hnc89 := NB692_693.out
    obtain ⟨z90_0, z90_1, z90_2, y90_0, y90_1, y90_2⟩ := zC3 BK693.out
    obtain ⟨Ao91, co91, eo91⟩ := Kd.V_slice HO_695001.out
    subst eo91
    obtain ⟨Ao92, co92, eo92⟩ := Kd.V_slice HO_695002.out
    subst eo92
    go_wp2
    refine bodyPost_ret (results_ctt rfl _ _ gb693 32 #[.int .i64 x695000_4, .slice Ao91 x695001_4.length co91, .slice Ao92 x695002_4.length co92] (0, 0) _ rfl (zP3 BK693.out) Tryd.underlying32 rfl (by kernel_rfl)) rfl ?_
    exact ⟨_, _, zE, by (with_reducible repeat (first | apply Kd.V_alloc | apply Kd.V_drewN | apply Kd.V_drew)); exact Kd.V_mono (zNV HO_695001.out (g := gb693) (fun _ hk => hk.2.2.2.1)) (fun _ hk => hk.1.1), by (with_reducible repeat (first | apply Kd.V_alloc | apply Kd.V_drewN | apply Kd.V_drew)); exact Kd.V_mono (zNV HO_695002.out (g := gb693) (fun _ hk => hk.2.2.2.1)) (fun _ hk => hk.1.1), zL HB.out⟩
   rw [if_neg c83] at H
   have c83b0 := zn0 c83
   have c83b1 := zn1 c83
   replace H := zs5 H
   obtain ⟨rfl, rfl, rfl, rfl, rfl⟩ := H
   have hnb93 := NB691_692.out
   have hnc93 := NB692_691.out
   have hnb94 := NB691_693.out
   have hnc94 := NB693_691.out
   have hnb95 := NB691_694.out
   have hnc95 := NB694_691.out
   obtain ⟨z96_0, z96_1, z96_2, y96_0, y96_1, y96_2⟩ := zC3 BK691.out
   have hnb97 := NB693_692.out
   have hnc97 := NB692_693.out
   have hnb98 := NB693_694.out
   have hnc98 := NB694_693.out
   obtain ⟨z99_0, z99_1, z99_2, y99_0, y99_1, y99_2⟩ := zC3 BK693.out
   go_wp2
   refine bodyPost_ret (results_ctt rfl _ _ gb693 32 #[.int .i64 a0_0, .slice A0_1 l0_1.length c0_1, .slice A0_2 l0_2.length c0_2] (0, 0) _ rfl (zP3 BK693.out) Tryd.underlying32 rfl (by kernel_rfl)) rfl ?_
   exact ⟨_, _, zE, by (with_reducible repeat (first | apply Kd.V_alloc | apply Kd.V_drewN | apply Kd.V_drew)); exact Kd.V_mono (zNV HO_692001.out (g := gb693) (fun _ hk => hk.2.2.2.1)) (fun _ hk => hk.1.1), by (with_reducible repeat (first | apply Kd.V_alloc | apply Kd.V_drewN | apply Kd.V_drew)); exact Kd.V_mono (zNV HO_692002.out (g := gb693) (fun _ hk => hk.2.2.2.1)) (fun _ hk => hk.1.1), zL HB.out⟩

end Go.Proofs.YtjdadmjomjhpcaaDoor.PLease
