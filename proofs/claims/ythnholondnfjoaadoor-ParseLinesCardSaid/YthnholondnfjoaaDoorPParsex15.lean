-- Written by a program of this session (wip/tools/ext.py, over the kit's printer); not trusted: Lean checks it.
import Derived.Test.YthnholondnfjoaaDoorPParsex0
import Derived.Test.YthnholondnfjoaaDoorPParsex2
import Derived.Test.YthnholondnfjoaaDoorPParsex7
import Derived.Test.YthnholondnfjoaaDoorPParsex8
import Derived.Test.YthnholondnfjoaaDoorPParsex9
import Derived.Test.YthnholondnfjoaaDoorPParsex10
import Derived.Test.YthnholondnfjoaaDoorPParsex14
namespace Go.Proofs.YthnholondnfjoaaDoor.PParse
open Go.RowKit Go.Proofs.YthnholondnfjoaaDoorW.PrintWords Go.Proofs.YthnholondnfjoaaDoorW.PrintLast Go.Proofs.YthnholondnfjoaaDoorW.PrintMore
attribute [local go_sem] max2_int min2_int max_two min_two max_three min_three max_four min_four   -- for this text's walks alone
set_option linter.unusedVariables false
set_option linter.unusedSimpArgs false

/-! ### cooperagelaw9_same: function 14 -/
mutual
def cooperagelaw9_same.l0 : Nat → List (S45) → List (S64) → Int → Option (Bool)
 | 0, _, _, _ => none
 | k + 1, x0, x1, x5 => if x5 < (x0.length : Int) then (if 0 ≤ x5 then (if x5 < (x1.length : Int) then (if ((rd_T45 x0 x5).f0) = ((rd_T64 x1 x5).f0) then (if ((rd_T45 x0 x5).f1) = ((rd_T64 x1 x5).f1) then (if ((rd_T45 x0 x5).f2).toList = ((rd_T64 x1 x5).f2).toList then (if ((rd_T45 x0 x5).f3).toList = ((rd_T64 x1 x5).f3).toList then (if ((rd_T45 x0 x5).f4).toList = ((rd_T64 x1 x5).f4).toList then (if ((rd_T45 x0 x5).f5).toList = ((rd_T64 x1 x5).f5).toList then (if ((rd_T45 x0 x5).f6).toList = ((rd_T64 x1 x5).f6).toList then (if ((rd_T45 x0 x5).f7).toList = ((rd_T64 x1 x5).f7).toList then (if ((rd_T45 x0 x5).f8).toList = ((rd_T64 x1 x5).f8).toList then ((cooperagelaw9_sames.f k ((rd_T45 x0 x5).f9) ((rd_T64 x1 x5).f9)).bind fun t432 => (cooperagelaw9_same.j1 k x0 x1 x5 (!t432))) else (cooperagelaw9_same.j1 k x0 x1 x5 true)) else (cooperagelaw9_same.j1 k x0 x1 x5 true)) else (cooperagelaw9_same.j1 k x0 x1 x5 true)) else (cooperagelaw9_same.j1 k x0 x1 x5 true)) else (cooperagelaw9_same.j1 k x0 x1 x5 true)) else (cooperagelaw9_same.j1 k x0 x1 x5 true)) else (cooperagelaw9_same.j1 k x0 x1 x5 true)) else (cooperagelaw9_same.j1 k x0 x1 x5 true)) else (cooperagelaw9_same.j1 k x0 x1 x5 true)) else (none)) else (none)) else (some true)
def cooperagelaw9_same.j1 : Nat → List (S45) → List (S64) → Int → Bool → Option (Bool)
 | 0, _, _, _, _ => none
 | k + 1, x0, x1, x5, x95 => if x95 = true then (some false) else (cooperagelaw9_same.l0 k x0 x1 (wrap64 (x5 + 1)))
end
def cooperagelaw9_same.f (k : Nat) (l0 : List (S45)) (l1 : List (S64)) : Option (Bool) := if (l0.length : Int) = (l1.length : Int) then (cooperagelaw9_same.l0 k l0 l1 0) else (some false)
theorem cooperagelaw9_same.mono_l : ∀ k, (∀ y0 y1 y2, LeO (cooperagelaw9_same.l0 k y0 y1 y2) (cooperagelaw9_same.l0 (k + 1) y0 y1 y2)) ∧ (∀ y0 y1 y2 y3, LeO (cooperagelaw9_same.j1 k y0 y1 y2 y3) (cooperagelaw9_same.j1 (k + 1) y0 y1 y2 y3))
 | 0 => ⟨fun _ _ _ r h => by simp [cooperagelaw9_same.l0] at h, fun _ _ _ _ r h => by simp [cooperagelaw9_same.j1] at h⟩
 | k + 1 => by
  obtain ⟨ih0, ih1⟩ := cooperagelaw9_same.mono_l k
  refine ⟨?_, ?_⟩
  ·intro y0 y1 y2
   unfold cooperagelaw9_same.l0
   repeat' first
   | (with_reducible exact ih0 _ _ _)
   | (with_reducible exact ih1 _ _ _ _)
   | (with_reducible exact cooperagelaw9_sames.mono _ _ _)
   | (with_reducible exact LeO.refl _)
   | (with_reducible exact LeO.none _)
   | (with_reducible refine LeO.ite ?_ ?_)
   | (with_reducible refine LeO.bind ?_ (fun _ => ?_))
   | exact ih0 _ _ _
   | exact ih1 _ _ _ _
   | exact cooperagelaw9_sames.mono _ _ _
   | exact LeO.none _
   | refine LeO.ite ?_ ?_
   | refine LeO.bind ?_ (fun _ => ?_)
  ·intro y0 y1 y2 y3
   unfold cooperagelaw9_same.j1
   repeat' first
   | (with_reducible exact ih0 _ _ _)
   | (with_reducible exact ih1 _ _ _ _)
   | (with_reducible exact cooperagelaw9_sames.mono _ _ _)
   | (with_reducible exact LeO.refl _)
   | (with_reducible exact LeO.none _)
   | (with_reducible refine LeO.ite ?_ ?_)
   | (with_reducible refine LeO.bind ?_ (fun _ => ?_))
   | exact ih0 _ _ _
   | exact ih1 _ _ _ _
   | exact cooperagelaw9_sames.mono _ _ _
   | exact LeO.none _
   | refine LeO.ite ?_ ?_
   | refine LeO.bind ?_ (fun _ => ?_)
theorem cooperagelaw9_same.mono : ∀ a0 a1 k, LeO (cooperagelaw9_same.f k a0 a1) (cooperagelaw9_same.f (k + 1) a0 a1) := by
 intro a0 a1 k
 obtain ⟨ih0, ih1⟩ := cooperagelaw9_same.mono_l k
 unfold cooperagelaw9_same.f
 repeat' first
   | (with_reducible exact ih0 _ _ _)
   | (with_reducible exact ih1 _ _ _ _)
   | (with_reducible exact cooperagelaw9_sames.mono _ _ _)
   | (with_reducible exact LeO.refl _)
   | (with_reducible exact LeO.none _)
   | (with_reducible refine LeO.ite ?_ ?_)
   | (with_reducible refine LeO.bind ?_ (fun _ => ?_))
   | exact ih0 _ _ _
   | exact ih1 _ _ _ _
   | exact cooperagelaw9_sames.mono _ _ _
   | exact LeO.none _
   | refine LeO.ite ?_ ?_
   | refine LeO.bind ?_ (fun _ => ?_)
set_option maxHeartbeats 8000000 in
set_option maxRecDepth 100000 in
theorem cooperagelaw9_same.calls (k : Nat) (A0 : Option Addr) (c0 : Nat) (l0 : List (S45)) (A1 : Option Addr) (c1 : Nat) (l1 : List (S64)) (r : Bool) (w : World) (hr0 : Kd.C k45 w A0 l0.length l0) (hc0 : l0.length ≤ c0) (hr1 : Kd.C k64 w A1 l1.length l1) (hc1 : l1.length ≤ c1) (h : cooperagelaw9_same.f k l0 l1 = some r) :
  Calls Tryd.prog 14 #[.slice A0 l0.length c0, .slice A1 l1.length c1] w fun e w' => e = .returned (.bool r) ∧ Below w.heap.size w w' := by
 have hu45 := Tryd.underlying45
 have hu64 := Tryd.underlying64
 have HR0 := Aside0.mk hr0
 have HC0 := Aside0.mk hc0
 clear hr0 hc0
 have HR1 := Aside0.mk hr1
 have HC1 := Aside0.mk hc1
 clear hr1 hc1
 have HB := Aside0.mk (Below.refl w.heap.size w)
 have H : (if (l0.length : Int) = (l1.length : Int) then (cooperagelaw9_same.l0 k l0 l1 0) else (some false)) = some r := h
 clear h
 by_cases c3 : (l0.length : Int) = (l1.length : Int)
 ·rw [if_pos c3] at H
  have c3b0 := beq_iff_eq.mpr c3
  have c3b1 := bne_eq_false_iff_eq.mpr c3
  have c3b2 : (l0.length == l1.length) = true := by first | simpa using c3 | (simp at c3 ⊢; omega)
  clear c3
  have H' := Aside0.mk H
  clear H
  go_enter Tryd.func14, Tryd.ntmps14
  go_wp2
  go_loopg [5] k (fun kq v5 w' => ∃ (x5_1 : Int), v5 = .int .i64 x5_1 ∧ Aside0 (cooperagelaw9_same.l0 kq l0 l1 x5_1 = some r) ∧ Aside0 (kq ≤ k) ∧ Aside0 (Below w.heap.size w w'))
  case atStart => exact ⟨(0), zS, H', ⟨Nat.le_refl _⟩, ⟨zL HB.out⟩⟩
  case round =>
   clear H'
   try clear c3
   try clear c3b0
   try clear c3b1
   try clear c3b2
   obtain ⟨x5_1, rfl, HA, HK1, HB⟩ := hrel
   cases gk with
   | zero => exact absurd HA.out (by simp [cooperagelaw9_same.l0])
   | succ k1 =>
    have H := HA.out
    clear HA
    simp only [cooperagelaw9_same.l0] at H
    by_cases c4 : x5_1 < (l0.length : Int)
    ·rw [if_pos c4] at H
     have c4b0 := decide_eq_true c4
     clear c4
     by_cases c5 : 0 ≤ x5_1
     ·rw [if_pos c5] at H
      have c5b0 := decide_eq_true c5
      clear c5
      by_cases c6 : x5_1 < (l1.length : Int)
      ·rw [if_pos c6] at H
       have c6b0 := decide_eq_true c6
       clear c6
       have HC7 := Aside0.mk H
       clear H
       have p428 : 0 ≤ (x5_1 : Int) := zD
       have q428 : x5_1 < (l0.length : Int) := zD
       obtain ⟨ad428, A428_9, c428_9, e428, hx428_0, hx428_1, hx428_2, hx428_3, hx428_4, hx428_5, hx428_6, hx428_7, hx428_8, hx428_9, hl428_9, hi428_9⟩ := at_T45 HR0.out x5_1 p428 q428
       cases e428
       replace hx428_0 := zX HB.out hx428_0
       replace hx428_1 := zX HB.out hx428_1
       replace hx428_2 := zX HB.out hx428_2
       replace hx428_3 := zX HB.out hx428_3
       replace hx428_4 := zX HB.out hx428_4
       replace hx428_5 := zX HB.out hx428_5
       replace hx428_6 := zX HB.out hx428_6
       replace hx428_7 := zX HB.out hx428_7
       replace hx428_8 := zX HB.out hx428_8
       replace hx428_9 := zX HB.out hx428_9
       have HR428_9 := Aside0.mk hi428_9
       have HC428_9 := Aside0.mk hl428_9
       clear hi428_9 hl428_9
       replace p428 := eq_true p428
       replace q428 := eq_true q428
       go_upto_region 8 with (first | ((with_reducible refine gate_dst (N := 6) rfl ?_); refine box_event ?hg (N := 6) ?hd (cs := #[.int .i64 0, .int .i64 0, .string ⟨#[]⟩, .string ⟨#[]⟩, .string ⟨#[]⟩, .string ⟨#[]⟩, .string ⟨#[]⟩, .string ⟨#[]⟩, .string ⟨#[]⟩, .slice none 0 0]) (t := 45) ?hr ?_; (case hd => rfl); (case hg => rfl); (case hr => (go_simp; try rfl)); intro gb429 hg w8 hbox hb; have BK429 := Aside0.mk (hbox); have GW429 := Aside0.mk (zG hg (zL HB.out)); have GE429 := Aside0.mk (zG hg (zL HB.out)); replace HB := Aside0.mk (below_step (zL HB.out) hb); clear hb hbox hg; obtain ⟨hcz9_0, hcz9_1, hcz9_2, hcz9_3, hcz9_4, hcz9_5, hcz9_6, hcz9_7, hcz9_8, hcz9_9, hfz9_0, hfz9_1, hfz9_2, hfz9_3, hfz9_4, hfz9_5, hfz9_6, hfz9_7, hfz9_8, hfz9_9⟩ := zC10 BK429.out; have p430 : 0 ≤ (x5_1 : Int) := zD; have q430 : x5_1 < (l1.length : Int) := zD; obtain ⟨ad430, A430_9, c430_9, e430, hx430_0, hx430_1, hx430_2, hx430_3, hx430_4, hx430_5, hx430_6, hx430_7, hx430_8, hx430_9, hl430_9, hi430_9⟩ := at_T64 HR1.out x5_1 p430 q430; cases e430; have hn430_0 : ad430.block ≠ gb429 := Nat.ne_of_lt (Nat.lt_of_lt_of_le (by have := World.block_lt_of_cell? _ _ hx430_0; first | rwa [add_block] at this | exact this) GW429.out); have hn430_1 : ad430.block ≠ gb429 := Nat.ne_of_lt (Nat.lt_of_lt_of_le (by have := World.block_lt_of_cell? _ _ hx430_0; first | rwa [add_block] at this | exact this) GW429.out); have hn430_2 : ad430.block ≠ gb429 := Nat.ne_of_lt (Nat.lt_of_lt_of_le (by have := World.block_lt_of_cell? _ _ hx430_0; first | rwa [add_block] at this | exact this) GW429.out); have hn430_3 : ad430.block ≠ gb429 := Nat.ne_of_lt (Nat.lt_of_lt_of_le (by have := World.block_lt_of_cell? _ _ hx430_0; first | rwa [add_block] at this | exact this) GW429.out); have hn430_4 : ad430.block ≠ gb429 := Nat.ne_of_lt (Nat.lt_of_lt_of_le (by have := World.block_lt_of_cell? _ _ hx430_0; first | rwa [add_block] at this | exact this) GW429.out); have hn430_5 : ad430.block ≠ gb429 := Nat.ne_of_lt (Nat.lt_of_lt_of_le (by have := World.block_lt_of_cell? _ _ hx430_0; first | rwa [add_block] at this | exact this) GW429.out); have hn430_6 : ad430.block ≠ gb429 := Nat.ne_of_lt (Nat.lt_of_lt_of_le (by have := World.block_lt_of_cell? _ _ hx430_0; first | rwa [add_block] at this | exact this) GW429.out); have hn430_7 : ad430.block ≠ gb429 := Nat.ne_of_lt (Nat.lt_of_lt_of_le (by have := World.block_lt_of_cell? _ _ hx430_0; first | rwa [add_block] at this | exact this) GW429.out); have hn430_8 : ad430.block ≠ gb429 := Nat.ne_of_lt (Nat.lt_of_lt_of_le (by have := World.block_lt_of_cell? _ _ hx430_0; first | rwa [add_block] at this | exact this) GW429.out); have hn430_9 : ad430.block ≠ gb429 := Nat.ne_of_lt (Nat.lt_of_lt_of_le (by have := World.block_lt_of_cell? _ _ hx430_0; first | rwa [add_block] at this | exact this) GW429.out); replace hx430_0 := zX HB.out hx430_0; replace hx430_1 := zX HB.out hx430_1; replace hx430_2 := zX HB.out hx430_2; replace hx430_3 := zX HB.out hx430_3; replace hx430_4 := zX HB.out hx430_4; replace hx430_5 := zX HB.out hx430_5; replace hx430_6 := zX HB.out hx430_6; replace hx430_7 := zX HB.out hx430_7; replace hx430_8 := zX HB.out hx430_8; replace hx430_9 := zX HB.out hx430_9; have HR430_9 := Aside0.mk hi430_9; have HC430_9 := Aside0.mk hl430_9; clear hi430_9 hl430_9; replace hx430_0 := zF gb429 0 (.int .i64 ((rd_T45 l0 x5_1).f0)) hn430_0 hx430_0; replace hx430_1 := zF gb429 0 (.int .i64 ((rd_T45 l0 x5_1).f0)) hn430_0 hx430_1; replace hx430_2 := zF gb429 0 (.int .i64 ((rd_T45 l0 x5_1).f0)) hn430_0 hx430_2; replace hx430_3 := zF gb429 0 (.int .i64 ((rd_T45 l0 x5_1).f0)) hn430_0 hx430_3; replace hx430_4 := zF gb429 0 (.int .i64 ((rd_T45 l0 x5_1).f0)) hn430_0 hx430_4; replace hx430_5 := zF gb429 0 (.int .i64 ((rd_T45 l0 x5_1).f0)) hn430_0 hx430_5; replace hx430_6 := zF gb429 0 (.int .i64 ((rd_T45 l0 x5_1).f0)) hn430_0 hx430_6; replace hx430_7 := zF gb429 0 (.int .i64 ((rd_T45 l0 x5_1).f0)) hn430_0 hx430_7; replace hx430_8 := zF gb429 0 (.int .i64 ((rd_T45 l0 x5_1).f0)) hn430_0 hx430_8; replace hx430_9 := zF gb429 0 (.int .i64 ((rd_T45 l0 x5_1).f0)) hn430_0 hx430_9; replace hx430_0 := zF gb429 1 (.int .i64 ((rd_T45 l0 x5_1).f1)) hn430_1 hx430_0; replace hx430_1 := zF gb429 1 (.int .i64 ((rd_T45 l0 x5_1).f1)) hn430_1 hx430_1; replace hx430_2 := zF gb429 1 (.int .i64 ((rd_T45 l0 x5_1).f1)) hn430_1 hx430_2; replace hx430_3 := zF gb429 1 (.int .i64 ((rd_T45 l0 x5_1).f1)) hn430_1 hx430_3; replace hx430_4 := zF gb429 1 (.int .i64 ((rd_T45 l0 x5_1).f1)) hn430_1 hx430_4; replace hx430_5 := zF gb429 1 (.int .i64 ((rd_T45 l0 x5_1).f1)) hn430_1 hx430_5; replace hx430_6 := zF gb429 1 (.int .i64 ((rd_T45 l0 x5_1).f1)) hn430_1 hx430_6; replace hx430_7 := zF gb429 1 (.int .i64 ((rd_T45 l0 x5_1).f1)) hn430_1 hx430_7; replace hx430_8 := zF gb429 1 (.int .i64 ((rd_T45 l0 x5_1).f1)) hn430_1 hx430_8; replace hx430_9 := zF gb429 1 (.int .i64 ((rd_T45 l0 x5_1).f1)) hn430_1 hx430_9; replace hx430_0 := zF gb429 2 (.string ((rd_T45 l0 x5_1).f2)) hn430_2 hx430_0; replace hx430_1 := zF gb429 2 (.string ((rd_T45 l0 x5_1).f2)) hn430_2 hx430_1; replace hx430_2 := zF gb429 2 (.string ((rd_T45 l0 x5_1).f2)) hn430_2 hx430_2; replace hx430_3 := zF gb429 2 (.string ((rd_T45 l0 x5_1).f2)) hn430_2 hx430_3; replace hx430_4 := zF gb429 2 (.string ((rd_T45 l0 x5_1).f2)) hn430_2 hx430_4; replace hx430_5 := zF gb429 2 (.string ((rd_T45 l0 x5_1).f2)) hn430_2 hx430_5; replace hx430_6 := zF gb429 2 (.string ((rd_T45 l0 x5_1).f2)) hn430_2 hx430_6; replace hx430_7 := zF gb429 2 (.string ((rd_T45 l0 x5_1).f2)) hn430_2 hx430_7; replace hx430_8 := zF gb429 2 (.string ((rd_T45 l0 x5_1).f2)) hn430_2 hx430_8; replace hx430_9 := zF gb429 2 (.string ((rd_T45 l0 x5_1).f2)) hn430_2 hx430_9; replace hx430_0 := zF gb429 3 (.string ((rd_T45 l0 x5_1).f3)) hn430_3 hx430_0; replace hx430_1 := zF gb429 3 (.string ((rd_T45 l0 x5_1).f3)) hn430_3 hx430_1; replace hx430_2 := zF gb429 3 (.string ((rd_T45 l0 x5_1).f3)) hn430_3 hx430_2; replace hx430_3 := zF gb429 3 (.string ((rd_T45 l0 x5_1).f3)) hn430_3 hx430_3; replace hx430_4 := zF gb429 3 (.string ((rd_T45 l0 x5_1).f3)) hn430_3 hx430_4; replace hx430_5 := zF gb429 3 (.string ((rd_T45 l0 x5_1).f3)) hn430_3 hx430_5; replace hx430_6 := zF gb429 3 (.string ((rd_T45 l0 x5_1).f3)) hn430_3 hx430_6; replace hx430_7 := zF gb429 3 (.string ((rd_T45 l0 x5_1).f3)) hn430_3 hx430_7; replace hx430_8 := zF gb429 3 (.string ((rd_T45 l0 x5_1).f3)) hn430_3 hx430_8; replace hx430_9 := zF gb429 3 (.string ((rd_T45 l0 x5_1).f3)) hn430_3 hx430_9; replace hx430_0 := zF gb429 4 (.string ((rd_T45 l0 x5_1).f4)) hn430_4 hx430_0; replace hx430_1 := zF gb429 4 (.string ((rd_T45 l0 x5_1).f4)) hn430_4 hx430_1; replace hx430_2 := zF gb429 4 (.string ((rd_T45 l0 x5_1).f4)) hn430_4 hx430_2; replace hx430_3 := zF gb429 4 (.string ((rd_T45 l0 x5_1).f4)) hn430_4 hx430_3; replace hx430_4 := zF gb429 4 (.string ((rd_T45 l0 x5_1).f4)) hn430_4 hx430_4; replace hx430_5 := zF gb429 4 (.string ((rd_T45 l0 x5_1).f4)) hn430_4 hx430_5; replace hx430_6 := zF gb429 4 (.string ((rd_T45 l0 x5_1).f4)) hn430_4 hx430_6; replace hx430_7 := zF gb429 4 (.string ((rd_T45 l0 x5_1).f4)) hn430_4 hx430_7; replace hx430_8 := zF gb429 4 (.string ((rd_T45 l0 x5_1).f4)) hn430_4 hx430_8; replace hx430_9 := zF gb429 4 (.string ((rd_T45 l0 x5_1).f4)) hn430_4 hx430_9; replace hx430_0 := zF gb429 5 (.string ((rd_T45 l0 x5_1).f5)) hn430_5 hx430_0; replace hx430_1 := zF gb429 5 (.string ((rd_T45 l0 x5_1).f5)) hn430_5 hx430_1; replace hx430_2 := zF gb429 5 (.string ((rd_T45 l0 x5_1).f5)) hn430_5 hx430_2; replace hx430_3 := zF gb429 5 (.string ((rd_T45 l0 x5_1).f5)) hn430_5 hx430_3; replace hx430_4 := zF gb429 5 (.string ((rd_T45 l0 x5_1).f5)) hn430_5 hx430_4; replace hx430_5 := zF gb429 5 (.string ((rd_T45 l0 x5_1).f5)) hn430_5 hx430_5; replace hx430_6 := zF gb429 5 (.string ((rd_T45 l0 x5_1).f5)) hn430_5 hx430_6; replace hx430_7 := zF gb429 5 (.string ((rd_T45 l0 x5_1).f5)) hn430_5 hx430_7; replace hx430_8 := zF gb429 5 (.string ((rd_T45 l0 x5_1).f5)) hn430_5 hx430_8; replace hx430_9 := zF gb429 5 (.string ((rd_T45 l0 x5_1).f5)) hn430_5 hx430_9; replace hx430_0 := zF gb429 6 (.string ((rd_T45 l0 x5_1).f6)) hn430_6 hx430_0; replace hx430_1 := zF gb429 6 (.string ((rd_T45 l0 x5_1).f6)) hn430_6 hx430_1; replace hx430_2 := zF gb429 6 (.string ((rd_T45 l0 x5_1).f6)) hn430_6 hx430_2; replace hx430_3 := zF gb429 6 (.string ((rd_T45 l0 x5_1).f6)) hn430_6 hx430_3; replace hx430_4 := zF gb429 6 (.string ((rd_T45 l0 x5_1).f6)) hn430_6 hx430_4; replace hx430_5 := zF gb429 6 (.string ((rd_T45 l0 x5_1).f6)) hn430_6 hx430_5; replace hx430_6 := zF gb429 6 (.string ((rd_T45 l0 x5_1).f6)) hn430_6 hx430_6; replace hx430_7 := zF gb429 6 (.string ((rd_T45 l0 x5_1).f6)) hn430_6 hx430_7; replace hx430_8 := zF gb429 6 (.string ((rd_T45 l0 x5_1).f6)) hn430_6 hx430_8; replace hx430_9 := zF gb429 6 (.string ((rd_T45 l0 x5_1).f6)) hn430_6 hx430_9; replace hx430_0 := zF gb429 7 (.string ((rd_T45 l0 x5_1).f7)) hn430_7 hx430_0; replace hx430_1 := zF gb429 7 (.string ((rd_T45 l0 x5_1).f7)) hn430_7 hx430_1; replace hx430_2 := zF gb429 7 (.string ((rd_T45 l0 x5_1).f7)) hn430_7 hx430_2; replace hx430_3 := zF gb429 7 (.string ((rd_T45 l0 x5_1).f7)) hn430_7 hx430_3; replace hx430_4 := zF gb429 7 (.string ((rd_T45 l0 x5_1).f7)) hn430_7 hx430_4; replace hx430_5 := zF gb429 7 (.string ((rd_T45 l0 x5_1).f7)) hn430_7 hx430_5; replace hx430_6 := zF gb429 7 (.string ((rd_T45 l0 x5_1).f7)) hn430_7 hx430_6; replace hx430_7 := zF gb429 7 (.string ((rd_T45 l0 x5_1).f7)) hn430_7 hx430_7; replace hx430_8 := zF gb429 7 (.string ((rd_T45 l0 x5_1).f7)) hn430_7 hx430_8; replace hx430_9 := zF gb429 7 (.string ((rd_T45 l0 x5_1).f7)) hn430_7 hx430_9; replace hx430_0 := zF gb429 8 (.string ((rd_T45 l0 x5_1).f8)) hn430_8 hx430_0; replace hx430_1 := zF gb429 8 (.string ((rd_T45 l0 x5_1).f8)) hn430_8 hx430_1; replace hx430_2 := zF gb429 8 (.string ((rd_T45 l0 x5_1).f8)) hn430_8 hx430_2; replace hx430_3 := zF gb429 8 (.string ((rd_T45 l0 x5_1).f8)) hn430_8 hx430_3; replace hx430_4 := zF gb429 8 (.string ((rd_T45 l0 x5_1).f8)) hn430_8 hx430_4; replace hx430_5 := zF gb429 8 (.string ((rd_T45 l0 x5_1).f8)) hn430_8 hx430_5; replace hx430_6 := zF gb429 8 (.string ((rd_T45 l0 x5_1).f8)) hn430_8 hx430_6; replace hx430_7 := zF gb429 8 (.string ((rd_T45 l0 x5_1).f8)) hn430_8 hx430_7; replace hx430_8 := zF gb429 8 (.string ((rd_T45 l0 x5_1).f8)) hn430_8 hx430_8; replace hx430_9 := zF gb429 8 (.string ((rd_T45 l0 x5_1).f8)) hn430_8 hx430_9; replace hx430_0 := zF gb429 9 (.slice A428_9 ((rd_T45 l0 x5_1).f9).length c428_9) hn430_9 hx430_0; replace hx430_1 := zF gb429 9 (.slice A428_9 ((rd_T45 l0 x5_1).f9).length c428_9) hn430_9 hx430_1; replace hx430_2 := zF gb429 9 (.slice A428_9 ((rd_T45 l0 x5_1).f9).length c428_9) hn430_9 hx430_2; replace hx430_3 := zF gb429 9 (.slice A428_9 ((rd_T45 l0 x5_1).f9).length c428_9) hn430_9 hx430_3; replace hx430_4 := zF gb429 9 (.slice A428_9 ((rd_T45 l0 x5_1).f9).length c428_9) hn430_9 hx430_4; replace hx430_5 := zF gb429 9 (.slice A428_9 ((rd_T45 l0 x5_1).f9).length c428_9) hn430_9 hx430_5; replace hx430_6 := zF gb429 9 (.slice A428_9 ((rd_T45 l0 x5_1).f9).length c428_9) hn430_9 hx430_6; replace hx430_7 := zF gb429 9 (.slice A428_9 ((rd_T45 l0 x5_1).f9).length c428_9) hn430_9 hx430_7; replace hx430_8 := zF gb429 9 (.slice A428_9 ((rd_T45 l0 x5_1).f9).length c428_9) hn430_9 hx430_8; replace hx430_9 := zF gb429 9 (.slice A428_9 ((rd_T45 l0 x5_1).f9).length c428_9) hn430_9 hx430_9; clear hn430_0; clear hn430_1; clear hn430_2; clear hn430_3; clear hn430_4; clear hn430_5; clear hn430_6; clear hn430_7; clear hn430_8; clear hn430_9; replace p430 := eq_true p430; replace q430 := eq_true q430) | ((with_reducible refine gate_dst (N := 7) rfl ?_); refine box_event ?hg (N := 7) ?hd (cs := #[.int .i64 0, .int .i64 0, .string ⟨#[]⟩, .string ⟨#[]⟩, .string ⟨#[]⟩, .string ⟨#[]⟩, .string ⟨#[]⟩, .string ⟨#[]⟩, .string ⟨#[]⟩, .slice none 0 0]) (t := 64) ?hr ?_; (case hd => rfl); (case hg => rfl); (case hr => (go_simp; try rfl)); intro gb431 hg w10 hbox hb; have BK431 := Aside0.mk (hbox); have GW431 := Aside0.mk (zG hg (zL HB.out)); have GE431 := Aside0.mk (zG hg (zL HB.out)); replace HB := Aside0.mk (below_step (zL HB.out) hb); have NB429_431 := Aside0.mk ((by rw [hg]; exact Nat.ne_of_lt (blk_lt (g := gb429) (o := .cells #[.int .i64 ((rd_T45 l0 x5_1).f0), .int .i64 ((rd_T45 l0 x5_1).f1), .string ((rd_T45 l0 x5_1).f2), .string ((rd_T45 l0 x5_1).f3), .string ((rd_T45 l0 x5_1).f4), .string ((rd_T45 l0 x5_1).f5), .string ((rd_T45 l0 x5_1).f6), .string ((rd_T45 l0 x5_1).f7), .string ((rd_T45 l0 x5_1).f8), .slice A428_9 ((rd_T45 l0 x5_1).f9).length c428_9] 45 (0, 0)) (zP10 BK429.out)) : gb429 ≠ gb431)); have NB431_429 := Aside0.mk ((by rw [hg]; exact Nat.ne_of_gt (blk_lt (g := gb429) (o := .cells #[.int .i64 ((rd_T45 l0 x5_1).f0), .int .i64 ((rd_T45 l0 x5_1).f1), .string ((rd_T45 l0 x5_1).f2), .string ((rd_T45 l0 x5_1).f3), .string ((rd_T45 l0 x5_1).f4), .string ((rd_T45 l0 x5_1).f5), .string ((rd_T45 l0 x5_1).f6), .string ((rd_T45 l0 x5_1).f7), .string ((rd_T45 l0 x5_1).f8), .slice A428_9 ((rd_T45 l0 x5_1).f9).length c428_9] 45 (0, 0)) (zP10 BK429.out)) : gb431 ≠ gb429)); replace BK429 := Aside0.mk (blk_below (g := gb429) (o := .cells #[.int .i64 ((rd_T45 l0 x5_1).f0), .int .i64 ((rd_T45 l0 x5_1).f1), .string ((rd_T45 l0 x5_1).f2), .string ((rd_T45 l0 x5_1).f3), .string ((rd_T45 l0 x5_1).f4), .string ((rd_T45 l0 x5_1).f5), .string ((rd_T45 l0 x5_1).f6), .string ((rd_T45 l0 x5_1).f7), .string ((rd_T45 l0 x5_1).f8), .slice A428_9 ((rd_T45 l0 x5_1).f9).length c428_9] 45 (0, 0)) (zP10 BK429.out) hb); clear hb hbox hg; have hnb11 := NB431_429.out; have hnc11 := NB429_431.out; obtain ⟨hcz12_0, hcz12_1, hcz12_2, hcz12_3, hcz12_4, hcz12_5, hcz12_6, hcz12_7, hcz12_8, hcz12_9, hfz12_0, hfz12_1, hfz12_2, hfz12_3, hfz12_4, hfz12_5, hfz12_6, hfz12_7, hfz12_8, hfz12_9⟩ := zC10 BK431.out))
       (try simp only [Act.put, List.setIfInBounds_toArray, List.set_cons_zero, List.set_cons_succ])
       go_cut [95] (fun v95 wc => ∃ (kq : Nat) (x95_6 : Bool), v95 = .bool x95_6 ∧ Aside0 (cooperagelaw9_same.j1 kq l0 l1 x5_1 x95_6 = some r) ∧ Aside0 (kq ≤ k1) ∧ Aside0 (wc.heap[gb429]? = some (.cells #[.int .i64 ((rd_T45 l0 x5_1).f0), .int .i64 ((rd_T45 l0 x5_1).f1), .string ((rd_T45 l0 x5_1).f2), .string ((rd_T45 l0 x5_1).f3), .string ((rd_T45 l0 x5_1).f4), .string ((rd_T45 l0 x5_1).f5), .string ((rd_T45 l0 x5_1).f6), .string ((rd_T45 l0 x5_1).f7), .string ((rd_T45 l0 x5_1).f8), (.slice A428_9 ((rd_T45 l0 x5_1).f9).length c428_9)] 45 (0, 0))) ∧ Aside0 (wc.heap[gb431]? = some (.cells #[.int .i64 ((rd_T64 l1 x5_1).f0), .int .i64 ((rd_T64 l1 x5_1).f1), .string ((rd_T64 l1 x5_1).f2), .string ((rd_T64 l1 x5_1).f3), .string ((rd_T64 l1 x5_1).f4), .string ((rd_T64 l1 x5_1).f5), .string ((rd_T64 l1 x5_1).f6), .string ((rd_T64 l1 x5_1).f7), .string ((rd_T64 l1 x5_1).f8), (.slice A430_9 ((rd_T64 l1 x5_1).f9).length c430_9)] 64 (0, 0))) ∧ Aside0 (Below w.heap.size w wc))
       case first =>
        have H := HC7.out
        clear HC7
        by_cases c13 : ((rd_T45 l0 x5_1).f0) = ((rd_T64 l1 x5_1).f0)
        case neg =>
         rw [if_neg c13] at H
         have c13b0 := beq_eq_false_iff_ne.mpr c13
         have c13b1 := bne_iff_ne.mpr c13
         (first | rw [c13b0] | (simp only [i64_w, i32_w]; rw [c13b0]) | rw [isE_ c13b0] | skip)
         have H' := Aside0.mk H
         clear H
         have hnb50 := NB429_431.out
         have hnc50 := NB431_429.out
         obtain ⟨hcz51_0, hcz51_1, hcz51_2, hcz51_3, hcz51_4, hcz51_5, hcz51_6, hcz51_7, hcz51_8, hcz51_9, hfz51_0, hfz51_1, hfz51_2, hfz51_3, hfz51_4, hfz51_5, hfz51_6, hfz51_7, hfz51_8, hfz51_9⟩ := zC10 BK429.out
         obtain ⟨hcz52_0, hcz52_1, hcz52_2, hcz52_3, hcz52_4, hcz52_5, hcz52_6, hcz52_7, hcz52_8, hcz52_9, hfz52_0, hfz52_1, hfz52_2, hfz52_3, hfz52_4, hfz52_5, hfz52_6, hfz52_7, hfz52_8, hfz52_9⟩ := zC10 BK431.out
         go_wp2
         go_meet
         case rel => exact ⟨_, (true), zS, H', ⟨by have := HK1.out; first | omega | exact Nat.le_refl _⟩, ⟨zK BK429.out⟩, ⟨zP10 BK431.out⟩, ⟨zL HB.out⟩⟩
        case' pos =>
         rw [if_pos c13] at H
         have c13b0 := beq_iff_eq.mpr c13
         have c13b1 := bne_eq_false_iff_eq.mpr c13
         clear c13
         (first | rw [c13b0] | (simp only [i64_w, i32_w]; rw [c13b0]) | rw [isE_ c13b0] | skip)
         by_cases c14 : ((rd_T45 l0 x5_1).f1) = ((rd_T64 l1 x5_1).f1)
         case' neg =>
          rw [if_neg c14] at H
          have c14b0 := beq_eq_false_iff_ne.mpr c14
          have c14b1 := bne_iff_ne.mpr c14
         case' pos =>
          rw [if_pos c14] at H
          have c14b0 := beq_iff_eq.mpr c14
          have c14b1 := bne_eq_false_iff_eq.mpr c14
          clear c14
          by_cases c15 : ((rd_T45 l0 x5_1).f2).toList = ((rd_T64 l1 x5_1).f2).toList
          case' neg =>
           rw [if_neg c15] at H
           have c15b0 := beq_eq_false_iff_ne.mpr c15
           have c15b1 := bne_iff_ne.mpr c15
          case' pos =>
           rw [if_pos c15] at H
           have c15b0 := beq_iff_eq.mpr c15
           have c15b1 := bne_eq_false_iff_eq.mpr c15
           clear c15
           by_cases c16 : ((rd_T45 l0 x5_1).f3).toList = ((rd_T64 l1 x5_1).f3).toList
           case' neg =>
            rw [if_neg c16] at H
            have c16b0 := beq_eq_false_iff_ne.mpr c16
            have c16b1 := bne_iff_ne.mpr c16
           case' pos =>
            rw [if_pos c16] at H
            have c16b0 := beq_iff_eq.mpr c16
            have c16b1 := bne_eq_false_iff_eq.mpr c16
            clear c16
            by_cases c17 : ((rd_T45 l0 x5_1).f4).toList = ((rd_T64 l1 x5_1).f4).toList
            case' neg =>
             rw [if_neg c17] at H
             have c17b0 := beq_eq_false_iff_ne.mpr c17
             have c17b1 := bne_iff_ne.mpr c17
            case' pos =>
             rw [if_pos c17] at H
             have c17b0 := beq_iff_eq.mpr c17
             have c17b1 := bne_eq_false_iff_eq.mpr c17
             clear c17
             by_cases c18 : ((rd_T45 l0 x5_1).f5).toList = ((rd_T64 l1 x5_1).f5).toList
             case' neg =>
              rw [if_neg c18] at H
              have c18b0 := beq_eq_false_iff_ne.mpr c18
              have c18b1 := bne_iff_ne.mpr c18
             case' pos =>
              rw [if_pos c18] at H
              have c18b0 := beq_iff_eq.mpr c18
              have c18b1 := bne_eq_false_iff_eq.mpr c18
              clear c18
              by_cases c19 : ((rd_T45 l0 x5_1).f6).toList = ((rd_T64 l1 x5_1).f6).toList
              case' neg =>
               rw [if_neg c19] at H
               have c19b0 := beq_eq_false_iff_ne.mpr c19
               have c19b1 := bne_iff_ne.mpr c19
              case' pos =>
               rw [if_pos c19] at H
               have c19b0 := beq_iff_eq.mpr c19
               have c19b1 := bne_eq_false_iff_eq.mpr c19
               clear c19
               by_cases c20 : ((rd_T45 l0 x5_1).f7).toList = ((rd_T64 l1 x5_1).f7).toList
               case' neg =>
                rw [if_neg c20] at H
                have c20b0 := beq_eq_false_iff_ne.mpr c20
                have c20b1 := bne_iff_ne.mpr c20
               case' pos =>
                rw [if_pos c20] at H
                have c20b0 := beq_iff_eq.mpr c20
                have c20b1 := bne_eq_false_iff_eq.mpr c20
                clear c20
                by_cases c21 : ((rd_T45 l0 x5_1).f8).toList = ((rd_T64 l1 x5_1).f8).toList
                case pos =>
                 rw [if_pos c21] at H
                 have c21b0 := beq_iff_eq.mpr c21
                 have c21b1 := bne_eq_false_iff_eq.mpr c21
                 clear c21
                 replace H := Option.bind_eq_some_iff.mp H
                 obtain ⟨t432, A220, H⟩ := H
                 try dsimp only at H
                 have A22 := Aside0.mk A220
                 clear A220
                 have H' := Aside0.mk H
                 clear H
                 have hnb23 := NB429_431.out
                 have hnc23 := NB431_429.out
                 obtain ⟨hcz24_0, hcz24_1, hcz24_2, hcz24_3, hcz24_4, hcz24_5, hcz24_6, hcz24_7, hcz24_8, hcz24_9, hfz24_0, hfz24_1, hfz24_2, hfz24_3, hfz24_4, hfz24_5, hfz24_6, hfz24_7, hfz24_8, hfz24_9⟩ := zC10 BK429.out
                 obtain ⟨hcz25_0, hcz25_1, hcz25_2, hcz25_3, hcz25_4, hcz25_5, hcz25_6, hcz25_7, hcz25_8, hcz25_9, hfz25_0, hfz25_1, hfz25_2, hfz25_3, hfz25_4, hfz25_5, hfz25_6, hfz25_7, hfz25_8, hfz25_9⟩ := zC10 BK431.out
                 go_wp2_with (first | (go_at_call 19; (with_reducible refine (cooperagelaw9_sames.calls k1 _ _ ((rd_T45 l0 x5_1).f9) _ _ ((rd_T64 l1 x5_1).f9) t432 _ ?side1 ?side2 ?side3 ?side4 A22.out).mono ?_); (case side1 => exact Kd.C_below HR428_9.out (zL HB.out)); (case side2 => exact HC428_9.out); (case side3 => exact Kd.C_below HR430_9.out (zL HB.out)); (case side4 => exact HC430_9.out); rintro e w' ⟨rfl, ⟨nd, rfl⟩⟩))
                 go_meet
                 case rel => exact ⟨_, (!t432), zS, H', ⟨by have := HK1.out; first | omega | exact Nat.le_refl _⟩, ⟨zK BK429.out⟩, ⟨zP10 BK431.out⟩, ⟨zL HB.out⟩⟩
                case' neg =>
                 rw [if_neg c21] at H
                 have c21b0 := beq_eq_false_iff_ne.mpr c21
                 have c21b1 := bne_iff_ne.mpr c21
        all_goals
         have H' := Aside0.mk H
         clear H
         have hnb26 := NB429_431.out
         have hnc26 := NB431_429.out
         obtain ⟨hcz27_0, hcz27_1, hcz27_2, hcz27_3, hcz27_4, hcz27_5, hcz27_6, hcz27_7, hcz27_8, hcz27_9, hfz27_0, hfz27_1, hfz27_2, hfz27_3, hfz27_4, hfz27_5, hfz27_6, hfz27_7, hfz27_8, hfz27_9⟩ := zC10 BK429.out
         obtain ⟨hcz28_0, hcz28_1, hcz28_2, hcz28_3, hcz28_4, hcz28_5, hcz28_6, hcz28_7, hcz28_8, hcz28_9, hfz28_0, hfz28_1, hfz28_2, hfz28_3, hfz28_4, hfz28_5, hfz28_6, hfz28_7, hfz28_8, hfz28_9⟩ := zC10 BK431.out
         go_wp2
         go_meet
         case rel => exact ⟨_, (true), zS, H', ⟨by have := HK1.out; first | omega | exact Nat.le_refl _⟩, ⟨zK BK429.out⟩, ⟨zP10 BK431.out⟩, ⟨zL HB.out⟩⟩
       case rest =>
        clear HC7
        try clear c3
        try clear c3b0
        try clear c3b1
        try clear c3b2
        try clear c4
        try clear c4b0
        try clear c5
        try clear c5b0
        try clear c6
        try clear c6b0
        try clear hcz12_0 hcz12_1 hcz12_2 hcz12_3 hcz12_4 hcz12_5 hcz12_6 hcz12_7 hcz12_8 hcz12_9
        try clear hcz9_0 hcz9_1 hcz9_2 hcz9_3 hcz9_4 hcz9_5 hcz9_6 hcz9_7 hcz9_8 hcz9_9
        try clear hfz12_0 hfz12_1 hfz12_2 hfz12_3 hfz12_4 hfz12_5 hfz12_6 hfz12_7 hfz12_8 hfz12_9
        try clear hfz9_0 hfz9_1 hfz9_2 hfz9_3 hfz9_4 hfz9_5 hfz9_6 hfz9_7 hfz9_8 hfz9_9
        try clear hx428_0
        try clear hx428_1
        try clear hx428_2
        try clear hx428_3
        try clear hx428_4
        try clear hx428_5
        try clear hx428_6
        try clear hx428_7
        try clear hx428_8
        try clear hx428_9
        try clear hx430_0
        try clear hx430_1
        try clear hx430_2
        try clear hx430_3
        try clear hx430_4
        try clear hx430_5
        try clear hx430_6
        try clear hx430_7
        try clear hx430_8
        try clear hx430_9
        try clear p428
        try clear p430
        try clear q428
        try clear q430
        obtain ⟨kq, x95_6, rfl, HA, HJ6, BK429, BK431, HB⟩ := hcut
        cases kq with
        | zero => exact absurd HA.out (by simp [cooperagelaw9_same.j1])
        | succ kj6 =>
         have H := HA.out
         clear HA
         simp only [cooperagelaw9_same.j1] at H
         by_cases c53 : x95_6 = true
         ·subst c53
          rw [if_pos rfl] at H
          obtain rfl := Option.some.inj H
          go_wp2
          go_ret
          exact ⟨zE, zL HB.out⟩
         replace c53 := Bool.eq_false_iff.mpr c53
         subst c53
         rw [if_neg (show ¬ (false = true) by decide)] at H
         have H' := Aside0.mk H
         clear H
         go_wp2
         go_roundg kj6
         case measure => have := HK1.out; have := HJ6.out; omega
         case rel => exact ⟨(wrap64 (x5_1 + 1)), zS, H', ⟨by have := HK1.out; have := HJ6.out; omega⟩, ⟨zL HB.out⟩⟩
      rw [if_neg c6] at H
      exact absurd H (by simp)
     rw [if_neg c5] at H
     exact absurd H (by simp)
    rw [if_neg c4] at H
    have c4b0 := decide_eq_false c4
    clear c4
    obtain rfl := Option.some.inj H
    go_wp2
    go_ret
    exact ⟨zE, zL HB.out⟩
 rw [if_neg c3] at H
 have c3b0 := beq_eq_false_iff_ne.mpr c3
 have c3b1 := bne_iff_ne.mpr c3
 have c3b2 : (l0.length == l1.length) = false := by first | simpa using c3 | (simp at c3 ⊢; omega)
 obtain rfl := Option.some.inj H
 go_enter Tryd.func14, Tryd.ntmps14
 go_wp2
 go_ret
 exact ⟨zE, zL HB.out⟩

/-! ### cooperagelaw9_ParseLines: function 3 -/
def cooperagelaw9_ParseLines.j0 : Nat → List (S43) → ByteArray → Bool → List (S53) → Bool → Option (Bool)
 | 0, _, _, _, _, _ => none
 | k + 1, x0, x1, x5, x6, x30 => if x30 = true then (some x5) else ((parse_Parse.f k x0).bind fun bt438 => ((cooperageref9_Parse.f k x6).bind fun bt443 => ((cooperagelaw9_same.f k bt438.1 bt443.1).bind fun t448 => (if t448 = true then (if bt438.2.1 = bt443.2.1 then (if bt438.2.2 = bt443.2.2 then ((parse_Name.f k x1).bind fun t449 => ((cooperageref9_Name.f k x1).bind fun t450 => (some (t449 == t450)))) else (some false)) else (some false)) else (some false)))))
def cooperagelaw9_ParseLines.f (k : Nat) (l0 : List (S43)) (a1 : ByteArray) : Option (Bool) := (cooperagelaw9_shown.f k).bind fun t433 => ((cooperagelaw9_as.f k l0).bind fun bt434 => (if t433 = true then (if bt434.2 = true then (cooperagelaw9_ParseLines.j0 k l0 a1 t433 bt434.1 (decide ((a1.size : Int) > 300))) else (cooperagelaw9_ParseLines.j0 k l0 a1 t433 bt434.1 true)) else (cooperagelaw9_ParseLines.j0 k l0 a1 t433 bt434.1 true)))
theorem cooperagelaw9_ParseLines.mono_l : ∀ k, (∀ y0 y1 y2 y3 y4, LeO (cooperagelaw9_ParseLines.j0 k y0 y1 y2 y3 y4) (cooperagelaw9_ParseLines.j0 (k + 1) y0 y1 y2 y3 y4))
 | 0 => fun _ _ _ _ _ r h => by simp [cooperagelaw9_ParseLines.j0] at h
 | k + 1 => by
  have ih0 := cooperagelaw9_ParseLines.mono_l k
  ·intro y0 y1 y2 y3 y4
   unfold cooperagelaw9_ParseLines.j0
   repeat' first
   | (with_reducible exact ih0 _ _ _ _ _)
   | (with_reducible exact cooperagelaw9_as.mono _ _)
   | (with_reducible exact cooperagelaw9_same.mono _ _ _)
   | (with_reducible exact cooperagelaw9_shown.mono _)
   | (with_reducible exact cooperageref9_Name.mono _ _)
   | (with_reducible exact cooperageref9_Parse.mono _ _)
   | (with_reducible exact parse_Name.mono _ _)
   | (with_reducible exact parse_Parse.mono _ _)
   | (with_reducible exact LeO.refl _)
   | (with_reducible exact LeO.none _)
   | (with_reducible refine LeO.ite ?_ ?_)
   | (with_reducible refine LeO.bind ?_ (fun _ => ?_))
   | exact ih0 _ _ _ _ _
   | exact cooperagelaw9_as.mono _ _
   | exact cooperagelaw9_same.mono _ _ _
   | exact cooperagelaw9_shown.mono _
   | exact cooperageref9_Name.mono _ _
   | exact cooperageref9_Parse.mono _ _
   | exact parse_Name.mono _ _
   | exact parse_Parse.mono _ _
   | exact LeO.none _
   | refine LeO.ite ?_ ?_
   | refine LeO.bind ?_ (fun _ => ?_)
theorem cooperagelaw9_ParseLines.mono : ∀ a0 a1 k, LeO (cooperagelaw9_ParseLines.f k a0 a1) (cooperagelaw9_ParseLines.f (k + 1) a0 a1) := by
 intro a0 a1 k
 have ih0 := cooperagelaw9_ParseLines.mono_l k
 unfold cooperagelaw9_ParseLines.f
 repeat' first
   | (with_reducible exact ih0 _ _ _ _ _)
   | (with_reducible exact cooperagelaw9_as.mono _ _)
   | (with_reducible exact cooperagelaw9_same.mono _ _ _)
   | (with_reducible exact cooperagelaw9_shown.mono _)
   | (with_reducible exact cooperageref9_Name.mono _ _)
   | (with_reducible exact cooperageref9_Parse.mono _ _)
   | (with_reducible exact parse_Name.mono _ _)
   | (with_reducible exact parse_Parse.mono _ _)
   | (with_reducible exact LeO.refl _)
   | (with_reducible exact LeO.none _)
   | (with_reducible refine LeO.ite ?_ ?_)
   | (with_reducible refine LeO.bind ?_ (fun _ => ?_))
   | exact ih0 _ _ _ _ _
   | exact cooperagelaw9_as.mono _ _
   | exact cooperagelaw9_same.mono _ _ _
   | exact cooperagelaw9_shown.mono _
   | exact cooperageref9_Name.mono _ _
   | exact cooperageref9_Parse.mono _ _
   | exact parse_Name.mono _ _
   | exact parse_Parse.mono _ _
   | exact LeO.none _
   | refine LeO.ite ?_ ?_
   | refine LeO.bind ?_ (fun _ => ?_)
set_option maxHeartbeats 8000000 in
set_option maxRecDepth 100000 in
theorem cooperagelaw9_ParseLines.calls (k : Nat) (A0 : Option Addr) (c0 : Nat) (l0 : List (S43)) (a1 : ByteArray) (r : Bool) (w : World) (hr0 : Kd.C k43 w A0 l0.length l0) (hc0 : l0.length ≤ c0) (h : cooperagelaw9_ParseLines.f k l0 a1 = some r) :
  Calls Tryd.prog 3 #[.slice A0 l0.length c0, .string a1] w fun e w' => e = .returned (.bool r) ∧ Below w.heap.size w w' := by
 have HR0 := Aside0.mk hr0
 have HC0 := Aside0.mk hc0
 clear hr0 hc0
 have HB := Aside0.mk (Below.refl w.heap.size w)
 have H : ((cooperagelaw9_shown.f k).bind fun t433 => ((cooperagelaw9_as.f k l0).bind fun bt434 => (if t433 = true then (if bt434.2 = true then (cooperagelaw9_ParseLines.j0 k l0 a1 t433 bt434.1 (decide ((a1.size : Int) > 300))) else (cooperagelaw9_ParseLines.j0 k l0 a1 t433 bt434.1 true)) else (cooperagelaw9_ParseLines.j0 k l0 a1 t433 bt434.1 true)))) = some r := h
 clear h
 replace H := Option.bind_eq_some_iff.mp H
 obtain ⟨t433, A30, H⟩ := H
 try dsimp only at H
 have A3 := Aside0.mk A30
 clear A30
 replace H := Option.bind_eq_some_iff.mp H
 obtain ⟨⟨t434, t435⟩, A40, H⟩ := H
 try dsimp only at H
 have A4 := Aside0.mk A40
 clear A40
 have HC5 := Aside0.mk H
 clear H
 go_enter Tryd.func3, Tryd.ntmps3
 go_upto_region 3 with (first | ((with_reducible refine gate_callee (f := 10) rfl ?_); refine goesL_ (some 14) rfl rfl Tryd.func10 (by kernel_rfl) rfl #[] rfl zA ?_; (with_reducible refine (cooperagelaw9_shown.calls k  t433 _ A3.out).mono ?_); rintro e w6 ⟨rfl, hb⟩; refine ⟨_, rfl, ?_⟩; replace HB := Aside0.mk (below_step (zL HB.out) hb); (try clear hb); (try clear hb2); (try clear hk); (try clear hi)) | ((with_reducible refine gate_callee (f := 11) rfl ?_); refine goesL_ (some 17) rfl rfl Tryd.func11 (by kernel_rfl) rfl #[.slice A0 l0.length c0] rfl zA ?_; (with_reducible refine (cooperagelaw9_as.calls k _ _ l0 t434 t435 _ ?side1 ?side2 A4.out).mono ?_); (case side1 => exact zCS (Kd.C_below HR0.out HB.out)); (case side2 => exact HC0.out); rintro e w7 ⟨v436, rfl, ho0, hb⟩; refine ⟨_, rfl, ?_⟩; have HO437 := Aside0.mk (Kd.R_lower ho0 (below_size (zL HB.out))); replace HB := Aside0.mk (below_step (zL HB.out) hb); (try clear hb); (try clear hb2); (try clear hk); (try clear hi); (try clear ho0)))
 (try simp only [Act.put, List.setIfInBounds_toArray, List.set_cons_zero, List.set_cons_succ])
 go_cut [30] (fun v30 wc => ∃ (kq : Nat) (x30_4 : Bool), v30 = .bool x30_4 ∧ Aside0 (cooperagelaw9_ParseLines.j0 kq l0 a1 t433 t434 x30_4 = some r) ∧ Aside0 (kq ≤ k) ∧ Aside0 (Kd.R k53 53 wc w.heap.size (fun _ => True) v436 t434) ∧ Aside0 (Below w.heap.size w wc))
 case first =>
  have H := HC5.out
  clear HC5
  by_cases c8 : t433 = true
  ·subst c8
   rw [if_pos rfl] at H
   by_cases c9 : t435 = true
   ·subst c9
    rw [if_pos rfl] at H
    have H' := Aside0.mk H
    clear H
    go_wp2
    go_meet
    case rel => exact ⟨_, (decide ((a1.size : Int) > 300)), zS, H', ⟨by first | omega | exact Nat.le_refl _⟩, ⟨by (with_reducible repeat (first | apply Kd.R_alloc | apply Kd.R_drewN | apply Kd.R_drew)); exact HO437.out⟩, ⟨zL HB.out⟩⟩
   replace c9 := Bool.eq_false_iff.mpr c9
   subst c9
   rw [if_neg (show ¬ (false = true) by decide)] at H
   have H' := Aside0.mk H
   clear H
   go_wp2
   go_meet
   case rel => exact ⟨_, (true), zS, H', ⟨by first | omega | exact Nat.le_refl _⟩, ⟨by (with_reducible repeat (first | apply Kd.R_alloc | apply Kd.R_drewN | apply Kd.R_drew)); exact HO437.out⟩, ⟨zL HB.out⟩⟩
  replace c8 := Bool.eq_false_iff.mpr c8
  subst c8
  rw [if_neg (show ¬ (false = true) by decide)] at H
  have H' := Aside0.mk H
  clear H
  go_wp2
  go_meet
  case rel => exact ⟨_, (true), zS, H', ⟨by first | omega | exact Nat.le_refl _⟩, ⟨by (with_reducible repeat (first | apply Kd.R_alloc | apply Kd.R_drewN | apply Kd.R_drew)); exact HO437.out⟩, ⟨zL HB.out⟩⟩
 case rest =>
  clear HC5
  obtain ⟨kq, x30_4, rfl, HA, HJ4, HO_6, HB⟩ := hcut
  cases kq with
  | zero => exact absurd HA.out (by simp [cooperagelaw9_ParseLines.j0])
  | succ kj4 =>
   have H := HA.out
   clear HA
   simp only [cooperagelaw9_ParseLines.j0] at H
   by_cases c10 : x30_4 = true
   case pos =>
    subst c10
    rw [if_pos rfl] at H
    obtain rfl := Option.some.inj H
    go_wp2
    go_ret
    exact ⟨zE, zL HB.out⟩
   case' neg =>
    replace c10 := Bool.eq_false_iff.mpr c10
    subst c10
    rw [if_neg (show ¬ (false = true) by decide)] at H
    replace H := Option.bind_eq_some_iff.mp H
    obtain ⟨⟨t438, t439, t440⟩, A110, H⟩ := H
    try dsimp only at H
    have A11 := Aside0.mk A110
    clear A110
    replace H := Option.bind_eq_some_iff.mp H
    obtain ⟨⟨t443, t444, t445⟩, A120, H⟩ := H
    try dsimp only at H
    have A12 := Aside0.mk A120
    clear A120
    replace H := Option.bind_eq_some_iff.mp H
    obtain ⟨t448, A130, H⟩ := H
    try dsimp only at H
    have A13 := Aside0.mk A130
    clear A130
    by_cases c14 : t448 = true
    case neg =>
     replace c14 := Bool.eq_false_iff.mpr c14
     subst c14
     rw [if_neg (show ¬ (false = true) by decide)] at H
     obtain rfl := Option.some.inj H
     go_wp2_with (first | ((with_reducible refine gate_callee (f := 12) rfl ?_); refine goesL_ (some 34) rfl rfl Tryd.func12 (by kernel_rfl) rfl #[.slice A0 l0.length c0] rfl zA ?_; (with_reducible refine (parse_Parse.calls kj4 _ _ l0 t438 t439 t440 _ ?side1 ?side2 A11.out).mono ?_); (case side1 => exact zCS (Kd.C_below HR0.out HB.out)); (case side2 => exact HC0.out); rintro e w38 ⟨v441, rfl, ho0, hb⟩; refine ⟨_, rfl, ?_⟩; replace HO_6 := Aside0.mk (Kd.R_below (zR HO_6.out) hb); have HO442 := Aside0.mk (Kd.S_lower ho0 (below_size (zL HB.out))); replace HB := Aside0.mk (below_step (zL HB.out) hb); (try clear hb); (try clear hb2); (try clear hk); (try clear hi); (try clear ho0); obtain ⟨Ao39, co39, eo39⟩ := Kd.R_slice HO_6.out; subst eo39) | ((with_reducible refine gate_callee (f := 13) rfl ?_); refine goesL_ (some 40) rfl rfl Tryd.func13 (by kernel_rfl) rfl #[.slice Ao39 t434.length co39] rfl zA ?_; (with_reducible refine (cooperageref9_Parse.calls kj4 _ _ t434 t443 t444 t445 _ ?side1 ?side2 A12.out).mono ?_); (case side1 => exact zCS (Kd.R_reads' HO_6.out).2.2); (case side2 => exact (Kd.R_reads' HO_6.out).2.1); rintro e w40 ⟨v446, rfl, ho0, hb⟩; refine ⟨_, rfl, ?_⟩; replace HO_6 := Aside0.mk (Kd.R_below (zR HO_6.out) hb); replace HO442 := Aside0.mk (Kd.S_below (zRS HO442.out) hb); have HO447 := Aside0.mk (Kd.S_lower ho0 (below_size (zL HB.out))); replace HB := Aside0.mk (below_step (zL HB.out) hb); (try clear hb); (try clear hb2); (try clear hk); (try clear hi); (try clear ho0); obtain ⟨Ao41, co41, eo41⟩ := Kd.S_slice HO442.out; subst eo41; obtain ⟨Ao42, co42, eo42⟩ := Kd.S_slice HO447.out; subst eo42) | ((with_reducible refine gate_callee (f := 14) rfl ?_); refine goesL_ (some 46) rfl rfl Tryd.func14 (by kernel_rfl) rfl #[.slice Ao41 t438.length co41, .slice Ao42 t443.length co42] rfl zA ?_; (with_reducible refine (cooperagelaw9_same.calls kj4 _ _ t438 _ _ t443 false _ ?side1 ?side2 ?side3 ?side4 A13.out).mono ?_); (case side1 => exact zCS (Kd.S_reads' HO442.out).2.2); (case side2 => exact (Kd.S_reads' HO442.out).2.1); (case side3 => exact zCS (Kd.S_reads' HO447.out).2.2); (case side4 => exact (Kd.S_reads' HO447.out).2.1); rintro e w43 ⟨rfl, hb⟩; refine ⟨_, rfl, ?_⟩; replace HO_6 := Aside0.mk (Kd.R_below (zR HO_6.out) hb); replace HO442 := Aside0.mk (Kd.S_below (zRS HO442.out) hb); replace HO447 := Aside0.mk (Kd.S_below (zRS HO447.out) hb); replace HB := Aside0.mk (below_step (zL HB.out) hb); (try clear hb); (try clear hb2); (try clear hk); (try clear hi)))
     go_ret
     exact ⟨zE, zL HB.out⟩
    case' pos =>
     subst c14
     rw [if_pos rfl] at H
     by_cases c15 : t439 = t444
     case' neg =>
      rw [if_neg c15] at H
      have c15b0 := beq_eq_false_iff_ne.mpr c15
      have c15b1 := bne_iff_ne.mpr c15
     case' pos =>
      rw [if_pos c15] at H
      have c15b0 := beq_iff_eq.mpr c15
      have c15b1 := bne_eq_false_iff_eq.mpr c15
      clear c15
      by_cases c16 : t440 = t445
      case pos =>
       rw [if_pos c16] at H
       have c16b0 := beq_iff_eq.mpr c16
       have c16b1 := bne_eq_false_iff_eq.mpr c16
       clear c16
       replace H := Option.bind_eq_some_iff.mp H
       obtain ⟨t449, A170, H⟩ := H
       try dsimp only at H
       have A17 := Aside0.mk A170
       clear A170
       replace H := Option.bind_eq_some_iff.mp H
       obtain ⟨t450, A180, H⟩ := H
       try dsimp only at H
       have A18 := Aside0.mk A180
       clear A180
       obtain rfl := Option.some.inj H
       go_wp2_with (first | ((with_reducible refine gate_callee (f := 12) rfl ?_); refine goesL_ (some 34) rfl rfl Tryd.func12 (by kernel_rfl) rfl #[.slice A0 l0.length c0] rfl zA ?_; (with_reducible refine (parse_Parse.calls kj4 _ _ l0 t438 t439 t440 _ ?side1 ?side2 A11.out).mono ?_); (case side1 => exact zCS (Kd.C_below HR0.out HB.out)); (case side2 => exact HC0.out); rintro e w19 ⟨v441, rfl, ho0, hb⟩; refine ⟨_, rfl, ?_⟩; replace HO_6 := Aside0.mk (Kd.R_below (zR HO_6.out) hb); have HO442 := Aside0.mk (Kd.S_lower ho0 (below_size (zL HB.out))); replace HB := Aside0.mk (below_step (zL HB.out) hb); (try clear hb); (try clear hb2); (try clear hk); (try clear hi); (try clear ho0); obtain ⟨Ao20, co20, eo20⟩ := Kd.R_slice HO_6.out; subst eo20) | ((with_reducible refine gate_callee (f := 13) rfl ?_); refine goesL_ (some 40) rfl rfl Tryd.func13 (by kernel_rfl) rfl #[.slice Ao20 t434.length co20] rfl zA ?_; (with_reducible refine (cooperageref9_Parse.calls kj4 _ _ t434 t443 t444 t445 _ ?side1 ?side2 A12.out).mono ?_); (case side1 => exact zCS (Kd.R_reads' HO_6.out).2.2); (case side2 => exact (Kd.R_reads' HO_6.out).2.1); rintro e w21 ⟨v446, rfl, ho0, hb⟩; refine ⟨_, rfl, ?_⟩; replace HO_6 := Aside0.mk (Kd.R_below (zR HO_6.out) hb); replace HO442 := Aside0.mk (Kd.S_below (zRS HO442.out) hb); have HO447 := Aside0.mk (Kd.S_lower ho0 (below_size (zL HB.out))); replace HB := Aside0.mk (below_step (zL HB.out) hb); (try clear hb); (try clear hb2); (try clear hk); (try clear hi); (try clear ho0); obtain ⟨Ao22, co22, eo22⟩ := Kd.S_slice HO442.out; subst eo22; obtain ⟨Ao23, co23, eo23⟩ := Kd.S_slice HO447.out; subst eo23) | ((with_reducible refine gate_callee (f := 14) rfl ?_); refine goesL_ (some 46) rfl rfl Tryd.func14 (by kernel_rfl) rfl #[.slice Ao22 t438.length co22, .slice Ao23 t443.length co23] rfl zA ?_; (with_reducible refine (cooperagelaw9_same.calls kj4 _ _ t438 _ _ t443 true _ ?side1 ?side2 ?side3 ?side4 A13.out).mono ?_); (case side1 => exact zCS (Kd.S_reads' HO442.out).2.2); (case side2 => exact (Kd.S_reads' HO442.out).2.1); (case side3 => exact zCS (Kd.S_reads' HO447.out).2.2); (case side4 => exact (Kd.S_reads' HO447.out).2.1); rintro e w24 ⟨rfl, hb⟩; refine ⟨_, rfl, ?_⟩; replace HO_6 := Aside0.mk (Kd.R_below (zR HO_6.out) hb); replace HO442 := Aside0.mk (Kd.S_below (zRS HO442.out) hb); replace HO447 := Aside0.mk (Kd.S_below (zRS HO447.out) hb); replace HB := Aside0.mk (below_step (zL HB.out) hb); (try clear hb); (try clear hb2); (try clear hk); (try clear hi)) | (go_at_call 15; (with_reducible refine (parse_Name.calls kj4 a1 t449 _ A17.out).mono ?_); rintro e w25 ⟨rfl, hb⟩; replace HO_6 := Aside0.mk (Kd.R_below (zR HO_6.out) hb); replace HO442 := Aside0.mk (Kd.S_below (zRS HO442.out) hb); replace HO447 := Aside0.mk (Kd.S_below (zRS HO447.out) hb); replace HB := Aside0.mk (below_step (zL HB.out) hb); (try clear hb); (try clear hb2); (try clear hk); (try clear hi)) | (go_at_call 16; (with_reducible refine (cooperageref9_Name.calls kj4 a1 t450 _ A18.out).mono ?_); rintro e w' ⟨rfl, ⟨nd, rfl⟩⟩))
       go_ret
       exact ⟨zE, zL HB.out⟩
      case' neg =>
       rw [if_neg c16] at H
       have c16b0 := beq_eq_false_iff_ne.mpr c16
       have c16b1 := bne_iff_ne.mpr c16
   all_goals
    obtain rfl := Option.some.inj H
    go_wp2_with (first | ((with_reducible refine gate_callee (f := 12) rfl ?_); refine goesL_ (some 34) rfl rfl Tryd.func12 (by kernel_rfl) rfl #[.slice A0 l0.length c0] rfl zA ?_; (with_reducible refine (parse_Parse.calls kj4 _ _ l0 t438 t439 t440 _ ?side1 ?side2 A11.out).mono ?_); (case side1 => exact zCS (Kd.C_below HR0.out HB.out)); (case side2 => exact HC0.out); rintro e w26 ⟨v441, rfl, ho0, hb⟩; refine ⟨_, rfl, ?_⟩; replace HO_6 := Aside0.mk (Kd.R_below (zR HO_6.out) hb); have HO442 := Aside0.mk (Kd.S_lower ho0 (below_size (zL HB.out))); replace HB := Aside0.mk (below_step (zL HB.out) hb); (try clear hb); (try clear hb2); (try clear hk); (try clear hi); (try clear ho0); obtain ⟨Ao27, co27, eo27⟩ := Kd.R_slice HO_6.out; subst eo27) | ((with_reducible refine gate_callee (f := 13) rfl ?_); refine goesL_ (some 40) rfl rfl Tryd.func13 (by kernel_rfl) rfl #[.slice Ao27 t434.length co27] rfl zA ?_; (with_reducible refine (cooperageref9_Parse.calls kj4 _ _ t434 t443 t444 t445 _ ?side1 ?side2 A12.out).mono ?_); (case side1 => exact zCS (Kd.R_reads' HO_6.out).2.2); (case side2 => exact (Kd.R_reads' HO_6.out).2.1); rintro e w28 ⟨v446, rfl, ho0, hb⟩; refine ⟨_, rfl, ?_⟩; replace HO_6 := Aside0.mk (Kd.R_below (zR HO_6.out) hb); replace HO442 := Aside0.mk (Kd.S_below (zRS HO442.out) hb); have HO447 := Aside0.mk (Kd.S_lower ho0 (below_size (zL HB.out))); replace HB := Aside0.mk (below_step (zL HB.out) hb); (try clear hb); (try clear hb2); (try clear hk); (try clear hi); (try clear ho0); obtain ⟨Ao29, co29, eo29⟩ := Kd.S_slice HO442.out; subst eo29; obtain ⟨Ao30, co30, eo30⟩ := Kd.S_slice HO447.out; subst eo30) | ((with_reducible refine gate_callee (f := 14) rfl ?_); refine goesL_ (some 46) rfl rfl Tryd.func14 (by kernel_rfl) rfl #[.slice Ao29 t438.length co29, .slice Ao30 t443.length co30] rfl zA ?_; (with_reducible refine (cooperagelaw9_same.calls kj4 _ _ t438 _ _ t443 true _ ?side1 ?side2 ?side3 ?side4 A13.out).mono ?_); (case side1 => exact zCS (Kd.S_reads' HO442.out).2.2); (case side2 => exact (Kd.S_reads' HO442.out).2.1); (case side3 => exact zCS (Kd.S_reads' HO447.out).2.2); (case side4 => exact (Kd.S_reads' HO447.out).2.1); rintro e w31 ⟨rfl, hb⟩; refine ⟨_, rfl, ?_⟩; replace HO_6 := Aside0.mk (Kd.R_below (zR HO_6.out) hb); replace HO442 := Aside0.mk (Kd.S_below (zRS HO442.out) hb); replace HO447 := Aside0.mk (Kd.S_below (zRS HO447.out) hb); replace HB := Aside0.mk (below_step (zL HB.out) hb); (try clear hb); (try clear hb2); (try clear hk); (try clear hi)))
    go_ret
    exact ⟨zE, zL HB.out⟩

/-- THE ONE PURE STATEMENT of cooperagelaw9_ParseLines. -/
def cooperagelaw9_ParseLines.Pure : Prop := ∀ (l0 : List (S43)) (a1 : ByteArray), l0.length ≤ 9223372036854775807 → l0.length * 32 ≤ 140737488351232 → (∀ x ∈ l0, (Lit.int .i64 x.f0).wf = true ∧ x.f2.size ≤ 9223372036854775807) → a1.size ≤ 140737488351232 → ∃ k, cooperagelaw9_ParseLines.f k l0 a1 = some true
theorem cooperagelaw9_ParseLines.walk (P : cooperagelaw9_ParseLines.Pure) (A0 : Option Addr) (c0 : Nat) (l0 : List (S43)) (a1 : ByteArray) (w : World) (r0 : Kd.C k43 w A0 l0.length l0) (q0 : l0.length ≤ c0) (m0 : l0.length ≤ 9223372036854775807) (y0 : l0.length * 32 ≤ 140737488351232) (e0 : ∀ x ∈ l0, (Lit.int .i64 x.f0).wf = true ∧ x.f2.size ≤ 9223372036854775807) (w1 : a1.size ≤ 140737488351232) :
  Calls Tryd.prog 3 #[.slice A0 l0.length c0, .string a1] w fun e w' => e = .returned (.bool true) ∧ Below w.heap.size w w' := by
 obtain ⟨k, h⟩ := P l0 a1 m0 y0 e0 w1
 refine (cooperagelaw9_ParseLines.calls k _ _ l0 a1 true w r0 q0 h).mono ?_
 rintro e w' ⟨rfl, hd⟩
 exact ⟨rfl, hd⟩

end Go.Proofs.YthnholondnfjoaaDoor.PParse
