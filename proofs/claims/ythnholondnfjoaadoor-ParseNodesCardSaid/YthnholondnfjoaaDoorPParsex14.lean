-- Written by a program of this session (wip/tools/ext.py, over the kit's printer); not trusted: Lean checks it.
import Derived.Test.YthnholondnfjoaaDoorPParsex0
import Derived.Test.YthnholondnfjoaaDoorPParsex1
import Derived.Test.YthnholondnfjoaaDoorPParsex8
namespace Go.Proofs.YthnholondnfjoaaDoor.PParse
open Go.RowKit Go.Proofs.YthnholondnfjoaaDoorW.PrintWords Go.Proofs.YthnholondnfjoaaDoorW.PrintLast Go.Proofs.YthnholondnfjoaaDoorW.PrintMore
attribute [local go_sem] max2_int min2_int max_two min_two max_three min_three max_four min_four
set_option linter.unusedVariables false
set_option linter.unusedSimpArgs false
set_option maxHeartbeats 8000000
set_option maxRecDepth 100000

/-! ### cooperagelaw9_same: function 14 -/
mutual
def cooperagelaw9_same.l0 : Nat → List (S45) → List (S64) → Int → Option (Bool)
 | 0, _, _, _ => none
 | k + 1, x0, x1, x5 => if x5 < (x0.length : Int) then (if 0 ≤ x5 then (if x5 < (x1.length : Int) then (if ((rd_T45 x0 x5).f0) = ((rd_T64 x1 x5).f0) then (if ((rd_T45 x0 x5).f1) = ((rd_T64 x1 x5).f1) then (if ((rd_T45 x0 x5).f2).toList = ((rd_T64 x1 x5).f2).toList then (if ((rd_T45 x0 x5).f3).toList = ((rd_T64 x1 x5).f3).toList then (if ((rd_T45 x0 x5).f4).toList = ((rd_T64 x1 x5).f4).toList then (if ((rd_T45 x0 x5).f5).toList = ((rd_T64 x1 x5).f5).toList then (if ((rd_T45 x0 x5).f6).toList = ((rd_T64 x1 x5).f6).toList then (if ((rd_T45 x0 x5).f7).toList = ((rd_T64 x1 x5).f7).toList then (if ((rd_T45 x0 x5).f8).toList = ((rd_T64 x1 x5).f8).toList then ((cooperagelaw9_sames.f k ((rd_T45 x0 x5).f9) ((rd_T64 x1 x5).f9)).bind fun t425 => (cooperagelaw9_same.j1 k x0 x1 x5 (!t425))) else (cooperagelaw9_same.j1 k x0 x1 x5 true)) else (cooperagelaw9_same.j1 k x0 x1 x5 true)) else (cooperagelaw9_same.j1 k x0 x1 x5 true)) else (cooperagelaw9_same.j1 k x0 x1 x5 true)) else (cooperagelaw9_same.j1 k x0 x1 x5 true)) else (cooperagelaw9_same.j1 k x0 x1 x5 true)) else (cooperagelaw9_same.j1 k x0 x1 x5 true)) else (cooperagelaw9_same.j1 k x0 x1 x5 true)) else (cooperagelaw9_same.j1 k x0 x1 x5 true)) else (none)) else (none)) else (some true)
def cooperagelaw9_same.j1 : Nat → List (S45) → List (S64) → Int → Bool → Option (Bool)
 | 0, _, _, _, _ => none
 | k + 1, x0, x1, x5, x95 => if x95 = true then (some false) else (cooperagelaw9_same.l0 k x0 x1 (wrap64 (x5 + 1)))
end
def cooperagelaw9_same.f (k : Nat) (l0 : List (S45)) (l1 : List (S64)) : Option (Bool) := if (l0.length : Int) = (l1.length : Int) then (cooperagelaw9_same.l0 k l0 l1 0) else (some false)
theorem cooperagelaw9_same.mono_l : ∀ k, (∀ y0 y1 y2, LeO (cooperagelaw9_same.l0 k y0 y1 y2) (cooperagelaw9_same.l0 (k + 1) y0 y1 y2)) ∧ (∀ y0 y1 y2 y3, LeO (cooperagelaw9_same.j1 k y0 y1 y2 y3) (cooperagelaw9_same.j1 (k + 1) y0 y1 y2 y3))
 | 0 => ⟨fun _ _ _ r h => by simp [cooperagelaw9_same.l0] at h, fun _ _ _ _ r h => by simp [cooperagelaw9_same.j1] at h⟩
 | k + 1 => by
  obtain ⟨ih0, ih1⟩ := cooperagelaw9_same.mono_l k
  have m0 := @cooperagelaw9_sames.mono
  refine ⟨?_, ?_⟩
  ·intros
   unfold cooperagelaw9_same.l0
   exact zLe
  ·intros
   unfold cooperagelaw9_same.j1
   exact zLe
theorem cooperagelaw9_same.mono : ∀ a0 a1 k, LeO (cooperagelaw9_same.f k a0 a1) (cooperagelaw9_same.f (k + 1) a0 a1) := by
 intro a0 a1 k
 obtain ⟨ih0, ih1⟩ := cooperagelaw9_same.mono_l k
 unfold cooperagelaw9_same.f
 have m0 := @cooperagelaw9_sames.mono
 exact zLe
theorem cooperagelaw9_same.calls (k : Nat) (A0 : Option Addr) (c0 : Nat) (l0 : List (S45)) (A1 : Option Addr) (c1 : Nat) (l1 : List (S64)) (r : Bool) (w : World) (hr0 : Kd.C k45 w A0 l0.length l0) (hc0 : l0.length ≤ c0) (hr1 : Kd.C k64 w A1 l1.length l1) (hc1 : l1.length ≤ c1) (h : cooperagelaw9_same.f k l0 l1 = some r) :
  Calls Tryd.prog 14 #[.slice A0 l0.length c0, .slice A1 l1.length c1] w fun e w' => e = .returned (.bool r) ∧ Below w.heap.size w w' := by
 have hu45 := Tryd.underlying45
 have hu64 := Tryd.underlying64
 have HR0 := ka hr0
 have HC0 := ka hc0
 clear hr0 hc0
 have HR1 := ka hr1
 have HC1 := ka hc1
 clear hr1 hc1
 have HB := ka (Below.refl w.heap.size w)
 have H : (if (l0.length : Int) = (l1.length : Int) then (cooperagelaw9_same.l0 k l0 l1 0) else (some false)) = some r := h
 clear h
 by_cases c3 : (l0.length : Int) = (l1.length : Int)
 ·rw [if_pos c3] at H
  have c3b0 := zb0 c3
  have c3b1 := zb1 c3
  have c3b2 : (l0.length == l1.length) = true := by first | simpa using c3 | (simp at c3 ⊢; omega)
  clear c3
  have H' := ka H
  clear H
  go_enter Tryd.func14, Tryd.ntmps14
  go_wp2
  go_loopg [5] k (fun kq v5 w' => ∃ (x5_1 : Int), v5 = .int .i64 x5_1 ∧ Aside0 (cooperagelaw9_same.l0 kq l0 l1 x5_1 = some r) ∧ Aside0 (kq ≤ k) ∧ Aside0 (Below w.heap.size w w'))
  case atStart => exact ⟨(0), zS, H', ⟨Nat.le_refl _⟩, ⟨zL HB.out⟩⟩
  case round =>
   clear H'
   try clear c3
   try clear c3b0
   try clear c3b1
   try clear c3b2
   obtain ⟨x5_1, rfl, HA, HK1, HB⟩ := hrel
   cases gk with
   | zero => exact absurd HA.out (by simp [cooperagelaw9_same.l0])
   | succ k1 =>
    have H := HA.out
    clear HA
    simp only [cooperagelaw9_same.l0] at H
    by_cases c4 : x5_1 < (l0.length : Int)
    ·rw [if_pos c4] at H
     have c4b0 := zdt c4
     clear c4
     replace H := zif H
     obtain ⟨c5, H⟩ := H
     have c5b0 := zdt c5
     clear c5
     replace H := zif H
     obtain ⟨c6, H⟩ := H
     have c6b0 := zdt c6
     clear c6
     have HC7 := ka H
     clear H
     have p421 : 0 ≤ (x5_1 : Int) := zD
     have q421 : x5_1 < (l0.length : Int) := zD
     obtain ⟨ad421, A421_9, c421_9, e421, hx421_0, hx421_1, hx421_2, hx421_3, hx421_4, hx421_5, hx421_6, hx421_7, hx421_8, hx421_9, hl421_9, hi421_9⟩ := at_T45 HR0.out x5_1 p421 q421
     cases e421
     replace hx421_0 := zX HB.out hx421_0
     replace hx421_1 := zX HB.out hx421_1
     replace hx421_2 := zX HB.out hx421_2
     replace hx421_3 := zX HB.out hx421_3
     replace hx421_4 := zX HB.out hx421_4
     replace hx421_5 := zX HB.out hx421_5
     replace hx421_6 := zX HB.out hx421_6
     replace hx421_7 := zX HB.out hx421_7
     replace hx421_8 := zX HB.out hx421_8
     replace hx421_9 := zX HB.out hx421_9
     have HR421_9 := ka hi421_9
     have HC421_9 := ka hl421_9
     clear hi421_9 hl421_9
     replace p421 := eq_true p421
     replace q421 := eq_true q421
     go_upto_region 8 with (first | ((with_reducible refine gate_dst (N := 6) rfl ?_); refine box_event ?hg (N := 6) ?hd (cs := #[.int .i64 0, .int .i64 0, .string ⟨#[]⟩, .string ⟨#[]⟩, .string ⟨#[]⟩, .string ⟨#[]⟩, .string ⟨#[]⟩, .string ⟨#[]⟩, .string ⟨#[]⟩, .slice none 0 0]) (t := 45) ?hr ?_; (case hd => rfl); (case hg => rfl); (case hr => (go_simp; try rfl)); intro gb422 hg w8 hbox hb; have BK422 := ka (hbox); have GW422 := ka (zG hg (zL HB.out)); have GE422 := ka (zG hg (zL HB.out)); replace HB := ka (below_step (zL HB.out) hb); clear hb hbox hg; obtain ⟨z9_0, z9_1, z9_2, z9_3, z9_4, z9_5, z9_6, z9_7, z9_8, z9_9, y9_0, y9_1, y9_2, y9_3, y9_4, y9_5, y9_6, y9_7, y9_8, y9_9⟩ := zC10 BK422.out; have p423 : 0 ≤ (x5_1 : Int) := zD; have q423 : x5_1 < (l1.length : Int) := zD; obtain ⟨ad423, A423_9, c423_9, e423, hx423_0, hx423_1, hx423_2, hx423_3, hx423_4, hx423_5, hx423_6, hx423_7, hx423_8, hx423_9, hl423_9, hi423_9⟩ := at_T64 HR1.out x5_1 p423 q423; cases e423; have hn423_0 : ad423.block ≠ gb422 := Nat.ne_of_lt (Nat.lt_of_lt_of_le (by have := World.block_lt_of_cell? _ _ hx423_0; first | rwa [add_block] at this | exact this) GW422.out); have hn423_1 : ad423.block ≠ gb422 := Nat.ne_of_lt (Nat.lt_of_lt_of_le (by have := World.block_lt_of_cell? _ _ hx423_0; first | rwa [add_block] at this | exact this) GW422.out); have hn423_2 : ad423.block ≠ gb422 := Nat.ne_of_lt (Nat.lt_of_lt_of_le (by have := World.block_lt_of_cell? _ _ hx423_0; first | rwa [add_block] at this | exact this) GW422.out); have hn423_3 : ad423.block ≠ gb422 := Nat.ne_of_lt (Nat.lt_of_lt_of_le (by have := World.block_lt_of_cell? _ _ hx423_0; first | rwa [add_block] at this | exact this) GW422.out); have hn423_4 : ad423.block ≠ gb422 := Nat.ne_of_lt (Nat.lt_of_lt_of_le (by have := World.block_lt_of_cell? _ _ hx423_0; first | rwa [add_block] at this | exact this) GW422.out); have hn423_5 : ad423.block ≠ gb422 := Nat.ne_of_lt (Nat.lt_of_lt_of_le (by have := World.block_lt_of_cell? _ _ hx423_0; first | rwa [add_block] at this | exact this) GW422.out); have hn423_6 : ad423.block ≠ gb422 := Nat.ne_of_lt (Nat.lt_of_lt_of_le (by have := World.block_lt_of_cell? _ _ hx423_0; first | rwa [add_block] at this | exact this) GW422.out); have hn423_7 : ad423.block ≠ gb422 := Nat.ne_of_lt (Nat.lt_of_lt_of_le (by have := World.block_lt_of_cell? _ _ hx423_0; first | rwa [add_block] at this | exact this) GW422.out); have hn423_8 : ad423.block ≠ gb422 := Nat.ne_of_lt (Nat.lt_of_lt_of_le (by have := World.block_lt_of_cell? _ _ hx423_0; first | rwa [add_block] at this | exact this) GW422.out); have hn423_9 : ad423.block ≠ gb422 := Nat.ne_of_lt (Nat.lt_of_lt_of_le (by have := World.block_lt_of_cell? _ _ hx423_0; first | rwa [add_block] at this | exact this) GW422.out); replace hx423_0 := zX HB.out hx423_0; replace hx423_1 := zX HB.out hx423_1; replace hx423_2 := zX HB.out hx423_2; replace hx423_3 := zX HB.out hx423_3; replace hx423_4 := zX HB.out hx423_4; replace hx423_5 := zX HB.out hx423_5; replace hx423_6 := zX HB.out hx423_6; replace hx423_7 := zX HB.out hx423_7; replace hx423_8 := zX HB.out hx423_8; replace hx423_9 := zX HB.out hx423_9; have HR423_9 := ka hi423_9; have HC423_9 := ka hl423_9; clear hi423_9 hl423_9; replace hx423_0 := zF gb422 0 (.int .i64 ((rd_T45 l0 x5_1).f0)) hn423_0 hx423_0; replace hx423_1 := zF gb422 0 (.int .i64 ((rd_T45 l0 x5_1).f0)) hn423_0 hx423_1; replace hx423_2 := zF gb422 0 (.int .i64 ((rd_T45 l0 x5_1).f0)) hn423_0 hx423_2; replace hx423_3 := zF gb422 0 (.int .i64 ((rd_T45 l0 x5_1).f0)) hn423_0 hx423_3; replace hx423_4 := zF gb422 0 (.int .i64 ((rd_T45 l0 x5_1).f0)) hn423_0 hx423_4; replace hx423_5 := zF gb422 0 (.int .i64 ((rd_T45 l0 x5_1).f0)) hn423_0 hx423_5; replace hx423_6 := zF gb422 0 (.int .i64 ((rd_T45 l0 x5_1).f0)) hn423_0 hx423_6; replace hx423_7 := zF gb422 0 (.int .i64 ((rd_T45 l0 x5_1).f0)) hn423_0 hx423_7; replace hx423_8 := zF gb422 0 (.int .i64 ((rd_T45 l0 x5_1).f0)) hn423_0 hx423_8; replace hx423_9 := zF gb422 0 (.int .i64 ((rd_T45 l0 x5_1).f0)) hn423_0 hx423_9; replace hx423_0 := zF gb422 1 (.int .i64 ((rd_T45 l0 x5_1).f1)) hn423_1 hx423_0; replace hx423_1 := zF gb422 1 (.int .i64 ((rd_T45 l0 x5_1).f1)) hn423_1 hx423_1; replace hx423_2 := zF gb422 1 (.int .i64 ((rd_T45 l0 x5_1).f1)) hn423_1 hx423_2; replace hx423_3 := zF gb422 1 (.int .i64 ((rd_T45 l0 x5_1).f1)) hn423_1 hx423_3; replace hx423_4 := zF gb422 1 (.int .i64 ((rd_T45 l0 x5_1).f1)) hn423_1 hx423_4; replace hx423_5 := zF gb422 1 (.int .i64 ((rd_T45 l0 x5_1).f1)) hn423_1 hx423_5; replace hx423_6 := zF gb422 1 (.int .i64 ((rd_T45 l0 x5_1).f1)) hn423_1 hx423_6; replace hx423_7 := zF gb422 1 (.int .i64 ((rd_T45 l0 x5_1).f1)) hn423_1 hx423_7; replace hx423_8 := zF gb422 1 (.int .i64 ((rd_T45 l0 x5_1).f1)) hn423_1 hx423_8; replace hx423_9 := zF gb422 1 (.int .i64 ((rd_T45 l0 x5_1).f1)) hn423_1 hx423_9; replace hx423_0 := zF gb422 2 (.string ((rd_T45 l0 x5_1).f2)) hn423_2 hx423_0; replace hx423_1 := zF gb422 2 (.string ((rd_T45 l0 x5_1).f2)) hn423_2 hx423_1; replace hx423_2 := zF gb422 2 (.string ((rd_T45 l0 x5_1).f2)) hn423_2 hx423_2; replace hx423_3 := zF gb422 2 (.string ((rd_T45 l0 x5_1).f2)) hn423_2 hx423_3; replace hx423_4 := zF gb422 2 (.string ((rd_T45 l0 x5_1).f2)) hn423_2 hx423_4; replace hx423_5 := zF gb422 2 (.string ((rd_T45 l0 x5_1).f2)) hn423_2 hx423_5; replace hx423_6 := zF gb422 2 (.string ((rd_T45 l0 x5_1).f2)) hn423_2 hx423_6; replace hx423_7 := zF gb422 2 (.string ((rd_T45 l0 x5_1).f2)) hn423_2 hx423_7; replace hx423_8 := zF gb422 2 (.string ((rd_T45 l0 x5_1).f2)) hn423_2 hx423_8; replace hx423_9 := zF gb422 2 (.string ((rd_T45 l0 x5_1).f2)) hn423_2 hx423_9; replace hx423_0 := zF gb422 3 (.string ((rd_T45 l0 x5_1).f3)) hn423_3 hx423_0; replace hx423_1 := zF gb422 3 (.string ((rd_T45 l0 x5_1).f3)) hn423_3 hx423_1; replace hx423_2 := zF gb422 3 (.string ((rd_T45 l0 x5_1).f3)) hn423_3 hx423_2; replace hx423_3 := zF gb422 3 (.string ((rd_T45 l0 x5_1).f3)) hn423_3 hx423_3; replace hx423_4 := zF gb422 3 (.string ((rd_T45 l0 x5_1).f3)) hn423_3 hx423_4; replace hx423_5 := zF gb422 3 (.string ((rd_T45 l0 x5_1).f3)) hn423_3 hx423_5; replace hx423_6 := zF gb422 3 (.string ((rd_T45 l0 x5_1).f3)) hn423_3 hx423_6; replace hx423_7 := zF gb422 3 (.string ((rd_T45 l0 x5_1).f3)) hn423_3 hx423_7; replace hx423_8 := zF gb422 3 (.string ((rd_T45 l0 x5_1).f3)) hn423_3 hx423_8; replace hx423_9 := zF gb422 3 (.string ((rd_T45 l0 x5_1).f3)) hn423_3 hx423_9; replace hx423_0 := zF gb422 4 (.string ((rd_T45 l0 x5_1).f4)) hn423_4 hx423_0; replace hx423_1 := zF gb422 4 (.string ((rd_T45 l0 x5_1).f4)) hn423_4 hx423_1; replace hx423_2 := zF gb422 4 (.string ((rd_T45 l0 x5_1).f4)) hn423_4 hx423_2; replace hx423_3 := zF gb422 4 (.string ((rd_T45 l0 x5_1).f4)) hn423_4 hx423_3; replace hx423_4 := zF gb422 4 (.string ((rd_T45 l0 x5_1).f4)) hn423_4 hx423_4; replace hx423_5 := zF gb422 4 (.string ((rd_T45 l0 x5_1).f4)) hn423_4 hx423_5; replace hx423_6 := zF gb422 4 (.string ((rd_T45 l0 x5_1).f4)) hn423_4 hx423_6; replace hx423_7 := zF gb422 4 (.string ((rd_T45 l0 x5_1).f4)) hn423_4 hx423_7; replace hx423_8 := zF gb422 4 (.string ((rd_T45 l0 x5_1).f4)) hn423_4 hx423_8; replace hx423_9 := zF gb422 4 (.string ((rd_T45 l0 x5_1).f4)) hn423_4 hx423_9; replace hx423_0 := zF gb422 5 (.string ((rd_T45 l0 x5_1).f5)) hn423_5 hx423_0; replace hx423_1 := zF gb422 5 (.string ((rd_T45 l0 x5_1).f5)) hn423_5 hx423_1; replace hx423_2 := zF gb422 5 (.string ((rd_T45 l0 x5_1).f5)) hn423_5 hx423_2; replace hx423_3 := zF gb422 5 (.string ((rd_T45 l0 x5_1).f5)) hn423_5 hx423_3; replace hx423_4 := zF gb422 5 (.string ((rd_T45 l0 x5_1).f5)) hn423_5 hx423_4; replace hx423_5 := zF gb422 5 (.string ((rd_T45 l0 x5_1).f5)) hn423_5 hx423_5; replace hx423_6 := zF gb422 5 (.string ((rd_T45 l0 x5_1).f5)) hn423_5 hx423_6; replace hx423_7 := zF gb422 5 (.string ((rd_T45 l0 x5_1).f5)) hn423_5 hx423_7; replace hx423_8 := zF gb422 5 (.string ((rd_T45 l0 x5_1).f5)) hn423_5 hx423_8; replace hx423_9 := zF gb422 5 (.string ((rd_T45 l0 x5_1).f5)) hn423_5 hx423_9; replace hx423_0 := zF gb422 6 (.string ((rd_T45 l0 x5_1).f6)) hn423_6 hx423_0; replace hx423_1 := zF gb422 6 (.string ((rd_T45 l0 x5_1).f6)) hn423_6 hx423_1; replace hx423_2 := zF gb422 6 (.string ((rd_T45 l0 x5_1).f6)) hn423_6 hx423_2; replace hx423_3 := zF gb422 6 (.string ((rd_T45 l0 x5_1).f6)) hn423_6 hx423_3; replace hx423_4 := zF gb422 6 (.string ((rd_T45 l0 x5_1).f6)) hn423_6 hx423_4; replace hx423_5 := zF gb422 6 (.string ((rd_T45 l0 x5_1).f6)) hn423_6 hx423_5; replace hx423_6 := zF gb422 6 (.string ((rd_T45 l0 x5_1).f6)) hn423_6 hx423_6; replace hx423_7 := zF gb422 6 (.string ((rd_T45 l0 x5_1).f6)) hn423_6 hx423_7; replace hx423_8 := zF gb422 6 (.string ((rd_T45 l0 x5_1).f6)) hn423_6 hx423_8; replace hx423_9 := zF gb422 6 (.string ((rd_T45 l0 x5_1).f6)) hn423_6 hx423_9; replace hx423_0 := zF gb422 7 (.string ((rd_T45 l0 x5_1).f7)) hn423_7 hx423_0; replace hx423_1 := zF gb422 7 (.string ((rd_T45 l0 x5_1).f7)) hn423_7 hx423_1; replace hx423_2 := zF gb422 7 (.string ((rd_T45 l0 x5_1).f7)) hn423_7 hx423_2; replace hx423_3 := zF gb422 7 (.string ((rd_T45 l0 x5_1).f7)) hn423_7 hx423_3; replace hx423_4 := zF gb422 7 (.string ((rd_T45 l0 x5_1).f7)) hn423_7 hx423_4; replace hx423_5 := zF gb422 7 (.string ((rd_T45 l0 x5_1).f7)) hn423_7 hx423_5; replace hx423_6 := zF gb422 7 (.string ((rd_T45 l0 x5_1).f7)) hn423_7 hx423_6; replace hx423_7 := zF gb422 7 (.string ((rd_T45 l0 x5_1).f7)) hn423_7 hx423_7; replace hx423_8 := zF gb422 7 (.string ((rd_T45 l0 x5_1).f7)) hn423_7 hx423_8; replace hx423_9 := zF gb422 7 (.string ((rd_T45 l0 x5_1).f7)) hn423_7 hx423_9; replace hx423_0 := zF gb422 8 (.string ((rd_T45 l0 x5_1).f8)) hn423_8 hx423_0; replace hx423_1 := zF gb422 8 (.string ((rd_T45 l0 x5_1).f8)) hn423_8 hx423_1; replace hx423_2 := zF gb422 8 (.string ((rd_T45 l0 x5_1).f8)) hn423_8 hx423_2; replace hx423_3 := zF gb422 8 (.string ((rd_T45 l0 x5_1).f8)) hn423_8 hx423_3; replace hx423_4 := zF gb422 8 (.string ((rd_T45 l0 x5_1).f8)) hn423_8 hx423_4; replace hx423_5 := zF gb422 8 (.string ((rd_T45 l0 x5_1).f8)) hn423_8 hx423_5; replace hx423_6 := zF gb422 8 (.string ((rd_T45 l0 x5_1).f8)) hn423_8 hx423_6; replace hx423_7 := zF gb422 8 (.string ((rd_T45 l0 x5_1).f8)) hn423_8 hx423_7; replace hx423_8 := zF gb422 8 (.string ((rd_T45 l0 x5_1).f8)) hn423_8 hx423_8; replace hx423_9 := zF gb422 8 (.string ((rd_T45 l0 x5_1).f8)) hn423_8 hx423_9; replace hx423_0 := zF gb422 9 (.slice A421_9 ((rd_T45 l0 x5_1).f9).length c421_9) hn423_9 hx423_0; replace hx423_1 := zF gb422 9 (.slice A421_9 ((rd_T45 l0 x5_1).f9).length c421_9) hn423_9 hx423_1; replace hx423_2 := zF gb422 9 (.slice A421_9 ((rd_T45 l0 x5_1).f9).length c421_9) hn423_9 hx423_2; replace hx423_3 := zF gb422 9 (.slice A421_9 ((rd_T45 l0 x5_1).f9).length c421_9) hn423_9 hx423_3; replace hx423_4 := zF gb422 9 (.slice A421_9 ((rd_T45 l0 x5_1).f9).length c421_9) hn423_9 hx423_4; replace hx423_5 := zF gb422 9 (.slice A421_9 ((rd_T45 l0 x5_1).f9).length c421_9) hn423_9 hx423_5; replace hx423_6 := zF gb422 9 (.slice A421_9 ((rd_T45 l0 x5_1).f9).length c421_9) hn423_9 hx423_6; replace hx423_7 := zF gb422 9 (.slice A421_9 ((rd_T45 l0 x5_1).f9).length c421_9) hn423_9 hx423_7; replace hx423_8 := zF gb422 9 (.slice A421_9 ((rd_T45 l0 x5_1).f9).length c421_9) hn423_9 hx423_8; replace hx423_9 := zF gb422 9 (.slice A421_9 ((rd_T45 l0 x5_1).f9).length c421_9) hn423_9 hx423_9; clear hn423_0; clear hn423_1; clear hn423_2; clear hn423_3; clear hn423_4; clear hn423_5; clear hn423_6; clear hn423_7; clear hn423_8; clear hn423_9; replace p423 := eq_true p423; replace q423 := eq_true q423) | ((with_reducible refine gate_dst (N := 7) rfl ?_); refine box_event ?hg (N := 7) ?hd (cs := #[.int .i64 0, .int .i64 0, .string ⟨#[]⟩, .string ⟨#[]⟩, .string ⟨#[]⟩, .string ⟨#[]⟩, .string ⟨#[]⟩, .string ⟨#[]⟩, .string ⟨#[]⟩, .slice none 0 0]) (t := 64) ?hr ?_; (case hd => rfl); (case hg => rfl); (case hr => (go_simp; try rfl)); intro gb424 hg w10 hbox hb; have BK424 := ka (hbox); have GW424 := ka (zG hg (zL HB.out)); have GE424 := ka (zG hg (zL HB.out)); replace HB := ka (below_step (zL HB.out) hb); have NB422_424 := ka ((by rw [hg]; exact Nat.ne_of_lt (blk_lt (g := gb422) (o := .cells #[.int .i64 ((rd_T45 l0 x5_1).f0), .int .i64 ((rd_T45 l0 x5_1).f1), .string ((rd_T45 l0 x5_1).f2), .string ((rd_T45 l0 x5_1).f3), .string ((rd_T45 l0 x5_1).f4), .string ((rd_T45 l0 x5_1).f5), .string ((rd_T45 l0 x5_1).f6), .string ((rd_T45 l0 x5_1).f7), .string ((rd_T45 l0 x5_1).f8), .slice A421_9 ((rd_T45 l0 x5_1).f9).length c421_9] 45 (0, 0)) (zP10 BK422.out)) : gb422 ≠ gb424)); have NB424_422 := ka ((by rw [hg]; exact Nat.ne_of_gt (blk_lt (g := gb422) (o := .cells #[.int .i64 ((rd_T45 l0 x5_1).f0), .int .i64 ((rd_T45 l0 x5_1).f1), .string ((rd_T45 l0 x5_1).f2), .string ((rd_T45 l0 x5_1).f3), .string ((rd_T45 l0 x5_1).f4), .string ((rd_T45 l0 x5_1).f5), .string ((rd_T45 l0 x5_1).f6), .string ((rd_T45 l0 x5_1).f7), .string ((rd_T45 l0 x5_1).f8), .slice A421_9 ((rd_T45 l0 x5_1).f9).length c421_9] 45 (0, 0)) (zP10 BK422.out)) : gb424 ≠ gb422)); replace BK422 := ka (blk_below (g := gb422) (o := .cells #[.int .i64 ((rd_T45 l0 x5_1).f0), .int .i64 ((rd_T45 l0 x5_1).f1), .string ((rd_T45 l0 x5_1).f2), .string ((rd_T45 l0 x5_1).f3), .string ((rd_T45 l0 x5_1).f4), .string ((rd_T45 l0 x5_1).f5), .string ((rd_T45 l0 x5_1).f6), .string ((rd_T45 l0 x5_1).f7), .string ((rd_T45 l0 x5_1).f8), .slice A421_9 ((rd_T45 l0 x5_1).f9).length c421_9] 45 (0, 0)) (zP10 BK422.out) hb); clear hb hbox hg; have hnb11 := NB424_422.out; have hnc11 := NB422_424.out; obtain ⟨z12_0, z12_1, z12_2, z12_3, z12_4, z12_5, z12_6, z12_7, z12_8, z12_9, y12_0, y12_1, y12_2, y12_3, y12_4, y12_5, y12_6, y12_7, y12_8, y12_9⟩ := zC10 BK424.out))
     (try simp only [Act.put, List.setIfInBounds_toArray, List.set_cons_zero, List.set_cons_succ])
     go_cut [95] (fun v95 wc => ∃ (kq : Nat) (x95_6 : Bool), v95 = .bool x95_6 ∧ Aside0 (cooperagelaw9_same.j1 kq l0 l1 x5_1 x95_6 = some r) ∧ Aside0 (kq ≤ k1) ∧ Aside0 (wc.heap[gb422]? = some (.cells #[.int .i64 ((rd_T45 l0 x5_1).f0), .int .i64 ((rd_T45 l0 x5_1).f1), .string ((rd_T45 l0 x5_1).f2), .string ((rd_T45 l0 x5_1).f3), .string ((rd_T45 l0 x5_1).f4), .string ((rd_T45 l0 x5_1).f5), .string ((rd_T45 l0 x5_1).f6), .string ((rd_T45 l0 x5_1).f7), .string ((rd_T45 l0 x5_1).f8), (.slice A421_9 ((rd_T45 l0 x5_1).f9).length c421_9)] 45 (0, 0))) ∧ Aside0 (wc.heap[gb424]? = some (.cells #[.int .i64 ((rd_T64 l1 x5_1).f0), .int .i64 ((rd_T64 l1 x5_1).f1), .string ((rd_T64 l1 x5_1).f2), .string ((rd_T64 l1 x5_1).f3), .string ((rd_T64 l1 x5_1).f4), .string ((rd_T64 l1 x5_1).f5), .string ((rd_T64 l1 x5_1).f6), .string ((rd_T64 l1 x5_1).f7), .string ((rd_T64 l1 x5_1).f8), (.slice A423_9 ((rd_T64 l1 x5_1).f9).length c423_9)] 64 (0, 0))) ∧ Aside0 (Below w.heap.size w wc))
     case first =>
      have H := HC7.out
      clear HC7
      by_cases c13 : ((rd_T45 l0 x5_1).f0) = ((rd_T64 l1 x5_1).f0)
      case neg =>
       rw [if_neg c13] at H
       have c13b0 := zn0 c13
       have c13b1 := zn1 c13
       (first | rw [c13b0] | (simp only [i64_w, i32_w]; rw [c13b0]) | rw [isE_ c13b0] | skip)
       have H' := ka H
       clear H
       have hnb50 := NB422_424.out
       have hnc50 := NB424_422.out
       obtain ⟨z51_0, z51_1, z51_2, z51_3, z51_4, z51_5, z51_6, z51_7, z51_8, z51_9, y51_0, y51_1, y51_2, y51_3, y51_4, y51_5, y51_6, y51_7, y51_8, y51_9⟩ := zC10 BK422.out
       obtain ⟨z52_0, z52_1, z52_2, z52_3, z52_4, z52_5, z52_6, z52_7, z52_8, z52_9, y52_0, y52_1, y52_2, y52_3, y52_4, y52_5, y52_6, y52_7, y52_8, y52_9⟩ := zC10 BK424.out
       go_wp2
       go_meet
       case rel => exact ⟨_, (true), zS, H', ⟨by have := HK1.out; first | omega | exact Nat.le_refl _⟩, ⟨zK BK422.out⟩, ⟨zP10 BK424.out⟩, ⟨zL HB.out⟩⟩
      case' pos =>
       rw [if_pos c13] at H
       have c13b0 := zb0 c13
       have c13b1 := zb1 c13
       clear c13
       (first | rw [c13b0] | (simp only [i64_w, i32_w]; rw [c13b0]) | rw [isE_ c13b0] | skip)
       by_cases c14 : ((rd_T45 l0 x5_1).f1) = ((rd_T64 l1 x5_1).f1)
       case' neg =>
        rw [if_neg c14] at H
        have c14b0 := zn0 c14
        have c14b1 := zn1 c14
       case' pos =>
        rw [if_pos c14] at H
        have c14b0 := zb0 c14
        have c14b1 := zb1 c14
        clear c14
        by_cases c15 : ((rd_T45 l0 x5_1).f2).toList = ((rd_T64 l1 x5_1).f2).toList
        case' neg =>
         rw [if_neg c15] at H
         have c15b0 := zn0 c15
         have c15b1 := zn1 c15
        case' pos =>
         rw [if_pos c15] at H
         have c15b0 := zb0 c15
         have c15b1 := zb1 c15
         clear c15
         by_cases c16 : ((rd_T45 l0 x5_1).f3).toList = ((rd_T64 l1 x5_1).f3).toList
         case' neg =>
          rw [if_neg c16] at H
          have c16b0 := zn0 c16
          have c16b1 := zn1 c16
         case' pos =>
          rw [if_pos c16] at H
          have c16b0 := zb0 c16
          have c16b1 := zb1 c16
          clear c16
          by_cases c17 : ((rd_T45 l0 x5_1).f4).toList = ((rd_T64 l1 x5_1).f4).toList
          case' neg =>
           rw [if_neg c17] at H
           have c17b0 := zn0 c17
           have c17b1 := zn1 c17
          case' pos =>
           rw [if_pos c17] at H
           have c17b0 := zb0 c17
           have c17b1 := zb1 c17
           clear c17
           by_cases c18 : ((rd_T45 l0 x5_1).f5).toList = ((rd_T64 l1 x5_1).f5).toList
           case' neg =>
            rw [if_neg c18] at H
            have c18b0 := zn0 c18
            have c18b1 := zn1 c18
           case' pos =>
            rw [if_pos c18] at H
            have c18b0 := zb0 c18
            have c18b1 := zb1 c18
            clear c18
            by_cases c19 : ((rd_T45 l0 x5_1).f6).toList = ((rd_T64 l1 x5_1).f6).toList
            case' neg =>
             rw [if_neg c19] at H
             have c19b0 := zn0 c19
             have c19b1 := zn1 c19
            case' pos =>
             rw [if_pos c19] at H
             have c19b0 := zb0 c19
             have c19b1 := zb1 c19
             clear c19
             by_cases c20 : ((rd_T45 l0 x5_1).f7).toList = ((rd_T64 l1 x5_1).f7).toList
             case' neg =>
              rw [if_neg c20] at H
              have c20b0 := zn0 c20
              have c20b1 := zn1 c20
             case' pos =>
              rw [if_pos c20] at H
              have c20b0 := zb0 c20
              have c20b1 := zb1 c20
              clear c20
              by_cases c21 : ((rd_T45 l0 x5_1).f8).toList = ((rd_T64 l1 x5_1).f8).toList
              case pos =>
               rw [if_pos c21] at H
               have c21b0 := zb0 c21
               have c21b1 := zb1 c21
               clear c21
               replace H := Option.bind_eq_some_iff.mp H
               obtain ⟨t425, A220, H⟩ := H
               try dsimp only at H
               have A22 := ka A220
               clear A220
               have H' := ka H
               clear H
               have hnb23 := NB422_424.out
               have hnc23 := NB424_422.out
               obtain ⟨z24_0, z24_1, z24_2, z24_3, z24_4, z24_5, z24_6, z24_7, z24_8, z24_9, y24_0, y24_1, y24_2, y24_3, y24_4, y24_5, y24_6, y24_7, y24_8, y24_9⟩ := zC10 BK422.out
               obtain ⟨z25_0, z25_1, z25_2, z25_3, z25_4, z25_5, z25_6, z25_7, z25_8, z25_9, y25_0, y25_1, y25_2, y25_3, y25_4, y25_5, y25_6, y25_7, y25_8, y25_9⟩ := zC10 BK424.out
               go_wp2_with (first | (go_at_call 19; (with_reducible refine (cooperagelaw9_sames.calls k1 _ _ ((rd_T45 l0 x5_1).f9) _ _ ((rd_T64 l1 x5_1).f9) t425 _ ?side1 ?side2 ?side3 ?side4 A22.out).mono ?_); (case side1 => exact Kd.C_below HR421_9.out (zL HB.out)); (case side2 => exact HC421_9.out); (case side3 => exact Kd.C_below HR423_9.out (zL HB.out)); (case side4 => exact HC423_9.out); rintro e w' ⟨rfl, ⟨nd, rfl⟩⟩))
               go_meet
               case rel => exact ⟨_, (!t425), zS, H', ⟨by have := HK1.out; first | omega | exact Nat.le_refl _⟩, ⟨zK BK422.out⟩, ⟨zP10 BK424.out⟩, ⟨zL HB.out⟩⟩
              case' neg =>
               rw [if_neg c21] at H
               have c21b0 := zn0 c21
               have c21b1 := zn1 c21
      all_goals
       have H' := ka H
       clear H
       have hnb26 := NB422_424.out
       have hnc26 := NB424_422.out
       obtain ⟨z27_0, z27_1, z27_2, z27_3, z27_4, z27_5, z27_6, z27_7, z27_8, z27_9, y27_0, y27_1, y27_2, y27_3, y27_4, y27_5, y27_6, y27_7, y27_8, y27_9⟩ := zC10 BK422.out
       obtain ⟨z28_0, z28_1, z28_2, z28_3, z28_4, z28_5, z28_6, z28_7, z28_8, z28_9, y28_0, y28_1, y28_2, y28_3, y28_4, y28_5, y28_6, y28_7, y28_8, y28_9⟩ := zC10 BK424.out
       go_wp2
       go_meet
       case rel => exact ⟨_, (true), zS, H', ⟨by have := HK1.out; first | omega | exact Nat.le_refl _⟩, ⟨zK BK422.out⟩, ⟨zP10 BK424.out⟩, ⟨zL HB.out⟩⟩
     case rest =>
      clear HC7
      try clear c3
      try clear c3b0
      try clear c3b1
      try clear c3b2
      try clear c4
      try clear c4b0
      try clear c5
      try clear c5b0
      try clear c6
      try clear c6b0
      try clear z12_0 z12_1 z12_2 z12_3 z12_4 z12_5 z12_6 z12_7 z12_8 z12_9
      try clear z9_0 z9_1 z9_2 z9_3 z9_4 z9_5 z9_6 z9_7 z9_8 z9_9
      try clear y12_0 y12_1 y12_2 y12_3 y12_4 y12_5 y12_6 y12_7 y12_8 y12_9
      try clear y9_0 y9_1 y9_2 y9_3 y9_4 y9_5 y9_6 y9_7 y9_8 y9_9
      try clear hx421_0
      try clear hx421_1
      try clear hx421_2
      try clear hx421_3
      try clear hx421_4
      try clear hx421_5
      try clear hx421_6
      try clear hx421_7
      try clear hx421_8
      try clear hx421_9
      try clear hx423_0
      try clear hx423_1
      try clear hx423_2
      try clear hx423_3
      try clear hx423_4
      try clear hx423_5
      try clear hx423_6
      try clear hx423_7
      try clear hx423_8
      try clear hx423_9
      try clear p421
      try clear p423
      try clear q421
      try clear q423
      obtain ⟨kq, x95_6, rfl, HA, HJ6, BK422, BK424, HB⟩ := hcut
      cases kq with
      | zero => exact absurd HA.out (by simp [cooperagelaw9_same.j1])
      | succ kj6 =>
       have H := HA.out
       clear HA
       simp only [cooperagelaw9_same.j1] at H
       by_cases c53 : x95_6 = true
       ·subst c53
        rw [if_pos rfl] at H
        obtain rfl := Option.some.inj H
        go_wp2
        go_ret
        exact ⟨zE, zL HB.out⟩
       replace c53 := Bool.eq_false_iff.mpr c53
       subst c53
       rw [if_neg (show ¬ (false = true) by decide)] at H
       have H' := ka H
       clear H
       go_wp2
       go_roundg kj6
       case measure => have := HK1.out; have := HJ6.out; omega
       case rel => exact ⟨(wrap64 (x5_1 + 1)), zS, H', ⟨by have := HK1.out; have := HJ6.out; omega⟩, ⟨zL HB.out⟩⟩
    rw [if_neg c4] at H
    have c4b0 := zdf c4
    clear c4
    obtain rfl := Option.some.inj H
    go_wp2
    go_ret
    exact ⟨zE, zL HB.out⟩
 rw [if_neg c3] at H
 have c3b0 := zn0 c3
 have c3b1 := zn1 c3
 have c3b2 : (l0.length == l1.length) = false := by first | simpa using c3 | (simp at c3 ⊢; omega)
 obtain rfl := Option.some.inj H
 go_enter Tryd.func14, Tryd.ntmps14
 go_wp2
 go_ret
 exact ⟨zE, zL HB.out⟩

/-! ### stringslite_IndexByte: function 81 -/
def stringslite_IndexByte.f (a0 : ByteArray) (a1 : Int) : Option (Int) := some (Lib.indexByte a0.data.toList a1.toNat.toUInt8)
set_option maxHeartbeats 1000000 in
theorem stringslite_IndexByte.calls (a0 : ByteArray) (a1 : Int) (r : Int) (w : World) (h : stringslite_IndexByte.f a0 a1 = some r) :
    Calls Tryd.prog 81 #[.string a0, .int .u8 a1] w fun e w' => e = .returned (.int .i64 r) ∧ Drawn0 w w' := by
  have H : (some (Lib.indexByte a0.data.toList a1.toNat.toUInt8)) = some r := h
  clear h
  obtain rfl := Option.some.inj H
  clear H
  go_enter Tryd.func81, Tryd.ntmps81
  go_wp2_with fail
  rw [run_callFunc_extern Tryd.func88 (by kernel_rfl) (by kernel_rfl) (by kernel_rfl) (e := Extern.BytealgIndexByte.indexByte) (by kernel_rfl), Lib.run_indexByteString]
  simp only [Result.andThen]
  rw [Oper.upon_value]
  go_wp2
  go_ret
  exact ⟨rfl, Drawn0.refl _⟩



/-! ### stringslite_Index: function 74 -/
/-- strings.Index at a sub of one byte: where it first is. -/
def stringslite_Index.f (a0 : ByteArray) (a1 : ByteArray) : Option (Int) := if a1.size = 1 then some (Lib.indexByte a0.data.toList (a1.data.toList.headD 0)) else none
theorem one_byte (a1 : ByteArray) (h : a1.size = 1) : ∃ c : UInt8, a1 = ⟨#[c]⟩ := by
  obtain ⟨d⟩ := a1
  obtain ⟨l⟩ := d
  match l, h with
  | [c], _ => exact ⟨c, rfl⟩
set_option maxHeartbeats 1000000 in
theorem stringslite_Index.one (a0 : ByteArray) (c : UInt8) (w : World) :
    Calls Tryd.prog 74 #[.string a0, .string ⟨#[c]⟩] w fun e w' => e = .returned (.int .i64 (Lib.indexByte a0.data.toList c)) ∧ Drawn0 w w' := by
  go_enter Tryd.func74, Tryd.ntmps74
  go_wp2_with (go_at_call 81; (with_reducible refine (stringslite_IndexByte.calls _ _ _ _ rfl).mono ?_); rintro e w' ⟨rfl, ⟨nd, rfl⟩⟩)
  · have h : ([c] == a0.toList) = true := by assumption
    go_ret
    refine ⟨?_, Drawn0.refl _⟩
    have e : a0.data.toList = [c] := by rw [← Lib.toList_data]; exact (beq_iff_eq.1 h).symm
    rw [e]
    simp [Lib.indexByte]
  · go_ret
    exact ⟨by first | rfl | (simp; rfl), zd0⟩
theorem stringslite_Index.calls (a0 : ByteArray) (a1 : ByteArray) (r : Int) (w : World) (h : stringslite_Index.f a0 a1 = some r) :
    Calls Tryd.prog 74 #[.string a0, .string a1] w fun e w' => e = .returned (.int .i64 r) ∧ Drawn0 w w' := by
  unfold stringslite_Index.f at h
  by_cases c : a1.size = 1
  · rw [if_pos c] at h
    obtain rfl := Option.some.inj h
    obtain ⟨b, rfl⟩ := one_byte a1 c
    exact stringslite_Index.one a0 b w
  · rw [if_neg c] at h
    exact absurd h (by simp)



/-! ### stringslite_Cut: function 60 -/
def stringslite_Cut.f (a0 : ByteArray) (a1 : ByteArray) : Option (ByteArray × ByteArray × Bool) := (stringslite_Index.f a0 a1).bind fun t426 => (if t426 ≥ 0 then (if 0 ≤ t426 then (if t426 ≤ (a0.size : Int) then (if 0 ≤ (wrap64 (t426 + (a1.size : Int))) then (if (wrap64 (t426 + (a1.size : Int))) ≤ (a0.size : Int) then (some (a0.extract 0 (t426 : Int).toNat, a0.extract ((wrap64 (t426 + (a1.size : Int))) : Int).toNat a0.size, true)) else (none)) else (none)) else (none)) else (none)) else (some (a0, (⟨#[]⟩ : ByteArray), false)))
theorem stringslite_Cut.calls (a0 : ByteArray) (a1 : ByteArray) (r1 : ByteArray) (r2 : ByteArray) (r3 : Bool) (w : World) (h : stringslite_Cut.f a0 a1 = some (r1, r2, r3)) :
  Calls Tryd.prog 60 #[.string a0, .string a1] w fun e w' => e = .returned (.tuple #[.string r1, .string r2, .bool r3]) ∧ Drawn0 w w' := by
 have H : ((stringslite_Index.f a0 a1).bind fun t426 => (if t426 ≥ 0 then (if 0 ≤ t426 then (if t426 ≤ (a0.size : Int) then (if 0 ≤ (wrap64 (t426 + (a1.size : Int))) then (if (wrap64 (t426 + (a1.size : Int))) ≤ (a0.size : Int) then (some (a0.extract 0 (t426 : Int).toNat, a0.extract ((wrap64 (t426 + (a1.size : Int))) : Int).toNat a0.size, true)) else (none)) else (none)) else (none)) else (none)) else (some (a0, (⟨#[]⟩ : ByteArray), false)))) = some (r1, r2, r3) := h
 clear h
 replace H := Option.bind_eq_some_iff.mp H
 obtain ⟨t426, A30, H⟩ := H
 try dsimp only at H
 have A3 := ka A30
 clear A30
 by_cases c4 : t426 ≥ 0
 ·rw [if_pos c4] at H
  have c4b0 : decide (0 ≤ t426) = true := zdt c4
  clear c4
  replace H := zif H
  obtain ⟨c5, H⟩ := H
  have c5b0 := eq_true c5
  have c5b1 := zdt c5
  clear c5
  replace H := zif H
  obtain ⟨c6, H⟩ := H
  have c6b0 := eq_true c6
  have c6b1 := zdt c6
  clear c6
  obtain ⟨ji7, hji7⟩ : ∃ j_ : Int, (wrap64 (t426 + (a1.size : Int))) = j_ := ⟨_, rfl⟩
  replace H : (if 0 ≤ (ji7) then (if (ji7) ≤ (a0.size : Int) then (some (a0.extract 0 (t426 : Int).toNat, a0.extract ((ji7) : Int).toNat a0.size, true)) else (none)) else (none)) = some (r1, r2, r3) := by first | (rw [hji7] at H; exact H) | (simp only [hji7] at H ⊢; exact H)
  (try rw [hji7] at A3)
  have hji7w : (IntKind.i64.wrap (t426 + (a1.size : Int))) = ji7 := (i64_w _).trans hji7
  replace H := zif H
  obtain ⟨c8, H⟩ := H
  have c8b0 := eq_true c8
  have c8b1 := zdt c8
  clear c8
  replace H := zif H
  obtain ⟨c9, H⟩ := H
  have c9b0 := eq_true c9
  have c9b1 := zdt c9
  clear c9
  replace H := zs3 H
  obtain ⟨rfl, rfl, rfl⟩ := H
  go_enter Tryd.func60, Tryd.ntmps60
  have F_ := trivial
  repeat ((first | clear F_ | go_quiet (first | (go_at_call 74; (with_reducible refine (stringslite_Index.calls a0 a1 t426 _ A3.out).mono ?_); rintro e w' ⟨rfl, ⟨nd, rfl⟩⟩; (try exact zDr)))); try go_wp2_with (first | (go_at_call 74; (with_reducible refine (stringslite_Index.calls a0 a1 t426 _ A3.out).mono ?_); rintro e w' ⟨rfl, ⟨nd, rfl⟩⟩; (try exact zDr))))
  go_ret3
  exact ⟨by first | rfl | (simp; done) | (simp only [← hji7] <;> (first | rfl | simp)) | (simp [*]; done), zd0⟩
 rw [if_neg c4] at H
 have c4b0 : decide (0 ≤ t426) = false := zdf c4
 clear c4
 replace H := zs3 H
 obtain ⟨rfl, rfl, rfl⟩ := H
 go_enter Tryd.func60, Tryd.ntmps60
 have F_ := trivial
 repeat ((first | clear F_ | go_quiet (first | (go_at_call 74; (with_reducible refine (stringslite_Index.calls a0 a1 t426 _ A3.out).mono ?_); rintro e w' ⟨rfl, ⟨nd, rfl⟩⟩; (try exact zDr)))); try go_wp2_with (first | (go_at_call 74; (with_reducible refine (stringslite_Index.calls a0 a1 t426 _ A3.out).mono ?_); rintro e w' ⟨rfl, ⟨nd, rfl⟩⟩; (try exact zDr))))
 go_ret3
 exact ⟨by first | rfl | (simp; done) | (simp [*]; done), zd0⟩

/-! ### strings_Cut: function 34 -/
def strings_Cut.f (a0 : ByteArray) (a1 : ByteArray) : Option (ByteArray × ByteArray × Bool) := (stringslite_Cut.f a0 a1).bind fun bt427 => (some (bt427.1, bt427.2.1, bt427.2.2))
theorem strings_Cut.calls (a0 : ByteArray) (a1 : ByteArray) (r1 : ByteArray) (r2 : ByteArray) (r3 : Bool) (w : World) (h : strings_Cut.f a0 a1 = some (r1, r2, r3)) :
  Calls Tryd.prog 34 #[.string a0, .string a1] w fun e w' => e = .returned (.tuple #[.string r1, .string r2, .bool r3]) ∧ Drawn0 w w' := by
 have H : ((stringslite_Cut.f a0 a1).bind fun bt427 => (some (bt427.1, bt427.2.1, bt427.2.2))) = some (r1, r2, r3) := h
 clear h
 replace H := Option.bind_eq_some_iff.mp H
 obtain ⟨⟨t427, t428, t429⟩, A30, H⟩ := H
 try dsimp only at H
 have A3 := ka A30
 clear A30
 replace H := zs3 H
 obtain ⟨rfl, rfl, rfl⟩ := H
 go_enter Tryd.func34, Tryd.ntmps34
 go_wp2_with (first | ((with_reducible refine gate_callee (f := 60) rfl ?_); refine goesL_ (some 9) rfl rfl Tryd.func60 (by kernel_rfl) rfl #[.string a0, .string a1] rfl zA ?_; (with_reducible refine (stringslite_Cut.calls a0 a1 t427 t428 t429 _ A3.out).mono ?_); rintro e w' ⟨rfl, ⟨nd, rfl⟩⟩; refine ⟨_, rfl, ?_⟩))
 go_ret3
 exact ⟨by first | rfl | (simp; done) | (simp [*]; done), zd0⟩

/-! ### text_Lines: function 30 -/
/-- strings.Cut at one byte. -/
theorem text_cut (c : UInt8) (p : ByteArray) (hp : p.size ≤ 1000000000) :
    (c ∉ Pl.bl p ∧ strings_Cut.f p ⟨#[c]⟩ = some (p, ⟨#[]⟩, false)) ∨ (∃ a b, Pl.bl p = a ++ c :: b ∧ c ∉ a ∧ strings_Cut.f p ⟨#[c]⟩ = some (Pl.ofL a, Pl.ofL b, true)) := by
  unfold strings_Cut.f stringslite_Cut.f stringslite_Index.f
  rw [if_pos (show (⟨#[c]⟩ : ByteArray).size = 1 from rfl)]
  simp only [Option.bind_some]
  rw [show Lib.indexByte p.data.toList ((⟨#[c]⟩ : ByteArray).data.toList.headD 0) = Lib.indexByte (Pl.bl p) c from rfl]
  rcases Pl.ib_cases c (Pl.bl p) with ⟨e, hn⟩ | ⟨a, b, hl, ha, e⟩
  · rw [e, if_neg (by omega)]
    exact .inl ⟨hn, rfl⟩
  · refine .inr ⟨a, b, hl, ha, ?_⟩
    have hlen : p.size = a.length + (b.length + 1) := by rw [Pl.bl_size, hl]; simp
    have hw : wrap64 ((a.length : Int) + ((⟨#[c]⟩ : ByteArray).size : Int)) = (a.length : Int) + 1 := Pl.wrap_sm (by show _ ≤ (a.length : Int) + 1; omega) (by show (a.length : Int) + 1 ≤ _; omega)
    rw [e, hw, if_pos (by omega), if_pos (by omega), if_pos (by omega), if_pos (by omega), if_pos (by omega)]
    simp only [Option.bind_some]
    have e1 : p.extract 0 ((a.length : Int)).toNat = Pl.ofL a := Pl.bl_inj (by rw [Pl.bl_extract_from, Pl.bl_ofL, hl, Int.toNat_natCast, List.take_left])
    have e2 : p.extract ((a.length : Int) + 1).toNat p.size = Pl.ofL b := Pl.bl_inj (by rw [Pl.bl_extract_to, Pl.bl_ofL, hl, show ((a.length : Int) + 1).toNat = (a ++ [c]).length by simp; done, show a ++ c :: b = (a ++ [c]) ++ b by simp, List.drop_left])
    rw [e1, e2]
/-- text.Lines: the lines of a text. -/
def text_Lines.f (a0 : ByteArray) : Option (List ByteArray) := if a0.size ≤ 1000000 then some ((Pl.linesL (Pl.bl a0)).map Pl.ofL) else none
/-- How many lines the text in a box has. -/
def text_Lines.left (B : Nat) (w : World) : Nat := match w.cell? ⟨B, 0, none⟩ with
  | some (.string s) => (Pl.linesL (Pl.bl s)).length
  | _ => 0
theorem text_Lines.left_eq {B : Nat} {w : World} {s : ByteArray} (h : Go.Boxed w B 9 (.string s)) : text_Lines.left B w = (Pl.linesL (Pl.bl s)).length := by
  unfold text_Lines.left
  rw [h.cell]
section
attribute [local go_sem] Oper.semAt_some
/-- One line off the front, as strings.Cut does it. -/
theorem text_Lines.one (c : ByteArray) (hc : c.size ≤ 1000000) (h0 : Pl.bl c ≠ []) : ∃ x y t, strings_Cut.f c ⟨#[10]⟩ = some (x, y, t) ∧ Pl.linesL (Pl.bl c) = Pl.bl x :: Pl.linesL (Pl.bl y) ∧ y.size ≤ 1000000 := by
  rcases text_cut 10 c (by omega) with ⟨hn, e⟩ | ⟨a, b, hl, ha, e⟩
  · exact ⟨_, _, _, e, by rw [Pl.linesL_last _ hn h0]; rfl, by show (0 : Nat) ≤ 1000000; omega⟩
  · refine ⟨_, _, _, e, by rw [hl, Pl.linesL_feed a b ha, Pl.bl_ofL, Pl.bl_ofL], ?_⟩
    have := Pl.bl_size c
    rw [hl] at this
    rw [Pl.bl_size, Pl.bl_ofL]
    simp at this
    omega
set_option maxHeartbeats 2000000 in
/-- The iterator: whatever the loop's body is, if it keeps the text's box. -/
theorem text_Lines.iter (n : Nat) (hn : 1 ≤ n) (l Bs : Nat) (s : ByteArray) (hs : s.size ≤ 1000000) (J : List ByteArray → World → Prop)
    (hY : ∀ pre x W, J pre W → pre.length < (Pl.linesL (Pl.bl s)).length → YieldAt Fence.wide (n - 1) Tryd.prog l #[.string x] W fun e W' => e = .returned (.bool true) ∧ J (pre ++ [x]) W' ∧ ∀ v, Go.Boxed W Bs 9 v → Go.Boxed W' Bs 9 v)
    (hset : ∀ pre W u v, J pre W → Go.Boxed W Bs 9 u → J pre (W.setCell ⟨Bs, 0, none⟩ v))
    (hbl : ∀ pre W W', J pre W → Below W.heap.size W W' → J pre W')
    (W : World) (hb : Go.Boxed W Bs 9 (.string s)) (h0 : J [] W) :
    CallsIn Fence.wide n Tryd.prog 69 (#[.func (.yield l) #[] #[]] ++ #[.pointer (some ⟨Bs, 0, none⟩)]) W fun e W' => (∃ v, e = .returned v) ∧ J ((Pl.linesL (Pl.bl s)).map Pl.ofL) W' := by
  refine callsIn_of_wp Tryd.func69 rfl trivial ?_ rfl
  simp only [Tryd.ntmps69, List.append_toArray, List.cons_append, List.nil_append, List.size_toArray, List.length_cons, List.length_nil, Nat.reduceAdd, Nat.reduceSub, Array.replicate_succ, Array.replicate_zero, List.push_toArray]
  gi_wp2
  gi_loopw [3] (fun _ wr => ∃ (pre : List ByteArray) (c : ByteArray), c.size ≤ 1000000 ∧ (Pl.linesL (Pl.bl s)).map Pl.ofL = pre ++ (Pl.linesL (Pl.bl c)).map Pl.ofL ∧ Go.Boxed wr Bs 9 (.string c) ∧ J pre wr) (fun _ wr => text_Lines.left Bs wr)
  case atStart => exact ⟨[], s, hs, rfl, hb, h0⟩
  case round =>
    obtain ⟨pre, c, hc, hL, hbx, hJ⟩ := hrel
    have hcell := hbx.cell
    have hfr := hbx.frozen
    by_cases e0 : Pl.bl c = []
    · obtain rfl : c = ⟨#[]⟩ := Pl.bl_inj e0
      gi_wp2
      go_end0
      rw [e0, Pl.linesL_nil, List.map_nil, List.append_nil] at hL
      exact ⟨⟨_, rfl⟩, by rw [hL]; exact hJ⟩
    · have e1 : (c.toList == ([] : List UInt8)) = false := by rw [Pl.bl_toList]; exact beq_eq_false_iff_ne.2 e0
      have e2 : (c.toList != ([] : List UInt8)) = true := by rw [Pl.bl_toList]; exact bne_iff_ne.2 e0
      obtain ⟨x, y, t, hcut, hl1, hy⟩ := text_Lines.one c hc e0
      have hlen : pre.length < (Pl.linesL (Pl.bl s)).length := by
        have := congrArg List.length hL
        rw [hl1] at this
        simp at this
        omega
      have hx : Pl.ofL (Pl.bl x) = x := Pl.ofL_bl x
      gi_wp2_with ((refine ⟨trivial, ?_⟩; gi_at_call 34; refine (callsIn_wide.2 (strings_Cut.calls c _ x y t _ hcut)).mono ?_; rintro e w' ⟨rfl, ⟨nd, rfl⟩⟩; obtain ⟨fn, tmps, assign, body, hyy, hR⟩ := hY pre x (wr.drewN nd) (hbl _ _ _ hJ ⟨rfl, rfl, rfl, Nat.le_refl _, fun _ _ => rfl⟩) hlen))
      refine hR.mono ?_
      rintro e W' ⟨rfl, hJ', hk⟩
      have hb' := hk _ (show Go.Boxed (wr.drewN nd) Bs 9 (.string c) from hbx)
      have hcell' := hb'.cell
      have hfr' := hb'.frozen
      gi_wp2
      have hb'' := hb'.set (.string y)
      have hms : text_Lines.left Bs wr = (Pl.linesL (Pl.bl c)).length := text_Lines.left_eq hbx
      go_roundw
      case rel => exact ⟨pre ++ [x], y, hy, by rw [hL, hl1, List.map_cons, hx]; simp, hb'', hset _ _ _ _ hJ' hb'⟩
      case measure => rw [text_Lines.left_eq hb'', hms, hl1]; simp
end
set_option maxHeartbeats 2000000 in
theorem text_Lines.calls (a0 : ByteArray) (r : List ByteArray) (w : World) (h : text_Lines.f a0 = some r) :
    Calls Tryd.prog 30 #[.string a0] w fun e w' => ∃ v0_ : Value, e = .returned (v0_) ∧ Kd.R Kd.string 9 w' w.heap.size (fun _ => True) v0_ r ∧ Below w.heap.size w w' := by
  unfold text_Lines.f at h
  by_cases c : a0.size ≤ 1000000
  · rw [if_pos c] at h
    obtain rfl := Option.some.inj h
    clear h
    have hlen : ((Pl.linesL (Pl.bl a0)).map Pl.ofL).length ≤ 1000000 := by
      have h1 := Pl.linesL_len (Pl.bl a0)
      rw [← Pl.bl_size] at h1
      rw [List.length_map]
      omega
    have hlines : Calls Tryd.prog 52 #[.string a0] w fun e w' => e = .returned (.func (.func 69) #[] #[.pointer (some ⟨w.heap.size, 0, none⟩)]) ∧ w' = w.alloc (.cells #[.string a0] 9) := by
      go_enter Tryd.func52, Tryd.ntmps52
      go_wp2
      go_ret
      exact ⟨rfl, rfl⟩
    have hg := text_gather.calls (gf := 69) w.heap.size w.heap.size (.pointer (some ⟨w.heap.size, 0, none⟩)) _ hlen (enters_of Tryd.func69 (by kernel_rfl) rfl) (.string a0) (w.alloc (.cells #[.string a0] 9)) (Nat.le_refl _) (Boxed.new _ _ _)
      (fun l J hY hS W hb h0 => text_Lines.iter 4 (by omega) l w.heap.size a0 c J (by simpa using hY) (fun pre W u v hj hb => hS _ _ _ hj (.inr ⟨u, v, hb, rfl⟩)) (fun pre W W' hj hb => hS _ _ _ hj (.inl hb)) W hb h0)
    generalize (Pl.linesL (Pl.bl a0)).map Pl.ofL = L at hg hlen
    go_enter Tryd.func30, Tryd.ntmps30
    go_wp2_with (first | (go_at_call 52; refine hlines.mono ?_; rintro e w' ⟨rfl, rfl⟩) | (go_at_call 41; refine hg.mono ?_; rintro e w' ⟨v, rfl, hR, hB⟩))
    go_ret
    exact ⟨v, rfl, Kd.R_lower hR (by simp), ((Below.refl _ w).alloc (Nat.le_refl _) _).trans hB⟩
  · rw [if_neg c] at h
    exact absurd h (by simp)


/-! ### strings_TrimRight: function 33 -/
/-- strings.TrimRight at a short cutset of ASCII bytes. -/
def strings_TrimRight.f (a0 : ByteArray) (a1 : ByteArray) : Option (ByteArray) := if a0.size ≤ 9223372036854775807 ∧ a1.size < 100 ∧ a1.data.toList.all (fun b => decide (b.toNat < 128)) = true then some ⟨(Lib.trimRightS a0.data.toList a1.data.toList).toArray⟩ else none
def lays162_ren : Go.Shelf.Ren := ⟨fun | 162 => 33 | 232 => 57 | 227 => 54 | 234 => 58 | 236 => 59 | 228 => 70 | 271 => 73 | 151 => 72 | 120 => 80 | 197 => 71 | 152 => 75 | 260 => 79 | 137 => 85 | 119 => 86 | 224 => 83 | 225 => 82 | 217 => 81 | 266 => 88 | n => n, fun | 9 => 9 | 4 => 4 | 3 => 3 | 5 => 5 | 117 => 87 | 116 => 86 | 0 => 0 | 124 => 90 | 21 => 21 | 105 => 94 | 46 => 101 | 119 => 103 | 139 => 106 | 138 => 105 | n => n, fun | 3 => 1 | 4 => 2 | n => n⟩
theorem lays162 : Lays.n162 Tryd.prog lays162_ren := {
  mixed := by kernel_rfl,
  f119 := Tryd.func86.trans (congrArg some (by kernel_rfl)),
  f120 := Tryd.func80.trans (congrArg some (by kernel_rfl)),
  f137 := Tryd.func85.trans (congrArg some (by kernel_rfl)),
  f151 := Tryd.func72.trans (congrArg some (by kernel_rfl)),
  f152 := Tryd.func75.trans (congrArg some (by kernel_rfl)),
  f162 := Tryd.func33.trans (congrArg some (by kernel_rfl)),
  f197 := Tryd.func71.trans (congrArg some (by kernel_rfl)),
  f217 := Tryd.func81.trans (congrArg some (by kernel_rfl)),
  f224 := Tryd.func83.trans (congrArg some (by kernel_rfl)),
  f225 := Tryd.func82.trans (congrArg some (by kernel_rfl)),
  f227 := Tryd.func54.trans (congrArg some (by kernel_rfl)),
  f228 := Tryd.func70.trans (congrArg some (by kernel_rfl)),
  f232 := Tryd.func57.trans (congrArg some (by kernel_rfl)),
  f234 := Tryd.func58.trans (congrArg some (by kernel_rfl)),
  f236 := Tryd.func59.trans (congrArg some (by kernel_rfl)),
  f260 := Tryd.func79.trans (congrArg some (by kernel_rfl)),
  f266 := Tryd.func88.trans (congrArg some (by kernel_rfl)),
  f271 := Tryd.func73.trans (congrArg some (by kernel_rfl)),
  t0 := Tryd.underlying0,
  a0 := Tryd.isAgg0,
  z0 := Tryd.sizeOf0,
  v0 := Tryd.zeroValue0,
  t3 := Tryd.underlying3,
  a3 := Tryd.isAgg3,
  z3 := Tryd.sizeOf3,
  v3 := Tryd.zeroValue3,
  t4 := Tryd.underlying4,
  a4 := Tryd.isAgg4,
  z4 := Tryd.sizeOf4,
  v4 := Tryd.zeroValue4,
  t5 := Tryd.underlying5,
  a5 := Tryd.isAgg5,
  z5 := Tryd.sizeOf5,
  v5 := Tryd.zeroValue5,
  t9 := Tryd.underlying9,
  a9 := Tryd.isAgg9,
  z9 := Tryd.sizeOf9,
  v9 := Tryd.zeroValue9,
  t21 := Tryd.underlying21,
  a21 := Tryd.isAgg21,
  z21 := Tryd.sizeOf21,
  v21 := Tryd.zeroValue21,
  t46 := Tryd.underlying101,
  a46 := Tryd.isAgg101,
  z46 := Tryd.sizeOf101,
  v46 := Tryd.zeroValue101,
  t105 := Tryd.underlying94,
  a105 := Tryd.isAgg94,
  z105 := Tryd.sizeOf94,
  v105 := Tryd.zeroValue94,
  t116 := Tryd.underlying86,
  a116 := Tryd.isAgg86,
  z116 := Tryd.sizeOf86,
  t117 := Tryd.underlying87,
  a117 := Tryd.isAgg87,
  z117 := Tryd.sizeOf87,
  v117 := Tryd.zeroValue87,
  t119 := Tryd.underlying103,
  a119 := Tryd.isAgg103,
  z119 := Tryd.sizeOf103,
  t124 := Tryd.underlying90,
  a124 := Tryd.isAgg90,
  z124 := Tryd.sizeOf90,
  v124 := Tryd.zeroValue90,
  t138 := Tryd.underlying105,
  a138 := Tryd.isAgg105,
  z138 := Tryd.sizeOf105,
  v138 := Tryd.zeroValue105,
  t139 := Tryd.underlying106,
  a139 := Tryd.isAgg106,
  z139 := Tryd.sizeOf106,
  v139 := Tryd.zeroValue106,
  g3 := by kernel_rfl,
  g4 := by kernel_rfl }
set_option maxHeartbeats 1000000 in
theorem strings_TrimRight.calls (a0 : ByteArray) (a1 : ByteArray) (r : ByteArray) (w : World) (h : strings_TrimRight.f a0 a1 = some r) :
    Calls Tryd.prog 33 #[.string a0, .string a1] w fun e w' => e = .returned (.string r) ∧ Below w.heap.size w w' := by
  unfold strings_TrimRight.f at h
  by_cases c : a0.size ≤ 9223372036854775807 ∧ a1.size < 100 ∧ a1.data.toList.all (fun b => decide (b.toNat < 128)) = true
  · rw [if_pos c] at h
    obtain rfl := Option.some.inj h
    have hcon := Any.strings_TrimRight_laid lays162 (by kernel_rfl) a0 a1 w c.1 (by omega) (ascii_of_all c.2.2)
    exact hcon
  · rw [if_neg c] at h
    exact absurd h (by simp)



/-! ### lex_goes: function 31 -/
def lex_goes.f (a0 : ByteArray) : Option (ByteArray × Bool) := (strings_TrimRight.f a0 (⟨#[92]⟩ : ByteArray)).bind fun t430 => (if (Int.tmod (wrap64 ((a0.size : Int) - (t430.size : Int))) 2) = 0 then (some (a0, false)) else (if 0 ≤ (wrap64 ((a0.size : Int) - 1)) then (if (wrap64 ((a0.size : Int) - 1)) ≤ (a0.size : Int) then (some (a0.extract 0 ((wrap64 ((a0.size : Int) - 1)) : Int).toNat, true)) else (none)) else (none)))
theorem lex_goes.calls (a0 : ByteArray) (r1 : ByteArray) (r2 : Bool) (w : World) (h : lex_goes.f a0 = some (r1, r2)) :
  Calls Tryd.prog 31 #[.string a0] w fun e w' => e = .returned (.tuple #[.string r1, .bool r2]) ∧ Below w.heap.size w w' := by
 have HB := ka (Below.refl w.heap.size w)
 have H : ((strings_TrimRight.f a0 (⟨#[92]⟩ : ByteArray)).bind fun t430 => (if (Int.tmod (wrap64 ((a0.size : Int) - (t430.size : Int))) 2) = 0 then (some (a0, false)) else (if 0 ≤ (wrap64 ((a0.size : Int) - 1)) then (if (wrap64 ((a0.size : Int) - 1)) ≤ (a0.size : Int) then (some (a0.extract 0 ((wrap64 ((a0.size : Int) - 1)) : Int).toNat, true)) else (none)) else (none)))) = some (r1, r2) := h
 clear h
 replace H := Option.bind_eq_some_iff.mp H
 obtain ⟨t430, A20, H⟩ := H
 try dsimp only at H
 have A2 := ka A20
 clear A20
 by_cases c3 : (Int.tmod (wrap64 ((a0.size : Int) - (t430.size : Int))) 2) = 0
 ·rw [if_pos c3] at H
  have c3b0 := zb0 c3
  have c3b1 := zb1 c3
  clear c3
  replace H := zs2 H
  obtain ⟨rfl, rfl⟩ := H
  go_enter Tryd.func31, Tryd.ntmps31
  go_wp2_with (first | ((with_reducible refine gate_callee (f := 33) rfl ?_); refine goesL_ (some 6) rfl rfl Tryd.func33 (by kernel_rfl) rfl #[.string a0, .string ⟨#[92]⟩] rfl zA ?_; (with_reducible refine (strings_TrimRight.calls a0 (⟨#[92]⟩ : ByteArray) t430 _ A2.out).mono ?_); rintro e w4 ⟨rfl, hb⟩; refine ⟨_, rfl, ?_⟩; replace HB := ka (below_step (zL HB.out) hb); (try clear hb); (try clear hb2); (try clear hk); (try clear hi)))
  go_ret2
  exact ⟨zE, zL HB.out⟩
 rw [if_neg c3] at H
 have c3b0 := zn0 c3
 have c3b1 := zn1 c3
 obtain ⟨ji5, hji5⟩ : ∃ j_ : Int, (wrap64 ((a0.size : Int) - 1)) = j_ := ⟨_, rfl⟩
 replace H : (if 0 ≤ (ji5) then (if (ji5) ≤ (a0.size : Int) then (some (a0.extract 0 ((ji5) : Int).toNat, true)) else (none)) else (none)) = some (r1, r2) := by first | (rw [hji5] at H; exact H) | (simp only [hji5] at H ⊢; exact H)
 (try rw [hji5] at A2)
 have hji5w : (IntKind.i64.wrap ((a0.size : Int) - 1)) = ji5 := (i64_w _).trans hji5
 replace H := zif H
 obtain ⟨c6, H⟩ := H
 have c6b0 := eq_true c6
 have c6b1 := zdt c6
 clear c6
 replace H := zif H
 obtain ⟨c7, H⟩ := H
 have c7b0 := eq_true c7
 have c7b1 := zdt c7
 clear c7
 replace H := zs2 H
 obtain ⟨rfl, rfl⟩ := H
 go_enter Tryd.func31, Tryd.ntmps31
 go_wp2_with (first | ((with_reducible refine gate_callee (f := 33) rfl ?_); refine goesL_ (some 6) rfl rfl Tryd.func33 (by kernel_rfl) rfl #[.string a0, .string ⟨#[92]⟩] rfl zA ?_; (with_reducible refine (strings_TrimRight.calls a0 (⟨#[92]⟩ : ByteArray) t430 _ A2.out).mono ?_); rintro e w8 ⟨rfl, hb⟩; refine ⟨_, rfl, ?_⟩; replace HB := ka (below_step (zL HB.out) hb); (try clear hb); (try clear hb2); (try clear hk); (try clear hi)))
 go_ret2
 exact ⟨by first | rfl | (simp [errW_none, errW_some] <;> rfl) | (simp only [← hji5]; first | rfl | (simp [errW_none, errW_some] <;> rfl)) | (simp [*, errW_none, errW_some] <;> rfl), zL HB.out⟩

end Go.Proofs.YthnholondnfjoaaDoor.PParse
