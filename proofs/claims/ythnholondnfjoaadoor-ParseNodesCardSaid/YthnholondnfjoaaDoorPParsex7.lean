-- Written by a program of this session (wip/tools/ext.py, over the kit's printer); not trusted: Lean checks it.
import Derived.Test.YthnholondnfjoaaDoorPParsex0
import Derived.Test.YthnholondnfjoaaDoorPParsex1
import Derived.Test.YthnholondnfjoaaDoorPParsex3
import Derived.Test.YthnholondnfjoaaDoorPParsex6
namespace Go.Proofs.YthnholondnfjoaaDoor.PParse
open Go.RowKit Go.Proofs.YthnholondnfjoaaDoorW.PrintWords Go.Proofs.YthnholondnfjoaaDoorW.PrintLast Go.Proofs.YthnholondnfjoaaDoorW.PrintMore
attribute [local go_sem] max2_int min2_int max_two min_two max_three min_three max_four min_four
set_option linter.unusedVariables false
set_option linter.unusedSimpArgs false
set_option maxHeartbeats 8000000
set_option maxRecDepth 100000

/-! ### parse_Parse: function 12 -/
def parse_Parse.l0 : Nat → List (S45) → List Bool → List (S43) → Int → Int → Option ((List (S45)) × Int × Int)
 | 0, _, _, _, _, _ => none
 | k + 1, x5, x6, x13, x14, x15 => if x15 < x14 then (if 0 ≤ x15 then (if x15 < (x13.length : Int) then (if (rd_T43 x13 x15).f1 = true then (if (x5.length : Int) = 0 then (some (([] : List (S45)), 2, (rd_T43 x13 x15).f0)) else (if 0 ≤ (wrap64 ((x5.length : Int) - 1)) then (if (wrap64 ((x5.length : Int) - 1)) < (x5.length : Int) then (if ((rd_T45 x5 (wrap64 ((x5.length : Int) - 1))).f0) = 2 then (if ((rd_T45 x5 (wrap64 ((x5.length : Int) - 1))).f9).length < 8796093022208 then (parse_Parse.l0 k (x5.set ((wrap64 ((x5.length : Int) - 1)) : Int).toNat (⟨(rd_T45 x5 (wrap64 ((x5.length : Int) - 1))).f0, (rd_T45 x5 (wrap64 ((x5.length : Int) - 1))).f1, (rd_T45 x5 (wrap64 ((x5.length : Int) - 1))).f2, (rd_T45 x5 (wrap64 ((x5.length : Int) - 1))).f3, (rd_T45 x5 (wrap64 ((x5.length : Int) - 1))).f4, (rd_T45 x5 (wrap64 ((x5.length : Int) - 1))).f5, (rd_T45 x5 (wrap64 ((x5.length : Int) - 1))).f6, (rd_T45 x5 (wrap64 ((x5.length : Int) - 1))).f7, (rd_T45 x5 (wrap64 ((x5.length : Int) - 1))).f8, (((rd_T45 x5 (wrap64 ((x5.length : Int) - 1))).f9) ++ [(rd_T43 x13 x15).f2])⟩ : S45)) x6 x13 x14 (wrap64 (x15 + 1))) else (none)) else (some (([] : List (S45)), 2, (rd_T43 x13 x15).f0))) else (none)) else (none))) else ((text_Words.f ((rd_T43 x13 x15).f2)).bind fun t223 => (if (t223.length : Int) = 0 then (some (([] : List (S45)), 2, (rd_T43 x13 x15).f0)) else ((text_Trim.f ((rd_T43 x13 x15).f2)).bind fun t226 => ((parse_node.f k t226).bind fun bt227 => (if bt227.2.2.2.2.2.2.2.2.2.2 = true then ((parse_nest_take.f k x6 bt227.1).bind fun bt241 => (if bt241.2 = 0 then (if x5.length < 925904528653 then (parse_Parse.l0 k (x5 ++ [(⟨bt227.1, (rd_T43 x13 x15).f0, bt227.2.2.1, bt227.2.2.2.1, bt227.2.2.2.2.1, bt227.2.2.2.2.2.1, bt227.2.2.2.2.2.2.1, bt227.2.2.2.2.2.2.2.1, bt227.2.2.2.2.2.2.2.2.1, bt227.2.2.2.2.2.2.2.2.2.1⟩ : S45)]) bt241.1 x13 x14 (wrap64 (x15 + 1))) else (none)) else (some (([] : List (S45)), bt241.2, (rd_T43 x13 x15).f0)))) else (some (([] : List (S45)), 2, (rd_T43 x13 x15).f0)))))))) else (none)) else (none)) else (if (x6.length : Int) > 0 then (some (([] : List (S45)), 14, 0)) else (some (x5, 0, 0)))
def parse_Parse.f (k : Nat) (l0 : List (S43)) : Option ((List (S45)) × Int × Int) := parse_Parse.l0 k ([] : List (S45)) ([] : List Bool) l0 (l0.length : Int) 0
theorem parse_Parse.mono_l : ∀ k, (∀ y0 y1 y2 y3 y4, LeO (parse_Parse.l0 k y0 y1 y2 y3 y4) (parse_Parse.l0 (k + 1) y0 y1 y2 y3 y4))
 | 0 => fun _ _ _ _ _ r h => by simp [parse_Parse.l0] at h
 | k + 1 => by
  have ih0 := parse_Parse.mono_l k
  ·intro y0 y1 y2 y3 y4
   unfold parse_Parse.l0
   have m0 := @parse_nest_take.mono
   have m1 := @parse_node.mono
   exact zLe
theorem parse_Parse.mono : ∀ a0 k, LeO (parse_Parse.f k a0) (parse_Parse.f (k + 1) a0) := by
 intro a0 k
 have ih0 := parse_Parse.mono_l k
 unfold parse_Parse.f
 have m0 := @parse_nest_take.mono
 have m1 := @parse_node.mono
 exact zLe
def parse_Parse.T10 : Bool × List (List Nat × List Nat) := (true, [([], []), ([], []), ([1], [1]), ([2], [2]), ([3], [3]), ([], []), ([5], [5]), ([6], [6]), ([4, 7], [4, 7]), ([0, 0, 1, 2, 3, 4, 5, 6, 7, 8], [0]), ([9, 0, 1, 2, 3, 4, 5, 6, 7, 8], [9]), ([10, 8, 8, 0, 1, 2, 3, 4, 5, 6, 7, 8], [8, 10])])
def parse_Parse.B10 : List Nat := [0, 0, 2, 6, 14, 0, 32, 96, 254, 511, 1023, 2047]
theorem parse_Parse.tab10 : rtab .any (opsOf Tryd.f12 10) = parse_Parse.T10 := by kernel_rfl
theorem parse_Parse.bits10 : waitsOk parse_Parse.T10.2 parse_Parse.B10 = true := by kernel_rfl
theorem parse_Parse.calls (k : Nat) (A0 : Option Addr) (c0 : Nat) (l0 : List (S43)) (r1 : List (S45)) (r2 : Int) (r3 : Int) (w : World) (hr0 : Kd.C k43 w A0 l0.length l0) (hc0 : l0.length ≤ c0) (h : parse_Parse.f k l0 = some (r1, r2, r3)) :
  Calls Tryd.prog 12 #[.slice A0 l0.length c0] w fun e w' => ∃ v0_ : Value, e = .returned (.tuple #[v0_, .int .i64 r2, .int .i64 r3]) ∧ Kd.S k45 45 w' w.heap.size (fun _ => True) v0_ r1 ∧ Below w.heap.size w w' := by
 have hu43 := Tryd.underlying43
 have hu45 := Tryd.underlying45
 have HR0 := ka hr0
 have HC0 := ka hc0
 clear hr0 hc0
 have HB := ka (Below.refl w.heap.size w)
 have H : (parse_Parse.l0 k ([] : List (S45)) ([] : List Bool) l0 (l0.length : Int) 0) = some (r1, r2, r3) := h
 clear h
 have H' := ka H
 clear H
 go_enter Tryd.func12, Tryd.ntmps12
 go_wp2
 go_loopg [5, 6, 15] k (fun kq v5 v6 v15 w' => ∃ (x5_1 : List (S45)) (x6_1 : List Bool) (x15_1 : Int), v15 = .int .i64 x15_1 ∧ Aside0 (parse_Parse.l0 kq x5_1 x6_1 l0 (l0.length : Int) x15_1 = some (r1, r2, r3)) ∧ Aside0 (kq ≤ k) ∧ Aside0 (Kd.S k45 45 w' w.heap.size (fun _ => True) v5 x5_1) ∧ Aside0 (Kd.R Kd.bool 4 w' w.heap.size (fun _ => True) v6 x6_1) ∧ Aside0 (Below w.heap.size w w'))
 case atStart => exact ⟨(([] : List (S45))), (([] : List Bool)), (0), zS, H', ⟨Nat.le_refl _⟩, ⟨zNl⟩, ⟨zNl⟩, ⟨zL HB.out⟩⟩
 case round =>
  clear H'
  obtain ⟨x5_1, x6_1, x15_1, rfl, HA, HK1, HO_5, HO_6, HB⟩ := hrel
  cases gk with
  | zero => exact absurd HA.out (by simp [parse_Parse.l0])
  | succ k1 =>
   have H := HA.out
   clear HA
   simp only [parse_Parse.l0] at H
   by_cases c2 : x15_1 < (l0.length : Int)
   ·rw [if_pos c2] at H
    have c2b0 := zdt c2
    clear c2
    replace H := zif H
    obtain ⟨c3, H⟩ := H
    have c3b0 := zdt c3
    clear c3
    replace H := zif H
    obtain ⟨c4, H⟩ := H
    have c4b0 := zdt c4
    clear c4
    obtain ⟨bq5, hbq5⟩ : ∃ b_ : Bool, b_ = ((rd_T43 l0 x15_1).f1) := ⟨_, rfl⟩
    replace H : (if bq5 = true then (if (x5_1.length : Int) = 0 then (some (([] : List (S45)), 2, (rd_T43 l0 x15_1).f0)) else (if 0 ≤ (wrap64 ((x5_1.length : Int) - 1)) then (if (wrap64 ((x5_1.length : Int) - 1)) < (x5_1.length : Int) then (if ((rd_T45 x5_1 (wrap64 ((x5_1.length : Int) - 1))).f0) = 2 then (if ((rd_T45 x5_1 (wrap64 ((x5_1.length : Int) - 1))).f9).length < 8796093022208 then (parse_Parse.l0 k1 (x5_1.set ((wrap64 ((x5_1.length : Int) - 1)) : Int).toNat (⟨(rd_T45 x5_1 (wrap64 ((x5_1.length : Int) - 1))).f0, (rd_T45 x5_1 (wrap64 ((x5_1.length : Int) - 1))).f1, (rd_T45 x5_1 (wrap64 ((x5_1.length : Int) - 1))).f2, (rd_T45 x5_1 (wrap64 ((x5_1.length : Int) - 1))).f3, (rd_T45 x5_1 (wrap64 ((x5_1.length : Int) - 1))).f4, (rd_T45 x5_1 (wrap64 ((x5_1.length : Int) - 1))).f5, (rd_T45 x5_1 (wrap64 ((x5_1.length : Int) - 1))).f6, (rd_T45 x5_1 (wrap64 ((x5_1.length : Int) - 1))).f7, (rd_T45 x5_1 (wrap64 ((x5_1.length : Int) - 1))).f8, (((rd_T45 x5_1 (wrap64 ((x5_1.length : Int) - 1))).f9) ++ [(rd_T43 l0 x15_1).f2])⟩ : S45)) x6_1 l0 (l0.length : Int) (wrap64 (x15_1 + 1))) else (none)) else (some (([] : List (S45)), 2, (rd_T43 l0 x15_1).f0))) else (none)) else (none))) else ((text_Words.f ((rd_T43 l0 x15_1).f2)).bind fun t223 => (if (t223.length : Int) = 0 then (some (([] : List (S45)), 2, (rd_T43 l0 x15_1).f0)) else ((text_Trim.f ((rd_T43 l0 x15_1).f2)).bind fun t226 => ((parse_node.f k1 t226).bind fun bt227 => (if bt227.2.2.2.2.2.2.2.2.2.2 = true then ((parse_nest_take.f k1 x6_1 bt227.1).bind fun bt241 => (if bt241.2 = 0 then (if x5_1.length < 925904528653 then (parse_Parse.l0 k1 (x5_1 ++ [(⟨bt227.1, (rd_T43 l0 x15_1).f0, bt227.2.2.1, bt227.2.2.2.1, bt227.2.2.2.2.1, bt227.2.2.2.2.2.1, bt227.2.2.2.2.2.2.1, bt227.2.2.2.2.2.2.2.1, bt227.2.2.2.2.2.2.2.2.1, bt227.2.2.2.2.2.2.2.2.2.1⟩ : S45)]) bt241.1 l0 (l0.length : Int) (wrap64 (x15_1 + 1))) else (none)) else (some (([] : List (S45)), bt241.2, (rd_T43 l0 x15_1).f0)))) else (some (([] : List (S45)), 2, (rd_T43 l0 x15_1).f0)))))))) = some (r1, r2, r3) := by rw [← hbq5] at H; exact H
    have Nbq5 := ka hbq5
    clear hbq5
    by_cases c6 : bq5 = true
    ·subst c6
     rw [if_pos rfl] at H
     by_cases c7 : (x5_1.length : Int) = 0
     ·rw [if_pos c7] at H
      have c7b0 := zb0 c7
      have c7b1 := zb1 c7
      clear c7
      replace H := zs3 H
      obtain ⟨rfl, rfl, rfl⟩ := H
      have p215 : 0 ≤ (x15_1 : Int) := zD
      have q215 : x15_1 < (l0.length : Int) := zD
      obtain ⟨ad215, e215, hx215_0, hx215_1, hx215_2⟩ := at_T43 HR0.out x15_1 p215 q215
      (try rw [← Nbq5.out] at hx215_1)
      cases e215
      replace hx215_0 := zX HB.out hx215_0
      replace hx215_1 := zX HB.out hx215_1
      replace hx215_2 := zX HB.out hx215_2
      replace p215 := eq_true p215
      replace q215 := eq_true q215
      try go_wp2_with (first | ((with_reducible refine gate_dst (N := 8) rfl ?_); (try (refine gate_guard (by rfl) ?_; dsimp only)); refine box_event ?hg (N := 8) ?hd (cs := #[.int .i64 0, .bool false, .string ⟨#[]⟩]) (t := 43) ?hr ?_; (case hd => rfl); (case hg => rfl); (case hr => (go_simp; try rfl)); intro gb216 hg w8 hbox hb; replace HO_5 := ka (Kd.S_below (zRS HO_5.out) hb); replace HO_6 := ka (Kd.R_below (zR HO_6.out) hb); have BK216 := ka (hbox); have GW216 := ka (zG hg (zL HB.out)); have GE216 := ka (zG hg (zL HB.out)); replace HB := ka (below_step (zL HB.out) hb); clear hb hbox hg; obtain ⟨z9_0, z9_1, z9_2, y9_0, y9_1, y9_2⟩ := zC3 BK216.out; obtain ⟨Ao10, co10, eo10⟩ := Kd.S_slice HO_5.out; subst eo10))
      replace HO_5 : Aside0 (Kd.S k45 45 (((w8.setCell ⟨gb216, 0, none⟩ (.int .i64 ((rd_T43 l0 x15_1).f0))).setCell ⟨gb216, 1, none⟩ (.bool true)).setCell ⟨gb216, 2, none⟩ (.string ((rd_T43 l0 x15_1).f2))) w.heap.size (fun _ => True) (.slice Ao10 x5_1.length co10) x5_1) := ⟨by (with_reducible repeat (first | apply Kd.S_alloc | apply Kd.S_drewN | apply Kd.S_drew)); exact Kd.S_mono (zNTS HO_5.out BK216.out) (fun _ hk => trivial)⟩
      replace HO_6 : Aside0 (Kd.R Kd.bool 4 (((w8.setCell ⟨gb216, 0, none⟩ (.int .i64 ((rd_T43 l0 x15_1).f0))).setCell ⟨gb216, 1, none⟩ (.bool true)).setCell ⟨gb216, 2, none⟩ (.string ((rd_T43 l0 x15_1).f2))) w.heap.size (fun _ => True) u6 x6_1) := ⟨by (with_reducible repeat (first | apply Kd.R_alloc | apply Kd.R_drewN | apply Kd.R_drew)); exact Kd.R_mono (zNT HO_6.out BK216.out) (fun _ hk => trivial)⟩
      replace BK216 : Aside0 ((((w8.setCell ⟨gb216, 0, none⟩ (.int .i64 ((rd_T43 l0 x15_1).f0))).setCell ⟨gb216, 1, none⟩ (.bool true)).setCell ⟨gb216, 2, none⟩ (.string ((rd_T43 l0 x15_1).f2))).heap[gb216]? = some (.cells #[.int .i64 ((rd_T43 l0 x15_1).f0), .bool true, .string ((rd_T43 l0 x15_1).f2)] 43 (0, 0))) := ⟨zP3 BK216.out⟩
      replace HB : Aside0 (Below w.heap.size w (((w8.setCell ⟨gb216, 0, none⟩ (.int .i64 ((rd_T43 l0 x15_1).f0))).setCell ⟨gb216, 1, none⟩ (.bool true)).setCell ⟨gb216, 2, none⟩ (.string ((rd_T43 l0 x15_1).f2)))) := ⟨zL HB.out⟩
      repeat rw [zDC]
      repeat rw [zDD]
      generalize (((w8.setCell ⟨gb216, 0, none⟩ (.int .i64 ((rd_T43 l0 x15_1).f0))).setCell ⟨gb216, 1, none⟩ (.bool true)).setCell ⟨gb216, 2, none⟩ (.string ((rd_T43 l0 x15_1).f2))) = w11 at HO_5 HO_6 BK216 HB ⊢
      replace HO_5 := ka (Kd.S_drew HO_5.out)
      replace HO_6 := ka (Kd.R_drew HO_6.out)
      replace BK216 := ka (blk_drew BK216.out)
      replace HB := ka (below_drew1 HB.out)
      refine start_ (n := 5) (S := fun w' => w'.cell? ⟨gb216, 0, none⟩ = some (.int .i64 ((rd_T43 l0 x15_1).f0)) ∧ w'.cell? ⟨gb216, 1, none⟩ = some (.bool true) ∧ w'.cell? ⟨gb216, 2, none⟩ = some (.string ((rd_T43 l0 x15_1).f2))) (ds := []) #[false, false, false, false, false] (by kernel_rfl) rfl rfl ⟨zc BK216.out 0, zc BK216.out 1, zc BK216.out 2⟩ (fun hHeld => ?_)
      generalize w11.drew = w12 at HO_5 HO_6 BK216 HB hHeld ⊢
      refine zkp 0 (N := some 34) (h := ?_)
      refine zkp 2 (N := some 2) (h := ?_)
      refine zkp 3 (N := some 3) (h := ?_)
      refine zkt 1 (N := some 35) hHeld (h := ?_)
      refine zkp 4 (N := some 4) (h := ?_)
      refine done_ (by kernel_rfl) ?_
      try go_wp2
      go_ret3
      exact ⟨_, zE, zNl, zL HB.out⟩
     rw [if_neg c7] at H
     have c7b0 := zn0 c7
     have c7b1 := zn1 c7
     have c7b2 : ¬ (x5_1 = []) := fun h_ => c7 (by rw [h_]; rfl)
     obtain ⟨ji13, hji13⟩ : ∃ j_ : Int, (wrap64 ((x5_1.length : Int) - 1)) = j_ := ⟨_, rfl⟩
     replace H : (if 0 ≤ (ji13) then (if (ji13) < (x5_1.length : Int) then (if ((rd_T45 x5_1 (ji13)).f0) = 2 then (if ((rd_T45 x5_1 (ji13)).f9).length < 8796093022208 then (parse_Parse.l0 k1 (x5_1.set ((ji13) : Int).toNat (⟨(rd_T45 x5_1 (ji13)).f0, (rd_T45 x5_1 (ji13)).f1, (rd_T45 x5_1 (ji13)).f2, (rd_T45 x5_1 (ji13)).f3, (rd_T45 x5_1 (ji13)).f4, (rd_T45 x5_1 (ji13)).f5, (rd_T45 x5_1 (ji13)).f6, (rd_T45 x5_1 (ji13)).f7, (rd_T45 x5_1 (ji13)).f8, (((rd_T45 x5_1 (ji13)).f9) ++ [(rd_T43 l0 x15_1).f2])⟩ : S45)) x6_1 l0 (l0.length : Int) (wrap64 (x15_1 + 1))) else (none)) else (some (([] : List (S45)), 2, (rd_T43 l0 x15_1).f0))) else (none)) else (none)) = some (r1, r2, r3) := by first | (rw [hji13] at H; exact H) | (simp only [hji13] at H ⊢; exact H)
     have hji13w : (IntKind.i64.wrap ((x5_1.length : Int) - 1)) = ji13 := (i64_w _).trans hji13
     replace H := zif H
     obtain ⟨c14, H⟩ := H
     have c14b0 := zdt c14
     clear c14
     replace H := zif H
     obtain ⟨c15, H⟩ := H
     have c15b0 := zdt c15
     clear c15
     by_cases c16 : ((rd_T45 x5_1 (ji13)).f0) = 2
     ·rw [if_pos c16] at H
      have c16b0 := zb0 c16
      have c16b1 := zb1 c16
      clear c16
      replace H := zif H
      obtain ⟨c17, H⟩ := H
      have LMc17 := ka c17
      clear c17
      obtain ⟨y219, hy219⟩ : ∃ y_ : List ByteArray, y_ = (((rd_T45 x5_1 (ji13)).f9) ++ [(rd_T43 l0 x15_1).f2]) := ⟨_, rfl⟩
      replace H : (parse_Parse.l0 k1 (x5_1.set ((ji13) : Int).toNat (⟨(rd_T45 x5_1 (ji13)).f0, (rd_T45 x5_1 (ji13)).f1, (rd_T45 x5_1 (ji13)).f2, (rd_T45 x5_1 (ji13)).f3, (rd_T45 x5_1 (ji13)).f4, (rd_T45 x5_1 (ji13)).f5, (rd_T45 x5_1 (ji13)).f6, (rd_T45 x5_1 (ji13)).f7, (rd_T45 x5_1 (ji13)).f8, y219⟩ : S45)) x6_1 l0 (l0.length : Int) (wrap64 (x15_1 + 1))) = some (r1, r2, r3) := zH hy219 H
      have Ny219 := ka hy219
      clear hy219
      obtain ⟨y222, hy222⟩ : ∃ y_ : List (S45), y_ = (x5_1.set ((ji13) : Int).toNat (⟨(rd_T45 x5_1 (ji13)).f0, (rd_T45 x5_1 (ji13)).f1, (rd_T45 x5_1 (ji13)).f2, (rd_T45 x5_1 (ji13)).f3, (rd_T45 x5_1 (ji13)).f4, (rd_T45 x5_1 (ji13)).f5, (rd_T45 x5_1 (ji13)).f6, (rd_T45 x5_1 (ji13)).f7, (rd_T45 x5_1 (ji13)).f8, y219⟩ : S45)) := ⟨_, rfl⟩
      replace H : (parse_Parse.l0 k1 y222 x6_1 l0 (l0.length : Int) (wrap64 (x15_1 + 1))) = some (r1, r2, r3) := zH hy222 H
      have Ny222 := ka hy222
      clear hy222
      have H' := ka H
      clear H
      have p215 : 0 ≤ (x15_1 : Int) := zD
      have q215 : x15_1 < (l0.length : Int) := zD
      obtain ⟨ad215, e215, hx215_0, hx215_1, hx215_2⟩ := at_T43 HR0.out x15_1 p215 q215
      (try rw [← Nbq5.out] at hx215_1)
      cases e215
      replace hx215_0 := zX HB.out hx215_0
      replace hx215_1 := zX HB.out hx215_1
      replace hx215_2 := zX HB.out hx215_2
      replace p215 := eq_true p215
      replace q215 := eq_true q215
      try go_wp2_with (first | ((with_reducible refine gate_dst (N := 8) rfl ?_); (try (refine gate_guard (by rfl) ?_; dsimp only)); refine box_event ?hg (N := 8) ?hd (cs := #[.int .i64 0, .bool false, .string ⟨#[]⟩]) (t := 43) ?hr ?_; (case hd => rfl); (case hg => rfl); (case hr => (go_simp; try rfl)); intro gb216 hg w19 hbox hb; replace HO_5 := ka (Kd.S_below (zRS HO_5.out) hb); replace HO_6 := ka (Kd.R_below (zR HO_6.out) hb); have BK216 := ka (hbox); have GW216 := ka (zG hg (zL HB.out)); have GE216 := ka (zG hg (zL HB.out)); replace HB := ka (below_step (zL HB.out) hb); clear hb hbox hg; obtain ⟨z20_0, z20_1, z20_2, y20_0, y20_1, y20_2⟩ := zC3 BK216.out) | ((with_reducible refine gate_store (t := 43) (p := 8) rfl ?_); refine store_event (t := 43) (p := 8) (v := ?vo_w21) (w1 := (((w19.setCell ⟨gb216, 0, none⟩ (.int .i64 ((rd_T43 l0 x15_1).f0))).setCell ⟨gb216, 1, none⟩ (.bool true)).setCell ⟨gb216, 2, none⟩ (.string ((rd_T43 l0 x15_1).f2)))) ?hg ?ho ?hn ?hr ?_; (case ho => rfl); (case hg => rfl); (case hn => rfl); (case hr => (go_simp; try rfl)); intro w21 hw; have n0_ : Aside0 (Kd.S k45 45 w21 w.heap.size (fun _ => True) u5 x5_1) := ⟨(by rw [hw]; exact (by (with_reducible repeat (first | apply Kd.S_alloc | apply Kd.S_drewN | apply Kd.S_drew)); exact Kd.S_mono (zNTS HO_5.out BK216.out) (fun _ hk => trivial)))⟩; have n1_ : Aside0 (Kd.R Kd.bool 4 w21 w.heap.size (fun _ => True) u6 x6_1) := ⟨(by rw [hw]; exact (by (with_reducible repeat (first | apply Kd.R_alloc | apply Kd.R_drewN | apply Kd.R_drew)); exact Kd.R_mono (zNT HO_6.out BK216.out) (fun _ hk => trivial)))⟩; have n2_ : Aside0 (w21.heap[gb216]? = some (.cells #[.int .i64 ((rd_T43 l0 x15_1).f0), .bool true, .string ((rd_T43 l0 x15_1).f2)] 43 (0, 0))) := ⟨(by rw [hw]; exact (zP3 BK216.out))⟩; have n3_ : Aside0 (Below w.heap.size w w21) := ⟨(by rw [hw]; exact (zL HB.out))⟩; clear hw; revert n0_ n1_ n2_ n3_; clear HO_5 HO_6 BK216 HB; intro HO_5 HO_6 BK216 HB; obtain ⟨z22_0, z22_1, z22_2, y22_0, y22_1, y22_2⟩ := zC3 BK216.out; obtain ⟨Ao23, co23, eo23⟩ := Kd.S_slice HO_5.out; subst eo23; have p217 : 0 ≤ ((ji13) : Int) := zD; have q217 : (ji13) < (x5_1.length : Int) := zD; obtain ⟨ad217, A217_9, c217_9, e217, hx217_0, hx217_1, hx217_2, hx217_3, hx217_4, hx217_5, hx217_6, hx217_7, hx217_8, hx217_9, hl217_9, hi217_9⟩ := at_T45 (Kd.S_reads' HO_5.out).2.2 (ji13) p217 q217; cases e217; obtain ⟨ce217, hce217, hMe217, hcc217⟩ := Kd.S_get HO_5.out z45 (ji13) p217 (by first | exact q217 | exact zD | (have e_ := (Kd.S_reads' HO_5.out).1; omega)); obtain ⟨ve217_9, rfl, ge217_9⟩ := k45_openM hMe217; have hv217_9 := hcc217 9 _ rfl; rw [add_field _ _ 9 (by omega)] at hv217_9; replace hv217_9 := Option.some.inj (hv217_9.symm.trans hx217_9); rw [hv217_9] at ge217_9; have HL217_9 := ka (show Kd.R Kd.string 9 _ _ _ _ ((rd_T45 x5_1 (ji13)).f9) from ge217_9); clear hv217_9 ge217_9; have HX217_9 := ka hx217_9; clear hcc217 hce217; have HR217_9 := ka hi217_9; have HC217_9 := ka hl217_9; clear hi217_9 hl217_9; replace p217 := eq_true p217; replace q217 := eq_true q217))
      replace HO_5 := ka (Kd.S_drew HO_5.out)
      replace HO_6 := ka (Kd.R_drew HO_6.out)
      replace HL217_9 := ka (Kd.R_drew HL217_9.out)
      replace BK216 := ka (blk_drew BK216.out)
      replace HR217_9 := ka (Kd.C_drew HR217_9.out)
      replace HB := ka (below_drew1 HB.out)
      have p218 : 0 ≤ ((ji13) : Int) := zD
      have q218 : (ji13) < (x5_1.length : Int) := zD
      obtain ⟨ad218, A218_9, c218_9, e218, hx218_0, hx218_1, hx218_2, hx218_3, hx218_4, hx218_5, hx218_6, hx218_7, hx218_8, hx218_9, hl218_9, hi218_9⟩ := at_T45 (Kd.S_reads' HO_5.out).2.2 (ji13) p218 q218
      obtain rfl : ad217 = ad218 := (by injection e218)
      obtain ⟨ce218, hce218, hMe218, hcc218⟩ := Kd.S_get HO_5.out z45 (ji13) p218 (by first | exact q218 | exact zD | (have e_ := (Kd.S_reads' HO_5.out).1; omega))
      obtain ⟨ve218_9, rfl, ge218_9⟩ := k45_openM hMe218
      have hv218_9 := hcc218 9 _ rfl
      rw [add_field _ _ 9 (by omega)] at hv218_9
      replace hv218_9 := Option.some.inj (hv218_9.symm.trans hx218_9)
      rw [hv218_9] at ge218_9
      have HL218_9 := ka (show Kd.R Kd.string 9 _ _ _ _ ((rd_T45 x5_1 (ji13)).f9) from ge218_9)
      clear hv218_9 ge218_9
      have HX218_9 := ka hx218_9
      clear hcc218 hce218
      have HR218_9 := ka hi218_9
      have HC218_9 := ka hl218_9
      clear hi218_9 hl218_9
      replace p218 := eq_true p218
      replace q218 := eq_true q218
      obtain ⟨go25, co25, eo25, gb25, gl25, cl25, HG25⟩ := Kd.S_form HO_5.out (by have h_ : ((ji13) : Int) < ((x5_1.length : Int) : Int) := zD; have h2_ : 0 ≤ ((ji13) : Int) := zD; omega)
      (first | cases eo25 | (injection eo25 with ea_ en_ ec_; (first | subst ea_ | (injection ea_ with ea_; subst ea_)); subst ec_; clear en_))
      have GB25 := ka gb25
      have GG25 := ka HG25
      clear gb25 gl25 HG25
      (first | simp only [add_plain] at hx217_0 | skip)
      (first | simp only [add_plain] at hx217_1 | skip)
      (first | simp only [add_plain] at hx217_2 | skip)
      (first | simp only [add_plain] at hx217_3 | skip)
      (first | simp only [add_plain] at hx217_4 | skip)
      (first | simp only [add_plain] at hx217_5 | skip)
      (first | simp only [add_plain] at hx217_6 | skip)
      (first | simp only [add_plain] at hx217_7 | skip)
      (first | simp only [add_plain] at hx217_8 | skip)
      (first | simp only [add_plain] at hx217_9 | skip)
      (first | simp only [add_plain] at hx218_0 | skip)
      (first | simp only [add_plain] at hx218_1 | skip)
      (first | simp only [add_plain] at hx218_2 | skip)
      (first | simp only [add_plain] at hx218_3 | skip)
      (first | simp only [add_plain] at hx218_4 | skip)
      (first | simp only [add_plain] at hx218_5 | skip)
      (first | simp only [add_plain] at hx218_6 | skip)
      (first | simp only [add_plain] at hx218_7 | skip)
      (first | simp only [add_plain] at hx218_8 | skip)
      (first | simp only [add_plain] at hx218_9 | skip)
      obtain ⟨oki25, ce25, hcl25, hM25, hcc25, _, _, hH25⟩ := Kd.S_elem HO_5.out z45 ((ji13) : Int) zD (by have h_ : ((ji13) : Int) < ((x5_1.length : Int) : Int) := zD; first | exact h_ | (have e_ := (Kd.S_reads' HO_5.out).1; omega) | simpa using h_)
      obtain ⟨ve25_9, rfl, ge25_9⟩ := k45_openM hM25
      have hv25 := hcc25 9 _ rfl
      have hX25 := HX218_9.out
      (try simp only [add_plain] at hX25)
      (try simp only [Nat.add_zero] at hv25)
      replace hv25 := Option.some.inj (hv25.symm.trans hX25)
      subst hv25
      clear hX25 hcc25 hcl25
      have UU25 := ka (show Kd.R Kd.string 9 _ w.heap.size oki25 (.slice A218_9 ((rd_T45 x5_1 (ji13)).f9).length c218_9) ((rd_T45 x5_1 (ji13)).f9) from ge25_9)
      have HH25 := ka hH25
      have HN25 := ka (Kd.S_reads' HO_5.out).1
      clear hH25 ge25_9
      refine start_ (n := 12) (S := fun w' => w'.cell? ⟨gb216, 0, none⟩ = some (.int .i64 ((rd_T43 l0 x15_1).f0)) ∧ w'.cell? ⟨gb216, 1, none⟩ = some (.bool true) ∧ w'.cell? ⟨gb216, 2, none⟩ = some (.string ((rd_T43 l0 x15_1).f2)) ∧ w'.cell? ⟨go25, ((ji13)).toNat * 10, none⟩ = some (.int .i64 ((rd_T45 x5_1 (ji13)).f0)) ∧ w'.cell? ⟨go25, ((ji13)).toNat * 10 + 1, none⟩ = some (.int .i64 ((rd_T45 x5_1 (ji13)).f1)) ∧ w'.cell? ⟨go25, ((ji13)).toNat * 10 + 2, none⟩ = some (.string ((rd_T45 x5_1 (ji13)).f2)) ∧ w'.cell? ⟨go25, ((ji13)).toNat * 10 + 3, none⟩ = some (.string ((rd_T45 x5_1 (ji13)).f3)) ∧ w'.cell? ⟨go25, ((ji13)).toNat * 10 + 4, none⟩ = some (.string ((rd_T45 x5_1 (ji13)).f4)) ∧ w'.cell? ⟨go25, ((ji13)).toNat * 10 + 5, none⟩ = some (.string ((rd_T45 x5_1 (ji13)).f5)) ∧ w'.cell? ⟨go25, ((ji13)).toNat * 10 + 6, none⟩ = some (.string ((rd_T45 x5_1 (ji13)).f6)) ∧ w'.cell? ⟨go25, ((ji13)).toNat * 10 + 7, none⟩ = some (.string ((rd_T45 x5_1 (ji13)).f7)) ∧ w'.cell? ⟨go25, ((ji13)).toNat * 10 + 8, none⟩ = some (.string ((rd_T45 x5_1 (ji13)).f8)) ∧ w'.cell? ⟨go25, ((ji13)).toNat * 10 + 9, none⟩ = some (.slice A218_9 ((rd_T45 x5_1 (ji13)).f9).length c218_9)) (ds := [11]) #[false, false, false, false, false, false, false, false, false, false, false, false] (by kernel_rfl) rfl rfl ⟨zc BK216.out 0, zc BK216.out 1, zc BK216.out 2, hx218_0, hx218_1, hx218_2, hx218_3, hx218_4, hx218_5, hx218_6, hx218_7, hx218_8, hx218_9⟩ (fun hHeld => ?_); refine with_tabW parse_Parse.tab10 parse_Parse.bits10 (fun HT_ HW_ => ?_)
      generalize w21.drew = w24 at HO_5 HO_6 HL217_9 BK216 HR217_9 HB GG25 HH25 HL218_9 HR218_9 HX218_9 UU25 hx217_0 hx217_1 hx217_2 hx217_3 hx217_4 hx217_5 hx217_6 hx217_7 hx217_8 hx217_9 hx218_0 hx218_1 hx218_2 hx218_3 hx218_4 hx218_5 hx218_6 hx218_7 hx218_8 hx218_9 hHeld ⊢
      refine zpp 0 (N := some 41) HT_ (h := ?_)
      refine zpp 1 (N := some 42) HT_ (h := ?_)
      refine zpp 2 (N := some 43) HT_ (h := ?_)
      refine zpp 3 (N := some 44) HT_ (h := ?_)
      refine zpp 5 (N := some 46) HT_ (h := ?_)
      refine zpt 4 (N := some 45) HT_ HW_ hHeld (h := ?_)
      refine zpt 6 (N := some 47) HT_ HW_ hHeld (h := ?_)
      refine one_ (i := 7) (N := some 48) #[true, true, true, true, true, true, true, true, false, false, false, false] rfl rfl (one_of HT_.out (by kernel_rfl)) (by decide) (fun K hK => ?_)
      refine value_ (w1 := ?_) (v := ?_) (by rfl) rfl ?_ ?_
      rotate_left 2
      ·go_simp
       constructor
       ·rfl
       ·rfl
      refine hK.out _ _ ⟨(blk_cell (blk_alloc BK216.out _) 0).trans rfl, (blk_cell (blk_alloc BK216.out _) 1).trans rfl, (blk_cell (blk_alloc BK216.out _) 2).trans rfl, (World.cell?_alloc_lt _ _ _ (World.block_lt_of_cell? _ _ (hHeld.2.2.2.1))).trans (hHeld.2.2.2.1), (World.cell?_alloc_lt _ _ _ (World.block_lt_of_cell? _ _ (hHeld.2.2.2.2.1))).trans (hHeld.2.2.2.2.1), (World.cell?_alloc_lt _ _ _ (World.block_lt_of_cell? _ _ (hHeld.2.2.2.2.2.1))).trans (hHeld.2.2.2.2.2.1), (World.cell?_alloc_lt _ _ _ (World.block_lt_of_cell? _ _ (hHeld.2.2.2.2.2.2.1))).trans (hHeld.2.2.2.2.2.2.1), (World.cell?_alloc_lt _ _ _ (World.block_lt_of_cell? _ _ (hHeld.2.2.2.2.2.2.2.1))).trans (hHeld.2.2.2.2.2.2.2.1), (World.cell?_alloc_lt _ _ _ (World.block_lt_of_cell? _ _ (hHeld.2.2.2.2.2.2.2.2.1))).trans (hHeld.2.2.2.2.2.2.2.2.1), (World.cell?_alloc_lt _ _ _ (World.block_lt_of_cell? _ _ (hHeld.2.2.2.2.2.2.2.2.2.1))).trans (hHeld.2.2.2.2.2.2.2.2.2.1), (World.cell?_alloc_lt _ _ _ (World.block_lt_of_cell? _ _ (hHeld.2.2.2.2.2.2.2.2.2.2.1))).trans (hHeld.2.2.2.2.2.2.2.2.2.2.1), (World.cell?_alloc_lt _ _ _ (World.block_lt_of_cell? _ _ (hHeld.2.2.2.2.2.2.2.2.2.2.2.1))).trans (hHeld.2.2.2.2.2.2.2.2.2.2.2.1), (World.cell?_alloc_lt _ _ _ (World.block_lt_of_cell? _ _ (hHeld.2.2.2.2.2.2.2.2.2.2.2.2))).trans (hHeld.2.2.2.2.2.2.2.2.2.2.2.2)⟩ (fun hHeld => ?_)
      clear hK K
      refine znm (N := some 48) (h := ?_)
      refine one_ (i := 8) (N := some 49) #[true, true, true, true, true, true, true, true, true, false, false, false] rfl rfl (one_of HT_.out (by kernel_rfl)) (by decide) (fun K hK => ?_)
      refine Kd.R_append_step Kd.string (w0 := w) w.heap.size (by rfl) (.tmp 45) (.tmp 48) 37 9 (.string ⟨#[]⟩) 16 rfl Tryd.underlying37 info9 rfl (by decide) (by omega) (.slice A218_9 ((rd_T45 x5_1 (ji13)).f9).length c218_9) ((rd_T45 x5_1 (ji13)).f9) ((rd_T43 l0 x15_1).f2) [.string ((rd_T43 l0 x15_1).f2)] (fun k_ => oki25 k_ ∨ ((fun _ => True)) k_ ∧ w24.heap.size ≤ k_) (fun _ => False) rfl rfl ?aP (fun _ hk => hk.elim) ?aF ?aO ?aB ?aS ?aL ?_
      (case aP => exact rfl)
      (case aB => exact (zL HB.out))
      (case aF => exact (fun k_ hk => .inr ⟨trivial, hk⟩))
      (case aO => exact (by (with_reducible repeat (first | apply Kd.R_alloc | apply Kd.R_drewN | apply Kd.R_drew)); exact Kd.R_mono UU25.out (fun _ hk => .inl hk)))
      (case aS => exact (below_size (zL HB.out)))
      (case aL => have := LMc17.out; omega)
      intro v220 w26 ho hb hg hat
      (first | have HS3_ := cell_grown hg (hHeld.2.2.2.1) (by first | (rw [add_block]; exact (fun e_ => ((HL218_9.out.1 _ e_.symm).2) rfl)) | (show some (Addr.add _ _).block ≠ _; rw [add_block]; exact (fun e_ => ((HL218_9.out.1 _ e_.symm).2) rfl)) | exact (fun e_ => ((HL218_9.out.1 _ e_.symm).2) rfl)) | have HS3_ := cell_grown hg (cell_unalloc (hHeld.2.2.2.1) (by first | (rw [add_block]; exact Kd.S_lt HO_5.out _ rfl) | (show (Addr.add _ _).block < _; rw [add_block]; exact Kd.S_lt HO_5.out _ rfl) | exact Kd.S_lt HO_5.out _ rfl)) (by first | (rw [add_block]; exact (fun e_ => ((HL218_9.out.1 _ e_.symm).2) rfl)) | (show some (Addr.add _ _).block ≠ _; rw [add_block]; exact (fun e_ => ((HL218_9.out.1 _ e_.symm).2) rfl)) | exact (fun e_ => ((HL218_9.out.1 _ e_.symm).2) rfl)))
      (first | have HS4_ := cell_grown hg (hHeld.2.2.2.2.1) (by first | (rw [add_block]; exact (fun e_ => ((HL218_9.out.1 _ e_.symm).2) rfl)) | (show some (Addr.add _ _).block ≠ _; rw [add_block]; exact (fun e_ => ((HL218_9.out.1 _ e_.symm).2) rfl)) | exact (fun e_ => ((HL218_9.out.1 _ e_.symm).2) rfl)) | have HS4_ := cell_grown hg (cell_unalloc (hHeld.2.2.2.2.1) (by first | (rw [add_block]; exact Kd.S_lt HO_5.out _ rfl) | (show (Addr.add _ _).block < _; rw [add_block]; exact Kd.S_lt HO_5.out _ rfl) | exact Kd.S_lt HO_5.out _ rfl)) (by first | (rw [add_block]; exact (fun e_ => ((HL218_9.out.1 _ e_.symm).2) rfl)) | (show some (Addr.add _ _).block ≠ _; rw [add_block]; exact (fun e_ => ((HL218_9.out.1 _ e_.symm).2) rfl)) | exact (fun e_ => ((HL218_9.out.1 _ e_.symm).2) rfl)))
      (first | have HS5_ := cell_grown hg (hHeld.2.2.2.2.2.1) (by first | (rw [add_block]; exact (fun e_ => ((HL218_9.out.1 _ e_.symm).2) rfl)) | (show some (Addr.add _ _).block ≠ _; rw [add_block]; exact (fun e_ => ((HL218_9.out.1 _ e_.symm).2) rfl)) | exact (fun e_ => ((HL218_9.out.1 _ e_.symm).2) rfl)) | have HS5_ := cell_grown hg (cell_unalloc (hHeld.2.2.2.2.2.1) (by first | (rw [add_block]; exact Kd.S_lt HO_5.out _ rfl) | (show (Addr.add _ _).block < _; rw [add_block]; exact Kd.S_lt HO_5.out _ rfl) | exact Kd.S_lt HO_5.out _ rfl)) (by first | (rw [add_block]; exact (fun e_ => ((HL218_9.out.1 _ e_.symm).2) rfl)) | (show some (Addr.add _ _).block ≠ _; rw [add_block]; exact (fun e_ => ((HL218_9.out.1 _ e_.symm).2) rfl)) | exact (fun e_ => ((HL218_9.out.1 _ e_.symm).2) rfl)))
      (first | have HS6_ := cell_grown hg (hHeld.2.2.2.2.2.2.1) (by first | (rw [add_block]; exact (fun e_ => ((HL218_9.out.1 _ e_.symm).2) rfl)) | (show some (Addr.add _ _).block ≠ _; rw [add_block]; exact (fun e_ => ((HL218_9.out.1 _ e_.symm).2) rfl)) | exact (fun e_ => ((HL218_9.out.1 _ e_.symm).2) rfl)) | have HS6_ := cell_grown hg (cell_unalloc (hHeld.2.2.2.2.2.2.1) (by first | (rw [add_block]; exact Kd.S_lt HO_5.out _ rfl) | (show (Addr.add _ _).block < _; rw [add_block]; exact Kd.S_lt HO_5.out _ rfl) | exact Kd.S_lt HO_5.out _ rfl)) (by first | (rw [add_block]; exact (fun e_ => ((HL218_9.out.1 _ e_.symm).2) rfl)) | (show some (Addr.add _ _).block ≠ _; rw [add_block]; exact (fun e_ => ((HL218_9.out.1 _ e_.symm).2) rfl)) | exact (fun e_ => ((HL218_9.out.1 _ e_.symm).2) rfl)))
      (first | have HS7_ := cell_grown hg (hHeld.2.2.2.2.2.2.2.1) (by first | (rw [add_block]; exact (fun e_ => ((HL218_9.out.1 _ e_.symm).2) rfl)) | (show some (Addr.add _ _).block ≠ _; rw [add_block]; exact (fun e_ => ((HL218_9.out.1 _ e_.symm).2) rfl)) | exact (fun e_ => ((HL218_9.out.1 _ e_.symm).2) rfl)) | have HS7_ := cell_grown hg (cell_unalloc (hHeld.2.2.2.2.2.2.2.1) (by first | (rw [add_block]; exact Kd.S_lt HO_5.out _ rfl) | (show (Addr.add _ _).block < _; rw [add_block]; exact Kd.S_lt HO_5.out _ rfl) | exact Kd.S_lt HO_5.out _ rfl)) (by first | (rw [add_block]; exact (fun e_ => ((HL218_9.out.1 _ e_.symm).2) rfl)) | (show some (Addr.add _ _).block ≠ _; rw [add_block]; exact (fun e_ => ((HL218_9.out.1 _ e_.symm).2) rfl)) | exact (fun e_ => ((HL218_9.out.1 _ e_.symm).2) rfl)))
      (first | have HS8_ := cell_grown hg (hHeld.2.2.2.2.2.2.2.2.1) (by first | (rw [add_block]; exact (fun e_ => ((HL218_9.out.1 _ e_.symm).2) rfl)) | (show some (Addr.add _ _).block ≠ _; rw [add_block]; exact (fun e_ => ((HL218_9.out.1 _ e_.symm).2) rfl)) | exact (fun e_ => ((HL218_9.out.1 _ e_.symm).2) rfl)) | have HS8_ := cell_grown hg (cell_unalloc (hHeld.2.2.2.2.2.2.2.2.1) (by first | (rw [add_block]; exact Kd.S_lt HO_5.out _ rfl) | (show (Addr.add _ _).block < _; rw [add_block]; exact Kd.S_lt HO_5.out _ rfl) | exact Kd.S_lt HO_5.out _ rfl)) (by first | (rw [add_block]; exact (fun e_ => ((HL218_9.out.1 _ e_.symm).2) rfl)) | (show some (Addr.add _ _).block ≠ _; rw [add_block]; exact (fun e_ => ((HL218_9.out.1 _ e_.symm).2) rfl)) | exact (fun e_ => ((HL218_9.out.1 _ e_.symm).2) rfl)))
      (first | have HS9_ := cell_grown hg (hHeld.2.2.2.2.2.2.2.2.2.1) (by first | (rw [add_block]; exact (fun e_ => ((HL218_9.out.1 _ e_.symm).2) rfl)) | (show some (Addr.add _ _).block ≠ _; rw [add_block]; exact (fun e_ => ((HL218_9.out.1 _ e_.symm).2) rfl)) | exact (fun e_ => ((HL218_9.out.1 _ e_.symm).2) rfl)) | have HS9_ := cell_grown hg (cell_unalloc (hHeld.2.2.2.2.2.2.2.2.2.1) (by first | (rw [add_block]; exact Kd.S_lt HO_5.out _ rfl) | (show (Addr.add _ _).block < _; rw [add_block]; exact Kd.S_lt HO_5.out _ rfl) | exact Kd.S_lt HO_5.out _ rfl)) (by first | (rw [add_block]; exact (fun e_ => ((HL218_9.out.1 _ e_.symm).2) rfl)) | (show some (Addr.add _ _).block ≠ _; rw [add_block]; exact (fun e_ => ((HL218_9.out.1 _ e_.symm).2) rfl)) | exact (fun e_ => ((HL218_9.out.1 _ e_.symm).2) rfl)))
      (first | have HS10_ := cell_grown hg (hHeld.2.2.2.2.2.2.2.2.2.2.1) (by first | (rw [add_block]; exact (fun e_ => ((HL218_9.out.1 _ e_.symm).2) rfl)) | (show some (Addr.add _ _).block ≠ _; rw [add_block]; exact (fun e_ => ((HL218_9.out.1 _ e_.symm).2) rfl)) | exact (fun e_ => ((HL218_9.out.1 _ e_.symm).2) rfl)) | have HS10_ := cell_grown hg (cell_unalloc (hHeld.2.2.2.2.2.2.2.2.2.2.1) (by first | (rw [add_block]; exact Kd.S_lt HO_5.out _ rfl) | (show (Addr.add _ _).block < _; rw [add_block]; exact Kd.S_lt HO_5.out _ rfl) | exact Kd.S_lt HO_5.out _ rfl)) (by first | (rw [add_block]; exact (fun e_ => ((HL218_9.out.1 _ e_.symm).2) rfl)) | (show some (Addr.add _ _).block ≠ _; rw [add_block]; exact (fun e_ => ((HL218_9.out.1 _ e_.symm).2) rfl)) | exact (fun e_ => ((HL218_9.out.1 _ e_.symm).2) rfl)))
      (first | have HS11_ := cell_grown hg (hHeld.2.2.2.2.2.2.2.2.2.2.2.1) (by first | (rw [add_block]; exact (fun e_ => ((HL218_9.out.1 _ e_.symm).2) rfl)) | (show some (Addr.add _ _).block ≠ _; rw [add_block]; exact (fun e_ => ((HL218_9.out.1 _ e_.symm).2) rfl)) | exact (fun e_ => ((HL218_9.out.1 _ e_.symm).2) rfl)) | have HS11_ := cell_grown hg (cell_unalloc (hHeld.2.2.2.2.2.2.2.2.2.2.2.1) (by first | (rw [add_block]; exact Kd.S_lt HO_5.out _ rfl) | (show (Addr.add _ _).block < _; rw [add_block]; exact Kd.S_lt HO_5.out _ rfl) | exact Kd.S_lt HO_5.out _ rfl)) (by first | (rw [add_block]; exact (fun e_ => ((HL218_9.out.1 _ e_.symm).2) rfl)) | (show some (Addr.add _ _).block ≠ _; rw [add_block]; exact (fun e_ => ((HL218_9.out.1 _ e_.symm).2) rfl)) | exact (fun e_ => ((HL218_9.out.1 _ e_.symm).2) rfl)))
      (first | have HS12_ := cell_grown hg (hHeld.2.2.2.2.2.2.2.2.2.2.2.2) (by first | (rw [add_block]; exact (fun e_ => ((HL218_9.out.1 _ e_.symm).2) rfl)) | (show some (Addr.add _ _).block ≠ _; rw [add_block]; exact (fun e_ => ((HL218_9.out.1 _ e_.symm).2) rfl)) | exact (fun e_ => ((HL218_9.out.1 _ e_.symm).2) rfl)) | have HS12_ := cell_grown hg (cell_unalloc (hHeld.2.2.2.2.2.2.2.2.2.2.2.2) (by first | (rw [add_block]; exact Kd.S_lt HO_5.out _ rfl) | (show (Addr.add _ _).block < _; rw [add_block]; exact Kd.S_lt HO_5.out _ rfl) | exact Kd.S_lt HO_5.out _ rfl)) (by first | (rw [add_block]; exact (fun e_ => ((HL218_9.out.1 _ e_.symm).2) rfl)) | (show some (Addr.add _ _).block ≠ _; rw [add_block]; exact (fun e_ => ((HL218_9.out.1 _ e_.symm).2) rfl)) | exact (fun e_ => ((HL218_9.out.1 _ e_.symm).2) rfl)))
      rw [← Ny219.out] at ho
      replace HO_6 := ka (Kd.R_over' (v := (.slice A218_9 ((rd_T45 x5_1 (ji13)).f9).length c218_9)) (zR HO_6.out) (Kd.R_typed HL218_9.out) (by decide) hg)
      replace BK216 := ka (blk_grown (g := gb216) (o := .cells #[.int .i64 ((rd_T43 l0 x15_1).f0), .bool true, .string ((rd_T43 l0 x15_1).f2)] 43 (0, 0)) (zK BK216.out) hg (Kd.R_ne HL218_9.out BK216.out (by decide)))
      replace HB := ka (hb)
      replace HH25 := ka (Kd.H_grown (Kd.H_widen (by repeat (first | exact HH25.out | refine Kd.H_alloc ?_ _ | refine Kd.H_drewN ?_ _ | refine Kd.H_drew ?_))) hg (fun k_ e_ => .inl (UU25.out.1 k_ e_)))
      have HO221 := ka (ho)
      clear HO_5
      clear UU25
      clear HL217_9
      clear HL218_9
      clear ho hb hg hat
      have p18 : 0 ≤ ((ji13) : Int) := zD
      have q18 : ((ji13) : Int) < ((x5_1.length : Int) : Int) := zD
      replace p18 := eq_true p18
      replace q18 := eq_true q18
      obtain ⟨Ao29, co29, eo29⟩ := Kd.R_slice HO221.out
      (first | subst eo29 | (injection eo29 with f1_ f2_ f3_; have f4_ := f1_.symm; have f5_ := f3_.symm; clear f1_ f2_ f3_; subst f4_; subst f5_))
      obtain ⟨_, _, hraw27, _, _, hcc27, _⟩ := Kd.H_raw HH25.out zD (by have h_ : ((ji13) : Int) < ((x5_1.length : Int) : Int) := zD; first | exact h_ | (have e_ := (HN25.out); omega) | simpa using h_)
      obtain ⟨_, hfr27⟩ := Kd.H_at HH25.out zD (by have h_ : ((ji13) : Int) < ((x5_1.length : Int) : Int) := zD; first | exact h_ | (have e_ := (HN25.out); omega) | simpa using h_)
      have hx27_0 := hcc27 9 _ rfl
      have hf27_0 := hfr27 9
      (try rw [show (k45).sz = 10 from rfl] at hx27_0)
      (try rw [show (k45).sz = 10 from rfl] at hf27_0)
      have HP27 := Kd.S_seg0 HH25.out zD (by have h_ : ((ji13) : Int) < ((x5_1.length : Int) : Int) := zD; first | exact h_ | (have e_ := (HN25.out); omega) | simpa using h_) (seg := [.slice Ao29 y219.length co29]) (j := 9) (show 10 ≤ 10 from by decide) (x' := (⟨(rd_T45 x5_1 (ji13)).f0, (rd_T45 x5_1 (ji13)).f1, (rd_T45 x5_1 (ji13)).f2, (rd_T45 x5_1 (ji13)).f3, (rd_T45 x5_1 (ji13)).f4, (rd_T45 x5_1 (ji13)).f5, (rd_T45 x5_1 (ji13)).f6, (rd_T45 x5_1 (ji13)).f7, (rd_T45 x5_1 (ji13)).f8, y219⟩ : S45)) (k45_mkM _ _ _ (⟨(rd_T45 x5_1 (ji13)).f0, (rd_T45 x5_1 (ji13)).f1, (rd_T45 x5_1 (ji13)).f2, (rd_T45 x5_1 (ji13)).f3, (rd_T45 x5_1 (ji13)).f4, (rd_T45 x5_1 (ji13)).f5, (rd_T45 x5_1 (ji13)).f6, (rd_T45 x5_1 (ji13)).f7, (rd_T45 x5_1 (ji13)).f8, y219⟩ : S45) HO221.out) (fun _ hk => hk)
      clear hcc27 hfr27
      have HNB216_go25 := ka (show gb216 ≠ go25 from by have h_ := Kd.R_ne hraw27 BK216.out (by decide); intro e_; exact h_ (by rw [e_]; rfl))
      have HS27 := HP27.1
      rw [← Ny222.out] at HS27
      have HQ27 := ka HS27
      obtain ⟨_, hgg27⟩ := Kd.R_typed hraw27 go25 rfl
      have GG27_ := ka hgg27
      clear HP27 HS27 hgg27
      refine hK.out _ _ ⟨zc BK216.out 0, zc BK216.out 1, zc BK216.out 2, HS3_, HS4_, HS5_, HS6_, HS7_, HS8_, HS9_, HS10_, HS11_, HS12_⟩ (fun hHeld => ?_)
      clear hK K
      refine znm (N := some 49) (h := ?_)
      refine zpp 9 (N := some 50) HT_ (h := ?_)
      refine zpp 10 (N := some 51) HT_ (h := ?_)
      refine last_ (i := 11) (N := none) #[true, true, true, true, true, true, true, true, true, true, true, true] rfl rfl (one_of HT_.out (by kernel_rfl)) (by decide) (fun K hK => ?_)
      refine skip_ (w1 := ?_) (by rfl) rfl ?_ ?_
      rotate_left
      ·go_simp
       rfl
      refine hK.out _ _ ?_
      clear hK K
      refine done_ (done_of HT_.out (by kernel_rfl)) ?_
      try go_wp2
      go_roundg k1
      case measure => have := HK1.out; omega
      case rel => exact ⟨(y222), (x6_1), (wrap64 (x15_1 + 1)), zS, H', ⟨by have := HK1.out; omega⟩, ⟨zRS HQ27.out⟩, ⟨by (with_reducible repeat (first | apply Kd.R_alloc | apply Kd.R_drewN | apply Kd.R_drew)); exact Kd.R_mono (Kd.R_far (p := ⟨go25, ((ji13) : Int).toNat * 10 + 9, none⟩) (Kd.R_types HO_6.out GG27_.out (by decide)) (fun _ hk => hk.2) (.slice Ao29 y219.length co29)) (fun _ hk => trivial)⟩, ⟨by repeat (first | (with_reducible first | exact HB.out | apply below_alloc | apply pw_below_drewN | apply below_drew1 | refine below_set ?_ GB25.out | refine below_set ?_ GE216.out) | exact HB.out)⟩⟩
     rw [if_neg c16] at H
     have c16b0 := zn0 c16
     have c16b1 := zn1 c16
     replace H := zs3 H
     obtain ⟨rfl, rfl, rfl⟩ := H
     have p215 : 0 ≤ (x15_1 : Int) := zD
     have q215 : x15_1 < (l0.length : Int) := zD
     obtain ⟨ad215, e215, hx215_0, hx215_1, hx215_2⟩ := at_T43 HR0.out x15_1 p215 q215
     (try rw [← Nbq5.out] at hx215_1)
     cases e215
     replace hx215_0 := zX HB.out hx215_0
     replace hx215_1 := zX HB.out hx215_1
     replace hx215_2 := zX HB.out hx215_2
     replace p215 := eq_true p215
     replace q215 := eq_true q215
     try go_wp2_with (first | ((with_reducible refine gate_dst (N := 8) rfl ?_); (try (refine gate_guard (by rfl) ?_; dsimp only)); refine box_event ?hg (N := 8) ?hd (cs := #[.int .i64 0, .bool false, .string ⟨#[]⟩]) (t := 43) ?hr ?_; (case hd => rfl); (case hg => rfl); (case hr => (go_simp; try rfl)); intro gb216 hg w30 hbox hb; replace HO_5 := ka (Kd.S_below (zRS HO_5.out) hb); replace HO_6 := ka (Kd.R_below (zR HO_6.out) hb); have BK216 := ka (hbox); have GW216 := ka (zG hg (zL HB.out)); have GE216 := ka (zG hg (zL HB.out)); replace HB := ka (below_step (zL HB.out) hb); clear hb hbox hg; obtain ⟨z31_0, z31_1, z31_2, y31_0, y31_1, y31_2⟩ := zC3 BK216.out) | ((with_reducible refine gate_store (t := 43) (p := 8) rfl ?_); refine store_event (t := 43) (p := 8) (v := ?vo_w32) (w1 := (((w30.setCell ⟨gb216, 0, none⟩ (.int .i64 ((rd_T43 l0 x15_1).f0))).setCell ⟨gb216, 1, none⟩ (.bool true)).setCell ⟨gb216, 2, none⟩ (.string ((rd_T43 l0 x15_1).f2)))) ?hg ?ho ?hn ?hr ?_; (case ho => rfl); (case hg => rfl); (case hn => rfl); (case hr => (go_simp; try rfl)); intro w32 hw; have n0_ : Aside0 (Kd.S k45 45 w32 w.heap.size (fun _ => True) u5 x5_1) := ⟨(by rw [hw]; exact (by (with_reducible repeat (first | apply Kd.S_alloc | apply Kd.S_drewN | apply Kd.S_drew)); exact Kd.S_mono (zNTS HO_5.out BK216.out) (fun _ hk => trivial)))⟩; have n1_ : Aside0 (Kd.R Kd.bool 4 w32 w.heap.size (fun _ => True) u6 x6_1) := ⟨(by rw [hw]; exact (by (with_reducible repeat (first | apply Kd.R_alloc | apply Kd.R_drewN | apply Kd.R_drew)); exact Kd.R_mono (zNT HO_6.out BK216.out) (fun _ hk => trivial)))⟩; have n2_ : Aside0 (w32.heap[gb216]? = some (.cells #[.int .i64 ((rd_T43 l0 x15_1).f0), .bool true, .string ((rd_T43 l0 x15_1).f2)] 43 (0, 0))) := ⟨(by rw [hw]; exact (zP3 BK216.out))⟩; have n3_ : Aside0 (Below w.heap.size w w32) := ⟨(by rw [hw]; exact (zL HB.out))⟩; clear hw; revert n0_ n1_ n2_ n3_; clear HO_5 HO_6 BK216 HB; intro HO_5 HO_6 BK216 HB; obtain ⟨z33_0, z33_1, z33_2, y33_0, y33_1, y33_2⟩ := zC3 BK216.out; obtain ⟨Ao34, co34, eo34⟩ := Kd.S_slice HO_5.out; subst eo34; have p217 : 0 ≤ ((ji13) : Int) := zD; have q217 : (ji13) < (x5_1.length : Int) := zD; obtain ⟨ad217, A217_9, c217_9, e217, hx217_0, hx217_1, hx217_2, hx217_3, hx217_4, hx217_5, hx217_6, hx217_7, hx217_8, hx217_9, hl217_9, hi217_9⟩ := at_T45 (Kd.S_reads' HO_5.out).2.2 (ji13) p217 q217; cases e217; obtain ⟨ce217, hce217, hMe217, hcc217⟩ := Kd.S_get HO_5.out z45 (ji13) p217 (by first | exact q217 | exact zD | (have e_ := (Kd.S_reads' HO_5.out).1; omega)); obtain ⟨ve217_9, rfl, ge217_9⟩ := k45_openM hMe217; have hv217_9 := hcc217 9 _ rfl; rw [add_field _ _ 9 (by omega)] at hv217_9; replace hv217_9 := Option.some.inj (hv217_9.symm.trans hx217_9); rw [hv217_9] at ge217_9; have HL217_9 := ka (show Kd.R Kd.string 9 _ _ _ _ ((rd_T45 x5_1 (ji13)).f9) from ge217_9); clear hv217_9 ge217_9; have HX217_9 := ka hx217_9; clear hcc217 hce217; have HR217_9 := ka hi217_9; have HC217_9 := ka hl217_9; clear hi217_9 hl217_9; replace p217 := eq_true p217; replace q217 := eq_true q217))
     replace HO_5 := ka (Kd.S_drew HO_5.out)
     replace HO_6 := ka (Kd.R_drew HO_6.out)
     replace HL217_9 := ka (Kd.R_drew HL217_9.out)
     replace BK216 := ka (blk_drew BK216.out)
     replace HR217_9 := ka (Kd.C_drew HR217_9.out)
     replace HB := ka (below_drew1 HB.out)
     refine start_ (n := 5) (S := fun w' => w'.cell? ⟨gb216, 0, none⟩ = some (.int .i64 ((rd_T43 l0 x15_1).f0)) ∧ w'.cell? ⟨gb216, 1, none⟩ = some (.bool true) ∧ w'.cell? ⟨gb216, 2, none⟩ = some (.string ((rd_T43 l0 x15_1).f2))) (ds := []) #[false, false, false, false, false] (by kernel_rfl) rfl rfl ⟨zc BK216.out 0, zc BK216.out 1, zc BK216.out 2⟩ (fun hHeld => ?_)
     generalize w32.drew = w35 at HO_5 HO_6 HL217_9 BK216 HR217_9 HB hHeld ⊢
     refine zkp 0 (N := some 34) (h := ?_)
     refine zkp 2 (N := some 2) (h := ?_)
     refine zkp 3 (N := some 3) (h := ?_)
     refine zkt 1 (N := some 35) hHeld (h := ?_)
     refine zkp 4 (N := some 4) (h := ?_)
     refine done_ (by kernel_rfl) ?_
     try go_wp2
     go_ret3
     exact ⟨_, by first | rfl | (simp [errW_none, errW_some] <;> rfl) | (simp only [← hji13]; first | rfl | (simp [errW_none, errW_some] <;> rfl)) | (simp [*, errW_none, errW_some] <;> rfl), zNl, zL HB.out⟩
    replace c6 := Bool.eq_false_iff.mpr c6
    subst c6
    rw [if_neg (show ¬ (false = true) by decide)] at H
    replace H := Option.bind_eq_some_iff.mp H
    obtain ⟨t223, A360, H⟩ := H
    try dsimp only at H
    have A36 := ka A360
    clear A360
    by_cases c37 : (t223.length : Int) = 0
    ·rw [if_pos c37] at H
     have c37b0 := zb0 c37
     have c37b1 := zb1 c37
     clear c37
     replace H := zs3 H
     obtain ⟨rfl, rfl, rfl⟩ := H
     have p215 : 0 ≤ (x15_1 : Int) := zD
     have q215 : x15_1 < (l0.length : Int) := zD
     obtain ⟨ad215, e215, hx215_0, hx215_1, hx215_2⟩ := at_T43 HR0.out x15_1 p215 q215
     (try rw [← Nbq5.out] at hx215_1)
     cases e215
     replace hx215_0 := zX HB.out hx215_0
     replace hx215_1 := zX HB.out hx215_1
     replace hx215_2 := zX HB.out hx215_2
     replace p215 := eq_true p215
     replace q215 := eq_true q215
     try go_wp2_with (first | ((with_reducible refine gate_dst (N := 8) rfl ?_); (try (refine gate_guard (by rfl) ?_; dsimp only)); refine box_event ?hg (N := 8) ?hd (cs := #[.int .i64 0, .bool false, .string ⟨#[]⟩]) (t := 43) ?hr ?_; (case hd => rfl); (case hg => rfl); (case hr => (go_simp; try rfl)); intro gb216 hg w38 hbox hb; replace HO_5 := ka (Kd.S_below (zRS HO_5.out) hb); replace HO_6 := ka (Kd.R_below (zR HO_6.out) hb); have BK216 := ka (hbox); have GW216 := ka (zG hg (zL HB.out)); have GE216 := ka (zG hg (zL HB.out)); replace HB := ka (below_step (zL HB.out) hb); clear hb hbox hg; obtain ⟨z39_0, z39_1, z39_2, y39_0, y39_1, y39_2⟩ := zC3 BK216.out) | ((with_reducible refine gate_callee (f := 22) rfl ?_); refine goesL_ (some 54) rfl rfl Tryd.func22 (by kernel_rfl) rfl #[.string ((rd_T43 l0 x15_1).f2)] rfl zA ?_; (with_reducible refine (text_Words.calls ((rd_T43 l0 x15_1).f2) t223 _ A36.out).mono ?_); rintro e w40 ⟨v224, rfl, ho0, hb⟩; refine ⟨_, rfl, ?_⟩; replace HO_5 := ka (Kd.S_elder' (zTS HO_5.out BK216.out) (Kd.R_base ho0) hb); replace HO_6 := ka (Kd.R_below (zT HO_6.out BK216.out) hb); have HO225 := ka (Kd.R_lower ho0 (below_size (zL HB.out))); replace BK216 := ka (blk_below (g := gb216) (o := .cells #[.int .i64 ((rd_T43 l0 x15_1).f0), .bool false, .string ((rd_T43 l0 x15_1).f2)] 43 (0, 0)) (zP3 BK216.out) hb); replace HB := ka (below_step (zL HB.out) hb); (try clear hb); (try clear hb2); (try clear hk); (try clear hi); (try clear ho0); obtain ⟨Ao41, co41, eo41⟩ := Kd.R_slice HO225.out; subst eo41))
     replace HO_5 := ka (Kd.S_drew HO_5.out)
     replace HO_6 := ka (Kd.R_drew HO_6.out)
     replace HO225 := ka (Kd.R_drew HO225.out)
     replace BK216 := ka (blk_drew BK216.out)
     replace HB := ka (below_drew1 HB.out)
     refine start_ (n := 5) (S := fun w' => w'.cell? ⟨gb216, 0, none⟩ = some (.int .i64 ((rd_T43 l0 x15_1).f0)) ∧ w'.cell? ⟨gb216, 1, none⟩ = some (.bool false) ∧ w'.cell? ⟨gb216, 2, none⟩ = some (.string ((rd_T43 l0 x15_1).f2))) (ds := []) #[false, false, false, false, false] (by kernel_rfl) rfl rfl ⟨zc BK216.out 0, zc BK216.out 1, zc BK216.out 2⟩ (fun hHeld => ?_)
     generalize w40.drew = w42 at HO_5 HO_6 HO225 BK216 HB hHeld ⊢
     refine zkp 0 (N := some 57) (h := ?_)
     refine zkp 2 (N := some 2) (h := ?_)
     refine zkp 3 (N := some 3) (h := ?_)
     refine zkt 1 (N := some 58) hHeld (h := ?_)
     refine zkp 4 (N := some 4) (h := ?_)
     refine done_ (by kernel_rfl) ?_
     try go_wp2
     go_ret3
     exact ⟨_, zE, zNl, zL HB.out⟩
    rw [if_neg c37] at H
    have c37b0 := zn0 c37
    have c37b1 := zn1 c37
    have c37b2 : ¬ (t223 = []) := fun h_ => c37 (by rw [h_]; rfl)
    replace H := Option.bind_eq_some_iff.mp H
    obtain ⟨t226, A430, H⟩ := H
    try dsimp only at H
    have A43 := ka A430
    clear A430
    replace H := Option.bind_eq_some_iff.mp H
    obtain ⟨⟨t227, t228, t229, t230, t231, t232, t233, t234, t235, t236, t239⟩, A440, H⟩ := H
    try dsimp only at H
    have A44 := ka A440
    clear A440
    by_cases c45 : t239 = true
    ·subst c45
     rw [if_pos rfl] at H
     replace H := Option.bind_eq_some_iff.mp H
     obtain ⟨⟨t241, t244⟩, A460, H⟩ := H
     try dsimp only at H
     have A46 := ka A460
     clear A460
     by_cases c47 : t244 = 0
     ·rw [if_pos c47] at H
      have c47b0 := zb0 c47
      have c47b1 := zb1 c47
      clear c47
      replace H := zif H
      obtain ⟨c48, H⟩ := H
      have LMc48 := ka c48
      clear c48
      obtain ⟨y245, hy245⟩ : ∃ y_ : List (S45), y_ = (x5_1 ++ [(⟨t227, (rd_T43 l0 x15_1).f0, t229, t230, t231, t232, t233, t234, t235, t236⟩ : S45)]) := ⟨_, rfl⟩
      replace H : (parse_Parse.l0 k1 y245 t241 l0 (l0.length : Int) (wrap64 (x15_1 + 1))) = some (r1, r2, r3) := zH hy245 H
      have Ny245 := ka hy245
      clear hy245
      have H' := ka H
      clear H
      have p215 : 0 ≤ (x15_1 : Int) := zD
      have q215 : x15_1 < (l0.length : Int) := zD
      obtain ⟨ad215, e215, hx215_0, hx215_1, hx215_2⟩ := at_T43 HR0.out x15_1 p215 q215
      (try rw [← Nbq5.out] at hx215_1)
      cases e215
      replace hx215_0 := zX HB.out hx215_0
      replace hx215_1 := zX HB.out hx215_1
      replace hx215_2 := zX HB.out hx215_2
      replace p215 := eq_true p215
      replace q215 := eq_true q215
      go_wp2_with (first | ((with_reducible refine gate_dst (N := 8) rfl ?_); (try (refine gate_guard (by rfl) ?_; dsimp only)); refine box_event ?hg (N := 8) ?hd (cs := #[.int .i64 0, .bool false, .string ⟨#[]⟩]) (t := 43) ?hr ?_; (case hd => rfl); (case hg => rfl); (case hr => (go_simp; try rfl)); intro gb216 hg w49 hbox hb; replace HO_5 := ka (Kd.S_below (zRS HO_5.out) hb); replace HO_6 := ka (Kd.R_below (zR HO_6.out) hb); have BK216 := ka (hbox); have GW216 := ka (zG hg (zL HB.out)); have GE216 := ka (zG hg (zL HB.out)); replace HB := ka (below_step (zL HB.out) hb); clear hb hbox hg; obtain ⟨z50_0, z50_1, z50_2, y50_0, y50_1, y50_2⟩ := zC3 BK216.out) | ((with_reducible refine gate_callee (f := 22) rfl ?_); refine goesL_ (some 54) rfl rfl Tryd.func22 (by kernel_rfl) rfl #[.string ((rd_T43 l0 x15_1).f2)] rfl zA ?_; (with_reducible refine (text_Words.calls ((rd_T43 l0 x15_1).f2) t223 _ A36.out).mono ?_); rintro e w51 ⟨v224, rfl, ho0, hb⟩; refine ⟨_, rfl, ?_⟩; replace HO_5 := ka (Kd.S_elder' (zTS HO_5.out BK216.out) (Kd.R_base ho0) hb); replace HO_6 := ka (Kd.R_below (zT HO_6.out BK216.out) hb); have HO225 := ka (Kd.R_lower ho0 (below_size (zL HB.out))); replace BK216 := ka (blk_below (g := gb216) (o := .cells #[.int .i64 ((rd_T43 l0 x15_1).f0), .bool false, .string ((rd_T43 l0 x15_1).f2)] 43 (0, 0)) (zP3 BK216.out) hb); replace HB := ka (below_step (zL HB.out) hb); (try clear hb); (try clear hb2); (try clear hk); (try clear hi); (try clear ho0); obtain ⟨Ao52, co52, eo52⟩ := Kd.R_slice HO225.out; subst eo52; obtain ⟨z53_0, z53_1, z53_2, y53_0, y53_1, y53_2⟩ := zC3 BK216.out) | ((with_reducible refine gate_callee (f := 24) rfl ?_); refine goesL_ (some 62) rfl rfl Tryd.func24 (by kernel_rfl) rfl #[.string ((rd_T43 l0 x15_1).f2)] rfl zA ?_; (with_reducible refine (text_Trim.calls ((rd_T43 l0 x15_1).f2) t226 _ A43.out).mono ?_); rintro e w54 ⟨rfl, hb⟩; refine ⟨_, rfl, ?_⟩; replace HO_5 := ka (Kd.S_below (zRS HO_5.out) hb); replace HO_6 := ka (Kd.R_below (zR HO_6.out) hb); replace HO225 := ka (Kd.R_below (zR HO225.out) hb); replace BK216 := ka (zB BK216.out hb); replace HB := ka (below_step (zL HB.out) hb); (try clear hb); (try clear hb2); (try clear hk); (try clear hi)) | ((with_reducible refine gate_callee (f := 23) rfl ?_); refine goesL_ (some 63) rfl rfl Tryd.func23 (by kernel_rfl) rfl #[.string t226] rfl zA ?_; (with_reducible refine (parse_node.calls k1 t226 t227 t228 t229 t230 t231 t232 t233 t234 t235 t236 true _ A44.out).mono ?_); rintro e w55 ⟨v237, rfl, ho0, hb⟩; refine ⟨_, rfl, ?_⟩; replace HO_5 := ka (Kd.S_elder' (zRS HO_5.out) (Kd.R_base ho0) hb); replace HO_6 := ka (Kd.R_below (zR HO_6.out) hb); have HO238 := ka (Kd.R_lower (Kd.R_new' ho0 (Kd.R_lt (zR HO225.out))) (below_size (zL HB.out))); replace HO225 := ka (Kd.R_elder' (zR HO225.out) (Kd.R_base ho0) hb); replace BK216 := ka (zB BK216.out hb); replace HB := ka (below_step (zL HB.out) hb); (try clear hb); (try clear hb2); (try clear hk); (try clear hi); (try clear ho0)) | ((with_reducible refine gate_dst (N := 10) rfl ?_); (try (refine gate_guard (by rfl) ?_; dsimp only)); refine box_event ?hg (N := 10) ?hd (cs := #[.int .i64 0, .int .i64 0, .string ⟨#[]⟩, .string ⟨#[]⟩, .string ⟨#[]⟩, .string ⟨#[]⟩, .string ⟨#[]⟩, .string ⟨#[]⟩, .string ⟨#[]⟩, .slice none 0 0]) (t := 45) ?hr ?_; (case hd => rfl); (case hg => rfl); (case hr => (go_simp; try rfl)); intro gb240 hg w56 hbox hb; replace HO_5 := ka (Kd.S_below (Kd.S_elderB (zRS HO_5.out) gb240 (Nat.le_of_eq hg.symm)) hb); replace HO_6 := ka (Kd.R_below (zR HO_6.out) hb); replace HO225 := ka (Kd.R_below (zR HO225.out) hb); replace HO238 := ka (Kd.R_below (zR HO238.out) hb); have BK240 := ka (hbox); have GW240 := ka (zG hg (zL HB.out)); have GE240 := ka (zG hg (zL HB.out)); replace HB := ka (below_step (zL HB.out) hb); have NB216_240 := ka (zNK hg BK216.out); have NB240_216 := ka (zOK hg BK216.out); replace BK216 := ka (zB BK216.out hb); clear hb hbox hg; have hnb57 := NB240_216.out; have hnc57 := NB216_240.out; obtain ⟨z58_0, z58_1, z58_2, z58_3, z58_4, z58_5, z58_6, z58_7, z58_8, z58_9, y58_0, y58_1, y58_2, y58_3, y58_4, y58_5, y58_6, y58_7, y58_8, y58_9⟩ := zC10 BK240.out; obtain ⟨Ao59, co59, eo59⟩ := Kd.R_slice HO238.out; subst eo59) | ((with_reducible refine gate_store (t := 45) (p := 10) rfl ?_); refine store_event (t := 45) (p := 10) (v := ?vo_w60) (w1 := ((((((((((w56.setCell ⟨gb240, 0, none⟩ (.int .i64 t227)).setCell ⟨gb240, 1, none⟩ (.int .i64 t228)).setCell ⟨gb240, 2, none⟩ (.string t229)).setCell ⟨gb240, 3, none⟩ (.string t230)).setCell ⟨gb240, 4, none⟩ (.string t231)).setCell ⟨gb240, 5, none⟩ (.string t232)).setCell ⟨gb240, 6, none⟩ (.string t233)).setCell ⟨gb240, 7, none⟩ (.string t234)).setCell ⟨gb240, 8, none⟩ (.string t235)).setCell ⟨gb240, 9, none⟩ (.slice Ao59 t236.length co59))) ?hg ?ho ?hn ?hr ?_; (case ho => rfl); (case hg => rfl); (case hn => rfl); (case hr => (go_simp; try rfl)); intro w60 hw; have n0_ : Aside0 (Kd.S k45 45 w60 w.heap.size (fun k_ => some k_ ≠ (.slice Ao52 t223.length co52 : Value).ownBlock ∧ some k_ ≠ (.slice Ao59 t236.length co59 : Value).ownBlock ∧ k_ ≠ gb240) u5 x5_1) := ⟨(by rw [hw]; exact (by (with_reducible repeat (first | apply Kd.S_alloc | apply Kd.S_drewN | apply Kd.S_drew)); exact Kd.S_mono (zNMS HO_5.out (g := gb240) (fun _ hk => hk.2)) (fun _ hk => ⟨hk.1.1.1.2, ⟨hk.1.1.2, hk.1.2⟩⟩)))⟩; have n1_ : Aside0 (Kd.R Kd.bool 4 w60 w.heap.size (fun _ => True) u6 x6_1) := ⟨(by rw [hw]; exact (by (with_reducible repeat (first | apply Kd.R_alloc | apply Kd.R_drewN | apply Kd.R_drew)); exact Kd.R_mono (zNT HO_6.out BK240.out) (fun _ hk => trivial)))⟩; have n2_ : Aside0 (Kd.R Kd.string 9 w60 w.heap.size (fun k_ => some k_ ≠ (.slice Ao59 t236.length co59 : Value).ownBlock) (.slice Ao52 t223.length co52) t223) := ⟨(by rw [hw]; exact (by (with_reducible repeat (first | apply Kd.R_alloc | apply Kd.R_drewN | apply Kd.R_drew)); exact Kd.R_mono (zNT HO225.out BK240.out) (fun _ hk => hk.1.2)))⟩; have n3_ : Aside0 (Kd.R Kd.string 9 w60 w.heap.size (fun k_ => some k_ ≠ (.slice Ao52 t223.length co52 : Value).ownBlock) (.slice Ao59 t236.length co59) t236) := ⟨(by rw [hw]; exact (by (with_reducible repeat (first | apply Kd.R_alloc | apply Kd.R_drewN | apply Kd.R_drew)); exact Kd.R_mono (zNT HO238.out BK240.out) (fun _ hk => hk.1.2)))⟩; have n4_ : Aside0 (w60.heap[gb216]? = some (.cells #[.int .i64 ((rd_T43 l0 x15_1).f0), .bool false, .string ((rd_T43 l0 x15_1).f2)] 43 (0, 0))) := ⟨(by rw [hw]; exact (zK BK216.out))⟩; have n5_ : Aside0 (w60.heap[gb240]? = some (.cells #[.int .i64 t227, .int .i64 t228, .string t229, .string t230, .string t231, .string t232, .string t233, .string t234, .string t235, .slice Ao59 t236.length co59] 45 (0, 0))) := ⟨(by rw [hw]; exact (zP10 BK240.out))⟩; have n6_ : Aside0 (Below w.heap.size w w60) := ⟨(by rw [hw]; exact (zL HB.out))⟩; clear hw; revert n0_ n1_ n2_ n3_ n4_ n5_ n6_; clear HO_5 HO_6 HO225 HO238 BK216 BK240 HB; intro HO_5 HO_6 HO225 HO238 BK216 BK240 HB; obtain ⟨z61_0, z61_1, z61_2, z61_3, z61_4, z61_5, z61_6, z61_7, z61_8, z61_9, y61_0, y61_1, y61_2, y61_3, y61_4, y61_5, y61_6, y61_7, y61_8, y61_9⟩ := zC10 BK240.out; obtain ⟨Ao62, co62, eo62⟩ := Kd.R_slice HO_6.out; subst eo62) | ((with_reducible refine gate_callee (f := 25) rfl ?_); refine goesL_ (some 74) rfl rfl Tryd.func25 (by kernel_rfl) rfl #[.slice Ao62 x6_1.length co62, .int .i64 t227] rfl zA ?_; (with_reducible refine (parse_nest_take.calls k1 (fun k_ => some k_ = (.slice Ao62 x6_1.length co62 : Value).ownBlock) (.slice Ao62 x6_1.length co62) x6_1 t227 t241 t244 w _ ?side1 ?side2 A46.out).mono ?_); (case side1 => repeat (first | (with_reducible first | exact HB.out | apply below_alloc | apply pw_below_drewN | apply below_drew1 | refine below_set ?_ GE216.out | refine below_set ?_ GE240.out) | exact HB.out)); (case side2 => exact Kd.R_tight rfl HO_6.out); rintro e w63 ⟨v242, rfl, ho0, hb, hkp⟩; refine ⟨_, rfl, ?_⟩; replace HO_5 := ka (Kd.S_mono (ok' := fun k_ => some k_ ≠ (.slice Ao52 t223.length co52 : Value).ownBlock ∧ some k_ ≠ (.slice Ao59 t236.length co59 : Value).ownBlock ∧ k_ ≠ gb240) (Kd.S_keptB ((Kd.S_apart' HO_5.out (Kd.R_typed HO_6.out) (by decide))) hkp (fun k_ hk_ hs_ => (hk_.2) hs_)) (fun k_ hk_ => ⟨hk_.1.1.1, hk_.1.1.2.1, hk_.1.1.2.2⟩)); replace BK216 := ka (blk_kept (zK BK216.out) hkp (fun hs_ => (fun e_ => (Kd.R_ne HO_6.out BK216.out (by decide)) e_) hs_)); replace HO225 := ka (Kd.R_mono (ok' := fun k_ => some k_ ≠ (.slice Ao59 t236.length co59 : Value).ownBlock) (Kd.R_keptB ((Kd.R_apart' HO225.out (Kd.R_typed HO_6.out) (by decide))) hkp (fun k_ hk_ hs_ => (hk_.2) hs_)) (fun k_ hk_ => hk_.1.1)); replace HO238 := ka (Kd.R_mono (ok' := fun k_ => some k_ ≠ (.slice Ao52 t223.length co52 : Value).ownBlock) (Kd.R_keptB ((Kd.R_apart' HO238.out (Kd.R_typed HO_6.out) (by decide))) hkp (fun k_ hk_ hs_ => (hk_.2) hs_)) (fun k_ hk_ => hk_.1.1)); replace BK240 := ka (blk_kept (zK BK240.out) hkp (fun hs_ => (fun e_ => (Kd.R_ne HO_6.out BK240.out (by decide)) e_) hs_)); have HO243 := ka (Kd.R_mono (ok' := fun k_ => True) ho0 (fun k_ hk_ => trivial)); replace HB := ka (hb); clear HO_6; (try clear hb); (try clear hkp); (try clear ho0); obtain ⟨z64_0, z64_1, z64_2, y64_0, y64_1, y64_2⟩ := zC3 BK216.out; obtain ⟨z65_0, z65_1, z65_2, z65_3, z65_4, z65_5, z65_6, z65_7, z65_8, z65_9, y65_0, y65_1, y65_2, y65_3, y65_4, y65_5, y65_6, y65_7, y65_8, y65_9⟩ := zC10 BK240.out) | ((with_reducible refine gate_store (t := 3) (p := 84) rfl ?_); refine store_event (t := 3) (p := 84) (v := ?vo_w66) (w1 := (w63.setCell ⟨gb240, 1, none⟩ (.int .i64 ((rd_T43 l0 x15_1).f0)))) ?hg ?ho ?hn ?hr ?_; (case ho => rfl); (case hg => rfl); (case hn => rfl); (case hr => (go_simp; try rfl)); intro w66 hw; have n0_ : Aside0 (Kd.S k45 45 w66 w.heap.size (fun k_ => some k_ ≠ (.slice Ao52 t223.length co52 : Value).ownBlock ∧ some k_ ≠ (.slice Ao59 t236.length co59 : Value).ownBlock ∧ k_ ≠ gb240) u5 x5_1) := ⟨(by rw [hw]; exact (by (with_reducible repeat (first | apply Kd.S_alloc | apply Kd.S_drewN | apply Kd.S_drew)); exact Kd.S_mono (zNMS HO_5.out (g := gb240) (fun _ hk => hk.2.2)) (fun _ hk => ⟨hk.1.1, ⟨hk.1.2.1, hk.1.2.2⟩⟩)))⟩; have n1_ : Aside0 (Kd.R Kd.string 9 w66 w.heap.size (fun k_ => some k_ ≠ (.slice Ao59 t236.length co59 : Value).ownBlock) (.slice Ao52 t223.length co52) t223) := ⟨(by rw [hw]; exact (by (with_reducible repeat (first | apply Kd.R_alloc | apply Kd.R_drewN | apply Kd.R_drew)); exact Kd.R_mono (zNT HO225.out BK240.out) (fun _ hk => hk.1)))⟩; have n2_ : Aside0 (Kd.R Kd.string 9 w66 w.heap.size (fun k_ => some k_ ≠ (.slice Ao52 t223.length co52 : Value).ownBlock) (.slice Ao59 t236.length co59) t236) := ⟨(by rw [hw]; exact (by (with_reducible repeat (first | apply Kd.R_alloc | apply Kd.R_drewN | apply Kd.R_drew)); exact Kd.R_mono (zNT HO238.out BK240.out) (fun _ hk => hk.1)))⟩; have n3_ : Aside0 (Kd.R Kd.bool 4 w66 w.heap.size (fun _ => True) v242 t241) := ⟨(by rw [hw]; exact (by (with_reducible repeat (first | apply Kd.R_alloc | apply Kd.R_drewN | apply Kd.R_drew)); exact Kd.R_mono (zNT HO243.out BK240.out) (fun _ hk => trivial)))⟩; have n4_ : Aside0 (w66.heap[gb216]? = some (.cells #[.int .i64 ((rd_T43 l0 x15_1).f0), .bool false, .string ((rd_T43 l0 x15_1).f2)] 43 (0, 0))) := ⟨(by rw [hw]; exact (zK BK216.out))⟩; have n5_ : Aside0 (w66.heap[gb240]? = some (.cells #[.int .i64 t227, .int .i64 ((rd_T43 l0 x15_1).f0), .string t229, .string t230, .string t231, .string t232, .string t233, .string t234, .string t235, .slice Ao59 t236.length co59] 45 (0, 0))) := ⟨(by rw [hw]; exact (by (with_reducible repeat (first | refine blk_drewN ?_ _ | refine blk_drew ?_ | refine blk_alloc ?_ _)); refine blk_put (cs := #[.int .i64 t227, .int .i64 t228, .string t229, .string t230, .string t231, .string t232, .string t233, .string t234, .string t235, .slice Ao59 t236.length co59]) ?_ 1 _ rfl; (with_reducible repeat (first | refine blk_drewN ?_ _ | refine blk_drew ?_ | refine blk_alloc ?_ _)); exact BK240.out))⟩; have n6_ : Aside0 (Below w.heap.size w w66) := ⟨(by rw [hw]; exact (zL HB.out))⟩; clear hw; revert n0_ n1_ n2_ n3_ n4_ n5_ n6_; clear HO_5 HO225 HO238 HO243 BK216 BK240 HB; intro HO_5 HO225 HO238 HO243 BK216 BK240 HB; obtain ⟨z67_0, z67_1, z67_2, z67_3, z67_4, z67_5, z67_6, z67_7, z67_8, z67_9, y67_0, y67_1, y67_2, y67_3, y67_4, y67_5, y67_6, y67_7, y67_8, y67_9⟩ := zC10 BK240.out) | ((with_reducible refine gate_builtin (b := .append) (xs := #[.tmp 85, .tmp 87]) rfl ?_); (try (refine gate_guard (by rfl) ?_; dsimp only)); at_builtin; refine Kd.S_append k45 (w0 := w) w.heap.size rfl (.tmp 85) (.tmp 87) 27 45 (.agg #[(.int .i64 0), (.int .i64 0), (.string ⟨#[]⟩), (.string ⟨#[]⟩), (.string ⟨#[]⟩), (.string ⟨#[]⟩), (.string ⟨#[]⟩), (.string ⟨#[]⟩), (.string ⟨#[]⟩), (.slice none 0 0)]) 152 rfl Tryd.underlying27 info45 rfl (by decide) (by omega) u5 x5_1 (⟨t227, (rd_T43 l0 x15_1).f0, t229, t230, t231, t232, t233, t234, t235, t236⟩ : S45) [.int .i64 t227, .int .i64 ((rd_T43 l0 x15_1).f0), .string t229, .string t230, .string t231, .string t232, .string t233, .string t234, .string t235, .slice Ao59 t236.length co59] (fun k_ => some k_ ≠ (.slice Ao52 t223.length co52 : Value).ownBlock ∧ k_ ≠ gb240) (fun k_ => some k_ = (.slice Ao59 t236.length co59 : Value).ownBlock) rfl rfl ?aP (fun k_ hk_ => ((Kd.R_mono (ok' := fun k_ => ((fun k_ => some k_ ≠ (.slice Ao52 t223.length co52 : Value).ownBlock ∧ k_ ≠ gb240)) k_ ∧ some k_ ≠ (u5 : Value).ownBlock) (Kd.R_types (Kd.R_apart' (HO238.out) (Kd.S_typed HO_5.out) (by decide)) BK240.out (by decide)) (fun k_ hk => ⟨⟨hk.1.1, hk.2⟩, hk.1.2⟩))).1 k_ hk_.symm) ?aF ?aO ?aB ?aS ?aL ?_; (case aP => exact k45_mkM _ _ _ (⟨t227, (rd_T43 l0 x15_1).f0, t229, t230, t231, t232, t233, t234, t235, t236⟩ : S45) (Kd.R_mono (Kd.R_tight rfl (Kd.R_mono (ok' := fun k_ => ((fun k_ => some k_ ≠ (.slice Ao52 t223.length co52 : Value).ownBlock ∧ k_ ≠ gb240)) k_ ∧ some k_ ≠ (u5 : Value).ownBlock) (Kd.R_types (Kd.R_apart' (HO238.out) (Kd.S_typed HO_5.out) (by decide)) BK240.out (by decide)) (fun k_ hk => ⟨⟨hk.1.1, hk.2⟩, hk.1.2⟩))) (fun _ h_ => h_))); (case aB => exact (zL HB.out)); (case aF => exact (fun k_ hk => ⟨Kd.fresh' (Kd.R_lt (zR HO225.out)) k_ hk, Kd.freshB (g := gb240) (o := .cells #[.int .i64 t227, .int .i64 ((rd_T43 l0 x15_1).f0), .string t229, .string t230, .string t231, .string t232, .string t233, .string t234, .string t235, .slice Ao59 t236.length co59] 45 (0, 0)) (zK BK240.out) k_ hk⟩)); (case aO => exact (by (with_reducible repeat (first | apply Kd.S_alloc | apply Kd.S_drewN | apply Kd.S_drew)); exact Kd.S_mono HO_5.out (fun k_ hk => ⟨⟨hk.1, hk.2.2⟩, fun e_ => hk.2.1 e_⟩))); (case aS => exact (below_size (zL HB.out))); (case aL => have := LMc48.out; omega); intro v246 w68 ho hb hg hat; rw [← Ny245.out] at ho; replace BK216 := ka (blk_grown (g := gb216) (o := .cells #[.int .i64 ((rd_T43 l0 x15_1).f0), .bool false, .string ((rd_T43 l0 x15_1).f2)] 43 (0, 0)) (zK BK216.out) hg (Kd.S_ne HO_5.out BK216.out (by decide))); replace HO225 := ka (Kd.R_over' (zR HO225.out) (Kd.S_typed (zRS HO_5.out)) (by decide) hg); replace BK240 := ka (blk_grown (g := gb240) (o := .cells #[.int .i64 t227, .int .i64 ((rd_T43 l0 x15_1).f0), .string t229, .string t230, .string t231, .string t232, .string t233, .string t234, .string t235, .slice Ao59 t236.length co59] 45 (0, 0)) (zK BK240.out) hg (Kd.S_away HO_5.out (fun _ hk => hk.2.2))); replace HO243 := ka (Kd.R_over' (zR HO243.out) (Kd.S_typed (zRS HO_5.out)) (by decide) hg); replace HB := ka (hb); have HO247 := ka (ho); clear HO_5 HO238; clear ho hb hg hat))
      go_roundg k1
      case measure => have := HK1.out; omega
      case rel => exact ⟨(y245), (t241), (wrap64 (x15_1 + 1)), zS, H', ⟨by have := HK1.out; omega⟩, ⟨by (with_reducible repeat (first | apply Kd.S_alloc | apply Kd.S_drewN | apply Kd.S_drew)); exact Kd.S_mono HO247.out (fun _ hk => trivial)⟩, ⟨zR HO243.out⟩, ⟨zL HB.out⟩⟩
     rw [if_neg c47] at H
     have c47b0 := zn0 c47
     have c47b1 := zn1 c47
     replace H := zs3 H
     obtain ⟨rfl, rfl, rfl⟩ := H
     have p215 : 0 ≤ (x15_1 : Int) := zD
     have q215 : x15_1 < (l0.length : Int) := zD
     obtain ⟨ad215, e215, hx215_0, hx215_1, hx215_2⟩ := at_T43 HR0.out x15_1 p215 q215
     (try rw [← Nbq5.out] at hx215_1)
     cases e215
     replace hx215_0 := zX HB.out hx215_0
     replace hx215_1 := zX HB.out hx215_1
     replace hx215_2 := zX HB.out hx215_2
     replace p215 := eq_true p215
     replace q215 := eq_true q215
     try go_wp2_with (first | ((with_reducible refine gate_dst (N := 8) rfl ?_); (try (refine gate_guard (by rfl) ?_; dsimp only)); refine box_event ?hg (N := 8) ?hd (cs := #[.int .i64 0, .bool false, .string ⟨#[]⟩]) (t := 43) ?hr ?_; (case hd => rfl); (case hg => rfl); (case hr => (go_simp; try rfl)); intro gb216 hg w69 hbox hb; replace HO_5 := ka (Kd.S_below (zRS HO_5.out) hb); replace HO_6 := ka (Kd.R_below (zR HO_6.out) hb); have BK216 := ka (hbox); have GW216 := ka (zG hg (zL HB.out)); have GE216 := ka (zG hg (zL HB.out)); replace HB := ka (below_step (zL HB.out) hb); clear hb hbox hg; obtain ⟨z70_0, z70_1, z70_2, y70_0, y70_1, y70_2⟩ := zC3 BK216.out) | ((with_reducible refine gate_callee (f := 22) rfl ?_); refine goesL_ (some 54) rfl rfl Tryd.func22 (by kernel_rfl) rfl #[.string ((rd_T43 l0 x15_1).f2)] rfl zA ?_; (with_reducible refine (text_Words.calls ((rd_T43 l0 x15_1).f2) t223 _ A36.out).mono ?_); rintro e w71 ⟨v224, rfl, ho0, hb⟩; refine ⟨_, rfl, ?_⟩; replace HO_5 := ka (Kd.S_elder' (zTS HO_5.out BK216.out) (Kd.R_base ho0) hb); replace HO_6 := ka (Kd.R_below (zT HO_6.out BK216.out) hb); have HO225 := ka (Kd.R_lower ho0 (below_size (zL HB.out))); replace BK216 := ka (blk_below (g := gb216) (o := .cells #[.int .i64 ((rd_T43 l0 x15_1).f0), .bool false, .string ((rd_T43 l0 x15_1).f2)] 43 (0, 0)) (zP3 BK216.out) hb); replace HB := ka (below_step (zL HB.out) hb); (try clear hb); (try clear hb2); (try clear hk); (try clear hi); (try clear ho0); obtain ⟨Ao72, co72, eo72⟩ := Kd.R_slice HO225.out; subst eo72; obtain ⟨z73_0, z73_1, z73_2, y73_0, y73_1, y73_2⟩ := zC3 BK216.out) | ((with_reducible refine gate_callee (f := 24) rfl ?_); refine goesL_ (some 62) rfl rfl Tryd.func24 (by kernel_rfl) rfl #[.string ((rd_T43 l0 x15_1).f2)] rfl zA ?_; (with_reducible refine (text_Trim.calls ((rd_T43 l0 x15_1).f2) t226 _ A43.out).mono ?_); rintro e w74 ⟨rfl, hb⟩; refine ⟨_, rfl, ?_⟩; replace HO_5 := ka (Kd.S_below (zRS HO_5.out) hb); replace HO_6 := ka (Kd.R_below (zR HO_6.out) hb); replace HO225 := ka (Kd.R_below (zR HO225.out) hb); replace BK216 := ka (zB BK216.out hb); replace HB := ka (below_step (zL HB.out) hb); (try clear hb); (try clear hb2); (try clear hk); (try clear hi)) | ((with_reducible refine gate_callee (f := 23) rfl ?_); refine goesL_ (some 63) rfl rfl Tryd.func23 (by kernel_rfl) rfl #[.string t226] rfl zA ?_; (with_reducible refine (parse_node.calls k1 t226 t227 t228 t229 t230 t231 t232 t233 t234 t235 t236 true _ A44.out).mono ?_); rintro e w75 ⟨v237, rfl, ho0, hb⟩; refine ⟨_, rfl, ?_⟩; replace HO_5 := ka (Kd.S_elder' (zRS HO_5.out) (Kd.R_base ho0) hb); replace HO_6 := ka (Kd.R_below (zR HO_6.out) hb); have HO238 := ka (Kd.R_lower (Kd.R_new' ho0 (Kd.R_lt (zR HO225.out))) (below_size (zL HB.out))); replace HO225 := ka (Kd.R_elder' (zR HO225.out) (Kd.R_base ho0) hb); replace BK216 := ka (zB BK216.out hb); replace HB := ka (below_step (zL HB.out) hb); (try clear hb); (try clear hb2); (try clear hk); (try clear hi); (try clear ho0)) | ((with_reducible refine gate_dst (N := 10) rfl ?_); (try (refine gate_guard (by rfl) ?_; dsimp only)); refine box_event ?hg (N := 10) ?hd (cs := #[.int .i64 0, .int .i64 0, .string ⟨#[]⟩, .string ⟨#[]⟩, .string ⟨#[]⟩, .string ⟨#[]⟩, .string ⟨#[]⟩, .string ⟨#[]⟩, .string ⟨#[]⟩, .slice none 0 0]) (t := 45) ?hr ?_; (case hd => rfl); (case hg => rfl); (case hr => (go_simp; try rfl)); intro gb240 hg w76 hbox hb; replace HO_5 := ka (Kd.S_below (Kd.S_elderB (zRS HO_5.out) gb240 (Nat.le_of_eq hg.symm)) hb); replace HO_6 := ka (Kd.R_below (zR HO_6.out) hb); replace HO225 := ka (Kd.R_below (zR HO225.out) hb); replace HO238 := ka (Kd.R_below (zR HO238.out) hb); have BK240 := ka (hbox); have GW240 := ka (zG hg (zL HB.out)); have GE240 := ka (zG hg (zL HB.out)); replace HB := ka (below_step (zL HB.out) hb); have NB216_240 := ka (zNK hg BK216.out); have NB240_216 := ka (zOK hg BK216.out); replace BK216 := ka (zB BK216.out hb); clear hb hbox hg; have hnb77 := NB240_216.out; have hnc77 := NB216_240.out; obtain ⟨z78_0, z78_1, z78_2, z78_3, z78_4, z78_5, z78_6, z78_7, z78_8, z78_9, y78_0, y78_1, y78_2, y78_3, y78_4, y78_5, y78_6, y78_7, y78_8, y78_9⟩ := zC10 BK240.out; obtain ⟨Ao79, co79, eo79⟩ := Kd.R_slice HO238.out; subst eo79) | ((with_reducible refine gate_store (t := 45) (p := 10) rfl ?_); refine store_event (t := 45) (p := 10) (v := ?vo_w80) (w1 := ((((((((((w76.setCell ⟨gb240, 0, none⟩ (.int .i64 t227)).setCell ⟨gb240, 1, none⟩ (.int .i64 t228)).setCell ⟨gb240, 2, none⟩ (.string t229)).setCell ⟨gb240, 3, none⟩ (.string t230)).setCell ⟨gb240, 4, none⟩ (.string t231)).setCell ⟨gb240, 5, none⟩ (.string t232)).setCell ⟨gb240, 6, none⟩ (.string t233)).setCell ⟨gb240, 7, none⟩ (.string t234)).setCell ⟨gb240, 8, none⟩ (.string t235)).setCell ⟨gb240, 9, none⟩ (.slice Ao79 t236.length co79))) ?hg ?ho ?hn ?hr ?_; (case ho => rfl); (case hg => rfl); (case hn => rfl); (case hr => (go_simp; try rfl)); intro w80 hw; have n0_ : Aside0 (Kd.S k45 45 w80 w.heap.size (fun k_ => some k_ ≠ (.slice Ao72 t223.length co72 : Value).ownBlock ∧ some k_ ≠ (.slice Ao79 t236.length co79 : Value).ownBlock ∧ k_ ≠ gb240) u5 x5_1) := ⟨(by rw [hw]; exact (by (with_reducible repeat (first | apply Kd.S_alloc | apply Kd.S_drewN | apply Kd.S_drew)); exact Kd.S_mono (zNMS HO_5.out (g := gb240) (fun _ hk => hk.2)) (fun _ hk => ⟨hk.1.1.1.2, ⟨hk.1.1.2, hk.1.2⟩⟩)))⟩; have n1_ : Aside0 (Kd.R Kd.bool 4 w80 w.heap.size (fun _ => True) u6 x6_1) := ⟨(by rw [hw]; exact (by (with_reducible repeat (first | apply Kd.R_alloc | apply Kd.R_drewN | apply Kd.R_drew)); exact Kd.R_mono (zNT HO_6.out BK240.out) (fun _ hk => trivial)))⟩; have n2_ : Aside0 (Kd.R Kd.string 9 w80 w.heap.size (fun k_ => some k_ ≠ (.slice Ao79 t236.length co79 : Value).ownBlock) (.slice Ao72 t223.length co72) t223) := ⟨(by rw [hw]; exact (by (with_reducible repeat (first | apply Kd.R_alloc | apply Kd.R_drewN | apply Kd.R_drew)); exact Kd.R_mono (zNT HO225.out BK240.out) (fun _ hk => hk.1.2)))⟩; have n3_ : Aside0 (Kd.R Kd.string 9 w80 w.heap.size (fun k_ => some k_ ≠ (.slice Ao72 t223.length co72 : Value).ownBlock) (.slice Ao79 t236.length co79) t236) := ⟨(by rw [hw]; exact (by (with_reducible repeat (first | apply Kd.R_alloc | apply Kd.R_drewN | apply Kd.R_drew)); exact Kd.R_mono (zNT HO238.out BK240.out) (fun _ hk => hk.1.2)))⟩; have n4_ : Aside0 (w80.heap[gb216]? = some (.cells #[.int .i64 ((rd_T43 l0 x15_1).f0), .bool false, .string ((rd_T43 l0 x15_1).f2)] 43 (0, 0))) := ⟨(by rw [hw]; exact (zK BK216.out))⟩; have n5_ : Aside0 (w80.heap[gb240]? = some (.cells #[.int .i64 t227, .int .i64 t228, .string t229, .string t230, .string t231, .string t232, .string t233, .string t234, .string t235, .slice Ao79 t236.length co79] 45 (0, 0))) := ⟨(by rw [hw]; exact (zP10 BK240.out))⟩; have n6_ : Aside0 (Below w.heap.size w w80) := ⟨(by rw [hw]; exact (zL HB.out))⟩; clear hw; revert n0_ n1_ n2_ n3_ n4_ n5_ n6_; clear HO_5 HO_6 HO225 HO238 BK216 BK240 HB; intro HO_5 HO_6 HO225 HO238 BK216 BK240 HB; obtain ⟨z81_0, z81_1, z81_2, z81_3, z81_4, z81_5, z81_6, z81_7, z81_8, z81_9, y81_0, y81_1, y81_2, y81_3, y81_4, y81_5, y81_6, y81_7, y81_8, y81_9⟩ := zC10 BK240.out; obtain ⟨Ao82, co82, eo82⟩ := Kd.R_slice HO_6.out; subst eo82) | ((with_reducible refine gate_callee (f := 25) rfl ?_); refine goesL_ (some 74) rfl rfl Tryd.func25 (by kernel_rfl) rfl #[.slice Ao82 x6_1.length co82, .int .i64 t227] rfl zA ?_; (with_reducible refine (parse_nest_take.calls k1 (fun k_ => some k_ = (.slice Ao82 x6_1.length co82 : Value).ownBlock) (.slice Ao82 x6_1.length co82) x6_1 t227 t241 t244 w _ ?side1 ?side2 A46.out).mono ?_); (case side1 => repeat (first | (with_reducible first | exact HB.out | apply below_alloc | apply pw_below_drewN | apply below_drew1 | refine below_set ?_ GE216.out | refine below_set ?_ GE240.out) | exact HB.out)); (case side2 => exact Kd.R_tight rfl HO_6.out); rintro e w83 ⟨v242, rfl, ho0, hb, hkp⟩; refine ⟨_, rfl, ?_⟩; replace HO_5 := ka (Kd.S_mono (ok' := fun k_ => some k_ ≠ (.slice Ao72 t223.length co72 : Value).ownBlock ∧ some k_ ≠ (.slice Ao79 t236.length co79 : Value).ownBlock ∧ k_ ≠ gb240) (Kd.S_keptB ((Kd.S_apart' HO_5.out (Kd.R_typed HO_6.out) (by decide))) hkp (fun k_ hk_ hs_ => (hk_.2) hs_)) (fun k_ hk_ => ⟨hk_.1.1.1, hk_.1.1.2.1, hk_.1.1.2.2⟩)); replace BK216 := ka (blk_kept (zK BK216.out) hkp (fun hs_ => (fun e_ => (Kd.R_ne HO_6.out BK216.out (by decide)) e_) hs_)); replace HO225 := ka (Kd.R_mono (ok' := fun k_ => some k_ ≠ (.slice Ao79 t236.length co79 : Value).ownBlock) (Kd.R_keptB ((Kd.R_apart' HO225.out (Kd.R_typed HO_6.out) (by decide))) hkp (fun k_ hk_ hs_ => (hk_.2) hs_)) (fun k_ hk_ => hk_.1.1)); replace HO238 := ka (Kd.R_mono (ok' := fun k_ => some k_ ≠ (.slice Ao72 t223.length co72 : Value).ownBlock) (Kd.R_keptB ((Kd.R_apart' HO238.out (Kd.R_typed HO_6.out) (by decide))) hkp (fun k_ hk_ hs_ => (hk_.2) hs_)) (fun k_ hk_ => hk_.1.1)); replace BK240 := ka (blk_kept (zK BK240.out) hkp (fun hs_ => (fun e_ => (Kd.R_ne HO_6.out BK240.out (by decide)) e_) hs_)); have HO243 := ka (Kd.R_mono (ok' := fun k_ => True) ho0 (fun k_ hk_ => trivial)); replace HB := ka (hb); clear HO_6; (try clear hb); (try clear hkp); (try clear ho0)))
     replace HO_5 := ka (Kd.S_drew HO_5.out)
     replace HO225 := ka (Kd.R_drew HO225.out)
     replace HO238 := ka (Kd.R_drew HO238.out)
     replace HO243 := ka (Kd.R_drew HO243.out)
     replace BK216 := ka (blk_drew BK216.out)
     replace BK240 := ka (blk_drew BK240.out)
     replace HB := ka (below_drew1 HB.out)
     refine start_ (n := 6) (S := fun w' => w'.cell? ⟨gb216, 0, none⟩ = some (.int .i64 ((rd_T43 l0 x15_1).f0)) ∧ w'.cell? ⟨gb216, 1, none⟩ = some (.bool false) ∧ w'.cell? ⟨gb216, 2, none⟩ = some (.string ((rd_T43 l0 x15_1).f2))) (ds := []) #[false, false, false, false, false, false] (by kernel_rfl) rfl rfl ⟨zc BK216.out 0, zc BK216.out 1, zc BK216.out 2⟩ (fun hHeld => ?_)
     generalize w83.drew = w84 at HO_5 HO225 HO238 HO243 BK216 BK240 HB hHeld ⊢
     refine zkp 0 (N := some 79) (h := ?_)
     refine zkp 1 (N := some 80) (h := ?_)
     refine zkp 3 (N := some 2) (h := ?_)
     refine zkp 4 (N := some 3) (h := ?_)
     refine zkt 2 (N := some 81) hHeld (h := ?_)
     refine zkp 5 (N := some 4) (h := ?_)
     refine done_ (by kernel_rfl) ?_
     try go_wp2
     go_ret3
     exact ⟨_, zE, zNl, zL HB.out⟩
    replace c45 := Bool.eq_false_iff.mpr c45
    subst c45
    rw [if_neg (show ¬ (false = true) by decide)] at H
    replace H := zs3 H
    obtain ⟨rfl, rfl, rfl⟩ := H
    have p215 : 0 ≤ (x15_1 : Int) := zD
    have q215 : x15_1 < (l0.length : Int) := zD
    obtain ⟨ad215, e215, hx215_0, hx215_1, hx215_2⟩ := at_T43 HR0.out x15_1 p215 q215
    (try rw [← Nbq5.out] at hx215_1)
    cases e215
    replace hx215_0 := zX HB.out hx215_0
    replace hx215_1 := zX HB.out hx215_1
    replace hx215_2 := zX HB.out hx215_2
    replace p215 := eq_true p215
    replace q215 := eq_true q215
    try go_wp2_with (first | ((with_reducible refine gate_dst (N := 8) rfl ?_); (try (refine gate_guard (by rfl) ?_; dsimp only)); refine box_event ?hg (N := 8) ?hd (cs := #[.int .i64 0, .bool false, .string ⟨#[]⟩]) (t := 43) ?hr ?_; (case hd => rfl); (case hg => rfl); (case hr => (go_simp; try rfl)); intro gb216 hg w85 hbox hb; replace HO_5 := ka (Kd.S_below (zRS HO_5.out) hb); replace HO_6 := ka (Kd.R_below (zR HO_6.out) hb); have BK216 := ka (hbox); have GW216 := ka (zG hg (zL HB.out)); have GE216 := ka (zG hg (zL HB.out)); replace HB := ka (below_step (zL HB.out) hb); clear hb hbox hg; obtain ⟨z86_0, z86_1, z86_2, y86_0, y86_1, y86_2⟩ := zC3 BK216.out) | ((with_reducible refine gate_callee (f := 22) rfl ?_); refine goesL_ (some 54) rfl rfl Tryd.func22 (by kernel_rfl) rfl #[.string ((rd_T43 l0 x15_1).f2)] rfl zA ?_; (with_reducible refine (text_Words.calls ((rd_T43 l0 x15_1).f2) t223 _ A36.out).mono ?_); rintro e w87 ⟨v224, rfl, ho0, hb⟩; refine ⟨_, rfl, ?_⟩; replace HO_5 := ka (Kd.S_elder' (zTS HO_5.out BK216.out) (Kd.R_base ho0) hb); replace HO_6 := ka (Kd.R_below (zT HO_6.out BK216.out) hb); have HO225 := ka (Kd.R_lower ho0 (below_size (zL HB.out))); replace BK216 := ka (blk_below (g := gb216) (o := .cells #[.int .i64 ((rd_T43 l0 x15_1).f0), .bool false, .string ((rd_T43 l0 x15_1).f2)] 43 (0, 0)) (zP3 BK216.out) hb); replace HB := ka (below_step (zL HB.out) hb); (try clear hb); (try clear hb2); (try clear hk); (try clear hi); (try clear ho0); obtain ⟨Ao88, co88, eo88⟩ := Kd.R_slice HO225.out; subst eo88; obtain ⟨z89_0, z89_1, z89_2, y89_0, y89_1, y89_2⟩ := zC3 BK216.out) | ((with_reducible refine gate_callee (f := 24) rfl ?_); refine goesL_ (some 62) rfl rfl Tryd.func24 (by kernel_rfl) rfl #[.string ((rd_T43 l0 x15_1).f2)] rfl zA ?_; (with_reducible refine (text_Trim.calls ((rd_T43 l0 x15_1).f2) t226 _ A43.out).mono ?_); rintro e w90 ⟨rfl, hb⟩; refine ⟨_, rfl, ?_⟩; replace HO_5 := ka (Kd.S_below (zRS HO_5.out) hb); replace HO_6 := ka (Kd.R_below (zR HO_6.out) hb); replace HO225 := ka (Kd.R_below (zR HO225.out) hb); replace BK216 := ka (zB BK216.out hb); replace HB := ka (below_step (zL HB.out) hb); (try clear hb); (try clear hb2); (try clear hk); (try clear hi)) | ((with_reducible refine gate_callee (f := 23) rfl ?_); refine goesL_ (some 63) rfl rfl Tryd.func23 (by kernel_rfl) rfl #[.string t226] rfl zA ?_; (with_reducible refine (parse_node.calls k1 t226 t227 t228 t229 t230 t231 t232 t233 t234 t235 t236 false _ A44.out).mono ?_); rintro e w91 ⟨v237, rfl, ho0, hb⟩; refine ⟨_, rfl, ?_⟩; replace HO_5 := ka (Kd.S_elder' (zRS HO_5.out) (Kd.R_base ho0) hb); replace HO_6 := ka (Kd.R_below (zR HO_6.out) hb); have HO238 := ka (Kd.R_lower (Kd.R_new' ho0 (Kd.R_lt (zR HO225.out))) (below_size (zL HB.out))); replace HO225 := ka (Kd.R_elder' (zR HO225.out) (Kd.R_base ho0) hb); replace BK216 := ka (zB BK216.out hb); replace HB := ka (below_step (zL HB.out) hb); (try clear hb); (try clear hb2); (try clear hk); (try clear hi); (try clear ho0)) | ((with_reducible refine gate_dst (N := 10) rfl ?_); (try (refine gate_guard (by rfl) ?_; dsimp only)); refine box_event ?hg (N := 10) ?hd (cs := #[.int .i64 0, .int .i64 0, .string ⟨#[]⟩, .string ⟨#[]⟩, .string ⟨#[]⟩, .string ⟨#[]⟩, .string ⟨#[]⟩, .string ⟨#[]⟩, .string ⟨#[]⟩, .slice none 0 0]) (t := 45) ?hr ?_; (case hd => rfl); (case hg => rfl); (case hr => (go_simp; try rfl)); intro gb240 hg w92 hbox hb; replace HO_5 := ka (Kd.S_below (Kd.S_elderB (zRS HO_5.out) gb240 (Nat.le_of_eq hg.symm)) hb); replace HO_6 := ka (Kd.R_below (zR HO_6.out) hb); replace HO225 := ka (Kd.R_below (zR HO225.out) hb); replace HO238 := ka (Kd.R_below (zR HO238.out) hb); have BK240 := ka (hbox); have GW240 := ka (zG hg (zL HB.out)); have GE240 := ka (zG hg (zL HB.out)); replace HB := ka (below_step (zL HB.out) hb); have NB216_240 := ka (zNK hg BK216.out); have NB240_216 := ka (zOK hg BK216.out); replace BK216 := ka (zB BK216.out hb); clear hb hbox hg; have hnb93 := NB240_216.out; have hnc93 := NB216_240.out; obtain ⟨z94_0, z94_1, z94_2, z94_3, z94_4, z94_5, z94_6, z94_7, z94_8, z94_9, y94_0, y94_1, y94_2, y94_3, y94_4, y94_5, y94_6, y94_7, y94_8, y94_9⟩ := zC10 BK240.out; obtain ⟨Ao95, co95, eo95⟩ := Kd.R_slice HO238.out; subst eo95))
    replace HO_5 : Aside0 (Kd.S k45 45 ((((((((((w92.setCell ⟨gb240, 0, none⟩ (.int .i64 t227)).setCell ⟨gb240, 1, none⟩ (.int .i64 t228)).setCell ⟨gb240, 2, none⟩ (.string t229)).setCell ⟨gb240, 3, none⟩ (.string t230)).setCell ⟨gb240, 4, none⟩ (.string t231)).setCell ⟨gb240, 5, none⟩ (.string t232)).setCell ⟨gb240, 6, none⟩ (.string t233)).setCell ⟨gb240, 7, none⟩ (.string t234)).setCell ⟨gb240, 8, none⟩ (.string t235)).setCell ⟨gb240, 9, none⟩ (.slice Ao95 t236.length co95)) w.heap.size (fun k_ => some k_ ≠ (.slice Ao88 t223.length co88 : Value).ownBlock ∧ some k_ ≠ (.slice Ao95 t236.length co95 : Value).ownBlock ∧ k_ ≠ gb240) u5 x5_1) := ⟨by (with_reducible repeat (first | apply Kd.S_alloc | apply Kd.S_drewN | apply Kd.S_drew)); exact Kd.S_mono (zNMS HO_5.out (g := gb240) (fun _ hk => hk.2)) (fun _ hk => ⟨hk.1.1.1.2, ⟨hk.1.1.2, hk.1.2⟩⟩)⟩
    replace HO_6 : Aside0 (Kd.R Kd.bool 4 ((((((((((w92.setCell ⟨gb240, 0, none⟩ (.int .i64 t227)).setCell ⟨gb240, 1, none⟩ (.int .i64 t228)).setCell ⟨gb240, 2, none⟩ (.string t229)).setCell ⟨gb240, 3, none⟩ (.string t230)).setCell ⟨gb240, 4, none⟩ (.string t231)).setCell ⟨gb240, 5, none⟩ (.string t232)).setCell ⟨gb240, 6, none⟩ (.string t233)).setCell ⟨gb240, 7, none⟩ (.string t234)).setCell ⟨gb240, 8, none⟩ (.string t235)).setCell ⟨gb240, 9, none⟩ (.slice Ao95 t236.length co95)) w.heap.size (fun _ => True) u6 x6_1) := ⟨by (with_reducible repeat (first | apply Kd.R_alloc | apply Kd.R_drewN | apply Kd.R_drew)); exact Kd.R_mono (zNT HO_6.out BK240.out) (fun _ hk => trivial)⟩
    replace HO225 : Aside0 (Kd.R Kd.string 9 ((((((((((w92.setCell ⟨gb240, 0, none⟩ (.int .i64 t227)).setCell ⟨gb240, 1, none⟩ (.int .i64 t228)).setCell ⟨gb240, 2, none⟩ (.string t229)).setCell ⟨gb240, 3, none⟩ (.string t230)).setCell ⟨gb240, 4, none⟩ (.string t231)).setCell ⟨gb240, 5, none⟩ (.string t232)).setCell ⟨gb240, 6, none⟩ (.string t233)).setCell ⟨gb240, 7, none⟩ (.string t234)).setCell ⟨gb240, 8, none⟩ (.string t235)).setCell ⟨gb240, 9, none⟩ (.slice Ao95 t236.length co95)) w.heap.size (fun k_ => some k_ ≠ (.slice Ao95 t236.length co95 : Value).ownBlock) (.slice Ao88 t223.length co88) t223) := ⟨by (with_reducible repeat (first | apply Kd.R_alloc | apply Kd.R_drewN | apply Kd.R_drew)); exact Kd.R_mono (zNT HO225.out BK240.out) (fun _ hk => hk.1.2)⟩
    replace HO238 : Aside0 (Kd.R Kd.string 9 ((((((((((w92.setCell ⟨gb240, 0, none⟩ (.int .i64 t227)).setCell ⟨gb240, 1, none⟩ (.int .i64 t228)).setCell ⟨gb240, 2, none⟩ (.string t229)).setCell ⟨gb240, 3, none⟩ (.string t230)).setCell ⟨gb240, 4, none⟩ (.string t231)).setCell ⟨gb240, 5, none⟩ (.string t232)).setCell ⟨gb240, 6, none⟩ (.string t233)).setCell ⟨gb240, 7, none⟩ (.string t234)).setCell ⟨gb240, 8, none⟩ (.string t235)).setCell ⟨gb240, 9, none⟩ (.slice Ao95 t236.length co95)) w.heap.size (fun k_ => some k_ ≠ (.slice Ao88 t223.length co88 : Value).ownBlock) (.slice Ao95 t236.length co95) t236) := ⟨by (with_reducible repeat (first | apply Kd.R_alloc | apply Kd.R_drewN | apply Kd.R_drew)); exact Kd.R_mono (zNT HO238.out BK240.out) (fun _ hk => hk.1.2)⟩
    replace BK216 : Aside0 (((((((((((w92.setCell ⟨gb240, 0, none⟩ (.int .i64 t227)).setCell ⟨gb240, 1, none⟩ (.int .i64 t228)).setCell ⟨gb240, 2, none⟩ (.string t229)).setCell ⟨gb240, 3, none⟩ (.string t230)).setCell ⟨gb240, 4, none⟩ (.string t231)).setCell ⟨gb240, 5, none⟩ (.string t232)).setCell ⟨gb240, 6, none⟩ (.string t233)).setCell ⟨gb240, 7, none⟩ (.string t234)).setCell ⟨gb240, 8, none⟩ (.string t235)).setCell ⟨gb240, 9, none⟩ (.slice Ao95 t236.length co95)).heap[gb216]? = some (.cells #[.int .i64 ((rd_T43 l0 x15_1).f0), .bool false, .string ((rd_T43 l0 x15_1).f2)] 43 (0, 0))) := ⟨zK BK216.out⟩
    replace BK240 : Aside0 (((((((((((w92.setCell ⟨gb240, 0, none⟩ (.int .i64 t227)).setCell ⟨gb240, 1, none⟩ (.int .i64 t228)).setCell ⟨gb240, 2, none⟩ (.string t229)).setCell ⟨gb240, 3, none⟩ (.string t230)).setCell ⟨gb240, 4, none⟩ (.string t231)).setCell ⟨gb240, 5, none⟩ (.string t232)).setCell ⟨gb240, 6, none⟩ (.string t233)).setCell ⟨gb240, 7, none⟩ (.string t234)).setCell ⟨gb240, 8, none⟩ (.string t235)).setCell ⟨gb240, 9, none⟩ (.slice Ao95 t236.length co95)).heap[gb240]? = some (.cells #[.int .i64 t227, .int .i64 t228, .string t229, .string t230, .string t231, .string t232, .string t233, .string t234, .string t235, .slice Ao95 t236.length co95] 45 (0, 0))) := ⟨zP10 BK240.out⟩
    replace HB : Aside0 (Below w.heap.size w ((((((((((w92.setCell ⟨gb240, 0, none⟩ (.int .i64 t227)).setCell ⟨gb240, 1, none⟩ (.int .i64 t228)).setCell ⟨gb240, 2, none⟩ (.string t229)).setCell ⟨gb240, 3, none⟩ (.string t230)).setCell ⟨gb240, 4, none⟩ (.string t231)).setCell ⟨gb240, 5, none⟩ (.string t232)).setCell ⟨gb240, 6, none⟩ (.string t233)).setCell ⟨gb240, 7, none⟩ (.string t234)).setCell ⟨gb240, 8, none⟩ (.string t235)).setCell ⟨gb240, 9, none⟩ (.slice Ao95 t236.length co95))) := ⟨zL HB.out⟩
    repeat rw [zDC]
    repeat rw [zDD]
    generalize ((((((((((w92.setCell ⟨gb240, 0, none⟩ (.int .i64 t227)).setCell ⟨gb240, 1, none⟩ (.int .i64 t228)).setCell ⟨gb240, 2, none⟩ (.string t229)).setCell ⟨gb240, 3, none⟩ (.string t230)).setCell ⟨gb240, 4, none⟩ (.string t231)).setCell ⟨gb240, 5, none⟩ (.string t232)).setCell ⟨gb240, 6, none⟩ (.string t233)).setCell ⟨gb240, 7, none⟩ (.string t234)).setCell ⟨gb240, 8, none⟩ (.string t235)).setCell ⟨gb240, 9, none⟩ (.slice Ao95 t236.length co95)) = w96 at HO_5 HO_6 HO225 HO238 BK216 BK240 HB ⊢
    replace HO_5 := ka (Kd.S_drew HO_5.out)
    replace HO_6 := ka (Kd.R_drew HO_6.out)
    replace HO225 := ka (Kd.R_drew HO225.out)
    replace HO238 := ka (Kd.R_drew HO238.out)
    replace BK216 := ka (blk_drew BK216.out)
    replace BK240 := ka (blk_drew BK240.out)
    replace HB := ka (below_drew1 HB.out)
    refine start_ (n := 5) (S := fun w' => w'.cell? ⟨gb216, 0, none⟩ = some (.int .i64 ((rd_T43 l0 x15_1).f0)) ∧ w'.cell? ⟨gb216, 1, none⟩ = some (.bool false) ∧ w'.cell? ⟨gb216, 2, none⟩ = some (.string ((rd_T43 l0 x15_1).f2))) (ds := []) #[false, false, false, false, false] (by kernel_rfl) rfl rfl ⟨zc BK216.out 0, zc BK216.out 1, zc BK216.out 2⟩ (fun hHeld => ?_)
    generalize w96.drew = w97 at HO_5 HO_6 HO225 HO238 BK216 BK240 HB hHeld ⊢
    refine zkp 0 (N := some 68) (h := ?_)
    refine zkp 2 (N := some 2) (h := ?_)
    refine zkp 3 (N := some 3) (h := ?_)
    refine zkt 1 (N := some 69) hHeld (h := ?_)
    refine zkp 4 (N := some 4) (h := ?_)
    refine done_ (by kernel_rfl) ?_
    try go_wp2
    go_ret3
    exact ⟨_, zE, zNl, zL HB.out⟩
   rw [if_neg c2] at H
   have c2b0 := zdf c2
   clear c2
   by_cases c98 : (x6_1.length : Int) > 0
   ·rw [if_pos c98] at H
    have c98b0 : decide (0 < (x6_1.length : Int)) = true := zdt c98
    have c98b1 : decide (0 < x6_1.length) = true := decide_eq_true (by omega)
    clear c98
    replace H := zs3 H
    obtain ⟨rfl, rfl, rfl⟩ := H
    obtain ⟨Ao99, co99, eo99⟩ := Kd.R_slice HO_6.out
    subst eo99
    go_wp2
    go_ret3
    exact ⟨_, zE, zNl, zL HB.out⟩
   rw [if_neg c98] at H
   have c98b0 : decide (0 < (x6_1.length : Int)) = false := zdf c98
   have c98b1 : decide (0 < x6_1.length) = false := decide_eq_false (by omega)
   clear c98
   replace H := zs3 H
   obtain ⟨rfl, rfl, rfl⟩ := H
   obtain ⟨Ao100, co100, eo100⟩ := Kd.R_slice HO_6.out
   subst eo100
   go_wp2
   go_ret3
   exact ⟨_, zE, by (with_reducible repeat (first | apply Kd.S_alloc | apply Kd.S_drewN | apply Kd.S_drew)); exact HO_5.out, zL HB.out⟩

end Go.Proofs.YthnholondnfjoaaDoor.PParse
