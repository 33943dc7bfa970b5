-- Written by a program of this session (wip/tools/ext.py, over the kit's printer); not trusted: Lean checks it.
import Derived.Test.YthnholondnfjoaaDoorPParsex0
import Derived.Test.YthnholondnfjoaaDoorPParsex1
import Derived.Test.YthnholondnfjoaaDoorPParsex3
import Derived.Test.YthnholondnfjoaaDoorPParsex6
namespace Go.Proofs.YthnholondnfjoaaDoor.PParse
open Go.RowKit Go.Proofs.YthnholondnfjoaaDoorW.PrintWords Go.Proofs.YthnholondnfjoaaDoorW.PrintLast Go.Proofs.YthnholondnfjoaaDoorW.PrintMore
attribute [local go_sem] max2_int min2_int max_two min_two max_three min_three max_four min_four   -- for this text's walks alone
set_option linter.unusedVariables false
set_option linter.unusedSimpArgs false

/-! ### parse_Parse: function 12 -/
def parse_Parse.l0 : Nat → List (S45) → List Bool → List (S43) → Int → Int → Option ((List (S45)) × Int × Int)
 | 0, _, _, _, _, _ => none
 | k + 1, x5, x6, x13, x14, x15 => if x15 < x14 then (if 0 ≤ x15 then (if x15 < (x13.length : Int) then (if (rd_T43 x13 x15).f1 = true then (if (x5.length : Int) = 0 then (some (([] : List (S45)), 2, (rd_T43 x13 x15).f0)) else (if 0 ≤ (wrap64 ((x5.length : Int) - 1)) then (if (wrap64 ((x5.length : Int) - 1)) < (x5.length : Int) then (if ((rd_T45 x5 (wrap64 ((x5.length : Int) - 1))).f0) = 2 then (if ((rd_T45 x5 (wrap64 ((x5.length : Int) - 1))).f9).length < 8796093022208 then (parse_Parse.l0 k (x5.set ((wrap64 ((x5.length : Int) - 1)) : Int).toNat (⟨(rd_T45 x5 (wrap64 ((x5.length : Int) - 1))).f0, (rd_T45 x5 (wrap64 ((x5.length : Int) - 1))).f1, (rd_T45 x5 (wrap64 ((x5.length : Int) - 1))).f2, (rd_T45 x5 (wrap64 ((x5.length : Int) - 1))).f3, (rd_T45 x5 (wrap64 ((x5.length : Int) - 1))).f4, (rd_T45 x5 (wrap64 ((x5.length : Int) - 1))).f5, (rd_T45 x5 (wrap64 ((x5.length : Int) - 1))).f6, (rd_T45 x5 (wrap64 ((x5.length : Int) - 1))).f7, (rd_T45 x5 (wrap64 ((x5.length : Int) - 1))).f8, (((rd_T45 x5 (wrap64 ((x5.length : Int) - 1))).f9) ++ [(rd_T43 x13 x15).f2])⟩ : S45)) x6 x13 x14 (wrap64 (x15 + 1))) else (none)) else (some (([] : List (S45)), 2, (rd_T43 x13 x15).f0))) else (none)) else (none))) else ((text_Words.f ((rd_T43 x13 x15).f2)).bind fun t227 => (if (t227.length : Int) = 0 then (some (([] : List (S45)), 2, (rd_T43 x13 x15).f0)) else ((text_Trim.f ((rd_T43 x13 x15).f2)).bind fun t230 => ((parse_node.f k t230).bind fun bt231 => (if bt231.2.2.2.2.2.2.2.2.2.2 = true then ((parse_nest_take.f k x6 bt231.1).bind fun bt245 => (if bt245.2 = 0 then (if x5.length < 925904528653 then (parse_Parse.l0 k (x5 ++ [(⟨bt231.1, (rd_T43 x13 x15).f0, bt231.2.2.1, bt231.2.2.2.1, bt231.2.2.2.2.1, bt231.2.2.2.2.2.1, bt231.2.2.2.2.2.2.1, bt231.2.2.2.2.2.2.2.1, bt231.2.2.2.2.2.2.2.2.1, bt231.2.2.2.2.2.2.2.2.2.1⟩ : S45)]) bt245.1 x13 x14 (wrap64 (x15 + 1))) else (none)) else (some (([] : List (S45)), bt245.2, (rd_T43 x13 x15).f0)))) else (some (([] : List (S45)), 2, (rd_T43 x13 x15).f0)))))))) else (none)) else (none)) else (if (x6.length : Int) > 0 then (some (([] : List (S45)), 14, 0)) else (some (x5, 0, 0)))
def parse_Parse.f (k : Nat) (l0 : List (S43)) : Option ((List (S45)) × Int × Int) := parse_Parse.l0 k ([] : List (S45)) ([] : List Bool) l0 (l0.length : Int) 0
theorem parse_Parse.mono_l : ∀ k, (∀ y0 y1 y2 y3 y4, LeO (parse_Parse.l0 k y0 y1 y2 y3 y4) (parse_Parse.l0 (k + 1) y0 y1 y2 y3 y4))
 | 0 => fun _ _ _ _ _ r h => by simp [parse_Parse.l0] at h
 | k + 1 => by
  have ih0 := parse_Parse.mono_l k
  ·intro y0 y1 y2 y3 y4
   unfold parse_Parse.l0
   repeat' first
   | (with_reducible exact ih0 _ _ _ _ _)
   | (with_reducible exact parse_nest_take.mono _ _ _)
   | (with_reducible exact parse_node.mono _ _)
   | (with_reducible exact LeO.refl _)
   | (with_reducible exact LeO.none _)
   | (with_reducible refine LeO.ite ?_ ?_)
   | (with_reducible refine LeO.bind ?_ (fun _ => ?_))
   | exact ih0 _ _ _ _ _
   | exact parse_nest_take.mono _ _ _
   | exact parse_node.mono _ _
   | exact LeO.none _
   | refine LeO.ite ?_ ?_
   | refine LeO.bind ?_ (fun _ => ?_)
theorem parse_Parse.mono : ∀ a0 k, LeO (parse_Parse.f k a0) (parse_Parse.f (k + 1) a0) := by
 intro a0 k
 have ih0 := parse_Parse.mono_l k
 unfold parse_Parse.f
 repeat' first
   | (with_reducible exact ih0 _ _ _ _ _)
   | (with_reducible exact parse_nest_take.mono _ _ _)
   | (with_reducible exact parse_node.mono _ _)
   | (with_reducible exact LeO.refl _)
   | (with_reducible exact LeO.none _)
   | (with_reducible refine LeO.ite ?_ ?_)
   | (with_reducible refine LeO.bind ?_ (fun _ => ?_))
   | exact ih0 _ _ _ _ _
   | exact parse_nest_take.mono _ _ _
   | exact parse_node.mono _ _
   | exact LeO.none _
   | refine LeO.ite ?_ ?_
   | refine LeO.bind ?_ (fun _ => ?_)
def parse_Parse.T10 : Bool × List (List Nat × List Nat) := (true, [([], []), ([], []), ([1], [1]), ([2], [2]), ([3], [3]), ([], []), ([5], [5]), ([6], [6]), ([4, 7], [4, 7]), ([0, 0, 1, 2, 3, 4, 5, 6, 7, 8], [0]), ([9, 0, 1, 2, 3, 4, 5, 6, 7, 8], [9]), ([10, 8, 8, 0, 1, 2, 3, 4, 5, 6, 7, 8], [8, 10])])
def parse_Parse.B10 : List Nat := [0, 0, 2, 6, 14, 0, 32, 96, 254, 511, 1023, 2047]
theorem parse_Parse.tab10 : rtab .any (opsOf Tryd.f12 10) = parse_Parse.T10 := by kernel_rfl
theorem parse_Parse.bits10 : waitsOk parse_Parse.T10.2 parse_Parse.B10 = true := by kernel_rfl
set_option maxHeartbeats 8000000 in
set_option maxRecDepth 100000 in
theorem parse_Parse.calls (k : Nat) (A0 : Option Addr) (c0 : Nat) (l0 : List (S43)) (r1 : List (S45)) (r2 : Int) (r3 : Int) (w : World) (hr0 : Kd.C k43 w A0 l0.length l0) (hc0 : l0.length ≤ c0) (h : parse_Parse.f k l0 = some (r1, r2, r3)) :
  Calls Tryd.prog 12 #[.slice A0 l0.length c0] w fun e w' => ∃ v0_ : Value, e = .returned (.tuple #[v0_, .int .i64 r2, .int .i64 r3]) ∧ Kd.S k45 45 w' w.heap.size (fun _ => True) v0_ r1 ∧ Below w.heap.size w w' := by
 have hu43 := Tryd.underlying43
 have hu45 := Tryd.underlying45
 have HR0 := Aside0.mk hr0
 have HC0 := Aside0.mk hc0
 clear hr0 hc0
 have HB := Aside0.mk (Below.refl w.heap.size w)
 have H : (parse_Parse.l0 k ([] : List (S45)) ([] : List Bool) l0 (l0.length : Int) 0) = some (r1, r2, r3) := h
 clear h
 have H' := Aside0.mk H
 clear H
 go_enter Tryd.func12, Tryd.ntmps12
 go_wp2
 go_loopg [5, 6, 15] k (fun kq v5 v6 v15 w' => ∃ (x5_1 : List (S45)) (x6_1 : List Bool) (x15_1 : Int), v15 = .int .i64 x15_1 ∧ Aside0 (parse_Parse.l0 kq x5_1 x6_1 l0 (l0.length : Int) x15_1 = some (r1, r2, r3)) ∧ Aside0 (kq ≤ k) ∧ Aside0 (Kd.S k45 45 w' w.heap.size (fun _ => True) v5 x5_1) ∧ Aside0 (Kd.R Kd.bool 4 w' w.heap.size (fun _ => True) v6 x6_1) ∧ Aside0 (Below w.heap.size w w'))
 case atStart => exact ⟨(([] : List (S45))), (([] : List Bool)), (0), zS, H', ⟨Nat.le_refl _⟩, ⟨by first | exact Kd.S_nil _ _ _ _ _ | exact Kd.N_nil _ _ _ _ _ | exact Kd.V_nil _ _ _ _ _ | exact Kd.Q_nil _ _ _ _ _ | exact Kd.R_nil _ _ _ _ _⟩, ⟨by first | exact Kd.R_nil _ _ _ _ _ | exact Kd.N_nil _ _ _ _ _ | exact Kd.V_nil _ _ _ _ _ | exact Kd.Q_nil _ _ _ _ _ | exact Kd.S_nil _ _ _ _ _⟩, ⟨zL HB.out⟩⟩
 case round =>
  clear H'
  try clear c1
  obtain ⟨x5_1, x6_1, x15_1, rfl, HA, HK1, HO_5, HO_6, HB⟩ := hrel
  cases gk with
  | zero => exact absurd HA.out (by simp [parse_Parse.l0])
  | succ k1 =>
   have H := HA.out
   clear HA
   simp only [parse_Parse.l0] at H
   by_cases c2 : x15_1 < (l0.length : Int)
   ·rw [if_pos c2] at H
    have c2b0 : decide (x15_1 < (l0.length : Int)) = true := decide_eq_true c2
    clear c2
    by_cases c3 : 0 ≤ x15_1
    ·rw [if_pos c3] at H
     have c3b0 : decide (0 ≤ x15_1) = true := decide_eq_true c3
     clear c3
     by_cases c4 : x15_1 < (l0.length : Int)
     ·rw [if_pos c4] at H
      have c4b0 : decide (x15_1 < (l0.length : Int)) = true := decide_eq_true c4
      clear c4
      obtain ⟨bq5, hbq5⟩ : ∃ b_ : Bool, b_ = ((rd_T43 l0 x15_1).f1) := ⟨_, rfl⟩
      replace H : (if bq5 = true then (if (x5_1.length : Int) = 0 then (some (([] : List (S45)), 2, (rd_T43 l0 x15_1).f0)) else (if 0 ≤ (wrap64 ((x5_1.length : Int) - 1)) then (if (wrap64 ((x5_1.length : Int) - 1)) < (x5_1.length : Int) then (if ((rd_T45 x5_1 (wrap64 ((x5_1.length : Int) - 1))).f0) = 2 then (if ((rd_T45 x5_1 (wrap64 ((x5_1.length : Int) - 1))).f9).length < 8796093022208 then (parse_Parse.l0 k1 (x5_1.set ((wrap64 ((x5_1.length : Int) - 1)) : Int).toNat (⟨(rd_T45 x5_1 (wrap64 ((x5_1.length : Int) - 1))).f0, (rd_T45 x5_1 (wrap64 ((x5_1.length : Int) - 1))).f1, (rd_T45 x5_1 (wrap64 ((x5_1.length : Int) - 1))).f2, (rd_T45 x5_1 (wrap64 ((x5_1.length : Int) - 1))).f3, (rd_T45 x5_1 (wrap64 ((x5_1.length : Int) - 1))).f4, (rd_T45 x5_1 (wrap64 ((x5_1.length : Int) - 1))).f5, (rd_T45 x5_1 (wrap64 ((x5_1.length : Int) - 1))).f6, (rd_T45 x5_1 (wrap64 ((x5_1.length : Int) - 1))).f7, (rd_T45 x5_1 (wrap64 ((x5_1.length : Int) - 1))).f8, (((rd_T45 x5_1 (wrap64 ((x5_1.length : Int) - 1))).f9) ++ [(rd_T43 l0 x15_1).f2])⟩ : S45)) x6_1 l0 (l0.length : Int) (wrap64 (x15_1 + 1))) else (none)) else (some (([] : List (S45)), 2, (rd_T43 l0 x15_1).f0))) else (none)) else (none))) else ((text_Words.f ((rd_T43 l0 x15_1).f2)).bind fun t227 => (if (t227.length : Int) = 0 then (some (([] : List (S45)), 2, (rd_T43 l0 x15_1).f0)) else ((text_Trim.f ((rd_T43 l0 x15_1).f2)).bind fun t230 => ((parse_node.f k1 t230).bind fun bt231 => (if bt231.2.2.2.2.2.2.2.2.2.2 = true then ((parse_nest_take.f k1 x6_1 bt231.1).bind fun bt245 => (if bt245.2 = 0 then (if x5_1.length < 925904528653 then (parse_Parse.l0 k1 (x5_1 ++ [(⟨bt231.1, (rd_T43 l0 x15_1).f0, bt231.2.2.1, bt231.2.2.2.1, bt231.2.2.2.2.1, bt231.2.2.2.2.2.1, bt231.2.2.2.2.2.2.1, bt231.2.2.2.2.2.2.2.1, bt231.2.2.2.2.2.2.2.2.1, bt231.2.2.2.2.2.2.2.2.2.1⟩ : S45)]) bt245.1 l0 (l0.length : Int) (wrap64 (x15_1 + 1))) else (none)) else (some (([] : List (S45)), bt245.2, (rd_T43 l0 x15_1).f0)))) else (some (([] : List (S45)), 2, (rd_T43 l0 x15_1).f0)))))))) = some (r1, r2, r3) := by rw [← hbq5] at H; exact H
      have Nbq5 := Aside0.mk hbq5
      clear hbq5
      by_cases c6 : bq5 = true
      ·subst c6
       have H1 : (if (x5_1.length : Int) = 0 then (some (([] : List (S45)), 2, (rd_T43 l0 x15_1).f0)) else (if 0 ≤ (wrap64 ((x5_1.length : Int) - 1)) then (if (wrap64 ((x5_1.length : Int) - 1)) < (x5_1.length : Int) then (if ((rd_T45 x5_1 (wrap64 ((x5_1.length : Int) - 1))).f0) = 2 then (if ((rd_T45 x5_1 (wrap64 ((x5_1.length : Int) - 1))).f9).length < 8796093022208 then (parse_Parse.l0 k1 (x5_1.set ((wrap64 ((x5_1.length : Int) - 1)) : Int).toNat (⟨(rd_T45 x5_1 (wrap64 ((x5_1.length : Int) - 1))).f0, (rd_T45 x5_1 (wrap64 ((x5_1.length : Int) - 1))).f1, (rd_T45 x5_1 (wrap64 ((x5_1.length : Int) - 1))).f2, (rd_T45 x5_1 (wrap64 ((x5_1.length : Int) - 1))).f3, (rd_T45 x5_1 (wrap64 ((x5_1.length : Int) - 1))).f4, (rd_T45 x5_1 (wrap64 ((x5_1.length : Int) - 1))).f5, (rd_T45 x5_1 (wrap64 ((x5_1.length : Int) - 1))).f6, (rd_T45 x5_1 (wrap64 ((x5_1.length : Int) - 1))).f7, (rd_T45 x5_1 (wrap64 ((x5_1.length : Int) - 1))).f8, (((rd_T45 x5_1 (wrap64 ((x5_1.length : Int) - 1))).f9) ++ [(rd_T43 l0 x15_1).f2])⟩ : S45)) x6_1 l0 (l0.length : Int) (wrap64 (x15_1 + 1))) else (none)) else (some (([] : List (S45)), 2, (rd_T43 l0 x15_1).f0))) else (none)) else (none))) = some (r1, r2, r3) := by rw [if_pos rfl] at H; exact H
       clear H
       have H := H1
       clear H1
       by_cases c7 : (x5_1.length : Int) = 0
       ·rw [if_pos c7] at H
        have c7b0 : ((x5_1.length : Int) == 0) = true := beq_iff_eq.mpr c7
        have c7b1 : ((x5_1.length : Int) != 0) = false := bne_eq_false_iff_eq.mpr c7
        clear c7
        simp only [Option.some.injEq, Prod.mk.injEq] at H
        obtain ⟨rfl, rfl, rfl⟩ := H
        have p219 : 0 ≤ (x15_1 : Int) := zD
        have q219 : x15_1 < (l0.length : Int) := zD
        obtain ⟨ad219, e219, hx219_0, hx219_1, hx219_2⟩ := at_T43 HR0.out x15_1 p219 q219
        (try rw [← Nbq5.out] at hx219_1)
        cases e219
        replace hx219_0 := zX HB.out hx219_0
        replace hx219_1 := zX HB.out hx219_1
        replace hx219_2 := zX HB.out hx219_2
        replace p219 := eq_true p219
        replace q219 := eq_true q219
        try go_wp2_with (first | ((with_reducible refine gate_dst (N := 8) rfl ?_); (try (refine gate_guard (by rfl) ?_; dsimp only)); refine box_event ?hg (N := 8) ?hd (cs := #[.int .i64 0, .bool false, .string (⟨#[]⟩ : ByteArray)]) (t := 43) ?hr ?_; (case hd => rfl); (case hg => rfl); (case hr => first | (go_simp; done) | (go_simp; rfl)); intro gb220 hg w8 hbox hb; have n0_ := Aside0.mk (Kd.S_below (by (with_reducible repeat (first | apply Kd.S_alloc | apply Kd.S_drewN | apply Kd.S_drew)); exact HO_5.out) hb); have n1_ := Aside0.mk (Kd.R_below (zR HO_6.out) hb); have n2_ := Aside0.mk (below_step (zL HB.out) hb); have n3_ := Aside0.mk (hbox); have n4_ := Aside0.mk (zG hg (zL HB.out)); have n5_ := Aside0.mk (zG hg (zL HB.out)); revert n0_ n1_ n2_ n3_ n4_ n5_; clear HO_5 HO_6 HB; intro HO_5 HO_6 HB BK220 GW220 GE220; clear hb hbox hg; obtain ⟨hcz9_0, hcz9_1, hcz9_2, hfz9_0, hfz9_1, hfz9_2⟩ := zC3 BK220.out; obtain ⟨Ao10, co10, eo10⟩ := Kd.S_slice HO_5.out; subst eo10))
        have n0_ : Aside0 (Kd.S k45 45 (((w8.setCell ⟨gb220, 0, none⟩ (.int .i64 ((rd_T43 l0 x15_1).f0))).setCell ⟨gb220, 1, none⟩ (.bool true)).setCell ⟨gb220, 2, none⟩ (.string ((rd_T43 l0 x15_1).f2))) w.heap.size (fun _ => True) (.slice Ao10 x5_1.length co10) x5_1) := ⟨by (with_reducible repeat (first | apply Kd.S_alloc | apply Kd.S_drewN | apply Kd.S_drew)); exact Kd.S_mono (Kd.S_far (p := ⟨gb220, 2, none⟩) (Kd.S_far (p := ⟨gb220, 1, none⟩) (Kd.S_far (p := ⟨gb220, 0, none⟩) (Kd.S_types HO_5.out BK220.out (by decide)) (fun _ hk => hk.2) (.int .i64 ((rd_T43 l0 x15_1).f0))) (fun _ hk => hk.2) (.bool true)) (fun _ hk => hk.2) (.string ((rd_T43 l0 x15_1).f2))) (fun _ hk => trivial)⟩
        have n1_ : Aside0 (Kd.R Kd.bool 4 (((w8.setCell ⟨gb220, 0, none⟩ (.int .i64 ((rd_T43 l0 x15_1).f0))).setCell ⟨gb220, 1, none⟩ (.bool true)).setCell ⟨gb220, 2, none⟩ (.string ((rd_T43 l0 x15_1).f2))) w.heap.size (fun _ => True) u6 x6_1) := ⟨by (with_reducible repeat (first | apply Kd.R_alloc | apply Kd.R_drewN | apply Kd.R_drew)); exact Kd.R_mono (zNT HO_6.out BK220.out) (fun _ hk => trivial)⟩
        have n2_ : Aside0 ((((w8.setCell ⟨gb220, 0, none⟩ (.int .i64 ((rd_T43 l0 x15_1).f0))).setCell ⟨gb220, 1, none⟩ (.bool true)).setCell ⟨gb220, 2, none⟩ (.string ((rd_T43 l0 x15_1).f2))).heap[gb220]? = some (.cells #[.int .i64 ((rd_T43 l0 x15_1).f0), .bool true, .string ((rd_T43 l0 x15_1).f2)] 43 (0, 0))) := ⟨zP3 BK220.out⟩
        have n3_ : Aside0 (Below w.heap.size w (((w8.setCell ⟨gb220, 0, none⟩ (.int .i64 ((rd_T43 l0 x15_1).f0))).setCell ⟨gb220, 1, none⟩ (.bool true)).setCell ⟨gb220, 2, none⟩ (.string ((rd_T43 l0 x15_1).f2)))) := ⟨zL HB.out⟩
        (try clear HO_5)
        (try clear HO_6)
        (try clear BK220)
        (try clear HB)
        generalize (((w8.setCell ⟨gb220, 0, none⟩ (.int .i64 ((rd_T43 l0 x15_1).f0))).setCell ⟨gb220, 1, none⟩ (.bool true)).setCell ⟨gb220, 2, none⟩ (.string ((rd_T43 l0 x15_1).f2))) = w11 at n0_ n1_ n2_ n3_ ⊢
        have HO_5 := n0_
        have HO_6 := n1_
        have BK220 := n2_
        have HB := n3_
        clear n0_ n1_ n2_ n3_
        have n0_ := Aside0.mk (Kd.S_drew HO_5.out)
        have n1_ := Aside0.mk (Kd.R_drew HO_6.out)
        have n2_ := Aside0.mk (blk_drew BK220.out)
        have n3_ := Aside0.mk (below_drew1 HB.out)
        clear HO_5
        clear HO_6
        clear BK220
        clear HB
        have HO_5 := n0_
        have HO_6 := n1_
        have BK220 := n2_
        have HB := n3_
        clear n0_ n1_ n2_ n3_
        refine start_ (n := 5) (S := fun w' => w'.cell? ⟨gb220, 0, none⟩ = some (.int .i64 ((rd_T43 l0 x15_1).f0)) ∧ w'.cell? ⟨gb220, 1, none⟩ = some (.bool true) ∧ w'.cell? ⟨gb220, 2, none⟩ = some (.string ((rd_T43 l0 x15_1).f2))) (ds := []) #[false, false, false, false, false] (by kernel_rfl) rfl rfl ⟨(blk_cell BK220.out 0).trans rfl, (blk_cell BK220.out 1).trans rfl, (blk_cell BK220.out 2).trans rfl⟩ (fun hHeld => ?_)
        generalize w11.drew = w12 at HO_5 HO_6 BK220 HB hHeld ⊢
        refine pure_ (i := 0) (N := some 34) (v := ?_) (a' := ?_) #[true, false, false, false, false] rfl rfl (by kernel_rfl) (fun _ _ _ h => h) (Or.inl ⟨by rfl, ?_⟩) ?_ ?_
        rotate_left
        ·intro w'
         go_simp
         with_reducible rfl
        rotate_left
        ·simp only [Act.put, List.setIfInBounds_toArray, List.set_cons_zero, List.set_cons_succ, i64_w, i32_w]
         rfl
        refine pure_ (i := 2) (N := some 2) (v := ?_) (a' := ?_) #[true, false, true, false, false] rfl rfl (by kernel_rfl) (fun _ _ _ h => h) (Or.inl ⟨by rfl, ?_⟩) ?_ ?_
        rotate_left
        ·intro w'
         go_simp
         with_reducible rfl
        rotate_left
        ·simp only [Act.put, List.setIfInBounds_toArray, List.set_cons_zero, List.set_cons_succ, i64_w, i32_w]
         rfl
        refine pure_ (i := 3) (N := some 3) (v := ?_) (a' := ?_) #[true, false, true, true, false] rfl rfl (by kernel_rfl) (fun _ _ _ h => h) (Or.inl ⟨by rfl, ?_⟩) ?_ ?_
        rotate_left
        ·intro w'
         go_simp
         with_reducible rfl
        rotate_left
        ·simp only [Act.put, List.setIfInBounds_toArray, List.set_cons_zero, List.set_cons_succ, i64_w, i32_w]
         rfl
        refine take_ (i := 1) (N := some 35) (v := ?_) (a' := ?_) #[true, true, true, true, false] rfl rfl (by kernel_rfl) (fun _ _ _ h => h) (Or.inl ⟨by rfl, ?_⟩) hHeld ?_ ?_
        rotate_left
        ·rintro w' ⟨s0, s1, s2⟩
         go_simp
         with_reducible rfl
        rotate_left
        ·simp only [Act.put, List.setIfInBounds_toArray, List.set_cons_zero, List.set_cons_succ, i64_w, i32_w]
         rfl
        refine pure_ (i := 4) (N := some 4) (v := ?_) (a' := ?_) #[true, true, true, true, true] rfl rfl (by kernel_rfl) (fun _ _ _ h => h) (Or.inl ⟨by rfl, ?_⟩) ?_ ?_
        rotate_left
        ·intro w'
         go_simp
         with_reducible rfl
        rotate_left
        ·simp only [Act.put, List.setIfInBounds_toArray, List.set_cons_zero, List.set_cons_succ, i64_w, i32_w]
         rfl
        refine done_ (by kernel_rfl) ?_
        try go_wp2
        go_ret3
        exact ⟨_, zE, by first | exact Kd.S_nil _ _ _ _ _ | exact Kd.N_nil _ _ _ _ _ | exact Kd.V_nil _ _ _ _ _ | exact Kd.Q_nil _ _ _ _ _ | exact Kd.R_nil _ _ _ _ _, zL HB.out⟩
       ·rw [if_neg c7] at H
        have c7b0 : ((x5_1.length : Int) == 0) = false := beq_eq_false_iff_ne.mpr c7
        have c7b1 : ((x5_1.length : Int) != 0) = true := bne_iff_ne.mpr c7
        have c7b2 : ¬ (x5_1 = []) := fun h_ => c7 (by rw [h_]; rfl)
        obtain ⟨ji13, hji13⟩ : ∃ j_ : Int, (wrap64 ((x5_1.length : Int) - 1)) = j_ := ⟨_, rfl⟩
        replace H : (if 0 ≤ (ji13) then (if (ji13) < (x5_1.length : Int) then (if ((rd_T45 x5_1 (ji13)).f0) = 2 then (if ((rd_T45 x5_1 (ji13)).f9).length < 8796093022208 then (parse_Parse.l0 k1 (x5_1.set ((ji13) : Int).toNat (⟨(rd_T45 x5_1 (ji13)).f0, (rd_T45 x5_1 (ji13)).f1, (rd_T45 x5_1 (ji13)).f2, (rd_T45 x5_1 (ji13)).f3, (rd_T45 x5_1 (ji13)).f4, (rd_T45 x5_1 (ji13)).f5, (rd_T45 x5_1 (ji13)).f6, (rd_T45 x5_1 (ji13)).f7, (rd_T45 x5_1 (ji13)).f8, (((rd_T45 x5_1 (ji13)).f9) ++ [(rd_T43 l0 x15_1).f2])⟩ : S45)) x6_1 l0 (l0.length : Int) (wrap64 (x15_1 + 1))) else (none)) else (some (([] : List (S45)), 2, (rd_T43 l0 x15_1).f0))) else (none)) else (none)) = some (r1, r2, r3) := by first | (rw [hji13] at H; exact H) | (simp only [hji13] at H ⊢; exact H)
        have hji13w : (IntKind.i64.wrap ((x5_1.length : Int) - 1)) = ji13 := (i64_w _).trans hji13
        by_cases c14 : 0 ≤ (ji13)
        ·rw [if_pos c14] at H
         have c14b0 : decide (0 ≤ (ji13)) = true := decide_eq_true c14
         clear c14
         by_cases c15 : (ji13) < (x5_1.length : Int)
         ·rw [if_pos c15] at H
          have c15b0 : decide ((ji13) < (x5_1.length : Int)) = true := decide_eq_true c15
          clear c15
          by_cases c16 : ((rd_T45 x5_1 (ji13)).f0) = 2
          ·rw [if_pos c16] at H
           have c16b0 : (((rd_T45 x5_1 (ji13)).f0) == 2) = true := beq_iff_eq.mpr c16
           have c16b1 : (((rd_T45 x5_1 (ji13)).f0) != 2) = false := bne_eq_false_iff_eq.mpr c16
           clear c16
           by_cases c17 : ((rd_T45 x5_1 (ji13)).f9).length < 8796093022208
           ·rw [if_pos c17] at H
            have LMc17 := Aside0.mk c17
            clear c17
            obtain ⟨y223, hy223⟩ : ∃ y_ : List ByteArray, y_ = (((rd_T45 x5_1 (ji13)).f9) ++ [(rd_T43 l0 x15_1).f2]) := ⟨_, rfl⟩
            replace H : (parse_Parse.l0 k1 (x5_1.set ((ji13) : Int).toNat (⟨(rd_T45 x5_1 (ji13)).f0, (rd_T45 x5_1 (ji13)).f1, (rd_T45 x5_1 (ji13)).f2, (rd_T45 x5_1 (ji13)).f3, (rd_T45 x5_1 (ji13)).f4, (rd_T45 x5_1 (ji13)).f5, (rd_T45 x5_1 (ji13)).f6, (rd_T45 x5_1 (ji13)).f7, (rd_T45 x5_1 (ji13)).f8, y223⟩ : S45)) x6_1 l0 (l0.length : Int) (wrap64 (x15_1 + 1))) = some (r1, r2, r3) := zH hy223 H
            have Ny223 := Aside0.mk hy223
            clear hy223
            obtain ⟨y226, hy226⟩ : ∃ y_ : List (S45), y_ = (x5_1.set ((ji13) : Int).toNat (⟨(rd_T45 x5_1 (ji13)).f0, (rd_T45 x5_1 (ji13)).f1, (rd_T45 x5_1 (ji13)).f2, (rd_T45 x5_1 (ji13)).f3, (rd_T45 x5_1 (ji13)).f4, (rd_T45 x5_1 (ji13)).f5, (rd_T45 x5_1 (ji13)).f6, (rd_T45 x5_1 (ji13)).f7, (rd_T45 x5_1 (ji13)).f8, y223⟩ : S45)) := ⟨_, rfl⟩
            replace H : (parse_Parse.l0 k1 y226 x6_1 l0 (l0.length : Int) (wrap64 (x15_1 + 1))) = some (r1, r2, r3) := zH hy226 H
            have Ny226 := Aside0.mk hy226
            clear hy226
            have H' := Aside0.mk H
            clear H
            have p219 : 0 ≤ (x15_1 : Int) := zD
            have q219 : x15_1 < (l0.length : Int) := zD
            obtain ⟨ad219, e219, hx219_0, hx219_1, hx219_2⟩ := at_T43 HR0.out x15_1 p219 q219
            (try rw [← Nbq5.out] at hx219_1)
            cases e219
            replace hx219_0 := zX HB.out hx219_0
            replace hx219_1 := zX HB.out hx219_1
            replace hx219_2 := zX HB.out hx219_2
            replace p219 := eq_true p219
            replace q219 := eq_true q219
            try go_wp2_with (first | ((with_reducible refine gate_dst (N := 8) rfl ?_); (try (refine gate_guard (by rfl) ?_; dsimp only)); refine box_event ?hg (N := 8) ?hd (cs := #[.int .i64 0, .bool false, .string (⟨#[]⟩ : ByteArray)]) (t := 43) ?hr ?_; (case hd => rfl); (case hg => rfl); (case hr => first | (go_simp; done) | (go_simp; rfl)); intro gb220 hg w19 hbox hb; have n0_ := Aside0.mk (Kd.S_below (by (with_reducible repeat (first | apply Kd.S_alloc | apply Kd.S_drewN | apply Kd.S_drew)); exact HO_5.out) hb); have n1_ := Aside0.mk (Kd.R_below (zR HO_6.out) hb); have n2_ := Aside0.mk (below_step (zL HB.out) hb); have n3_ := Aside0.mk (hbox); have n4_ := Aside0.mk (zG hg (zL HB.out)); have n5_ := Aside0.mk (zG hg (zL HB.out)); revert n0_ n1_ n2_ n3_ n4_ n5_; clear HO_5 HO_6 HB; intro HO_5 HO_6 HB BK220 GW220 GE220; clear hb hbox hg; obtain ⟨hcz20_0, hcz20_1, hcz20_2, hfz20_0, hfz20_1, hfz20_2⟩ := zC3 BK220.out) | ((with_reducible refine gate_store (t := 43) (p := 8) rfl ?_); refine store_event (t := 43) (p := 8) (v := ?vo_w21) (w1 := (((w19.setCell ⟨gb220, 0, none⟩ (.int .i64 ((rd_T43 l0 x15_1).f0))).setCell ⟨gb220, 1, none⟩ (.bool true)).setCell ⟨gb220, 2, none⟩ (.string ((rd_T43 l0 x15_1).f2)))) ?hg ?ho ?hn ?hr ?_; (case ho => rfl); (case hg => rfl); (case hn => rfl); (case hr => first | (go_simp; done) | (go_simp; rfl)); intro w21 hw; have n0_ : Aside0 (Kd.S k45 45 w21 w.heap.size (fun _ => True) u5 x5_1) := ⟨(by rw [hw]; exact (by (with_reducible repeat (first | apply Kd.S_alloc | apply Kd.S_drewN | apply Kd.S_drew)); exact Kd.S_mono (Kd.S_far (p := ⟨gb220, 2, none⟩) (Kd.S_far (p := ⟨gb220, 1, none⟩) (Kd.S_far (p := ⟨gb220, 0, none⟩) (Kd.S_types HO_5.out BK220.out (by decide)) (fun _ hk => hk.2) (.int .i64 ((rd_T43 l0 x15_1).f0))) (fun _ hk => hk.2) (.bool true)) (fun _ hk => hk.2) (.string ((rd_T43 l0 x15_1).f2))) (fun _ hk => trivial)))⟩; have n1_ : Aside0 (Kd.R Kd.bool 4 w21 w.heap.size (fun _ => True) u6 x6_1) := ⟨(by rw [hw]; exact (by (with_reducible repeat (first | apply Kd.R_alloc | apply Kd.R_drewN | apply Kd.R_drew)); exact Kd.R_mono (zNT HO_6.out BK220.out) (fun _ hk => trivial)))⟩; have n2_ : Aside0 (w21.heap[gb220]? = some (.cells #[.int .i64 ((rd_T43 l0 x15_1).f0), .bool true, .string ((rd_T43 l0 x15_1).f2)] 43 (0, 0))) := ⟨(by rw [hw]; exact (zP3 BK220.out))⟩; have n3_ : Aside0 (Below w.heap.size w w21) := ⟨(by rw [hw]; exact (zL HB.out))⟩; clear hw; revert n0_ n1_ n2_ n3_; clear HO_5 HO_6 BK220 HB; intro HO_5 HO_6 BK220 HB; obtain ⟨hcz22_0, hcz22_1, hcz22_2, hfz22_0, hfz22_1, hfz22_2⟩ := zC3 BK220.out; obtain ⟨Ao23, co23, eo23⟩ := Kd.S_slice HO_5.out; subst eo23; have p221 : 0 ≤ ((ji13) : Int) := zD; have q221 : (ji13) < (x5_1.length : Int) := zD; obtain ⟨ad221, A221_9, c221_9, e221, hx221_0, hx221_1, hx221_2, hx221_3, hx221_4, hx221_5, hx221_6, hx221_7, hx221_8, hx221_9, hl221_9, hi221_9⟩ := at_T45 (Kd.S_reads' HO_5.out).2.2 (ji13) p221 q221; cases e221; obtain ⟨ce221, hce221, hMe221, hcc221⟩ := Kd.S_get HO_5.out z45 (ji13) p221 (by first | exact q221 | exact zD | (have e_ := (Kd.S_reads' HO_5.out).1; omega)); obtain ⟨ve221_9, rfl, ge221_9⟩ := k45_openM hMe221; have hv221_9 := hcc221 9 _ rfl; rw [add_field _ _ 9 (by omega)] at hv221_9; replace hv221_9 := Option.some.inj (hv221_9.symm.trans hx221_9); rw [hv221_9] at ge221_9; have HL221_9 := Aside0.mk (show Kd.R Kd.string 9 _ _ _ _ ((rd_T45 x5_1 (ji13)).f9) from ge221_9); clear hv221_9 ge221_9; have HX221_9 := Aside0.mk hx221_9; clear hcc221 hce221; have HR221_9 := Aside0.mk hi221_9; have HC221_9 := Aside0.mk hl221_9; clear hi221_9 hl221_9; replace p221 := eq_true p221; replace q221 := eq_true q221))
            have n0_ := Aside0.mk (Kd.S_drew HO_5.out)
            have n1_ := Aside0.mk (Kd.R_drew HO_6.out)
            have n2_ := Aside0.mk (Kd.R_drew HL221_9.out)
            have n3_ := Aside0.mk (blk_drew BK220.out)
            have n4_ := Aside0.mk (Kd.C_drew HR221_9.out)
            have n5_ := Aside0.mk (below_drew1 HB.out)
            clear HO_5
            clear HO_6
            clear HL221_9
            clear BK220
            clear HR221_9
            clear HB
            have HO_5 := n0_
            have HO_6 := n1_
            have HL221_9 := n2_
            have BK220 := n3_
            have HR221_9 := n4_
            have HB := n5_
            clear n0_ n1_ n2_ n3_ n4_ n5_
            have p222 : 0 ≤ ((ji13) : Int) := zD
            have q222 : (ji13) < (x5_1.length : Int) := zD
            obtain ⟨ad222, A222_9, c222_9, e222, hx222_0, hx222_1, hx222_2, hx222_3, hx222_4, hx222_5, hx222_6, hx222_7, hx222_8, hx222_9, hl222_9, hi222_9⟩ := at_T45 (Kd.S_reads' HO_5.out).2.2 (ji13) p222 q222
            obtain rfl : ad221 = ad222 := (by injection e222)
            obtain ⟨ce222, hce222, hMe222, hcc222⟩ := Kd.S_get HO_5.out z45 (ji13) p222 (by first | exact q222 | exact zD | (have e_ := (Kd.S_reads' HO_5.out).1; omega))
            obtain ⟨ve222_9, rfl, ge222_9⟩ := k45_openM hMe222
            have hv222_9 := hcc222 9 _ rfl
            rw [add_field _ _ 9 (by omega)] at hv222_9
            replace hv222_9 := Option.some.inj (hv222_9.symm.trans hx222_9)
            rw [hv222_9] at ge222_9
            have HL222_9 := Aside0.mk (show Kd.R Kd.string 9 _ _ _ _ ((rd_T45 x5_1 (ji13)).f9) from ge222_9)
            clear hv222_9 ge222_9
            have HX222_9 := Aside0.mk hx222_9
            clear hcc222 hce222
            have HR222_9 := Aside0.mk hi222_9
            have HC222_9 := Aside0.mk hl222_9
            clear hi222_9 hl222_9
            replace p222 := eq_true p222
            replace q222 := eq_true q222
            obtain ⟨go25, co25, eo25, gb25, gl25, cl25, HG25⟩ := Kd.S_form HO_5.out (by have h_ : ((ji13) : Int) < ((x5_1.length : Int) : Int) := zD; have h2_ : 0 ≤ ((ji13) : Int) := zD; omega)
            (first | cases eo25 | (injection eo25 with ea_ en_ ec_; (first | subst ea_ | (injection ea_ with ea_; subst ea_)); subst ec_; clear en_))
            have GB25 := Aside0.mk gb25
            have GG25 := Aside0.mk HG25
            clear gb25 gl25 HG25
            (first | simp only [add_plain] at hx221_0 | skip)
            (first | simp only [add_plain] at hx221_1 | skip)
            (first | simp only [add_plain] at hx221_2 | skip)
            (first | simp only [add_plain] at hx221_3 | skip)
            (first | simp only [add_plain] at hx221_4 | skip)
            (first | simp only [add_plain] at hx221_5 | skip)
            (first | simp only [add_plain] at hx221_6 | skip)
            (first | simp only [add_plain] at hx221_7 | skip)
            (first | simp only [add_plain] at hx221_8 | skip)
            (first | simp only [add_plain] at hx221_9 | skip)
            (first | simp only [add_plain] at hx222_0 | skip)
            (first | simp only [add_plain] at hx222_1 | skip)
            (first | simp only [add_plain] at hx222_2 | skip)
            (first | simp only [add_plain] at hx222_3 | skip)
            (first | simp only [add_plain] at hx222_4 | skip)
            (first | simp only [add_plain] at hx222_5 | skip)
            (first | simp only [add_plain] at hx222_6 | skip)
            (first | simp only [add_plain] at hx222_7 | skip)
            (first | simp only [add_plain] at hx222_8 | skip)
            (first | simp only [add_plain] at hx222_9 | skip)
            obtain ⟨oki25, ce25, hcl25, hM25, hcc25, _, _, hH25⟩ := Kd.S_elem HO_5.out z45 ((ji13) : Int) zD (by have h_ : ((ji13) : Int) < ((x5_1.length : Int) : Int) := zD; first | exact h_ | (have e_ := (Kd.S_reads' HO_5.out).1; omega) | simpa using h_)
            obtain ⟨ve25_9, rfl, ge25_9⟩ := k45_openM hM25
            have hv25 := hcc25 9 _ rfl
            have hX25 := HX222_9.out
            (try simp only [add_plain] at hX25)
            (try simp only [Nat.add_zero] at hv25)
            replace hv25 := Option.some.inj (hv25.symm.trans hX25)
            subst hv25
            clear hX25 hcc25 hcl25
            have UU25 := Aside0.mk (show Kd.R Kd.string 9 _ w.heap.size oki25 (.slice A222_9 ((rd_T45 x5_1 (ji13)).f9).length c222_9) ((rd_T45 x5_1 (ji13)).f9) from ge25_9)
            have HH25 := Aside0.mk hH25
            have HN25 := Aside0.mk (Kd.S_reads' HO_5.out).1
            clear hH25 ge25_9
            refine start_ (n := 12) (S := fun w' => w'.cell? ⟨gb220, 0, none⟩ = some (.int .i64 ((rd_T43 l0 x15_1).f0)) ∧ w'.cell? ⟨gb220, 1, none⟩ = some (.bool true) ∧ w'.cell? ⟨gb220, 2, none⟩ = some (.string ((rd_T43 l0 x15_1).f2)) ∧ w'.cell? ⟨go25, ((ji13)).toNat * 10, none⟩ = some (.int .i64 ((rd_T45 x5_1 (ji13)).f0)) ∧ w'.cell? ⟨go25, ((ji13)).toNat * 10 + 1, none⟩ = some (.int .i64 ((rd_T45 x5_1 (ji13)).f1)) ∧ w'.cell? ⟨go25, ((ji13)).toNat * 10 + 2, none⟩ = some (.string ((rd_T45 x5_1 (ji13)).f2)) ∧ w'.cell? ⟨go25, ((ji13)).toNat * 10 + 3, none⟩ = some (.string ((rd_T45 x5_1 (ji13)).f3)) ∧ w'.cell? ⟨go25, ((ji13)).toNat * 10 + 4, none⟩ = some (.string ((rd_T45 x5_1 (ji13)).f4)) ∧ w'.cell? ⟨go25, ((ji13)).toNat * 10 + 5, none⟩ = some (.string ((rd_T45 x5_1 (ji13)).f5)) ∧ w'.cell? ⟨go25, ((ji13)).toNat * 10 + 6, none⟩ = some (.string ((rd_T45 x5_1 (ji13)).f6)) ∧ w'.cell? ⟨go25, ((ji13)).toNat * 10 + 7, none⟩ = some (.string ((rd_T45 x5_1 (ji13)).f7)) ∧ w'.cell? ⟨go25, ((ji13)).toNat * 10 + 8, none⟩ = some (.string ((rd_T45 x5_1 (ji13)).f8)) ∧ w'.cell? ⟨go25, ((ji13)).toNat * 10 + 9, none⟩ = some (.slice A222_9 ((rd_T45 x5_1 (ji13)).f9).length c222_9)) (ds := [11]) #[false, false, false, false, false, false, false, false, false, false, false, false] (by kernel_rfl) rfl rfl ⟨(blk_cell BK220.out 0).trans rfl, (blk_cell BK220.out 1).trans rfl, (blk_cell BK220.out 2).trans rfl, hx222_0, hx222_1, hx222_2, hx222_3, hx222_4, hx222_5, hx222_6, hx222_7, hx222_8, hx222_9⟩ (fun hHeld => ?_); refine with_tabW parse_Parse.tab10 parse_Parse.bits10 (fun HT_ HW_ => ?_)
            generalize w21.drew = w24 at HO_5 HO_6 HL221_9 BK220 HR221_9 HB GG25 HH25 HL222_9 HR222_9 HX222_9 UU25 hx221_0 hx221_1 hx221_2 hx221_3 hx221_4 hx221_5 hx221_6 hx221_7 hx221_8 hx221_9 hx222_0 hx222_1 hx222_2 hx222_3 hx222_4 hx222_5 hx222_6 hx222_7 hx222_8 hx222_9 hHeld ⊢
            refine pure_ (i := 0) (N := some 41) (v := ?_) (a' := ?_) #[true, false, false, false, false, false, false, false, false, false, false, false] rfl rfl (any_of HT_.out (by kernel_rfl)) (fun _ _ _ h => h) (Or.inl ⟨by rfl, ?_⟩) ?_ ?_
            rotate_left
            ·intro w'
             go_simp
             with_reducible rfl
            rotate_left
            ·simp only [Act.put, List.setIfInBounds_toArray, List.set_cons_zero, List.set_cons_succ, i64_w, i32_w]
             rfl
            refine pure_ (i := 1) (N := some 42) (v := ?_) (a' := ?_) #[true, true, false, false, false, false, false, false, false, false, false, false] rfl rfl (any_of HT_.out (by kernel_rfl)) (fun _ _ _ h => h) (Or.inl ⟨by rfl, ?_⟩) ?_ ?_
            rotate_left
            ·intro w'
             go_simp
             with_reducible rfl
            rotate_left
            ·simp only [Act.put, List.setIfInBounds_toArray, List.set_cons_zero, List.set_cons_succ, i64_w, i32_w]
             rfl
            refine pure_ (i := 2) (N := some 43) (v := ?_) (a' := ?_) #[true, true, true, false, false, false, false, false, false, false, false, false] rfl rfl (any_of HT_.out (by kernel_rfl)) (fun _ _ _ h => h) (Or.inl ⟨by rfl, ?_⟩) ?_ ?_
            rotate_left
            ·intro w'
             go_simp
             with_reducible rfl
            rotate_left
            ·simp only [Act.put, List.setIfInBounds_toArray, List.set_cons_zero, List.set_cons_succ, i64_w, i32_w]
             rfl
            refine pure_ (i := 3) (N := some 44) (v := ?_) (a' := ?_) #[true, true, true, true, false, false, false, false, false, false, false, false] rfl rfl (any_of HT_.out (by kernel_rfl)) (fun _ _ _ h => h) (Or.inl ⟨by rfl, ?_⟩) ?_ ?_
            rotate_left
            ·intro w'
             go_simp
             with_reducible rfl
            rotate_left
            ·simp only [Act.put, List.setIfInBounds_toArray, List.set_cons_zero, List.set_cons_succ, i64_w, i32_w]
             rfl
            refine pure_ (i := 5) (N := some 46) (v := ?_) (a' := ?_) #[true, true, true, true, false, true, false, false, false, false, false, false] rfl rfl (any_of HT_.out (by kernel_rfl)) (fun _ _ _ h => h) (Or.inl ⟨by rfl, ?_⟩) ?_ ?_
            rotate_left
            ·intro w'
             go_simp
             with_reducible rfl
            rotate_left
            ·simp only [Act.put, List.setIfInBounds_toArray, List.set_cons_zero, List.set_cons_succ, i64_w, i32_w]
             rfl
            refine take_ (i := 4) (N := some 45) (v := ?_) (a' := ?_) #[true, true, true, true, true, true, false, false, false, false, false, false] rfl rfl (take_ofW HT_.out HW_.out (by kernel_rfl)) (fun _ _ _ h => h) (Or.inl ⟨by rfl, ?_⟩) hHeld ?_ ?_
            rotate_left
            ·rintro w' ⟨s0, s1, s2, s3, s4, s5, s6, s7, s8, s9, s10, s11, s12⟩
             go_simp
             with_reducible rfl
            rotate_left
            ·simp only [Act.put, List.setIfInBounds_toArray, List.set_cons_zero, List.set_cons_succ, i64_w, i32_w]
             rfl
            refine take_ (i := 6) (N := some 47) (v := ?_) (a' := ?_) #[true, true, true, true, true, true, true, false, false, false, false, false] rfl rfl (take_ofW HT_.out HW_.out (by kernel_rfl)) (fun _ _ _ h => h) (Or.inl ⟨by rfl, ?_⟩) hHeld ?_ ?_
            rotate_left
            ·rintro w' ⟨s0, s1, s2, s3, s4, s5, s6, s7, s8, s9, s10, s11, s12⟩
             go_simp
             with_reducible rfl
            rotate_left
            ·simp only [Act.put, List.setIfInBounds_toArray, List.set_cons_zero, List.set_cons_succ, i64_w, i32_w]
             rfl
            refine one_ (i := 7) (N := some 48) #[true, true, true, true, true, true, true, true, false, false, false, false] rfl rfl (one_of HT_.out (by kernel_rfl)) (by decide) (fun K hK => ?_)
            refine value_ (w1 := ?_) (v := ?_) (by rfl) rfl ?_ ?_
            rotate_left 2
            ·go_simp
             constructor
             ·rfl
             ·rfl
            refine hK.out _ _ ⟨(blk_cell (blk_alloc BK220.out _) 0).trans rfl, (blk_cell (blk_alloc BK220.out _) 1).trans rfl, (blk_cell (blk_alloc BK220.out _) 2).trans rfl, (World.cell?_alloc_lt _ _ _ (World.block_lt_of_cell? _ _ (hHeld.2.2.2.1))).trans (hHeld.2.2.2.1), (World.cell?_alloc_lt _ _ _ (World.block_lt_of_cell? _ _ (hHeld.2.2.2.2.1))).trans (hHeld.2.2.2.2.1), (World.cell?_alloc_lt _ _ _ (World.block_lt_of_cell? _ _ (hHeld.2.2.2.2.2.1))).trans (hHeld.2.2.2.2.2.1), (World.cell?_alloc_lt _ _ _ (World.block_lt_of_cell? _ _ (hHeld.2.2.2.2.2.2.1))).trans (hHeld.2.2.2.2.2.2.1), (World.cell?_alloc_lt _ _ _ (World.block_lt_of_cell? _ _ (hHeld.2.2.2.2.2.2.2.1))).trans (hHeld.2.2.2.2.2.2.2.1), (World.cell?_alloc_lt _ _ _ (World.block_lt_of_cell? _ _ (hHeld.2.2.2.2.2.2.2.2.1))).trans (hHeld.2.2.2.2.2.2.2.2.1), (World.cell?_alloc_lt _ _ _ (World.block_lt_of_cell? _ _ (hHeld.2.2.2.2.2.2.2.2.2.1))).trans (hHeld.2.2.2.2.2.2.2.2.2.1), (World.cell?_alloc_lt _ _ _ (World.block_lt_of_cell? _ _ (hHeld.2.2.2.2.2.2.2.2.2.2.1))).trans (hHeld.2.2.2.2.2.2.2.2.2.2.1), (World.cell?_alloc_lt _ _ _ (World.block_lt_of_cell? _ _ (hHeld.2.2.2.2.2.2.2.2.2.2.2.1))).trans (hHeld.2.2.2.2.2.2.2.2.2.2.2.1), (World.cell?_alloc_lt _ _ _ (World.block_lt_of_cell? _ _ (hHeld.2.2.2.2.2.2.2.2.2.2.2.2))).trans (hHeld.2.2.2.2.2.2.2.2.2.2.2.2)⟩ (fun hHeld => ?_)
            clear hK K
            refine norm_ (a' := ?_) ?_ ?_
            rotate_left
            ·show Act.put _ (some 48) _ = _
             simp only [Act.put, List.setIfInBounds_toArray, List.set_cons_zero, List.set_cons_succ, i64_w, i32_w]
             rfl
            refine one_ (i := 8) (N := some 49) #[true, true, true, true, true, true, true, true, true, false, false, false] rfl rfl (one_of HT_.out (by kernel_rfl)) (by decide) (fun K hK => ?_)
            refine Kd.R_append_step Kd.string (w0 := w) w.heap.size (by rfl) (.tmp 45) (.tmp 48) 37 9 (.string ⟨#[]⟩) 16 rfl Tryd.underlying37 info9 rfl (by decide) (by omega) (.slice A222_9 ((rd_T45 x5_1 (ji13)).f9).length c222_9) ((rd_T45 x5_1 (ji13)).f9) ((rd_T43 l0 x15_1).f2) [.string ((rd_T43 l0 x15_1).f2)] (fun k_ => oki25 k_ ∨ ((fun _ => True)) k_ ∧ w24.heap.size ≤ k_) (fun _ => False) rfl rfl ?aP (fun _ hk => hk.elim) ?aF ?aO ?aB ?aS ?aL ?_
            (case aP => exact rfl)
            (case aB => exact (zL HB.out))
            (case aF => exact (fun k_ hk => .inr ⟨trivial, hk⟩))
            (case aO => exact (by (with_reducible repeat (first | apply Kd.R_alloc | apply Kd.R_drewN | apply Kd.R_drew)); exact Kd.R_mono UU25.out (fun _ hk => .inl hk)))
            (case aS => exact (below_size (zL HB.out)))
            (case aL => have := LMc17.out; omega)
            intro v224 w26 ho hb hg hat
            (first | have HS3_ := cell_grown hg (hHeld.2.2.2.1) (by first | (rw [add_block]; exact (fun e_ => ((HL222_9.out.1 _ e_.symm).2) rfl)) | (show some (Addr.add _ _).block ≠ _; rw [add_block]; exact (fun e_ => ((HL222_9.out.1 _ e_.symm).2) rfl)) | exact (fun e_ => ((HL222_9.out.1 _ e_.symm).2) rfl)) | have HS3_ := cell_grown hg (cell_unalloc (hHeld.2.2.2.1) (by first | (rw [add_block]; exact Kd.S_lt HO_5.out _ rfl) | (show (Addr.add _ _).block < _; rw [add_block]; exact Kd.S_lt HO_5.out _ rfl) | exact Kd.S_lt HO_5.out _ rfl)) (by first | (rw [add_block]; exact (fun e_ => ((HL222_9.out.1 _ e_.symm).2) rfl)) | (show some (Addr.add _ _).block ≠ _; rw [add_block]; exact (fun e_ => ((HL222_9.out.1 _ e_.symm).2) rfl)) | exact (fun e_ => ((HL222_9.out.1 _ e_.symm).2) rfl)))
            (first | have HS4_ := cell_grown hg (hHeld.2.2.2.2.1) (by first | (rw [add_block]; exact (fun e_ => ((HL222_9.out.1 _ e_.symm).2) rfl)) | (show some (Addr.add _ _).block ≠ _; rw [add_block]; exact (fun e_ => ((HL222_9.out.1 _ e_.symm).2) rfl)) | exact (fun e_ => ((HL222_9.out.1 _ e_.symm).2) rfl)) | have HS4_ := cell_grown hg (cell_unalloc (hHeld.2.2.2.2.1) (by first | (rw [add_block]; exact Kd.S_lt HO_5.out _ rfl) | (show (Addr.add _ _).block < _; rw [add_block]; exact Kd.S_lt HO_5.out _ rfl) | exact Kd.S_lt HO_5.out _ rfl)) (by first | (rw [add_block]; exact (fun e_ => ((HL222_9.out.1 _ e_.symm).2) rfl)) | (show some (Addr.add _ _).block ≠ _; rw [add_block]; exact (fun e_ => ((HL222_9.out.1 _ e_.symm).2) rfl)) | exact (fun e_ => ((HL222_9.out.1 _ e_.symm).2) rfl)))
            (first | have HS5_ := cell_grown hg (hHeld.2.2.2.2.2.1) (by first | (rw [add_block]; exact (fun e_ => ((HL222_9.out.1 _ e_.symm).2) rfl)) | (show some (Addr.add _ _).block ≠ _; rw [add_block]; exact (fun e_ => ((HL222_9.out.1 _ e_.symm).2) rfl)) | exact (fun e_ => ((HL222_9.out.1 _ e_.symm).2) rfl)) | have HS5_ := cell_grown hg (cell_unalloc (hHeld.2.2.2.2.2.1) (by first | (rw [add_block]; exact Kd.S_lt HO_5.out _ rfl) | (show (Addr.add _ _).block < _; rw [add_block]; exact Kd.S_lt HO_5.out _ rfl) | exact Kd.S_lt HO_5.out _ rfl)) (by first | (rw [add_block]; exact (fun e_ => ((HL222_9.out.1 _ e_.symm).2) rfl)) | (show some (Addr.add _ _).block ≠ _; rw [add_block]; exact (fun e_ => ((HL222_9.out.1 _ e_.symm).2) rfl)) | exact (fun e_ => ((HL222_9.out.1 _ e_.symm).2) rfl)))
            (first | have HS6_ := cell_grown hg (hHeld.2.2.2.2.2.2.1) (by first | (rw [add_block]; exact (fun e_ => ((HL222_9.out.1 _ e_.symm).2) rfl)) | (show some (Addr.add _ _).block ≠ _; rw [add_block]; exact (fun e_ => ((HL222_9.out.1 _ e_.symm).2) rfl)) | exact (fun e_ => ((HL222_9.out.1 _ e_.symm).2) rfl)) | have HS6_ := cell_grown hg (cell_unalloc (hHeld.2.2.2.2.2.2.1) (by first | (rw [add_block]; exact Kd.S_lt HO_5.out _ rfl) | (show (Addr.add _ _).block < _; rw [add_block]; exact Kd.S_lt HO_5.out _ rfl) | exact Kd.S_lt HO_5.out _ rfl)) (by first | (rw [add_block]; exact (fun e_ => ((HL222_9.out.1 _ e_.symm).2) rfl)) | (show some (Addr.add _ _).block ≠ _; rw [add_block]; exact (fun e_ => ((HL222_9.out.1 _ e_.symm).2) rfl)) | exact (fun e_ => ((HL222_9.out.1 _ e_.symm).2) rfl)))
            (first | have HS7_ := cell_grown hg (hHeld.2.2.2.2.2.2.2.1) (by first | (rw [add_block]; exact (fun e_ => ((HL222_9.out.1 _ e_.symm).2) rfl)) | (show some (Addr.add _ _).block ≠ _; rw [add_block]; exact (fun e_ => ((HL222_9.out.1 _ e_.symm).2) rfl)) | exact (fun e_ => ((HL222_9.out.1 _ e_.symm).2) rfl)) | have HS7_ := cell_grown hg (cell_unalloc (hHeld.2.2.2.2.2.2.2.1) (by first | (rw [add_block]; exact Kd.S_lt HO_5.out _ rfl) | (show (Addr.add _ _).block < _; rw [add_block]; exact Kd.S_lt HO_5.out _ rfl) | exact Kd.S_lt HO_5.out _ rfl)) (by first | (rw [add_block]; exact (fun e_ => ((HL222_9.out.1 _ e_.symm).2) rfl)) | (show some (Addr.add _ _).block ≠ _; rw [add_block]; exact (fun e_ => ((HL222_9.out.1 _ e_.symm).2) rfl)) | exact (fun e_ => ((HL222_9.out.1 _ e_.symm).2) rfl)))
            (first | have HS8_ := cell_grown hg (hHeld.2.2.2.2.2.2.2.2.1) (by first | (rw [add_block]; exact (fun e_ => ((HL222_9.out.1 _ e_.symm).2) rfl)) | (show some (Addr.add _ _).block ≠ _; rw [add_block]; exact (fun e_ => ((HL222_9.out.1 _ e_.symm).2) rfl)) | exact (fun e_ => ((HL222_9.out.1 _ e_.symm).2) rfl)) | have HS8_ := cell_grown hg (cell_unalloc (hHeld.2.2.2.2.2.2.2.2.1) (by first | (rw [add_block]; exact Kd.S_lt HO_5.out _ rfl) | (show (Addr.add _ _).block < _; rw [add_block]; exact Kd.S_lt HO_5.out _ rfl) | exact Kd.S_lt HO_5.out _ rfl)) (by first | (rw [add_block]; exact (fun e_ => ((HL222_9.out.1 _ e_.symm).2) rfl)) | (show some (Addr.add _ _).block ≠ _; rw [add_block]; exact (fun e_ => ((HL222_9.out.1 _ e_.symm).2) rfl)) | exact (fun e_ => ((HL222_9.out.1 _ e_.symm).2) rfl)))
            (first | have HS9_ := cell_grown hg (hHeld.2.2.2.2.2.2.2.2.2.1) (by first | (rw [add_block]; exact (fun e_ => ((HL222_9.out.1 _ e_.symm).2) rfl)) | (show some (Addr.add _ _).block ≠ _; rw [add_block]; exact (fun e_ => ((HL222_9.out.1 _ e_.symm).2) rfl)) | exact (fun e_ => ((HL222_9.out.1 _ e_.symm).2) rfl)) | have HS9_ := cell_grown hg (cell_unalloc (hHeld.2.2.2.2.2.2.2.2.2.1) (by first | (rw [add_block]; exact Kd.S_lt HO_5.out _ rfl) | (show (Addr.add _ _).block < _; rw [add_block]; exact Kd.S_lt HO_5.out _ rfl) | exact Kd.S_lt HO_5.out _ rfl)) (by first | (rw [add_block]; exact (fun e_ => ((HL222_9.out.1 _ e_.symm).2) rfl)) | (show some (Addr.add _ _).block ≠ _; rw [add_block]; exact (fun e_ => ((HL222_9.out.1 _ e_.symm).2) rfl)) | exact (fun e_ => ((HL222_9.out.1 _ e_.symm).2) rfl)))
            (first | have HS10_ := cell_grown hg (hHeld.2.2.2.2.2.2.2.2.2.2.1) (by first | (rw [add_block]; exact (fun e_ => ((HL222_9.out.1 _ e_.symm).2) rfl)) | (show some (Addr.add _ _).block ≠ _; rw [add_block]; exact (fun e_ => ((HL222_9.out.1 _ e_.symm).2) rfl)) | exact (fun e_ => ((HL222_9.out.1 _ e_.symm).2) rfl)) | have HS10_ := cell_grown hg (cell_unalloc (hHeld.2.2.2.2.2.2.2.2.2.2.1) (by first | (rw [add_block]; exact Kd.S_lt HO_5.out _ rfl) | (show (Addr.add _ _).block < _; rw [add_block]; exact Kd.S_lt HO_5.out _ rfl) | exact Kd.S_lt HO_5.out _ rfl)) (by first | (rw [add_block]; exact (fun e_ => ((HL222_9.out.1 _ e_.symm).2) rfl)) | (show some (Addr.add _ _).block ≠ _; rw [add_block]; exact (fun e_ => ((HL222_9.out.1 _ e_.symm).2) rfl)) | exact (fun e_ => ((HL222_9.out.1 _ e_.symm).2) rfl)))
            (first | have HS11_ := cell_grown hg (hHeld.2.2.2.2.2.2.2.2.2.2.2.1) (by first | (rw [add_block]; exact (fun e_ => ((HL222_9.out.1 _ e_.symm).2) rfl)) | (show some (Addr.add _ _).block ≠ _; rw [add_block]; exact (fun e_ => ((HL222_9.out.1 _ e_.symm).2) rfl)) | exact (fun e_ => ((HL222_9.out.1 _ e_.symm).2) rfl)) | have HS11_ := cell_grown hg (cell_unalloc (hHeld.2.2.2.2.2.2.2.2.2.2.2.1) (by first | (rw [add_block]; exact Kd.S_lt HO_5.out _ rfl) | (show (Addr.add _ _).block < _; rw [add_block]; exact Kd.S_lt HO_5.out _ rfl) | exact Kd.S_lt HO_5.out _ rfl)) (by first | (rw [add_block]; exact (fun e_ => ((HL222_9.out.1 _ e_.symm).2) rfl)) | (show some (Addr.add _ _).block ≠ _; rw [add_block]; exact (fun e_ => ((HL222_9.out.1 _ e_.symm).2) rfl)) | exact (fun e_ => ((HL222_9.out.1 _ e_.symm).2) rfl)))
            (first | have HS12_ := cell_grown hg (hHeld.2.2.2.2.2.2.2.2.2.2.2.2) (by first | (rw [add_block]; exact (fun e_ => ((HL222_9.out.1 _ e_.symm).2) rfl)) | (show some (Addr.add _ _).block ≠ _; rw [add_block]; exact (fun e_ => ((HL222_9.out.1 _ e_.symm).2) rfl)) | exact (fun e_ => ((HL222_9.out.1 _ e_.symm).2) rfl)) | have HS12_ := cell_grown hg (cell_unalloc (hHeld.2.2.2.2.2.2.2.2.2.2.2.2) (by first | (rw [add_block]; exact Kd.S_lt HO_5.out _ rfl) | (show (Addr.add _ _).block < _; rw [add_block]; exact Kd.S_lt HO_5.out _ rfl) | exact Kd.S_lt HO_5.out _ rfl)) (by first | (rw [add_block]; exact (fun e_ => ((HL222_9.out.1 _ e_.symm).2) rfl)) | (show some (Addr.add _ _).block ≠ _; rw [add_block]; exact (fun e_ => ((HL222_9.out.1 _ e_.symm).2) rfl)) | exact (fun e_ => ((HL222_9.out.1 _ e_.symm).2) rfl)))
            rw [← Ny223.out] at ho
            have n0_ := Aside0.mk (Kd.R_over' (v := (.slice A222_9 ((rd_T45 x5_1 (ji13)).f9).length c222_9)) (zR HO_6.out) (Kd.R_typed HL222_9.out) (by decide) hg)
            have n1_ := Aside0.mk (blk_grown (g := gb220) (o := .cells #[.int .i64 ((rd_T43 l0 x15_1).f0), .bool true, .string ((rd_T43 l0 x15_1).f2)] 43 (0, 0)) (zK BK220.out) hg (Kd.R_ne HL222_9.out BK220.out (by decide)))
            have n2_ := Aside0.mk (hb)
            have n3_ := Aside0.mk (Kd.H_grown (Kd.H_widen (by repeat (first | exact HH25.out | refine Kd.H_alloc ?_ _ | refine Kd.H_drewN ?_ _ | refine Kd.H_drew ?_))) hg (fun k_ e_ => .inl (UU25.out.1 k_ e_)))
            have n4_ := Aside0.mk (ho)
            clear HO_6
            clear BK220
            clear HB
            clear HH25
            clear HO_5
            clear UU25
            clear HL221_9
            clear HL222_9
            have HO_6 := n0_
            have BK220 := n1_
            have HB := n2_
            have HH25 := n3_
            have HO225 := n4_
            clear n0_ n1_ n2_ n3_ n4_
            clear ho hb hg hat
            have p18 : 0 ≤ ((ji13) : Int) := zD
            have q18 : ((ji13) : Int) < ((x5_1.length : Int) : Int) := zD
            replace p18 := eq_true p18
            replace q18 := eq_true q18
            obtain ⟨Ao29, co29, eo29⟩ := Kd.R_slice HO225.out
            (first | subst eo29 | (injection eo29 with f1_ f2_ f3_; have f4_ := f1_.symm; have f5_ := f3_.symm; clear f1_ f2_ f3_; subst f4_; subst f5_))
            obtain ⟨_, _, hraw27, _, _, hcc27, _⟩ := Kd.H_raw HH25.out zD (by have h_ : ((ji13) : Int) < ((x5_1.length : Int) : Int) := zD; first | exact h_ | (have e_ := (HN25.out); omega) | simpa using h_)
            obtain ⟨_, hfr27⟩ := Kd.H_at HH25.out zD (by have h_ : ((ji13) : Int) < ((x5_1.length : Int) : Int) := zD; first | exact h_ | (have e_ := (HN25.out); omega) | simpa using h_)
            have hx27_0 := hcc27 9 _ rfl
            have hf27_0 := hfr27 9
            (try rw [show (k45).sz = 10 from rfl] at hx27_0)
            (try rw [show (k45).sz = 10 from rfl] at hf27_0)
            have HP27 := Kd.S_seg0 HH25.out zD (by have h_ : ((ji13) : Int) < ((x5_1.length : Int) : Int) := zD; first | exact h_ | (have e_ := (HN25.out); omega) | simpa using h_) (seg := [.slice Ao29 y223.length co29]) (j := 9) (show 10 ≤ 10 from by decide) (x' := (⟨(rd_T45 x5_1 (ji13)).f0, (rd_T45 x5_1 (ji13)).f1, (rd_T45 x5_1 (ji13)).f2, (rd_T45 x5_1 (ji13)).f3, (rd_T45 x5_1 (ji13)).f4, (rd_T45 x5_1 (ji13)).f5, (rd_T45 x5_1 (ji13)).f6, (rd_T45 x5_1 (ji13)).f7, (rd_T45 x5_1 (ji13)).f8, y223⟩ : S45)) (k45_mkM _ _ _ (⟨(rd_T45 x5_1 (ji13)).f0, (rd_T45 x5_1 (ji13)).f1, (rd_T45 x5_1 (ji13)).f2, (rd_T45 x5_1 (ji13)).f3, (rd_T45 x5_1 (ji13)).f4, (rd_T45 x5_1 (ji13)).f5, (rd_T45 x5_1 (ji13)).f6, (rd_T45 x5_1 (ji13)).f7, (rd_T45 x5_1 (ji13)).f8, y223⟩ : S45) HO225.out) (fun _ hk => hk)
            clear hcc27 hfr27
            have HNB220_go25 := Aside0.mk (show gb220 ≠ go25 from by have h_ := Kd.R_ne hraw27 BK220.out (by decide); intro e_; exact h_ (by rw [e_]; rfl))
            have HS27 := HP27.1
            rw [← Ny226.out] at HS27
            have HQ27 := Aside0.mk HS27
            obtain ⟨_, hgg27⟩ := Kd.R_typed hraw27 go25 rfl
            have GG27_ := Aside0.mk hgg27
            clear HP27 HS27 hgg27
            refine hK.out _ _ ⟨(blk_cell BK220.out 0).trans rfl, (blk_cell BK220.out 1).trans rfl, (blk_cell BK220.out 2).trans rfl, HS3_, HS4_, HS5_, HS6_, HS7_, HS8_, HS9_, HS10_, HS11_, HS12_⟩ (fun hHeld => ?_)
            clear hK K
            refine norm_ (a' := ?_) ?_ ?_
            rotate_left
            ·show Act.put _ (some 49) _ = _
             simp only [Act.put, List.setIfInBounds_toArray, List.set_cons_zero, List.set_cons_succ, i64_w, i32_w]
             rfl
            refine pure_ (i := 9) (N := some 50) (v := ?_) (a' := ?_) #[true, true, true, true, true, true, true, true, true, true, false, false] rfl rfl (any_of HT_.out (by kernel_rfl)) (fun _ _ _ h => h) (Or.inl ⟨by rfl, ?_⟩) ?_ ?_
            rotate_left
            ·intro w'
             go_simp
             with_reducible rfl
            rotate_left
            ·simp only [Act.put, List.setIfInBounds_toArray, List.set_cons_zero, List.set_cons_succ, i64_w, i32_w]
             rfl
            refine pure_ (i := 10) (N := some 51) (v := ?_) (a' := ?_) #[true, true, true, true, true, true, true, true, true, true, true, false] rfl rfl (any_of HT_.out (by kernel_rfl)) (fun _ _ _ h => h) (Or.inl ⟨by rfl, ?_⟩) ?_ ?_
            rotate_left
            ·intro w'
             go_simp
             with_reducible rfl
            rotate_left
            ·simp only [Act.put, List.setIfInBounds_toArray, List.set_cons_zero, List.set_cons_succ, i64_w, i32_w]
             rfl
            refine last_ (i := 11) (N := none) #[true, true, true, true, true, true, true, true, true, true, true, true] rfl rfl (one_of HT_.out (by kernel_rfl)) (by decide) (fun K hK => ?_)
            refine skip_ (w1 := ?_) (by rfl) rfl ?_ ?_
            rotate_left
            ·go_simp
             rfl
            refine hK.out _ _ ?_
            clear hK K
            refine done_ (done_of HT_.out (by kernel_rfl)) ?_
            try go_wp2
            go_roundg k1
            case measure => have := HK1.out; omega
            case rel => exact ⟨(y226), (x6_1), (wrap64 (x15_1 + 1)), zS, H', ⟨by have := HK1.out; omega⟩, ⟨by (with_reducible repeat (first | apply Kd.S_alloc | apply Kd.S_drewN | apply Kd.S_drew)); exact HQ27.out⟩, ⟨by (with_reducible repeat (first | apply Kd.R_alloc | apply Kd.R_drewN | apply Kd.R_drew)); exact Kd.R_mono (Kd.R_far (p := ⟨go25, ((ji13) : Int).toNat * 10 + 9, none⟩) (Kd.R_types HO_6.out GG27_.out (by decide)) (fun _ hk => hk.2) (.slice Ao29 y223.length co29)) (fun _ hk => trivial)⟩, ⟨by repeat (first | (with_reducible first | exact HB.out | apply below_alloc | apply pw_below_drewN | apply below_drew1 | refine below_set ?_ GB25.out | refine below_set ?_ GE220.out) | exact HB.out)⟩⟩
           ·rw [if_neg c17] at H
            exact absurd H (by simp)
          ·rw [if_neg c16] at H
           have c16b0 : (((rd_T45 x5_1 (ji13)).f0) == 2) = false := beq_eq_false_iff_ne.mpr c16
           have c16b1 : (((rd_T45 x5_1 (ji13)).f0) != 2) = true := bne_iff_ne.mpr c16
           simp only [Option.some.injEq, Prod.mk.injEq] at H
           obtain ⟨rfl, rfl, rfl⟩ := H
           have p219 : 0 ≤ (x15_1 : Int) := zD
           have q219 : x15_1 < (l0.length : Int) := zD
           obtain ⟨ad219, e219, hx219_0, hx219_1, hx219_2⟩ := at_T43 HR0.out x15_1 p219 q219
           (try rw [← Nbq5.out] at hx219_1)
           cases e219
           replace hx219_0 := zX HB.out hx219_0
           replace hx219_1 := zX HB.out hx219_1
           replace hx219_2 := zX HB.out hx219_2
           replace p219 := eq_true p219
           replace q219 := eq_true q219
           try go_wp2_with (first | ((with_reducible refine gate_dst (N := 8) rfl ?_); (try (refine gate_guard (by rfl) ?_; dsimp only)); refine box_event ?hg (N := 8) ?hd (cs := #[.int .i64 0, .bool false, .string (⟨#[]⟩ : ByteArray)]) (t := 43) ?hr ?_; (case hd => rfl); (case hg => rfl); (case hr => first | (go_simp; done) | (go_simp; rfl)); intro gb220 hg w30 hbox hb; have n0_ := Aside0.mk (Kd.S_below (by (with_reducible repeat (first | apply Kd.S_alloc | apply Kd.S_drewN | apply Kd.S_drew)); exact HO_5.out) hb); have n1_ := Aside0.mk (Kd.R_below (zR HO_6.out) hb); have n2_ := Aside0.mk (below_step (zL HB.out) hb); have n3_ := Aside0.mk (hbox); have n4_ := Aside0.mk (zG hg (zL HB.out)); have n5_ := Aside0.mk (zG hg (zL HB.out)); revert n0_ n1_ n2_ n3_ n4_ n5_; clear HO_5 HO_6 HB; intro HO_5 HO_6 HB BK220 GW220 GE220; clear hb hbox hg; obtain ⟨hcz31_0, hcz31_1, hcz31_2, hfz31_0, hfz31_1, hfz31_2⟩ := zC3 BK220.out) | ((with_reducible refine gate_store (t := 43) (p := 8) rfl ?_); refine store_event (t := 43) (p := 8) (v := ?vo_w32) (w1 := (((w30.setCell ⟨gb220, 0, none⟩ (.int .i64 ((rd_T43 l0 x15_1).f0))).setCell ⟨gb220, 1, none⟩ (.bool true)).setCell ⟨gb220, 2, none⟩ (.string ((rd_T43 l0 x15_1).f2)))) ?hg ?ho ?hn ?hr ?_; (case ho => rfl); (case hg => rfl); (case hn => rfl); (case hr => first | (go_simp; done) | (go_simp; rfl)); intro w32 hw; have n0_ : Aside0 (Kd.S k45 45 w32 w.heap.size (fun _ => True) u5 x5_1) := ⟨(by rw [hw]; exact (by (with_reducible repeat (first | apply Kd.S_alloc | apply Kd.S_drewN | apply Kd.S_drew)); exact Kd.S_mono (Kd.S_far (p := ⟨gb220, 2, none⟩) (Kd.S_far (p := ⟨gb220, 1, none⟩) (Kd.S_far (p := ⟨gb220, 0, none⟩) (Kd.S_types HO_5.out BK220.out (by decide)) (fun _ hk => hk.2) (.int .i64 ((rd_T43 l0 x15_1).f0))) (fun _ hk => hk.2) (.bool true)) (fun _ hk => hk.2) (.string ((rd_T43 l0 x15_1).f2))) (fun _ hk => trivial)))⟩; have n1_ : Aside0 (Kd.R Kd.bool 4 w32 w.heap.size (fun _ => True) u6 x6_1) := ⟨(by rw [hw]; exact (by (with_reducible repeat (first | apply Kd.R_alloc | apply Kd.R_drewN | apply Kd.R_drew)); exact Kd.R_mono (zNT HO_6.out BK220.out) (fun _ hk => trivial)))⟩; have n2_ : Aside0 (w32.heap[gb220]? = some (.cells #[.int .i64 ((rd_T43 l0 x15_1).f0), .bool true, .string ((rd_T43 l0 x15_1).f2)] 43 (0, 0))) := ⟨(by rw [hw]; exact (zP3 BK220.out))⟩; have n3_ : Aside0 (Below w.heap.size w w32) := ⟨(by rw [hw]; exact (zL HB.out))⟩; clear hw; revert n0_ n1_ n2_ n3_; clear HO_5 HO_6 BK220 HB; intro HO_5 HO_6 BK220 HB; obtain ⟨hcz33_0, hcz33_1, hcz33_2, hfz33_0, hfz33_1, hfz33_2⟩ := zC3 BK220.out; obtain ⟨Ao34, co34, eo34⟩ := Kd.S_slice HO_5.out; subst eo34; have p221 : 0 ≤ ((ji13) : Int) := zD; have q221 : (ji13) < (x5_1.length : Int) := zD; obtain ⟨ad221, A221_9, c221_9, e221, hx221_0, hx221_1, hx221_2, hx221_3, hx221_4, hx221_5, hx221_6, hx221_7, hx221_8, hx221_9, hl221_9, hi221_9⟩ := at_T45 (Kd.S_reads' HO_5.out).2.2 (ji13) p221 q221; cases e221; obtain ⟨ce221, hce221, hMe221, hcc221⟩ := Kd.S_get HO_5.out z45 (ji13) p221 (by first | exact q221 | exact zD | (have e_ := (Kd.S_reads' HO_5.out).1; omega)); obtain ⟨ve221_9, rfl, ge221_9⟩ := k45_openM hMe221; have hv221_9 := hcc221 9 _ rfl; rw [add_field _ _ 9 (by omega)] at hv221_9; replace hv221_9 := Option.some.inj (hv221_9.symm.trans hx221_9); rw [hv221_9] at ge221_9; have HL221_9 := Aside0.mk (show Kd.R Kd.string 9 _ _ _ _ ((rd_T45 x5_1 (ji13)).f9) from ge221_9); clear hv221_9 ge221_9; have HX221_9 := Aside0.mk hx221_9; clear hcc221 hce221; have HR221_9 := Aside0.mk hi221_9; have HC221_9 := Aside0.mk hl221_9; clear hi221_9 hl221_9; replace p221 := eq_true p221; replace q221 := eq_true q221))
           have n0_ := Aside0.mk (Kd.S_drew HO_5.out)
           have n1_ := Aside0.mk (Kd.R_drew HO_6.out)
           have n2_ := Aside0.mk (Kd.R_drew HL221_9.out)
           have n3_ := Aside0.mk (blk_drew BK220.out)
           have n4_ := Aside0.mk (Kd.C_drew HR221_9.out)
           have n5_ := Aside0.mk (below_drew1 HB.out)
           clear HO_5
           clear HO_6
           clear HL221_9
           clear BK220
           clear HR221_9
           clear HB
           have HO_5 := n0_
           have HO_6 := n1_
           have HL221_9 := n2_
           have BK220 := n3_
           have HR221_9 := n4_
           have HB := n5_
           clear n0_ n1_ n2_ n3_ n4_ n5_
           refine start_ (n := 5) (S := fun w' => w'.cell? ⟨gb220, 0, none⟩ = some (.int .i64 ((rd_T43 l0 x15_1).f0)) ∧ w'.cell? ⟨gb220, 1, none⟩ = some (.bool true) ∧ w'.cell? ⟨gb220, 2, none⟩ = some (.string ((rd_T43 l0 x15_1).f2))) (ds := []) #[false, false, false, false, false] (by kernel_rfl) rfl rfl ⟨(blk_cell BK220.out 0).trans rfl, (blk_cell BK220.out 1).trans rfl, (blk_cell BK220.out 2).trans rfl⟩ (fun hHeld => ?_)
           generalize w32.drew = w35 at HO_5 HO_6 HL221_9 BK220 HR221_9 HB hHeld ⊢
           refine pure_ (i := 0) (N := some 34) (v := ?_) (a' := ?_) #[true, false, false, false, false] rfl rfl (by kernel_rfl) (fun _ _ _ h => h) (Or.inl ⟨by rfl, ?_⟩) ?_ ?_
           rotate_left
           ·intro w'
            go_simp
            with_reducible rfl
           rotate_left
           ·simp only [Act.put, List.setIfInBounds_toArray, List.set_cons_zero, List.set_cons_succ, i64_w, i32_w]
            rfl
           refine pure_ (i := 2) (N := some 2) (v := ?_) (a' := ?_) #[true, false, true, false, false] rfl rfl (by kernel_rfl) (fun _ _ _ h => h) (Or.inl ⟨by rfl, ?_⟩) ?_ ?_
           rotate_left
           ·intro w'
            go_simp
            with_reducible rfl
           rotate_left
           ·simp only [Act.put, List.setIfInBounds_toArray, List.set_cons_zero, List.set_cons_succ, i64_w, i32_w]
            rfl
           refine pure_ (i := 3) (N := some 3) (v := ?_) (a' := ?_) #[true, false, true, true, false] rfl rfl (by kernel_rfl) (fun _ _ _ h => h) (Or.inl ⟨by rfl, ?_⟩) ?_ ?_
           rotate_left
           ·intro w'
            go_simp
            with_reducible rfl
           rotate_left
           ·simp only [Act.put, List.setIfInBounds_toArray, List.set_cons_zero, List.set_cons_succ, i64_w, i32_w]
            rfl
           refine take_ (i := 1) (N := some 35) (v := ?_) (a' := ?_) #[true, true, true, true, false] rfl rfl (by kernel_rfl) (fun _ _ _ h => h) (Or.inl ⟨by rfl, ?_⟩) hHeld ?_ ?_
           rotate_left
           ·rintro w' ⟨s0, s1, s2⟩
            go_simp
            with_reducible rfl
           rotate_left
           ·simp only [Act.put, List.setIfInBounds_toArray, List.set_cons_zero, List.set_cons_succ, i64_w, i32_w]
            rfl
           refine pure_ (i := 4) (N := some 4) (v := ?_) (a' := ?_) #[true, true, true, true, true] rfl rfl (by kernel_rfl) (fun _ _ _ h => h) (Or.inl ⟨by rfl, ?_⟩) ?_ ?_
           rotate_left
           ·intro w'
            go_simp
            with_reducible rfl
           rotate_left
           ·simp only [Act.put, List.setIfInBounds_toArray, List.set_cons_zero, List.set_cons_succ, i64_w, i32_w]
            rfl
           refine done_ (by kernel_rfl) ?_
           try go_wp2
           go_ret3
           exact ⟨_, by first | rfl | (simp [errW_none, errW_some] <;> rfl) | (simp only [← hji13]; first | rfl | (simp [errW_none, errW_some] <;> rfl)) | (simp [*, errW_none, errW_some] <;> rfl), by first | exact Kd.S_nil _ _ _ _ _ | exact Kd.N_nil _ _ _ _ _ | exact Kd.V_nil _ _ _ _ _ | exact Kd.Q_nil _ _ _ _ _ | exact Kd.R_nil _ _ _ _ _, zL HB.out⟩
         ·rw [if_neg c15] at H
          exact absurd H (by simp)
        ·rw [if_neg c14] at H
         exact absurd H (by simp)
      ·replace c6 := Bool.eq_false_iff.mpr c6
       subst c6
       have H1 : ((text_Words.f ((rd_T43 l0 x15_1).f2)).bind fun t227 => (if (t227.length : Int) = 0 then (some (([] : List (S45)), 2, (rd_T43 l0 x15_1).f0)) else ((text_Trim.f ((rd_T43 l0 x15_1).f2)).bind fun t230 => ((parse_node.f k1 t230).bind fun bt231 => (if bt231.2.2.2.2.2.2.2.2.2.2 = true then ((parse_nest_take.f k1 x6_1 bt231.1).bind fun bt245 => (if bt245.2 = 0 then (if x5_1.length < 925904528653 then (parse_Parse.l0 k1 (x5_1 ++ [(⟨bt231.1, (rd_T43 l0 x15_1).f0, bt231.2.2.1, bt231.2.2.2.1, bt231.2.2.2.2.1, bt231.2.2.2.2.2.1, bt231.2.2.2.2.2.2.1, bt231.2.2.2.2.2.2.2.1, bt231.2.2.2.2.2.2.2.2.1, bt231.2.2.2.2.2.2.2.2.2.1⟩ : S45)]) bt245.1 l0 (l0.length : Int) (wrap64 (x15_1 + 1))) else (none)) else (some (([] : List (S45)), bt245.2, (rd_T43 l0 x15_1).f0)))) else (some (([] : List (S45)), 2, (rd_T43 l0 x15_1).f0))))))) = some (r1, r2, r3) := by rw [if_neg (show ¬ (false = true) by decide)] at H; exact H
       clear H
       have H := H1
       clear H1
       replace H := Option.bind_eq_some_iff.mp H
       obtain ⟨t227, A360, H⟩ := H
       replace H : (if (t227.length : Int) = 0 then (some (([] : List (S45)), 2, (rd_T43 l0 x15_1).f0)) else ((text_Trim.f ((rd_T43 l0 x15_1).f2)).bind fun t230 => ((parse_node.f k1 t230).bind fun bt231 => (if bt231.2.2.2.2.2.2.2.2.2.2 = true then ((parse_nest_take.f k1 x6_1 bt231.1).bind fun bt245 => (if bt245.2 = 0 then (if x5_1.length < 925904528653 then (parse_Parse.l0 k1 (x5_1 ++ [(⟨bt231.1, (rd_T43 l0 x15_1).f0, bt231.2.2.1, bt231.2.2.2.1, bt231.2.2.2.2.1, bt231.2.2.2.2.2.1, bt231.2.2.2.2.2.2.1, bt231.2.2.2.2.2.2.2.1, bt231.2.2.2.2.2.2.2.2.1, bt231.2.2.2.2.2.2.2.2.2.1⟩ : S45)]) bt245.1 l0 (l0.length : Int) (wrap64 (x15_1 + 1))) else (none)) else (some (([] : List (S45)), bt245.2, (rd_T43 l0 x15_1).f0)))) else (some (([] : List (S45)), 2, (rd_T43 l0 x15_1).f0)))))) = some (r1, r2, r3) := H
       have A36 := Aside0.mk A360
       clear A360
       by_cases c37 : (t227.length : Int) = 0
       ·rw [if_pos c37] at H
        have c37b0 : ((t227.length : Int) == 0) = true := beq_iff_eq.mpr c37
        have c37b1 : ((t227.length : Int) != 0) = false := bne_eq_false_iff_eq.mpr c37
        clear c37
        simp only [Option.some.injEq, Prod.mk.injEq] at H
        obtain ⟨rfl, rfl, rfl⟩ := H
        have p219 : 0 ≤ (x15_1 : Int) := zD
        have q219 : x15_1 < (l0.length : Int) := zD
        obtain ⟨ad219, e219, hx219_0, hx219_1, hx219_2⟩ := at_T43 HR0.out x15_1 p219 q219
        (try rw [← Nbq5.out] at hx219_1)
        cases e219
        replace hx219_0 := zX HB.out hx219_0
        replace hx219_1 := zX HB.out hx219_1
        replace hx219_2 := zX HB.out hx219_2
        replace p219 := eq_true p219
        replace q219 := eq_true q219
        try go_wp2_with (first | ((with_reducible refine gate_dst (N := 8) rfl ?_); (try (refine gate_guard (by rfl) ?_; dsimp only)); refine box_event ?hg (N := 8) ?hd (cs := #[.int .i64 0, .bool false, .string (⟨#[]⟩ : ByteArray)]) (t := 43) ?hr ?_; (case hd => rfl); (case hg => rfl); (case hr => first | (go_simp; done) | (go_simp; rfl)); intro gb220 hg w38 hbox hb; have n0_ := Aside0.mk (Kd.S_below (by (with_reducible repeat (first | apply Kd.S_alloc | apply Kd.S_drewN | apply Kd.S_drew)); exact HO_5.out) hb); have n1_ := Aside0.mk (Kd.R_below (zR HO_6.out) hb); have n2_ := Aside0.mk (below_step (zL HB.out) hb); have n3_ := Aside0.mk (hbox); have n4_ := Aside0.mk (zG hg (zL HB.out)); have n5_ := Aside0.mk (zG hg (zL HB.out)); revert n0_ n1_ n2_ n3_ n4_ n5_; clear HO_5 HO_6 HB; intro HO_5 HO_6 HB BK220 GW220 GE220; clear hb hbox hg; obtain ⟨hcz39_0, hcz39_1, hcz39_2, hfz39_0, hfz39_1, hfz39_2⟩ := zC3 BK220.out) | ((with_reducible refine gate_callee (f := 22) rfl ?_); refine goesL_ (some 54) rfl rfl Tryd.func22 (by kernel_rfl) rfl #[.string ((rd_T43 l0 x15_1).f2)] rfl zA ?_; (with_reducible refine (text_Words.calls ((rd_T43 l0 x15_1).f2) t227 _ A36.out).mono ?_); rintro e w40 ⟨v228, rfl, ho0, hb⟩; refine ⟨_, rfl, ?_⟩; have n0_ := Aside0.mk (Kd.S_elder' (by (with_reducible repeat (first | apply Kd.S_alloc | apply Kd.S_drewN | apply Kd.S_drew)); exact (Kd.S_mono (Kd.S_far (p := ⟨gb220, 2, none⟩) (Kd.S_far (p := ⟨gb220, 1, none⟩) (Kd.S_far (p := ⟨gb220, 0, none⟩) (Kd.S_types HO_5.out BK220.out (by decide)) (fun _ hk => hk.2) (.int .i64 ((rd_T43 l0 x15_1).f0))) (fun _ hk => hk.2) (.bool false)) (fun _ hk => hk.2) (.string ((rd_T43 l0 x15_1).f2))) (fun _ h_ => h_.1))) (Kd.R_base ho0) hb); have n1_ := Aside0.mk (Kd.R_below (zT HO_6.out BK220.out) hb); have n2_ := Aside0.mk (Kd.R_lower ho0 (below_size (zL HB.out))); have n3_ := Aside0.mk (blk_below (g := gb220) (o := .cells #[.int .i64 ((rd_T43 l0 x15_1).f0), .bool false, .string ((rd_T43 l0 x15_1).f2)] 43 (0, 0)) (zP3 BK220.out) hb); have n4_ := Aside0.mk (below_step (zL HB.out) hb); revert n0_ n1_ n2_ n3_ n4_; clear HO_5 HO_6 BK220 HB; intro HO_5 HO_6 HO229 BK220 HB; (try clear hb); (try clear hb2); (try clear hk); (try clear hi); (try clear ho0); obtain ⟨Ao41, co41, eo41⟩ := Kd.R_slice HO229.out; subst eo41))
        have n0_ := Aside0.mk (Kd.S_drew HO_5.out)
        have n1_ := Aside0.mk (Kd.R_drew HO_6.out)
        have n2_ := Aside0.mk (Kd.R_drew HO229.out)
        have n3_ := Aside0.mk (blk_drew BK220.out)
        have n4_ := Aside0.mk (below_drew1 HB.out)
        clear HO_5
        clear HO_6
        clear HO229
        clear BK220
        clear HB
        have HO_5 := n0_
        have HO_6 := n1_
        have HO229 := n2_
        have BK220 := n3_
        have HB := n4_
        clear n0_ n1_ n2_ n3_ n4_
        refine start_ (n := 5) (S := fun w' => w'.cell? ⟨gb220, 0, none⟩ = some (.int .i64 ((rd_T43 l0 x15_1).f0)) ∧ w'.cell? ⟨gb220, 1, none⟩ = some (.bool false) ∧ w'.cell? ⟨gb220, 2, none⟩ = some (.string ((rd_T43 l0 x15_1).f2))) (ds := []) #[false, false, false, false, false] (by kernel_rfl) rfl rfl ⟨(blk_cell BK220.out 0).trans rfl, (blk_cell BK220.out 1).trans rfl, (blk_cell BK220.out 2).trans rfl⟩ (fun hHeld => ?_)
        generalize w40.drew = w42 at HO_5 HO_6 HO229 BK220 HB hHeld ⊢
        refine pure_ (i := 0) (N := some 57) (v := ?_) (a' := ?_) #[true, false, false, false, false] rfl rfl (by kernel_rfl) (fun _ _ _ h => h) (Or.inl ⟨by rfl, ?_⟩) ?_ ?_
        rotate_left
        ·intro w'
         go_simp
         with_reducible rfl
        rotate_left
        ·simp only [Act.put, List.setIfInBounds_toArray, List.set_cons_zero, List.set_cons_succ, i64_w, i32_w]
         rfl
        refine pure_ (i := 2) (N := some 2) (v := ?_) (a' := ?_) #[true, false, true, false, false] rfl rfl (by kernel_rfl) (fun _ _ _ h => h) (Or.inl ⟨by rfl, ?_⟩) ?_ ?_
        rotate_left
        ·intro w'
         go_simp
         with_reducible rfl
        rotate_left
        ·simp only [Act.put, List.setIfInBounds_toArray, List.set_cons_zero, List.set_cons_succ, i64_w, i32_w]
         rfl
        refine pure_ (i := 3) (N := some 3) (v := ?_) (a' := ?_) #[true, false, true, true, false] rfl rfl (by kernel_rfl) (fun _ _ _ h => h) (Or.inl ⟨by rfl, ?_⟩) ?_ ?_
        rotate_left
        ·intro w'
         go_simp
         with_reducible rfl
        rotate_left
        ·simp only [Act.put, List.setIfInBounds_toArray, List.set_cons_zero, List.set_cons_succ, i64_w, i32_w]
         rfl
        refine take_ (i := 1) (N := some 58) (v := ?_) (a' := ?_) #[true, true, true, true, false] rfl rfl (by kernel_rfl) (fun _ _ _ h => h) (Or.inl ⟨by rfl, ?_⟩) hHeld ?_ ?_
        rotate_left
        ·rintro w' ⟨s0, s1, s2⟩
         go_simp
         with_reducible rfl
        rotate_left
        ·simp only [Act.put, List.setIfInBounds_toArray, List.set_cons_zero, List.set_cons_succ, i64_w, i32_w]
         rfl
        refine pure_ (i := 4) (N := some 4) (v := ?_) (a' := ?_) #[true, true, true, true, true] rfl rfl (by kernel_rfl) (fun _ _ _ h => h) (Or.inl ⟨by rfl, ?_⟩) ?_ ?_
        rotate_left
        ·intro w'
         go_simp
         with_reducible rfl
        rotate_left
        ·simp only [Act.put, List.setIfInBounds_toArray, List.set_cons_zero, List.set_cons_succ, i64_w, i32_w]
         rfl
        refine done_ (by kernel_rfl) ?_
        try go_wp2
        go_ret3
        exact ⟨_, zE, by first | exact Kd.S_nil _ _ _ _ _ | exact Kd.N_nil _ _ _ _ _ | exact Kd.V_nil _ _ _ _ _ | exact Kd.Q_nil _ _ _ _ _ | exact Kd.R_nil _ _ _ _ _, zL HB.out⟩
       ·rw [if_neg c37] at H
        have c37b0 : ((t227.length : Int) == 0) = false := beq_eq_false_iff_ne.mpr c37
        have c37b1 : ((t227.length : Int) != 0) = true := bne_iff_ne.mpr c37
        have c37b2 : ¬ (t227 = []) := fun h_ => c37 (by rw [h_]; rfl)
        replace H := Option.bind_eq_some_iff.mp H
        obtain ⟨t230, A430, H⟩ := H
        replace H : ((parse_node.f k1 t230).bind fun bt231 => (if bt231.2.2.2.2.2.2.2.2.2.2 = true then ((parse_nest_take.f k1 x6_1 bt231.1).bind fun bt245 => (if bt245.2 = 0 then (if x5_1.length < 925904528653 then (parse_Parse.l0 k1 (x5_1 ++ [(⟨bt231.1, (rd_T43 l0 x15_1).f0, bt231.2.2.1, bt231.2.2.2.1, bt231.2.2.2.2.1, bt231.2.2.2.2.2.1, bt231.2.2.2.2.2.2.1, bt231.2.2.2.2.2.2.2.1, bt231.2.2.2.2.2.2.2.2.1, bt231.2.2.2.2.2.2.2.2.2.1⟩ : S45)]) bt245.1 l0 (l0.length : Int) (wrap64 (x15_1 + 1))) else (none)) else (some (([] : List (S45)), bt245.2, (rd_T43 l0 x15_1).f0)))) else (some (([] : List (S45)), 2, (rd_T43 l0 x15_1).f0)))) = some (r1, r2, r3) := H
        have A43 := Aside0.mk A430
        clear A430
        replace H := Option.bind_eq_some_iff.mp H
        obtain ⟨⟨t231, t232, t233, t234, t235, t236, t237, t238, t239, t240, t243⟩, A440, H⟩ := H
        replace H : (if t243 = true then ((parse_nest_take.f k1 x6_1 t231).bind fun bt245 => (if bt245.2 = 0 then (if x5_1.length < 925904528653 then (parse_Parse.l0 k1 (x5_1 ++ [(⟨t231, (rd_T43 l0 x15_1).f0, t233, t234, t235, t236, t237, t238, t239, t240⟩ : S45)]) bt245.1 l0 (l0.length : Int) (wrap64 (x15_1 + 1))) else (none)) else (some (([] : List (S45)), bt245.2, (rd_T43 l0 x15_1).f0)))) else (some (([] : List (S45)), 2, (rd_T43 l0 x15_1).f0))) = some (r1, r2, r3) := H
        have A44 := Aside0.mk A440
        clear A440
        by_cases c45 : t243 = true
        ·subst c45
         have H1 : ((parse_nest_take.f k1 x6_1 t231).bind fun bt245 => (if bt245.2 = 0 then (if x5_1.length < 925904528653 then (parse_Parse.l0 k1 (x5_1 ++ [(⟨t231, (rd_T43 l0 x15_1).f0, t233, t234, t235, t236, t237, t238, t239, t240⟩ : S45)]) bt245.1 l0 (l0.length : Int) (wrap64 (x15_1 + 1))) else (none)) else (some (([] : List (S45)), bt245.2, (rd_T43 l0 x15_1).f0)))) = some (r1, r2, r3) := by rw [if_pos rfl] at H; exact H
         clear H
         have H := H1
         clear H1
         replace H := Option.bind_eq_some_iff.mp H
         obtain ⟨⟨t245, t248⟩, A460, H⟩ := H
         replace H : (if t248 = 0 then (if x5_1.length < 925904528653 then (parse_Parse.l0 k1 (x5_1 ++ [(⟨t231, (rd_T43 l0 x15_1).f0, t233, t234, t235, t236, t237, t238, t239, t240⟩ : S45)]) t245 l0 (l0.length : Int) (wrap64 (x15_1 + 1))) else (none)) else (some (([] : List (S45)), t248, (rd_T43 l0 x15_1).f0))) = some (r1, r2, r3) := H
         have A46 := Aside0.mk A460
         clear A460
         by_cases c47 : t248 = 0
         ·rw [if_pos c47] at H
          have c47b0 : (t248 == 0) = true := beq_iff_eq.mpr c47
          have c47b1 : (t248 != 0) = false := bne_eq_false_iff_eq.mpr c47
          clear c47
          by_cases c48 : x5_1.length < 925904528653
          ·rw [if_pos c48] at H
           have LMc48 := Aside0.mk c48
           clear c48
           obtain ⟨y249, hy249⟩ : ∃ y_ : List (S45), y_ = (x5_1 ++ [(⟨t231, (rd_T43 l0 x15_1).f0, t233, t234, t235, t236, t237, t238, t239, t240⟩ : S45)]) := ⟨_, rfl⟩
           replace H : (parse_Parse.l0 k1 y249 t245 l0 (l0.length : Int) (wrap64 (x15_1 + 1))) = some (r1, r2, r3) := zH hy249 H
           have Ny249 := Aside0.mk hy249
           clear hy249
           have H' := Aside0.mk H
           clear H
           have p219 : 0 ≤ (x15_1 : Int) := zD
           have q219 : x15_1 < (l0.length : Int) := zD
           obtain ⟨ad219, e219, hx219_0, hx219_1, hx219_2⟩ := at_T43 HR0.out x15_1 p219 q219
           (try rw [← Nbq5.out] at hx219_1)
           cases e219
           replace hx219_0 := zX HB.out hx219_0
           replace hx219_1 := zX HB.out hx219_1
           replace hx219_2 := zX HB.out hx219_2
           replace p219 := eq_true p219
           replace q219 := eq_true q219
           go_wp2_with (first | ((with_reducible refine gate_dst (N := 8) rfl ?_); (try (refine gate_guard (by rfl) ?_; dsimp only)); refine box_event ?hg (N := 8) ?hd (cs := #[.int .i64 0, .bool false, .string (⟨#[]⟩ : ByteArray)]) (t := 43) ?hr ?_; (case hd => rfl); (case hg => rfl); (case hr => first | (go_simp; done) | (go_simp; rfl)); intro gb220 hg w49 hbox hb; have n0_ := Aside0.mk (Kd.S_below (by (with_reducible repeat (first | apply Kd.S_alloc | apply Kd.S_drewN | apply Kd.S_drew)); exact HO_5.out) hb); have n1_ := Aside0.mk (Kd.R_below (zR HO_6.out) hb); have n2_ := Aside0.mk (below_step (zL HB.out) hb); have n3_ := Aside0.mk (hbox); have n4_ := Aside0.mk (zG hg (zL HB.out)); have n5_ := Aside0.mk (zG hg (zL HB.out)); revert n0_ n1_ n2_ n3_ n4_ n5_; clear HO_5 HO_6 HB; intro HO_5 HO_6 HB BK220 GW220 GE220; clear hb hbox hg; obtain ⟨hcz50_0, hcz50_1, hcz50_2, hfz50_0, hfz50_1, hfz50_2⟩ := zC3 BK220.out) | ((with_reducible refine gate_callee (f := 22) rfl ?_); refine goesL_ (some 54) rfl rfl Tryd.func22 (by kernel_rfl) rfl #[.string ((rd_T43 l0 x15_1).f2)] rfl zA ?_; (with_reducible refine (text_Words.calls ((rd_T43 l0 x15_1).f2) t227 _ A36.out).mono ?_); rintro e w51 ⟨v228, rfl, ho0, hb⟩; refine ⟨_, rfl, ?_⟩; have n0_ := Aside0.mk (Kd.S_elder' (by (with_reducible repeat (first | apply Kd.S_alloc | apply Kd.S_drewN | apply Kd.S_drew)); exact (Kd.S_mono (Kd.S_far (p := ⟨gb220, 2, none⟩) (Kd.S_far (p := ⟨gb220, 1, none⟩) (Kd.S_far (p := ⟨gb220, 0, none⟩) (Kd.S_types HO_5.out BK220.out (by decide)) (fun _ hk => hk.2) (.int .i64 ((rd_T43 l0 x15_1).f0))) (fun _ hk => hk.2) (.bool false)) (fun _ hk => hk.2) (.string ((rd_T43 l0 x15_1).f2))) (fun _ h_ => h_.1))) (Kd.R_base ho0) hb); have n1_ := Aside0.mk (Kd.R_below (zT HO_6.out BK220.out) hb); have n2_ := Aside0.mk (Kd.R_lower ho0 (below_size (zL HB.out))); have n3_ := Aside0.mk (blk_below (g := gb220) (o := .cells #[.int .i64 ((rd_T43 l0 x15_1).f0), .bool false, .string ((rd_T43 l0 x15_1).f2)] 43 (0, 0)) (zP3 BK220.out) hb); have n4_ := Aside0.mk (below_step (zL HB.out) hb); revert n0_ n1_ n2_ n3_ n4_; clear HO_5 HO_6 BK220 HB; intro HO_5 HO_6 HO229 BK220 HB; (try clear hb); (try clear hb2); (try clear hk); (try clear hi); (try clear ho0); obtain ⟨Ao52, co52, eo52⟩ := Kd.R_slice HO229.out; subst eo52; obtain ⟨hcz53_0, hcz53_1, hcz53_2, hfz53_0, hfz53_1, hfz53_2⟩ := zC3 BK220.out) | ((with_reducible refine gate_callee (f := 24) rfl ?_); refine goesL_ (some 62) rfl rfl Tryd.func24 (by kernel_rfl) rfl #[.string ((rd_T43 l0 x15_1).f2)] rfl zA ?_; (with_reducible refine (text_Trim.calls ((rd_T43 l0 x15_1).f2) t230 _ A43.out).mono ?_); rintro e w54 ⟨rfl, hb⟩; refine ⟨_, rfl, ?_⟩; have n0_ := Aside0.mk (Kd.S_below (by (with_reducible repeat (first | apply Kd.S_alloc | apply Kd.S_drewN | apply Kd.S_drew)); exact HO_5.out) hb); have n1_ := Aside0.mk (Kd.R_below (zR HO_6.out) hb); have n2_ := Aside0.mk (Kd.R_below (zR HO229.out) hb); have n3_ := Aside0.mk (blk_below (g := gb220) (o := .cells #[.int .i64 ((rd_T43 l0 x15_1).f0), .bool false, .string ((rd_T43 l0 x15_1).f2)] 43 (0, 0)) (zK BK220.out) hb); have n4_ := Aside0.mk (below_step (zL HB.out) hb); revert n0_ n1_ n2_ n3_ n4_; clear HO_5 HO_6 HO229 BK220 HB; intro HO_5 HO_6 HO229 BK220 HB; (try clear hb); (try clear hb2); (try clear hk); (try clear hi)) | ((with_reducible refine gate_callee (f := 23) rfl ?_); refine goesL_ (some 63) rfl rfl Tryd.func23 (by kernel_rfl) rfl #[.string t230] rfl zA ?_; (with_reducible refine (parse_node.calls k1 t230 t231 t232 t233 t234 t235 t236 t237 t238 t239 t240 true _ A44.out).mono ?_); rintro e w55 ⟨v241, rfl, ho0, hb⟩; refine ⟨_, rfl, ?_⟩; have n0_ := Aside0.mk (Kd.S_elder' (by (with_reducible repeat (first | apply Kd.S_alloc | apply Kd.S_drewN | apply Kd.S_drew)); exact HO_5.out) (Kd.R_base ho0) hb); have n1_ := Aside0.mk (Kd.R_below (zR HO_6.out) hb); have n2_ := Aside0.mk (Kd.R_elder' (zR HO229.out) (Kd.R_base ho0) hb); have n3_ := Aside0.mk (Kd.R_lower (Kd.R_new' ho0 (Kd.R_lt (zR HO229.out))) (below_size (zL HB.out))); have n4_ := Aside0.mk (blk_below (g := gb220) (o := .cells #[.int .i64 ((rd_T43 l0 x15_1).f0), .bool false, .string ((rd_T43 l0 x15_1).f2)] 43 (0, 0)) (zK BK220.out) hb); have n5_ := Aside0.mk (below_step (zL HB.out) hb); revert n0_ n1_ n2_ n3_ n4_ n5_; clear HO_5 HO_6 HO229 BK220 HB; intro HO_5 HO_6 HO229 HO242 BK220 HB; (try clear hb); (try clear hb2); (try clear hk); (try clear hi); (try clear ho0)) | ((with_reducible refine gate_dst (N := 10) rfl ?_); (try (refine gate_guard (by rfl) ?_; dsimp only)); refine box_event ?hg (N := 10) ?hd (cs := #[.int .i64 0, .int .i64 0, .string (⟨#[]⟩ : ByteArray), .string (⟨#[]⟩ : ByteArray), .string (⟨#[]⟩ : ByteArray), .string (⟨#[]⟩ : ByteArray), .string (⟨#[]⟩ : ByteArray), .string (⟨#[]⟩ : ByteArray), .string (⟨#[]⟩ : ByteArray), .slice none 0 0]) (t := 45) ?hr ?_; (case hd => rfl); (case hg => rfl); (case hr => first | (go_simp; done) | (go_simp; rfl)); intro gb244 hg w56 hbox hb; have n0_ := Aside0.mk (Kd.S_below (Kd.S_elderB (by (with_reducible repeat (first | apply Kd.S_alloc | apply Kd.S_drewN | apply Kd.S_drew)); exact HO_5.out) gb244 (Nat.le_of_eq hg.symm)) hb); have n1_ := Aside0.mk (Kd.R_below (zR HO_6.out) hb); have n2_ := Aside0.mk (Kd.R_below (zR HO229.out) hb); have n3_ := Aside0.mk (Kd.R_below (zR HO242.out) hb); have n4_ := Aside0.mk (blk_below (g := gb220) (o := .cells #[.int .i64 ((rd_T43 l0 x15_1).f0), .bool false, .string ((rd_T43 l0 x15_1).f2)] 43 (0, 0)) (zK BK220.out) hb); have n5_ := Aside0.mk (below_step (zL HB.out) hb); have n6_ := Aside0.mk (hbox); have n7_ := Aside0.mk (zG hg (zL HB.out)); have n8_ := Aside0.mk (zG hg (zL HB.out)); have n9_ := Aside0.mk (zN (g := gb220) (o := .cells #[.int .i64 ((rd_T43 l0 x15_1).f0), .bool false, .string ((rd_T43 l0 x15_1).f2)] 43 (0, 0)) hg (zK BK220.out)); have n10_ := Aside0.mk (zO (g := gb220) (o := .cells #[.int .i64 ((rd_T43 l0 x15_1).f0), .bool false, .string ((rd_T43 l0 x15_1).f2)] 43 (0, 0)) hg (zK BK220.out)); revert n0_ n1_ n2_ n3_ n4_ n5_ n6_ n7_ n8_ n9_ n10_; clear HO_5 HO_6 HO229 HO242 BK220 HB; intro HO_5 HO_6 HO229 HO242 BK220 HB BK244 GW244 GE244 NB220_244 NB244_220; clear hb hbox hg; have hnb57 := NB244_220.out; have hnc57 := NB220_244.out; obtain ⟨hcz58_0, hcz58_1, hcz58_2, hcz58_3, hcz58_4, hcz58_5, hcz58_6, hcz58_7, hcz58_8, hcz58_9, hfz58_0, hfz58_1, hfz58_2, hfz58_3, hfz58_4, hfz58_5, hfz58_6, hfz58_7, hfz58_8, hfz58_9⟩ := zC10 BK244.out; obtain ⟨Ao59, co59, eo59⟩ := Kd.R_slice HO242.out; subst eo59) | ((with_reducible refine gate_store (t := 45) (p := 10) rfl ?_); refine store_event (t := 45) (p := 10) (v := ?vo_w60) (w1 := ((((((((((w56.setCell ⟨gb244, 0, none⟩ (.int .i64 t231)).setCell ⟨gb244, 1, none⟩ (.int .i64 t232)).setCell ⟨gb244, 2, none⟩ (.string t233)).setCell ⟨gb244, 3, none⟩ (.string t234)).setCell ⟨gb244, 4, none⟩ (.string t235)).setCell ⟨gb244, 5, none⟩ (.string t236)).setCell ⟨gb244, 6, none⟩ (.string t237)).setCell ⟨gb244, 7, none⟩ (.string t238)).setCell ⟨gb244, 8, none⟩ (.string t239)).setCell ⟨gb244, 9, none⟩ (.slice Ao59 t240.length co59))) ?hg ?ho ?hn ?hr ?_; (case ho => rfl); (case hg => rfl); (case hn => rfl); (case hr => first | (go_simp; done) | (go_simp; rfl)); intro w60 hw; have n0_ : Aside0 (Kd.S k45 45 w60 w.heap.size (fun k_ => some k_ ≠ (.slice Ao52 t227.length co52 : Value).ownBlock ∧ some k_ ≠ (.slice Ao59 t240.length co59 : Value).ownBlock ∧ k_ ≠ gb244) u5 x5_1) := ⟨(by rw [hw]; exact (by (with_reducible repeat (first | apply Kd.S_alloc | apply Kd.S_drewN | apply Kd.S_drew)); exact Kd.S_mono (Kd.S_far (p := ⟨gb244, 9, none⟩) (Kd.S_far (p := ⟨gb244, 8, none⟩) (Kd.S_far (p := ⟨gb244, 7, none⟩) (Kd.S_far (p := ⟨gb244, 6, none⟩) (Kd.S_far (p := ⟨gb244, 5, none⟩) (Kd.S_far (p := ⟨gb244, 4, none⟩) (Kd.S_far (p := ⟨gb244, 3, none⟩) (Kd.S_far (p := ⟨gb244, 2, none⟩) (Kd.S_far (p := ⟨gb244, 1, none⟩) (Kd.S_far (p := ⟨gb244, 0, none⟩) (Kd.S_mono HO_5.out (fun k_ hk => (⟨hk, hk.2⟩ : _ ∧ k_ ≠ gb244))) (fun _ hk => hk.2) (.int .i64 t231)) (fun _ hk => hk.2) (.int .i64 t232)) (fun _ hk => hk.2) (.string t233)) (fun _ hk => hk.2) (.string t234)) (fun _ hk => hk.2) (.string t235)) (fun _ hk => hk.2) (.string t236)) (fun _ hk => hk.2) (.string t237)) (fun _ hk => hk.2) (.string t238)) (fun _ hk => hk.2) (.string t239)) (fun _ hk => hk.2) (.slice Ao59 t240.length co59)) (fun _ hk => ⟨hk.1.1.1.2, ⟨hk.1.1.2, hk.1.2⟩⟩)))⟩; have n1_ : Aside0 (Kd.R Kd.bool 4 w60 w.heap.size (fun _ => True) u6 x6_1) := ⟨(by rw [hw]; exact (by (with_reducible repeat (first | apply Kd.R_alloc | apply Kd.R_drewN | apply Kd.R_drew)); exact Kd.R_mono (zNT HO_6.out BK244.out) (fun _ hk => trivial)))⟩; have n2_ : Aside0 (Kd.R Kd.string 9 w60 w.heap.size (fun k_ => some k_ ≠ (.slice Ao59 t240.length co59 : Value).ownBlock) (.slice Ao52 t227.length co52) t227) := ⟨(by rw [hw]; exact (by (with_reducible repeat (first | apply Kd.R_alloc | apply Kd.R_drewN | apply Kd.R_drew)); exact Kd.R_mono (zNT HO229.out BK244.out) (fun _ hk => hk.1.2)))⟩; have n3_ : Aside0 (Kd.R Kd.string 9 w60 w.heap.size (fun k_ => some k_ ≠ (.slice Ao52 t227.length co52 : Value).ownBlock) (.slice Ao59 t240.length co59) t240) := ⟨(by rw [hw]; exact (by (with_reducible repeat (first | apply Kd.R_alloc | apply Kd.R_drewN | apply Kd.R_drew)); exact Kd.R_mono (zNT HO242.out BK244.out) (fun _ hk => hk.1.2)))⟩; have n4_ : Aside0 (w60.heap[gb220]? = some (.cells #[.int .i64 ((rd_T43 l0 x15_1).f0), .bool false, .string ((rd_T43 l0 x15_1).f2)] 43 (0, 0))) := ⟨(by rw [hw]; exact (zK BK220.out))⟩; have n5_ : Aside0 (w60.heap[gb244]? = some (.cells #[.int .i64 t231, .int .i64 t232, .string t233, .string t234, .string t235, .string t236, .string t237, .string t238, .string t239, .slice Ao59 t240.length co59] 45 (0, 0))) := ⟨(by rw [hw]; exact (zP10 BK244.out))⟩; have n6_ : Aside0 (Below w.heap.size w w60) := ⟨(by rw [hw]; exact (zL HB.out))⟩; clear hw; revert n0_ n1_ n2_ n3_ n4_ n5_ n6_; clear HO_5 HO_6 HO229 HO242 BK220 BK244 HB; intro HO_5 HO_6 HO229 HO242 BK220 BK244 HB; obtain ⟨hcz61_0, hcz61_1, hcz61_2, hcz61_3, hcz61_4, hcz61_5, hcz61_6, hcz61_7, hcz61_8, hcz61_9, hfz61_0, hfz61_1, hfz61_2, hfz61_3, hfz61_4, hfz61_5, hfz61_6, hfz61_7, hfz61_8, hfz61_9⟩ := zC10 BK244.out; obtain ⟨Ao62, co62, eo62⟩ := Kd.R_slice HO_6.out; subst eo62) | ((with_reducible refine gate_callee (f := 25) rfl ?_); refine goesL_ (some 74) rfl rfl Tryd.func25 (by kernel_rfl) rfl #[.slice Ao62 x6_1.length co62, .int .i64 t231] rfl zA ?_; (with_reducible refine (parse_nest_take.calls k1 (fun k_ => some k_ = (.slice Ao62 x6_1.length co62 : Value).ownBlock) (.slice Ao62 x6_1.length co62) x6_1 t231 t245 t248 w _ ?side1 ?side2 A46.out).mono ?_); (case side1 => repeat (first | (with_reducible first | exact HB.out | apply below_alloc | apply pw_below_drewN | apply below_drew1 | refine below_set ?_ GE220.out | refine below_set ?_ GE244.out) | exact HB.out)); (case side2 => exact Kd.R_tight rfl HO_6.out); rintro e w63 ⟨v246, rfl, ho0, hb, hkp⟩; refine ⟨_, rfl, ?_⟩; have n0_ := Aside0.mk (Kd.S_mono (ok' := fun k_ => some k_ ≠ (.slice Ao52 t227.length co52 : Value).ownBlock ∧ some k_ ≠ (.slice Ao59 t240.length co59 : Value).ownBlock ∧ k_ ≠ gb244) (Kd.S_keptB ((Kd.S_apart' HO_5.out (Kd.R_typed HO_6.out) (by decide))) hkp (fun k_ hk_ hs_ => (hk_.2) hs_)) (fun k_ hk_ => ⟨hk_.1.1.1, hk_.1.1.2.1, hk_.1.1.2.2⟩)); have n1_ := Aside0.mk (blk_kept (zK BK220.out) hkp (fun hs_ => (fun e_ => (Kd.R_ne HO_6.out BK220.out (by decide)) e_) hs_)); have n2_ := Aside0.mk (Kd.R_mono (ok' := fun k_ => some k_ ≠ (.slice Ao59 t240.length co59 : Value).ownBlock) (Kd.R_keptB ((Kd.R_apart' HO229.out (Kd.R_typed HO_6.out) (by decide))) hkp (fun k_ hk_ hs_ => (hk_.2) hs_)) (fun k_ hk_ => hk_.1.1)); have n3_ := Aside0.mk (Kd.R_mono (ok' := fun k_ => some k_ ≠ (.slice Ao52 t227.length co52 : Value).ownBlock) (Kd.R_keptB ((Kd.R_apart' HO242.out (Kd.R_typed HO_6.out) (by decide))) hkp (fun k_ hk_ hs_ => (hk_.2) hs_)) (fun k_ hk_ => hk_.1.1)); have n4_ := Aside0.mk (blk_kept (zK BK244.out) hkp (fun hs_ => (fun e_ => (Kd.R_ne HO_6.out BK244.out (by decide)) e_) hs_)); have n5_ := Aside0.mk (Kd.R_mono (ok' := fun k_ => True) ho0 (fun k_ hk_ => trivial)); have n6_ := Aside0.mk (hb); revert n0_ n1_ n2_ n3_ n4_ n5_ n6_; clear HO_5 BK220 HO229 HO242 BK244 HB HO_6; intro HO_5 BK220 HO229 HO242 BK244 HO247 HB; (try clear hb); (try clear hkp); (try clear ho0); obtain ⟨hcz64_0, hcz64_1, hcz64_2, hfz64_0, hfz64_1, hfz64_2⟩ := zC3 BK220.out; obtain ⟨hcz65_0, hcz65_1, hcz65_2, hcz65_3, hcz65_4, hcz65_5, hcz65_6, hcz65_7, hcz65_8, hcz65_9, hfz65_0, hfz65_1, hfz65_2, hfz65_3, hfz65_4, hfz65_5, hfz65_6, hfz65_7, hfz65_8, hfz65_9⟩ := zC10 BK244.out) | ((with_reducible refine gate_store (t := 3) (p := 84) rfl ?_); refine store_event (t := 3) (p := 84) (v := ?vo_w66) (w1 := (w63.setCell ⟨gb244, 1, none⟩ (.int .i64 ((rd_T43 l0 x15_1).f0)))) ?hg ?ho ?hn ?hr ?_; (case ho => rfl); (case hg => rfl); (case hn => rfl); (case hr => first | (go_simp; done) | (go_simp; rfl)); intro w66 hw; have n0_ : Aside0 (Kd.S k45 45 w66 w.heap.size (fun k_ => some k_ ≠ (.slice Ao52 t227.length co52 : Value).ownBlock ∧ some k_ ≠ (.slice Ao59 t240.length co59 : Value).ownBlock ∧ k_ ≠ gb244) u5 x5_1) := ⟨(by rw [hw]; exact (by (with_reducible repeat (first | apply Kd.S_alloc | apply Kd.S_drewN | apply Kd.S_drew)); exact Kd.S_mono (Kd.S_far (p := ⟨gb244, 1, none⟩) (Kd.S_mono HO_5.out (fun k_ hk => (⟨hk, hk.2.2⟩ : _ ∧ k_ ≠ gb244))) (fun _ hk => hk.2) (.int .i64 ((rd_T43 l0 x15_1).f0))) (fun _ hk => ⟨hk.1.1, ⟨hk.1.2.1, hk.1.2.2⟩⟩)))⟩; have n1_ : Aside0 (Kd.R Kd.string 9 w66 w.heap.size (fun k_ => some k_ ≠ (.slice Ao59 t240.length co59 : Value).ownBlock) (.slice Ao52 t227.length co52) t227) := ⟨(by rw [hw]; exact (by (with_reducible repeat (first | apply Kd.R_alloc | apply Kd.R_drewN | apply Kd.R_drew)); exact Kd.R_mono (zNT HO229.out BK244.out) (fun _ hk => hk.1)))⟩; have n2_ : Aside0 (Kd.R Kd.string 9 w66 w.heap.size (fun k_ => some k_ ≠ (.slice Ao52 t227.length co52 : Value).ownBlock) (.slice Ao59 t240.length co59) t240) := ⟨(by rw [hw]; exact (by (with_reducible repeat (first | apply Kd.R_alloc | apply Kd.R_drewN | apply Kd.R_drew)); exact Kd.R_mono (zNT HO242.out BK244.out) (fun _ hk => hk.1)))⟩; have n3_ : Aside0 (Kd.R Kd.bool 4 w66 w.heap.size (fun _ => True) v246 t245) := ⟨(by rw [hw]; exact (by (with_reducible repeat (first | apply Kd.R_alloc | apply Kd.R_drewN | apply Kd.R_drew)); exact Kd.R_mono (zNT HO247.out BK244.out) (fun _ hk => trivial)))⟩; have n4_ : Aside0 (w66.heap[gb220]? = some (.cells #[.int .i64 ((rd_T43 l0 x15_1).f0), .bool false, .string ((rd_T43 l0 x15_1).f2)] 43 (0, 0))) := ⟨(by rw [hw]; exact (zK BK220.out))⟩; have n5_ : Aside0 (w66.heap[gb244]? = some (.cells #[.int .i64 t231, .int .i64 ((rd_T43 l0 x15_1).f0), .string t233, .string t234, .string t235, .string t236, .string t237, .string t238, .string t239, .slice Ao59 t240.length co59] 45 (0, 0))) := ⟨(by rw [hw]; exact (by (with_reducible repeat (first | refine blk_drewN ?_ _ | refine blk_drew ?_ | refine blk_alloc ?_ _)); refine blk_put (cs := #[.int .i64 t231, .int .i64 t232, .string t233, .string t234, .string t235, .string t236, .string t237, .string t238, .string t239, .slice Ao59 t240.length co59]) ?_ 1 _ rfl; (with_reducible repeat (first | refine blk_drewN ?_ _ | refine blk_drew ?_ | refine blk_alloc ?_ _)); exact BK244.out))⟩; have n6_ : Aside0 (Below w.heap.size w w66) := ⟨(by rw [hw]; exact (zL HB.out))⟩; clear hw; revert n0_ n1_ n2_ n3_ n4_ n5_ n6_; clear HO_5 HO229 HO242 HO247 BK220 BK244 HB; intro HO_5 HO229 HO242 HO247 BK220 BK244 HB; obtain ⟨hcz67_0, hcz67_1, hcz67_2, hcz67_3, hcz67_4, hcz67_5, hcz67_6, hcz67_7, hcz67_8, hcz67_9, hfz67_0, hfz67_1, hfz67_2, hfz67_3, hfz67_4, hfz67_5, hfz67_6, hfz67_7, hfz67_8, hfz67_9⟩ := zC10 BK244.out) | ((with_reducible refine gate_builtin (b := .append) (xs := #[.tmp 85, .tmp 87]) rfl ?_); (try (refine gate_guard (by rfl) ?_; dsimp only)); at_builtin; refine Kd.S_append k45 (w0 := w) w.heap.size rfl (.tmp 85) (.tmp 87) 27 45 (.agg #[(.int .i64 0), (.int .i64 0), (.string ⟨#[]⟩), (.string ⟨#[]⟩), (.string ⟨#[]⟩), (.string ⟨#[]⟩), (.string ⟨#[]⟩), (.string ⟨#[]⟩), (.string ⟨#[]⟩), (.slice none 0 0)]) 152 rfl Tryd.underlying27 info45 rfl (by decide) (by omega) u5 x5_1 (⟨t231, (rd_T43 l0 x15_1).f0, t233, t234, t235, t236, t237, t238, t239, t240⟩ : S45) [.int .i64 t231, .int .i64 ((rd_T43 l0 x15_1).f0), .string t233, .string t234, .string t235, .string t236, .string t237, .string t238, .string t239, .slice Ao59 t240.length co59] (fun k_ => some k_ ≠ (.slice Ao52 t227.length co52 : Value).ownBlock ∧ k_ ≠ gb244) (fun k_ => some k_ = (.slice Ao59 t240.length co59 : Value).ownBlock) rfl rfl ?aP (fun k_ hk_ => ((Kd.R_mono (ok' := fun k_ => ((fun k_ => some k_ ≠ (.slice Ao52 t227.length co52 : Value).ownBlock ∧ k_ ≠ gb244)) k_ ∧ some k_ ≠ (u5 : Value).ownBlock) (Kd.R_types (Kd.R_apart' (HO242.out) (Kd.S_typed HO_5.out) (by decide)) BK244.out (by decide)) (fun k_ hk => ⟨⟨hk.1.1, hk.2⟩, hk.1.2⟩))).1 k_ hk_.symm) ?aF ?aO ?aB ?aS ?aL ?_; (case aP => exact k45_mkM _ _ _ (⟨t231, (rd_T43 l0 x15_1).f0, t233, t234, t235, t236, t237, t238, t239, t240⟩ : S45) (Kd.R_mono (Kd.R_tight rfl (Kd.R_mono (ok' := fun k_ => ((fun k_ => some k_ ≠ (.slice Ao52 t227.length co52 : Value).ownBlock ∧ k_ ≠ gb244)) k_ ∧ some k_ ≠ (u5 : Value).ownBlock) (Kd.R_types (Kd.R_apart' (HO242.out) (Kd.S_typed HO_5.out) (by decide)) BK244.out (by decide)) (fun k_ hk => ⟨⟨hk.1.1, hk.2⟩, hk.1.2⟩))) (fun _ h_ => h_))); (case aB => exact (zL HB.out)); (case aF => exact (fun k_ hk => ⟨Kd.fresh' (Kd.R_lt (zR HO229.out)) k_ hk, Kd.freshB (g := gb244) (o := .cells #[.int .i64 t231, .int .i64 ((rd_T43 l0 x15_1).f0), .string t233, .string t234, .string t235, .string t236, .string t237, .string t238, .string t239, .slice Ao59 t240.length co59] 45 (0, 0)) (zK BK244.out) k_ hk⟩)); (case aO => exact (by (with_reducible repeat (first | apply Kd.S_alloc | apply Kd.S_drewN | apply Kd.S_drew)); exact Kd.S_mono HO_5.out (fun k_ hk => ⟨⟨hk.1, hk.2.2⟩, fun e_ => hk.2.1 e_⟩))); (case aS => exact (below_size (zL HB.out))); (case aL => have := LMc48.out; omega); intro v250 w68 ho hb hg hat; rw [← Ny249.out] at ho; have n0_ := Aside0.mk (blk_grown (g := gb220) (o := .cells #[.int .i64 ((rd_T43 l0 x15_1).f0), .bool false, .string ((rd_T43 l0 x15_1).f2)] 43 (0, 0)) (zK BK220.out) hg (Kd.S_ne HO_5.out BK220.out (by decide))); have n1_ := Aside0.mk (Kd.R_over' (zR HO229.out) (Kd.S_typed (by (with_reducible repeat (first | apply Kd.S_alloc | apply Kd.S_drewN | apply Kd.S_drew)); exact HO_5.out)) (by decide) hg); have n2_ := Aside0.mk (blk_grown (g := gb244) (o := .cells #[.int .i64 t231, .int .i64 ((rd_T43 l0 x15_1).f0), .string t233, .string t234, .string t235, .string t236, .string t237, .string t238, .string t239, .slice Ao59 t240.length co59] 45 (0, 0)) (zK BK244.out) hg (Kd.S_away HO_5.out (fun _ hk => hk.2.2))); have n3_ := Aside0.mk (Kd.R_over' (zR HO247.out) (Kd.S_typed (by (with_reducible repeat (first | apply Kd.S_alloc | apply Kd.S_drewN | apply Kd.S_drew)); exact HO_5.out)) (by decide) hg); have n4_ := Aside0.mk (hb); have n5_ := Aside0.mk (ho); revert n0_ n1_ n2_ n3_ n4_ n5_; clear BK220 HO229 BK244 HO247 HB HO_5 HO242; intro BK220 HO229 BK244 HO247 HB HO251; clear ho hb hg hat))
           go_roundg k1
           case measure => have := HK1.out; omega
           case rel => exact ⟨(y249), (t245), (wrap64 (x15_1 + 1)), zS, H', ⟨by have := HK1.out; omega⟩, ⟨by (with_reducible repeat (first | apply Kd.S_alloc | apply Kd.S_drewN | apply Kd.S_drew)); exact Kd.S_mono HO251.out (fun _ hk => trivial)⟩, ⟨by (with_reducible repeat (first | apply Kd.R_alloc | apply Kd.R_drewN | apply Kd.R_drew)); exact HO247.out⟩, ⟨zL HB.out⟩⟩
          ·rw [if_neg c48] at H
           exact absurd H (by simp)
         ·rw [if_neg c47] at H
          have c47b0 : (t248 == 0) = false := beq_eq_false_iff_ne.mpr c47
          have c47b1 : (t248 != 0) = true := bne_iff_ne.mpr c47
          simp only [Option.some.injEq, Prod.mk.injEq] at H
          obtain ⟨rfl, rfl, rfl⟩ := H
          have p219 : 0 ≤ (x15_1 : Int) := zD
          have q219 : x15_1 < (l0.length : Int) := zD
          obtain ⟨ad219, e219, hx219_0, hx219_1, hx219_2⟩ := at_T43 HR0.out x15_1 p219 q219
          (try rw [← Nbq5.out] at hx219_1)
          cases e219
          replace hx219_0 := zX HB.out hx219_0
          replace hx219_1 := zX HB.out hx219_1
          replace hx219_2 := zX HB.out hx219_2
          replace p219 := eq_true p219
          replace q219 := eq_true q219
          try go_wp2_with (first | ((with_reducible refine gate_dst (N := 8) rfl ?_); (try (refine gate_guard (by rfl) ?_; dsimp only)); refine box_event ?hg (N := 8) ?hd (cs := #[.int .i64 0, .bool false, .string (⟨#[]⟩ : ByteArray)]) (t := 43) ?hr ?_; (case hd => rfl); (case hg => rfl); (case hr => first | (go_simp; done) | (go_simp; rfl)); intro gb220 hg w69 hbox hb; have n0_ := Aside0.mk (Kd.S_below (by (with_reducible repeat (first | apply Kd.S_alloc | apply Kd.S_drewN | apply Kd.S_drew)); exact HO_5.out) hb); have n1_ := Aside0.mk (Kd.R_below (zR HO_6.out) hb); have n2_ := Aside0.mk (below_step (zL HB.out) hb); have n3_ := Aside0.mk (hbox); have n4_ := Aside0.mk (zG hg (zL HB.out)); have n5_ := Aside0.mk (zG hg (zL HB.out)); revert n0_ n1_ n2_ n3_ n4_ n5_; clear HO_5 HO_6 HB; intro HO_5 HO_6 HB BK220 GW220 GE220; clear hb hbox hg; obtain ⟨hcz70_0, hcz70_1, hcz70_2, hfz70_0, hfz70_1, hfz70_2⟩ := zC3 BK220.out) | ((with_reducible refine gate_callee (f := 22) rfl ?_); refine goesL_ (some 54) rfl rfl Tryd.func22 (by kernel_rfl) rfl #[.string ((rd_T43 l0 x15_1).f2)] rfl zA ?_; (with_reducible refine (text_Words.calls ((rd_T43 l0 x15_1).f2) t227 _ A36.out).mono ?_); rintro e w71 ⟨v228, rfl, ho0, hb⟩; refine ⟨_, rfl, ?_⟩; have n0_ := Aside0.mk (Kd.S_elder' (by (with_reducible repeat (first | apply Kd.S_alloc | apply Kd.S_drewN | apply Kd.S_drew)); exact (Kd.S_mono (Kd.S_far (p := ⟨gb220, 2, none⟩) (Kd.S_far (p := ⟨gb220, 1, none⟩) (Kd.S_far (p := ⟨gb220, 0, none⟩) (Kd.S_types HO_5.out BK220.out (by decide)) (fun _ hk => hk.2) (.int .i64 ((rd_T43 l0 x15_1).f0))) (fun _ hk => hk.2) (.bool false)) (fun _ hk => hk.2) (.string ((rd_T43 l0 x15_1).f2))) (fun _ h_ => h_.1))) (Kd.R_base ho0) hb); have n1_ := Aside0.mk (Kd.R_below (zT HO_6.out BK220.out) hb); have n2_ := Aside0.mk (Kd.R_lower ho0 (below_size (zL HB.out))); have n3_ := Aside0.mk (blk_below (g := gb220) (o := .cells #[.int .i64 ((rd_T43 l0 x15_1).f0), .bool false, .string ((rd_T43 l0 x15_1).f2)] 43 (0, 0)) (zP3 BK220.out) hb); have n4_ := Aside0.mk (below_step (zL HB.out) hb); revert n0_ n1_ n2_ n3_ n4_; clear HO_5 HO_6 BK220 HB; intro HO_5 HO_6 HO229 BK220 HB; (try clear hb); (try clear hb2); (try clear hk); (try clear hi); (try clear ho0); obtain ⟨Ao72, co72, eo72⟩ := Kd.R_slice HO229.out; subst eo72; obtain ⟨hcz73_0, hcz73_1, hcz73_2, hfz73_0, hfz73_1, hfz73_2⟩ := zC3 BK220.out) | ((with_reducible refine gate_callee (f := 24) rfl ?_); refine goesL_ (some 62) rfl rfl Tryd.func24 (by kernel_rfl) rfl #[.string ((rd_T43 l0 x15_1).f2)] rfl zA ?_; (with_reducible refine (text_Trim.calls ((rd_T43 l0 x15_1).f2) t230 _ A43.out).mono ?_); rintro e w74 ⟨rfl, hb⟩; refine ⟨_, rfl, ?_⟩; have n0_ := Aside0.mk (Kd.S_below (by (with_reducible repeat (first | apply Kd.S_alloc | apply Kd.S_drewN | apply Kd.S_drew)); exact HO_5.out) hb); have n1_ := Aside0.mk (Kd.R_below (zR HO_6.out) hb); have n2_ := Aside0.mk (Kd.R_below (zR HO229.out) hb); have n3_ := Aside0.mk (blk_below (g := gb220) (o := .cells #[.int .i64 ((rd_T43 l0 x15_1).f0), .bool false, .string ((rd_T43 l0 x15_1).f2)] 43 (0, 0)) (zK BK220.out) hb); have n4_ := Aside0.mk (below_step (zL HB.out) hb); revert n0_ n1_ n2_ n3_ n4_; clear HO_5 HO_6 HO229 BK220 HB; intro HO_5 HO_6 HO229 BK220 HB; (try clear hb); (try clear hb2); (try clear hk); (try clear hi)) | ((with_reducible refine gate_callee (f := 23) rfl ?_); refine goesL_ (some 63) rfl rfl Tryd.func23 (by kernel_rfl) rfl #[.string t230] rfl zA ?_; (with_reducible refine (parse_node.calls k1 t230 t231 t232 t233 t234 t235 t236 t237 t238 t239 t240 true _ A44.out).mono ?_); rintro e w75 ⟨v241, rfl, ho0, hb⟩; refine ⟨_, rfl, ?_⟩; have n0_ := Aside0.mk (Kd.S_elder' (by (with_reducible repeat (first | apply Kd.S_alloc | apply Kd.S_drewN | apply Kd.S_drew)); exact HO_5.out) (Kd.R_base ho0) hb); have n1_ := Aside0.mk (Kd.R_below (zR HO_6.out) hb); have n2_ := Aside0.mk (Kd.R_elder' (zR HO229.out) (Kd.R_base ho0) hb); have n3_ := Aside0.mk (Kd.R_lower (Kd.R_new' ho0 (Kd.R_lt (zR HO229.out))) (below_size (zL HB.out))); have n4_ := Aside0.mk (blk_below (g := gb220) (o := .cells #[.int .i64 ((rd_T43 l0 x15_1).f0), .bool false, .string ((rd_T43 l0 x15_1).f2)] 43 (0, 0)) (zK BK220.out) hb); have n5_ := Aside0.mk (below_step (zL HB.out) hb); revert n0_ n1_ n2_ n3_ n4_ n5_; clear HO_5 HO_6 HO229 BK220 HB; intro HO_5 HO_6 HO229 HO242 BK220 HB; (try clear hb); (try clear hb2); (try clear hk); (try clear hi); (try clear ho0)) | ((with_reducible refine gate_dst (N := 10) rfl ?_); (try (refine gate_guard (by rfl) ?_; dsimp only)); refine box_event ?hg (N := 10) ?hd (cs := #[.int .i64 0, .int .i64 0, .string (⟨#[]⟩ : ByteArray), .string (⟨#[]⟩ : ByteArray), .string (⟨#[]⟩ : ByteArray), .string (⟨#[]⟩ : ByteArray), .string (⟨#[]⟩ : ByteArray), .string (⟨#[]⟩ : ByteArray), .string (⟨#[]⟩ : ByteArray), .slice none 0 0]) (t := 45) ?hr ?_; (case hd => rfl); (case hg => rfl); (case hr => first | (go_simp; done) | (go_simp; rfl)); intro gb244 hg w76 hbox hb; have n0_ := Aside0.mk (Kd.S_below (Kd.S_elderB (by (with_reducible repeat (first | apply Kd.S_alloc | apply Kd.S_drewN | apply Kd.S_drew)); exact HO_5.out) gb244 (Nat.le_of_eq hg.symm)) hb); have n1_ := Aside0.mk (Kd.R_below (zR HO_6.out) hb); have n2_ := Aside0.mk (Kd.R_below (zR HO229.out) hb); have n3_ := Aside0.mk (Kd.R_below (zR HO242.out) hb); have n4_ := Aside0.mk (blk_below (g := gb220) (o := .cells #[.int .i64 ((rd_T43 l0 x15_1).f0), .bool false, .string ((rd_T43 l0 x15_1).f2)] 43 (0, 0)) (zK BK220.out) hb); have n5_ := Aside0.mk (below_step (zL HB.out) hb); have n6_ := Aside0.mk (hbox); have n7_ := Aside0.mk (zG hg (zL HB.out)); have n8_ := Aside0.mk (zG hg (zL HB.out)); have n9_ := Aside0.mk (zN (g := gb220) (o := .cells #[.int .i64 ((rd_T43 l0 x15_1).f0), .bool false, .string ((rd_T43 l0 x15_1).f2)] 43 (0, 0)) hg (zK BK220.out)); have n10_ := Aside0.mk (zO (g := gb220) (o := .cells #[.int .i64 ((rd_T43 l0 x15_1).f0), .bool false, .string ((rd_T43 l0 x15_1).f2)] 43 (0, 0)) hg (zK BK220.out)); revert n0_ n1_ n2_ n3_ n4_ n5_ n6_ n7_ n8_ n9_ n10_; clear HO_5 HO_6 HO229 HO242 BK220 HB; intro HO_5 HO_6 HO229 HO242 BK220 HB BK244 GW244 GE244 NB220_244 NB244_220; clear hb hbox hg; have hnb77 := NB244_220.out; have hnc77 := NB220_244.out; obtain ⟨hcz78_0, hcz78_1, hcz78_2, hcz78_3, hcz78_4, hcz78_5, hcz78_6, hcz78_7, hcz78_8, hcz78_9, hfz78_0, hfz78_1, hfz78_2, hfz78_3, hfz78_4, hfz78_5, hfz78_6, hfz78_7, hfz78_8, hfz78_9⟩ := zC10 BK244.out; obtain ⟨Ao79, co79, eo79⟩ := Kd.R_slice HO242.out; subst eo79) | ((with_reducible refine gate_store (t := 45) (p := 10) rfl ?_); refine store_event (t := 45) (p := 10) (v := ?vo_w80) (w1 := ((((((((((w76.setCell ⟨gb244, 0, none⟩ (.int .i64 t231)).setCell ⟨gb244, 1, none⟩ (.int .i64 t232)).setCell ⟨gb244, 2, none⟩ (.string t233)).setCell ⟨gb244, 3, none⟩ (.string t234)).setCell ⟨gb244, 4, none⟩ (.string t235)).setCell ⟨gb244, 5, none⟩ (.string t236)).setCell ⟨gb244, 6, none⟩ (.string t237)).setCell ⟨gb244, 7, none⟩ (.string t238)).setCell ⟨gb244, 8, none⟩ (.string t239)).setCell ⟨gb244, 9, none⟩ (.slice Ao79 t240.length co79))) ?hg ?ho ?hn ?hr ?_; (case ho => rfl); (case hg => rfl); (case hn => rfl); (case hr => first | (go_simp; done) | (go_simp; rfl)); intro w80 hw; have n0_ : Aside0 (Kd.S k45 45 w80 w.heap.size (fun k_ => some k_ ≠ (.slice Ao72 t227.length co72 : Value).ownBlock ∧ some k_ ≠ (.slice Ao79 t240.length co79 : Value).ownBlock ∧ k_ ≠ gb244) u5 x5_1) := ⟨(by rw [hw]; exact (by (with_reducible repeat (first | apply Kd.S_alloc | apply Kd.S_drewN | apply Kd.S_drew)); exact Kd.S_mono (Kd.S_far (p := ⟨gb244, 9, none⟩) (Kd.S_far (p := ⟨gb244, 8, none⟩) (Kd.S_far (p := ⟨gb244, 7, none⟩) (Kd.S_far (p := ⟨gb244, 6, none⟩) (Kd.S_far (p := ⟨gb244, 5, none⟩) (Kd.S_far (p := ⟨gb244, 4, none⟩) (Kd.S_far (p := ⟨gb244, 3, none⟩) (Kd.S_far (p := ⟨gb244, 2, none⟩) (Kd.S_far (p := ⟨gb244, 1, none⟩) (Kd.S_far (p := ⟨gb244, 0, none⟩) (Kd.S_mono HO_5.out (fun k_ hk => (⟨hk, hk.2⟩ : _ ∧ k_ ≠ gb244))) (fun _ hk => hk.2) (.int .i64 t231)) (fun _ hk => hk.2) (.int .i64 t232)) (fun _ hk => hk.2) (.string t233)) (fun _ hk => hk.2) (.string t234)) (fun _ hk => hk.2) (.string t235)) (fun _ hk => hk.2) (.string t236)) (fun _ hk => hk.2) (.string t237)) (fun _ hk => hk.2) (.string t238)) (fun _ hk => hk.2) (.string t239)) (fun _ hk => hk.2) (.slice Ao79 t240.length co79)) (fun _ hk => ⟨hk.1.1.1.2, ⟨hk.1.1.2, hk.1.2⟩⟩)))⟩; have n1_ : Aside0 (Kd.R Kd.bool 4 w80 w.heap.size (fun _ => True) u6 x6_1) := ⟨(by rw [hw]; exact (by (with_reducible repeat (first | apply Kd.R_alloc | apply Kd.R_drewN | apply Kd.R_drew)); exact Kd.R_mono (zNT HO_6.out BK244.out) (fun _ hk => trivial)))⟩; have n2_ : Aside0 (Kd.R Kd.string 9 w80 w.heap.size (fun k_ => some k_ ≠ (.slice Ao79 t240.length co79 : Value).ownBlock) (.slice Ao72 t227.length co72) t227) := ⟨(by rw [hw]; exact (by (with_reducible repeat (first | apply Kd.R_alloc | apply Kd.R_drewN | apply Kd.R_drew)); exact Kd.R_mono (zNT HO229.out BK244.out) (fun _ hk => hk.1.2)))⟩; have n3_ : Aside0 (Kd.R Kd.string 9 w80 w.heap.size (fun k_ => some k_ ≠ (.slice Ao72 t227.length co72 : Value).ownBlock) (.slice Ao79 t240.length co79) t240) := ⟨(by rw [hw]; exact (by (with_reducible repeat (first | apply Kd.R_alloc | apply Kd.R_drewN | apply Kd.R_drew)); exact Kd.R_mono (zNT HO242.out BK244.out) (fun _ hk => hk.1.2)))⟩; have n4_ : Aside0 (w80.heap[gb220]? = some (.cells #[.int .i64 ((rd_T43 l0 x15_1).f0), .bool false, .string ((rd_T43 l0 x15_1).f2)] 43 (0, 0))) := ⟨(by rw [hw]; exact (zK BK220.out))⟩; have n5_ : Aside0 (w80.heap[gb244]? = some (.cells #[.int .i64 t231, .int .i64 t232, .string t233, .string t234, .string t235, .string t236, .string t237, .string t238, .string t239, .slice Ao79 t240.length co79] 45 (0, 0))) := ⟨(by rw [hw]; exact (zP10 BK244.out))⟩; have n6_ : Aside0 (Below w.heap.size w w80) := ⟨(by rw [hw]; exact (zL HB.out))⟩; clear hw; revert n0_ n1_ n2_ n3_ n4_ n5_ n6_; clear HO_5 HO_6 HO229 HO242 BK220 BK244 HB; intro HO_5 HO_6 HO229 HO242 BK220 BK244 HB; obtain ⟨hcz81_0, hcz81_1, hcz81_2, hcz81_3, hcz81_4, hcz81_5, hcz81_6, hcz81_7, hcz81_8, hcz81_9, hfz81_0, hfz81_1, hfz81_2, hfz81_3, hfz81_4, hfz81_5, hfz81_6, hfz81_7, hfz81_8, hfz81_9⟩ := zC10 BK244.out; obtain ⟨Ao82, co82, eo82⟩ := Kd.R_slice HO_6.out; subst eo82) | ((with_reducible refine gate_callee (f := 25) rfl ?_); refine goesL_ (some 74) rfl rfl Tryd.func25 (by kernel_rfl) rfl #[.slice Ao82 x6_1.length co82, .int .i64 t231] rfl zA ?_; (with_reducible refine (parse_nest_take.calls k1 (fun k_ => some k_ = (.slice Ao82 x6_1.length co82 : Value).ownBlock) (.slice Ao82 x6_1.length co82) x6_1 t231 t245 t248 w _ ?side1 ?side2 A46.out).mono ?_); (case side1 => repeat (first | (with_reducible first | exact HB.out | apply below_alloc | apply pw_below_drewN | apply below_drew1 | refine below_set ?_ GE220.out | refine below_set ?_ GE244.out) | exact HB.out)); (case side2 => exact Kd.R_tight rfl HO_6.out); rintro e w83 ⟨v246, rfl, ho0, hb, hkp⟩; refine ⟨_, rfl, ?_⟩; have n0_ := Aside0.mk (Kd.S_mono (ok' := fun k_ => some k_ ≠ (.slice Ao72 t227.length co72 : Value).ownBlock ∧ some k_ ≠ (.slice Ao79 t240.length co79 : Value).ownBlock ∧ k_ ≠ gb244) (Kd.S_keptB ((Kd.S_apart' HO_5.out (Kd.R_typed HO_6.out) (by decide))) hkp (fun k_ hk_ hs_ => (hk_.2) hs_)) (fun k_ hk_ => ⟨hk_.1.1.1, hk_.1.1.2.1, hk_.1.1.2.2⟩)); have n1_ := Aside0.mk (blk_kept (zK BK220.out) hkp (fun hs_ => (fun e_ => (Kd.R_ne HO_6.out BK220.out (by decide)) e_) hs_)); have n2_ := Aside0.mk (Kd.R_mono (ok' := fun k_ => some k_ ≠ (.slice Ao79 t240.length co79 : Value).ownBlock) (Kd.R_keptB ((Kd.R_apart' HO229.out (Kd.R_typed HO_6.out) (by decide))) hkp (fun k_ hk_ hs_ => (hk_.2) hs_)) (fun k_ hk_ => hk_.1.1)); have n3_ := Aside0.mk (Kd.R_mono (ok' := fun k_ => some k_ ≠ (.slice Ao72 t227.length co72 : Value).ownBlock) (Kd.R_keptB ((Kd.R_apart' HO242.out (Kd.R_typed HO_6.out) (by decide))) hkp (fun k_ hk_ hs_ => (hk_.2) hs_)) (fun k_ hk_ => hk_.1.1)); have n4_ := Aside0.mk (blk_kept (zK BK244.out) hkp (fun hs_ => (fun e_ => (Kd.R_ne HO_6.out BK244.out (by decide)) e_) hs_)); have n5_ := Aside0.mk (Kd.R_mono (ok' := fun k_ => True) ho0 (fun k_ hk_ => trivial)); have n6_ := Aside0.mk (hb); revert n0_ n1_ n2_ n3_ n4_ n5_ n6_; clear HO_5 BK220 HO229 HO242 BK244 HB HO_6; intro HO_5 BK220 HO229 HO242 BK244 HO247 HB; (try clear hb); (try clear hkp); (try clear ho0)))
          have n0_ := Aside0.mk (Kd.S_drew HO_5.out)
          have n1_ := Aside0.mk (Kd.R_drew HO229.out)
          have n2_ := Aside0.mk (Kd.R_drew HO242.out)
          have n3_ := Aside0.mk (Kd.R_drew HO247.out)
          have n4_ := Aside0.mk (blk_drew BK220.out)
          have n5_ := Aside0.mk (blk_drew BK244.out)
          have n6_ := Aside0.mk (below_drew1 HB.out)
          clear HO_5
          clear HO229
          clear HO242
          clear HO247
          clear BK220
          clear BK244
          clear HB
          have HO_5 := n0_
          have HO229 := n1_
          have HO242 := n2_
          have HO247 := n3_
          have BK220 := n4_
          have BK244 := n5_
          have HB := n6_
          clear n0_ n1_ n2_ n3_ n4_ n5_ n6_
          refine start_ (n := 6) (S := fun w' => w'.cell? ⟨gb220, 0, none⟩ = some (.int .i64 ((rd_T43 l0 x15_1).f0)) ∧ w'.cell? ⟨gb220, 1, none⟩ = some (.bool false) ∧ w'.cell? ⟨gb220, 2, none⟩ = some (.string ((rd_T43 l0 x15_1).f2))) (ds := []) #[false, false, false, false, false, false] (by kernel_rfl) rfl rfl ⟨(blk_cell BK220.out 0).trans rfl, (blk_cell BK220.out 1).trans rfl, (blk_cell BK220.out 2).trans rfl⟩ (fun hHeld => ?_)
          generalize w83.drew = w84 at HO_5 HO229 HO242 HO247 BK220 BK244 HB hHeld ⊢
          refine pure_ (i := 0) (N := some 79) (v := ?_) (a' := ?_) #[true, false, false, false, false, false] rfl rfl (by kernel_rfl) (fun _ _ _ h => h) (Or.inl ⟨by rfl, ?_⟩) ?_ ?_
          rotate_left
          ·intro w'
           go_simp
           with_reducible rfl
          rotate_left
          ·simp only [Act.put, List.setIfInBounds_toArray, List.set_cons_zero, List.set_cons_succ, i64_w, i32_w]
           rfl
          refine pure_ (i := 1) (N := some 80) (v := ?_) (a' := ?_) #[true, true, false, false, false, false] rfl rfl (by kernel_rfl) (fun _ _ _ h => h) (Or.inl ⟨by rfl, ?_⟩) ?_ ?_
          rotate_left
          ·intro w'
           go_simp
           with_reducible rfl
          rotate_left
          ·simp only [Act.put, List.setIfInBounds_toArray, List.set_cons_zero, List.set_cons_succ, i64_w, i32_w]
           rfl
          refine pure_ (i := 3) (N := some 2) (v := ?_) (a' := ?_) #[true, true, false, true, false, false] rfl rfl (by kernel_rfl) (fun _ _ _ h => h) (Or.inl ⟨by rfl, ?_⟩) ?_ ?_
          rotate_left
          ·intro w'
           go_simp
           with_reducible rfl
          rotate_left
          ·simp only [Act.put, List.setIfInBounds_toArray, List.set_cons_zero, List.set_cons_succ, i64_w, i32_w]
           rfl
          refine pure_ (i := 4) (N := some 3) (v := ?_) (a' := ?_) #[true, true, false, true, true, false] rfl rfl (by kernel_rfl) (fun _ _ _ h => h) (Or.inl ⟨by rfl, ?_⟩) ?_ ?_
          rotate_left
          ·intro w'
           go_simp
           with_reducible rfl
          rotate_left
          ·simp only [Act.put, List.setIfInBounds_toArray, List.set_cons_zero, List.set_cons_succ, i64_w, i32_w]
           rfl
          refine take_ (i := 2) (N := some 81) (v := ?_) (a' := ?_) #[true, true, true, true, true, false] rfl rfl (by kernel_rfl) (fun _ _ _ h => h) (Or.inl ⟨by rfl, ?_⟩) hHeld ?_ ?_
          rotate_left
          ·rintro w' ⟨s0, s1, s2⟩
           go_simp
           with_reducible rfl
          rotate_left
          ·simp only [Act.put, List.setIfInBounds_toArray, List.set_cons_zero, List.set_cons_succ, i64_w, i32_w]
           rfl
          refine pure_ (i := 5) (N := some 4) (v := ?_) (a' := ?_) #[true, true, true, true, true, true] rfl rfl (by kernel_rfl) (fun _ _ _ h => h) (Or.inl ⟨by rfl, ?_⟩) ?_ ?_
          rotate_left
          ·intro w'
           go_simp
           with_reducible rfl
          rotate_left
          ·simp only [Act.put, List.setIfInBounds_toArray, List.set_cons_zero, List.set_cons_succ, i64_w, i32_w]
           rfl
          refine done_ (by kernel_rfl) ?_
          try go_wp2
          go_ret3
          exact ⟨_, zE, by first | exact Kd.S_nil _ _ _ _ _ | exact Kd.N_nil _ _ _ _ _ | exact Kd.V_nil _ _ _ _ _ | exact Kd.Q_nil _ _ _ _ _ | exact Kd.R_nil _ _ _ _ _, zL HB.out⟩
        ·replace c45 := Bool.eq_false_iff.mpr c45
         subst c45
         have H1 : (some (([] : List (S45)), 2, (rd_T43 l0 x15_1).f0)) = some (r1, r2, r3) := by rw [if_neg (show ¬ (false = true) by decide)] at H; exact H
         clear H
         have H := H1
         clear H1
         simp only [Option.some.injEq, Prod.mk.injEq] at H
         obtain ⟨rfl, rfl, rfl⟩ := H
         have p219 : 0 ≤ (x15_1 : Int) := zD
         have q219 : x15_1 < (l0.length : Int) := zD
         obtain ⟨ad219, e219, hx219_0, hx219_1, hx219_2⟩ := at_T43 HR0.out x15_1 p219 q219
         (try rw [← Nbq5.out] at hx219_1)
         cases e219
         replace hx219_0 := zX HB.out hx219_0
         replace hx219_1 := zX HB.out hx219_1
         replace hx219_2 := zX HB.out hx219_2
         replace p219 := eq_true p219
         replace q219 := eq_true q219
         try go_wp2_with (first | ((with_reducible refine gate_dst (N := 8) rfl ?_); (try (refine gate_guard (by rfl) ?_; dsimp only)); refine box_event ?hg (N := 8) ?hd (cs := #[.int .i64 0, .bool false, .string (⟨#[]⟩ : ByteArray)]) (t := 43) ?hr ?_; (case hd => rfl); (case hg => rfl); (case hr => first | (go_simp; done) | (go_simp; rfl)); intro gb220 hg w85 hbox hb; have n0_ := Aside0.mk (Kd.S_below (by (with_reducible repeat (first | apply Kd.S_alloc | apply Kd.S_drewN | apply Kd.S_drew)); exact HO_5.out) hb); have n1_ := Aside0.mk (Kd.R_below (zR HO_6.out) hb); have n2_ := Aside0.mk (below_step (zL HB.out) hb); have n3_ := Aside0.mk (hbox); have n4_ := Aside0.mk (zG hg (zL HB.out)); have n5_ := Aside0.mk (zG hg (zL HB.out)); revert n0_ n1_ n2_ n3_ n4_ n5_; clear HO_5 HO_6 HB; intro HO_5 HO_6 HB BK220 GW220 GE220; clear hb hbox hg; obtain ⟨hcz86_0, hcz86_1, hcz86_2, hfz86_0, hfz86_1, hfz86_2⟩ := zC3 BK220.out) | ((with_reducible refine gate_callee (f := 22) rfl ?_); refine goesL_ (some 54) rfl rfl Tryd.func22 (by kernel_rfl) rfl #[.string ((rd_T43 l0 x15_1).f2)] rfl zA ?_; (with_reducible refine (text_Words.calls ((rd_T43 l0 x15_1).f2) t227 _ A36.out).mono ?_); rintro e w87 ⟨v228, rfl, ho0, hb⟩; refine ⟨_, rfl, ?_⟩; have n0_ := Aside0.mk (Kd.S_elder' (by (with_reducible repeat (first | apply Kd.S_alloc | apply Kd.S_drewN | apply Kd.S_drew)); exact (Kd.S_mono (Kd.S_far (p := ⟨gb220, 2, none⟩) (Kd.S_far (p := ⟨gb220, 1, none⟩) (Kd.S_far (p := ⟨gb220, 0, none⟩) (Kd.S_types HO_5.out BK220.out (by decide)) (fun _ hk => hk.2) (.int .i64 ((rd_T43 l0 x15_1).f0))) (fun _ hk => hk.2) (.bool false)) (fun _ hk => hk.2) (.string ((rd_T43 l0 x15_1).f2))) (fun _ h_ => h_.1))) (Kd.R_base ho0) hb); have n1_ := Aside0.mk (Kd.R_below (zT HO_6.out BK220.out) hb); have n2_ := Aside0.mk (Kd.R_lower ho0 (below_size (zL HB.out))); have n3_ := Aside0.mk (blk_below (g := gb220) (o := .cells #[.int .i64 ((rd_T43 l0 x15_1).f0), .bool false, .string ((rd_T43 l0 x15_1).f2)] 43 (0, 0)) (zP3 BK220.out) hb); have n4_ := Aside0.mk (below_step (zL HB.out) hb); revert n0_ n1_ n2_ n3_ n4_; clear HO_5 HO_6 BK220 HB; intro HO_5 HO_6 HO229 BK220 HB; (try clear hb); (try clear hb2); (try clear hk); (try clear hi); (try clear ho0); obtain ⟨Ao88, co88, eo88⟩ := Kd.R_slice HO229.out; subst eo88; obtain ⟨hcz89_0, hcz89_1, hcz89_2, hfz89_0, hfz89_1, hfz89_2⟩ := zC3 BK220.out) | ((with_reducible refine gate_callee (f := 24) rfl ?_); refine goesL_ (some 62) rfl rfl Tryd.func24 (by kernel_rfl) rfl #[.string ((rd_T43 l0 x15_1).f2)] rfl zA ?_; (with_reducible refine (text_Trim.calls ((rd_T43 l0 x15_1).f2) t230 _ A43.out).mono ?_); rintro e w90 ⟨rfl, hb⟩; refine ⟨_, rfl, ?_⟩; have n0_ := Aside0.mk (Kd.S_below (by (with_reducible repeat (first | apply Kd.S_alloc | apply Kd.S_drewN | apply Kd.S_drew)); exact HO_5.out) hb); have n1_ := Aside0.mk (Kd.R_below (zR HO_6.out) hb); have n2_ := Aside0.mk (Kd.R_below (zR HO229.out) hb); have n3_ := Aside0.mk (blk_below (g := gb220) (o := .cells #[.int .i64 ((rd_T43 l0 x15_1).f0), .bool false, .string ((rd_T43 l0 x15_1).f2)] 43 (0, 0)) (zK BK220.out) hb); have n4_ := Aside0.mk (below_step (zL HB.out) hb); revert n0_ n1_ n2_ n3_ n4_; clear HO_5 HO_6 HO229 BK220 HB; intro HO_5 HO_6 HO229 BK220 HB; (try clear hb); (try clear hb2); (try clear hk); (try clear hi)) | ((with_reducible refine gate_callee (f := 23) rfl ?_); refine goesL_ (some 63) rfl rfl Tryd.func23 (by kernel_rfl) rfl #[.string t230] rfl zA ?_; (with_reducible refine (parse_node.calls k1 t230 t231 t232 t233 t234 t235 t236 t237 t238 t239 t240 false _ A44.out).mono ?_); rintro e w91 ⟨v241, rfl, ho0, hb⟩; refine ⟨_, rfl, ?_⟩; have n0_ := Aside0.mk (Kd.S_elder' (by (with_reducible repeat (first | apply Kd.S_alloc | apply Kd.S_drewN | apply Kd.S_drew)); exact HO_5.out) (Kd.R_base ho0) hb); have n1_ := Aside0.mk (Kd.R_below (zR HO_6.out) hb); have n2_ := Aside0.mk (Kd.R_elder' (zR HO229.out) (Kd.R_base ho0) hb); have n3_ := Aside0.mk (Kd.R_lower (Kd.R_new' ho0 (Kd.R_lt (zR HO229.out))) (below_size (zL HB.out))); have n4_ := Aside0.mk (blk_below (g := gb220) (o := .cells #[.int .i64 ((rd_T43 l0 x15_1).f0), .bool false, .string ((rd_T43 l0 x15_1).f2)] 43 (0, 0)) (zK BK220.out) hb); have n5_ := Aside0.mk (below_step (zL HB.out) hb); revert n0_ n1_ n2_ n3_ n4_ n5_; clear HO_5 HO_6 HO229 BK220 HB; intro HO_5 HO_6 HO229 HO242 BK220 HB; (try clear hb); (try clear hb2); (try clear hk); (try clear hi); (try clear ho0)) | ((with_reducible refine gate_dst (N := 10) rfl ?_); (try (refine gate_guard (by rfl) ?_; dsimp only)); refine box_event ?hg (N := 10) ?hd (cs := #[.int .i64 0, .int .i64 0, .string (⟨#[]⟩ : ByteArray), .string (⟨#[]⟩ : ByteArray), .string (⟨#[]⟩ : ByteArray), .string (⟨#[]⟩ : ByteArray), .string (⟨#[]⟩ : ByteArray), .string (⟨#[]⟩ : ByteArray), .string (⟨#[]⟩ : ByteArray), .slice none 0 0]) (t := 45) ?hr ?_; (case hd => rfl); (case hg => rfl); (case hr => first | (go_simp; done) | (go_simp; rfl)); intro gb244 hg w92 hbox hb; have n0_ := Aside0.mk (Kd.S_below (Kd.S_elderB (by (with_reducible repeat (first | apply Kd.S_alloc | apply Kd.S_drewN | apply Kd.S_drew)); exact HO_5.out) gb244 (Nat.le_of_eq hg.symm)) hb); have n1_ := Aside0.mk (Kd.R_below (zR HO_6.out) hb); have n2_ := Aside0.mk (Kd.R_below (zR HO229.out) hb); have n3_ := Aside0.mk (Kd.R_below (zR HO242.out) hb); have n4_ := Aside0.mk (blk_below (g := gb220) (o := .cells #[.int .i64 ((rd_T43 l0 x15_1).f0), .bool false, .string ((rd_T43 l0 x15_1).f2)] 43 (0, 0)) (zK BK220.out) hb); have n5_ := Aside0.mk (below_step (zL HB.out) hb); have n6_ := Aside0.mk (hbox); have n7_ := Aside0.mk (zG hg (zL HB.out)); have n8_ := Aside0.mk (zG hg (zL HB.out)); have n9_ := Aside0.mk (zN (g := gb220) (o := .cells #[.int .i64 ((rd_T43 l0 x15_1).f0), .bool false, .string ((rd_T43 l0 x15_1).f2)] 43 (0, 0)) hg (zK BK220.out)); have n10_ := Aside0.mk (zO (g := gb220) (o := .cells #[.int .i64 ((rd_T43 l0 x15_1).f0), .bool false, .string ((rd_T43 l0 x15_1).f2)] 43 (0, 0)) hg (zK BK220.out)); revert n0_ n1_ n2_ n3_ n4_ n5_ n6_ n7_ n8_ n9_ n10_; clear HO_5 HO_6 HO229 HO242 BK220 HB; intro HO_5 HO_6 HO229 HO242 BK220 HB BK244 GW244 GE244 NB220_244 NB244_220; clear hb hbox hg; have hnb93 := NB244_220.out; have hnc93 := NB220_244.out; obtain ⟨hcz94_0, hcz94_1, hcz94_2, hcz94_3, hcz94_4, hcz94_5, hcz94_6, hcz94_7, hcz94_8, hcz94_9, hfz94_0, hfz94_1, hfz94_2, hfz94_3, hfz94_4, hfz94_5, hfz94_6, hfz94_7, hfz94_8, hfz94_9⟩ := zC10 BK244.out; obtain ⟨Ao95, co95, eo95⟩ := Kd.R_slice HO242.out; subst eo95))
         have n0_ : Aside0 (Kd.S k45 45 ((((((((((w92.setCell ⟨gb244, 0, none⟩ (.int .i64 t231)).setCell ⟨gb244, 1, none⟩ (.int .i64 t232)).setCell ⟨gb244, 2, none⟩ (.string t233)).setCell ⟨gb244, 3, none⟩ (.string t234)).setCell ⟨gb244, 4, none⟩ (.string t235)).setCell ⟨gb244, 5, none⟩ (.string t236)).setCell ⟨gb244, 6, none⟩ (.string t237)).setCell ⟨gb244, 7, none⟩ (.string t238)).setCell ⟨gb244, 8, none⟩ (.string t239)).setCell ⟨gb244, 9, none⟩ (.slice Ao95 t240.length co95)) w.heap.size (fun k_ => some k_ ≠ (.slice Ao88 t227.length co88 : Value).ownBlock ∧ some k_ ≠ (.slice Ao95 t240.length co95 : Value).ownBlock ∧ k_ ≠ gb244) u5 x5_1) := ⟨by (with_reducible repeat (first | apply Kd.S_alloc | apply Kd.S_drewN | apply Kd.S_drew)); exact Kd.S_mono (Kd.S_far (p := ⟨gb244, 9, none⟩) (Kd.S_far (p := ⟨gb244, 8, none⟩) (Kd.S_far (p := ⟨gb244, 7, none⟩) (Kd.S_far (p := ⟨gb244, 6, none⟩) (Kd.S_far (p := ⟨gb244, 5, none⟩) (Kd.S_far (p := ⟨gb244, 4, none⟩) (Kd.S_far (p := ⟨gb244, 3, none⟩) (Kd.S_far (p := ⟨gb244, 2, none⟩) (Kd.S_far (p := ⟨gb244, 1, none⟩) (Kd.S_far (p := ⟨gb244, 0, none⟩) (Kd.S_mono HO_5.out (fun k_ hk => (⟨hk, hk.2⟩ : _ ∧ k_ ≠ gb244))) (fun _ hk => hk.2) (.int .i64 t231)) (fun _ hk => hk.2) (.int .i64 t232)) (fun _ hk => hk.2) (.string t233)) (fun _ hk => hk.2) (.string t234)) (fun _ hk => hk.2) (.string t235)) (fun _ hk => hk.2) (.string t236)) (fun _ hk => hk.2) (.string t237)) (fun _ hk => hk.2) (.string t238)) (fun _ hk => hk.2) (.string t239)) (fun _ hk => hk.2) (.slice Ao95 t240.length co95)) (fun _ hk => ⟨hk.1.1.1.2, ⟨hk.1.1.2, hk.1.2⟩⟩)⟩
         have n1_ : Aside0 (Kd.R Kd.bool 4 ((((((((((w92.setCell ⟨gb244, 0, none⟩ (.int .i64 t231)).setCell ⟨gb244, 1, none⟩ (.int .i64 t232)).setCell ⟨gb244, 2, none⟩ (.string t233)).setCell ⟨gb244, 3, none⟩ (.string t234)).setCell ⟨gb244, 4, none⟩ (.string t235)).setCell ⟨gb244, 5, none⟩ (.string t236)).setCell ⟨gb244, 6, none⟩ (.string t237)).setCell ⟨gb244, 7, none⟩ (.string t238)).setCell ⟨gb244, 8, none⟩ (.string t239)).setCell ⟨gb244, 9, none⟩ (.slice Ao95 t240.length co95)) w.heap.size (fun _ => True) u6 x6_1) := ⟨by (with_reducible repeat (first | apply Kd.R_alloc | apply Kd.R_drewN | apply Kd.R_drew)); exact Kd.R_mono (zNT HO_6.out BK244.out) (fun _ hk => trivial)⟩
         have n2_ : Aside0 (Kd.R Kd.string 9 ((((((((((w92.setCell ⟨gb244, 0, none⟩ (.int .i64 t231)).setCell ⟨gb244, 1, none⟩ (.int .i64 t232)).setCell ⟨gb244, 2, none⟩ (.string t233)).setCell ⟨gb244, 3, none⟩ (.string t234)).setCell ⟨gb244, 4, none⟩ (.string t235)).setCell ⟨gb244, 5, none⟩ (.string t236)).setCell ⟨gb244, 6, none⟩ (.string t237)).setCell ⟨gb244, 7, none⟩ (.string t238)).setCell ⟨gb244, 8, none⟩ (.string t239)).setCell ⟨gb244, 9, none⟩ (.slice Ao95 t240.length co95)) w.heap.size (fun k_ => some k_ ≠ (.slice Ao95 t240.length co95 : Value).ownBlock) (.slice Ao88 t227.length co88) t227) := ⟨by (with_reducible repeat (first | apply Kd.R_alloc | apply Kd.R_drewN | apply Kd.R_drew)); exact Kd.R_mono (zNT HO229.out BK244.out) (fun _ hk => hk.1.2)⟩
         have n3_ : Aside0 (Kd.R Kd.string 9 ((((((((((w92.setCell ⟨gb244, 0, none⟩ (.int .i64 t231)).setCell ⟨gb244, 1, none⟩ (.int .i64 t232)).setCell ⟨gb244, 2, none⟩ (.string t233)).setCell ⟨gb244, 3, none⟩ (.string t234)).setCell ⟨gb244, 4, none⟩ (.string t235)).setCell ⟨gb244, 5, none⟩ (.string t236)).setCell ⟨gb244, 6, none⟩ (.string t237)).setCell ⟨gb244, 7, none⟩ (.string t238)).setCell ⟨gb244, 8, none⟩ (.string t239)).setCell ⟨gb244, 9, none⟩ (.slice Ao95 t240.length co95)) w.heap.size (fun k_ => some k_ ≠ (.slice Ao88 t227.length co88 : Value).ownBlock) (.slice Ao95 t240.length co95) t240) := ⟨by (with_reducible repeat (first | apply Kd.R_alloc | apply Kd.R_drewN | apply Kd.R_drew)); exact Kd.R_mono (zNT HO242.out BK244.out) (fun _ hk => hk.1.2)⟩
         have n4_ : Aside0 (((((((((((w92.setCell ⟨gb244, 0, none⟩ (.int .i64 t231)).setCell ⟨gb244, 1, none⟩ (.int .i64 t232)).setCell ⟨gb244, 2, none⟩ (.string t233)).setCell ⟨gb244, 3, none⟩ (.string t234)).setCell ⟨gb244, 4, none⟩ (.string t235)).setCell ⟨gb244, 5, none⟩ (.string t236)).setCell ⟨gb244, 6, none⟩ (.string t237)).setCell ⟨gb244, 7, none⟩ (.string t238)).setCell ⟨gb244, 8, none⟩ (.string t239)).setCell ⟨gb244, 9, none⟩ (.slice Ao95 t240.length co95)).heap[gb220]? = some (.cells #[.int .i64 ((rd_T43 l0 x15_1).f0), .bool false, .string ((rd_T43 l0 x15_1).f2)] 43 (0, 0))) := ⟨zK BK220.out⟩
         have n5_ : Aside0 (((((((((((w92.setCell ⟨gb244, 0, none⟩ (.int .i64 t231)).setCell ⟨gb244, 1, none⟩ (.int .i64 t232)).setCell ⟨gb244, 2, none⟩ (.string t233)).setCell ⟨gb244, 3, none⟩ (.string t234)).setCell ⟨gb244, 4, none⟩ (.string t235)).setCell ⟨gb244, 5, none⟩ (.string t236)).setCell ⟨gb244, 6, none⟩ (.string t237)).setCell ⟨gb244, 7, none⟩ (.string t238)).setCell ⟨gb244, 8, none⟩ (.string t239)).setCell ⟨gb244, 9, none⟩ (.slice Ao95 t240.length co95)).heap[gb244]? = some (.cells #[.int .i64 t231, .int .i64 t232, .string t233, .string t234, .string t235, .string t236, .string t237, .string t238, .string t239, .slice Ao95 t240.length co95] 45 (0, 0))) := ⟨zP10 BK244.out⟩
         have n6_ : Aside0 (Below w.heap.size w ((((((((((w92.setCell ⟨gb244, 0, none⟩ (.int .i64 t231)).setCell ⟨gb244, 1, none⟩ (.int .i64 t232)).setCell ⟨gb244, 2, none⟩ (.string t233)).setCell ⟨gb244, 3, none⟩ (.string t234)).setCell ⟨gb244, 4, none⟩ (.string t235)).setCell ⟨gb244, 5, none⟩ (.string t236)).setCell ⟨gb244, 6, none⟩ (.string t237)).setCell ⟨gb244, 7, none⟩ (.string t238)).setCell ⟨gb244, 8, none⟩ (.string t239)).setCell ⟨gb244, 9, none⟩ (.slice Ao95 t240.length co95))) := ⟨zL HB.out⟩
         (try clear HO_5)
         (try clear HO_6)
         (try clear HO229)
         (try clear HO242)
         (try clear BK220)
         (try clear BK244)
         (try clear HB)
         generalize ((((((((((w92.setCell ⟨gb244, 0, none⟩ (.int .i64 t231)).setCell ⟨gb244, 1, none⟩ (.int .i64 t232)).setCell ⟨gb244, 2, none⟩ (.string t233)).setCell ⟨gb244, 3, none⟩ (.string t234)).setCell ⟨gb244, 4, none⟩ (.string t235)).setCell ⟨gb244, 5, none⟩ (.string t236)).setCell ⟨gb244, 6, none⟩ (.string t237)).setCell ⟨gb244, 7, none⟩ (.string t238)).setCell ⟨gb244, 8, none⟩ (.string t239)).setCell ⟨gb244, 9, none⟩ (.slice Ao95 t240.length co95)) = w96 at n0_ n1_ n2_ n3_ n4_ n5_ n6_ ⊢
         have HO_5 := n0_
         have HO_6 := n1_
         have HO229 := n2_
         have HO242 := n3_
         have BK220 := n4_
         have BK244 := n5_
         have HB := n6_
         clear n0_ n1_ n2_ n3_ n4_ n5_ n6_
         have n0_ := Aside0.mk (Kd.S_drew HO_5.out)
         have n1_ := Aside0.mk (Kd.R_drew HO_6.out)
         have n2_ := Aside0.mk (Kd.R_drew HO229.out)
         have n3_ := Aside0.mk (Kd.R_drew HO242.out)
         have n4_ := Aside0.mk (blk_drew BK220.out)
         have n5_ := Aside0.mk (blk_drew BK244.out)
         have n6_ := Aside0.mk (below_drew1 HB.out)
         clear HO_5
         clear HO_6
         clear HO229
         clear HO242
         clear BK220
         clear BK244
         clear HB
         have HO_5 := n0_
         have HO_6 := n1_
         have HO229 := n2_
         have HO242 := n3_
         have BK220 := n4_
         have BK244 := n5_
         have HB := n6_
         clear n0_ n1_ n2_ n3_ n4_ n5_ n6_
         refine start_ (n := 5) (S := fun w' => w'.cell? ⟨gb220, 0, none⟩ = some (.int .i64 ((rd_T43 l0 x15_1).f0)) ∧ w'.cell? ⟨gb220, 1, none⟩ = some (.bool false) ∧ w'.cell? ⟨gb220, 2, none⟩ = some (.string ((rd_T43 l0 x15_1).f2))) (ds := []) #[false, false, false, false, false] (by kernel_rfl) rfl rfl ⟨(blk_cell BK220.out 0).trans rfl, (blk_cell BK220.out 1).trans rfl, (blk_cell BK220.out 2).trans rfl⟩ (fun hHeld => ?_)
         generalize w96.drew = w97 at HO_5 HO_6 HO229 HO242 BK220 BK244 HB hHeld ⊢
         refine pure_ (i := 0) (N := some 68) (v := ?_) (a' := ?_) #[true, false, false, false, false] rfl rfl (by kernel_rfl) (fun _ _ _ h => h) (Or.inl ⟨by rfl, ?_⟩) ?_ ?_
         rotate_left
         ·intro w'
          go_simp
          with_reducible rfl
         rotate_left
         ·simp only [Act.put, List.setIfInBounds_toArray, List.set_cons_zero, List.set_cons_succ, i64_w, i32_w]
          rfl
         refine pure_ (i := 2) (N := some 2) (v := ?_) (a' := ?_) #[true, false, true, false, false] rfl rfl (by kernel_rfl) (fun _ _ _ h => h) (Or.inl ⟨by rfl, ?_⟩) ?_ ?_
         rotate_left
         ·intro w'
          go_simp
          with_reducible rfl
         rotate_left
         ·simp only [Act.put, List.setIfInBounds_toArray, List.set_cons_zero, List.set_cons_succ, i64_w, i32_w]
          rfl
         refine pure_ (i := 3) (N := some 3) (v := ?_) (a' := ?_) #[true, false, true, true, false] rfl rfl (by kernel_rfl) (fun _ _ _ h => h) (Or.inl ⟨by rfl, ?_⟩) ?_ ?_
         rotate_left
         ·intro w'
          go_simp
          with_reducible rfl
         rotate_left
         ·simp only [Act.put, List.setIfInBounds_toArray, List.set_cons_zero, List.set_cons_succ, i64_w, i32_w]
          rfl
         refine take_ (i := 1) (N := some 69) (v := ?_) (a' := ?_) #[true, true, true, true, false] rfl rfl (by kernel_rfl) (fun _ _ _ h => h) (Or.inl ⟨by rfl, ?_⟩) hHeld ?_ ?_
         rotate_left
         ·rintro w' ⟨s0, s1, s2⟩
          go_simp
          with_reducible rfl
         rotate_left
         ·simp only [Act.put, List.setIfInBounds_toArray, List.set_cons_zero, List.set_cons_succ, i64_w, i32_w]
          rfl
         refine pure_ (i := 4) (N := some 4) (v := ?_) (a' := ?_) #[true, true, true, true, true] rfl rfl (by kernel_rfl) (fun _ _ _ h => h) (Or.inl ⟨by rfl, ?_⟩) ?_ ?_
         rotate_left
         ·intro w'
          go_simp
          with_reducible rfl
         rotate_left
         ·simp only [Act.put, List.setIfInBounds_toArray, List.set_cons_zero, List.set_cons_succ, i64_w, i32_w]
          rfl
         refine done_ (by kernel_rfl) ?_
         try go_wp2
         go_ret3
         exact ⟨_, zE, by first | exact Kd.S_nil _ _ _ _ _ | exact Kd.N_nil _ _ _ _ _ | exact Kd.V_nil _ _ _ _ _ | exact Kd.Q_nil _ _ _ _ _ | exact Kd.R_nil _ _ _ _ _, zL HB.out⟩
     ·rw [if_neg c4] at H
      exact absurd H (by simp)
    ·rw [if_neg c3] at H
     exact absurd H (by simp)
   ·rw [if_neg c2] at H
    have c2b0 : decide (x15_1 < (l0.length : Int)) = false := decide_eq_false c2
    clear c2
    by_cases c98 : (x6_1.length : Int) > 0
    ·rw [if_pos c98] at H
     have c98b0 : decide (0 < (x6_1.length : Int)) = true := decide_eq_true c98
     have c98b1 : decide (0 < x6_1.length) = true := decide_eq_true (by omega)
     clear c98
     simp only [Option.some.injEq, Prod.mk.injEq] at H
     obtain ⟨rfl, rfl, rfl⟩ := H
     obtain ⟨Ao99, co99, eo99⟩ := Kd.R_slice HO_6.out
     subst eo99
     go_wp2
     go_ret3
     exact ⟨_, zE, by first | exact Kd.S_nil _ _ _ _ _ | exact Kd.N_nil _ _ _ _ _ | exact Kd.V_nil _ _ _ _ _ | exact Kd.Q_nil _ _ _ _ _ | exact Kd.R_nil _ _ _ _ _, zL HB.out⟩
    ·rw [if_neg c98] at H
     have c98b0 : decide (0 < (x6_1.length : Int)) = false := decide_eq_false c98
     have c98b1 : decide (0 < x6_1.length) = false := decide_eq_false (by omega)
     clear c98
     simp only [Option.some.injEq, Prod.mk.injEq] at H
     obtain ⟨rfl, rfl, rfl⟩ := H
     obtain ⟨Ao100, co100, eo100⟩ := Kd.R_slice HO_6.out
     subst eo100
     go_wp2
     go_ret3
     exact ⟨_, zE, by (with_reducible repeat (first | apply Kd.S_alloc | apply Kd.S_drewN | apply Kd.S_drew)); exact HO_5.out, zL HB.out⟩

end Go.Proofs.YthnholondnfjoaaDoor.PParse
