-- Written by a program of this session (wip/tools/ext.py, over the kit's printer); not trusted: Lean checks it.
import Derived.Test.YthnholondnfjoaaDoorPParsex0
import Derived.Test.YthnholondnfjoaaDoorPParsex13
namespace Go.Proofs.YthnholondnfjoaaDoor.PParse
open Go.RowKit Go.Proofs.YthnholondnfjoaaDoorW.PrintWords Go.Proofs.YthnholondnfjoaaDoorW.PrintLast Go.Proofs.YthnholondnfjoaaDoorW.PrintMore
attribute [local go_sem] max2_int min2_int max_two min_two max_three min_three max_four min_four   -- for this text's walks alone
set_option linter.unusedVariables false
set_option linter.unusedSimpArgs false

/-! ### cooperageref9_Parse: function 13 -/
mutual
def cooperageref9_Parse.l0 : Nat → List (S53) → List (S64) → List Int → Int → Option ((List (S64)) × Int × Int)
 | 0, _, _, _, _ => none
 | k + 1, x0, x5, x6, x7 => if x7 < (x0.length : Int) then (if 0 ≤ x7 then (if (rd_T53 x0 x7).f1 = true then (if (x5.length : Int) = 0 then (some (([] : List (S64)), 2, (rd_T53 x0 x7).f0)) else (if 0 ≤ (wrap64 ((x5.length : Int) - 1)) then (if (wrap64 ((x5.length : Int) - 1)) < (x5.length : Int) then (if ((rd_T64 x5 (wrap64 ((x5.length : Int) - 1))).f0) = 2 then ((some (([] : List ByteArray) : List ByteArray)).bind fun y382 => (if y382.length + ((rd_T64 x5 (wrap64 ((x5.length : Int) - 1))).f9).length < 8796093022208 then ((some (y382 ++ ((rd_T64 x5 (wrap64 ((x5.length : Int) - 1))).f9) : List ByteArray)).bind fun y385 => (if y385.length < 8796093022208 then (cooperageref9_Parse.l0 k x0 (x5.set ((wrap64 ((x5.length : Int) - 1)) : Int).toNat (⟨(rd_T64 x5 (wrap64 ((x5.length : Int) - 1))).f0, (rd_T64 x5 (wrap64 ((x5.length : Int) - 1))).f1, (rd_T64 x5 (wrap64 ((x5.length : Int) - 1))).f2, (rd_T64 x5 (wrap64 ((x5.length : Int) - 1))).f3, (rd_T64 x5 (wrap64 ((x5.length : Int) - 1))).f4, (rd_T64 x5 (wrap64 ((x5.length : Int) - 1))).f5, (rd_T64 x5 (wrap64 ((x5.length : Int) - 1))).f6, (rd_T64 x5 (wrap64 ((x5.length : Int) - 1))).f7, (rd_T64 x5 (wrap64 ((x5.length : Int) - 1))).f8, (y385 ++ [(rd_T53 x0 x7).f2])⟩ : S64)) x6 (wrap64 (x7 + 1))) else (none))) else (none))) else (some (([] : List (S64)), 2, (rd_T53 x0 x7).f0))) else (none)) else (none))) else ((cooperageref9_one.f k ((rd_T53 x0 x7).f0) ((rd_T53 x0 x7).f1) ((rd_T53 x0 x7).f2)).bind fun bt395 => (if bt395.2.2.2.2.2.2.2.2.2.2 = true then (if bt395.1 = 3 then (if (x6.length : Int) = 20 then (some (([] : List (S64)), 15, (rd_T53 x0 x7).f0)) else (if x6.length < 17592186044416 then (cooperageref9_Parse.j1 k x0 x5 (x6 ++ [0]) x7 bt395.1 bt395.2.1 bt395.2.2.1 bt395.2.2.2.1 bt395.2.2.2.2.1 bt395.2.2.2.2.2.1 bt395.2.2.2.2.2.2.1 bt395.2.2.2.2.2.2.2.1 bt395.2.2.2.2.2.2.2.2.1 bt395.2.2.2.2.2.2.2.2.2.1) else (none))) else (cooperageref9_Parse.j1 k x0 x5 x6 x7 bt395.1 bt395.2.1 bt395.2.2.1 bt395.2.2.2.1 bt395.2.2.2.2.1 bt395.2.2.2.2.2.1 bt395.2.2.2.2.2.2.1 bt395.2.2.2.2.2.2.2.1 bt395.2.2.2.2.2.2.2.2.1 bt395.2.2.2.2.2.2.2.2.2.1)) else (some (([] : List (S64)), 2, (rd_T53 x0 x7).f0))))) else (none)) else (if (x6.length : Int) > 0 then (some (([] : List (S64)), 14, 0)) else (some (x5, 0, 0)))
def cooperageref9_Parse.j1 : Nat → List (S53) → List (S64) → List Int → Int → Int → Int → ByteArray → ByteArray → ByteArray → ByteArray → ByteArray → ByteArray → ByteArray → List ByteArray → Option ((List (S64)) × Int × Int)
 | 0, _, _, _, _, _, _, _, _, _, _, _, _, _, _ => none
 | k + 1, x0, x5, x6, x7, x409000, x409001, x409002, x409003, x409004, x409005, x409006, x409007, x409008, x409009 => if x409000 = 4 then (if (x6.length : Int) = 0 then (if 0 ≤ x7 then (if x7 < (x0.length : Int) then (some (([] : List (S64)), 2, (rd_T53 x0 x7).f0)) else (none)) else (none)) else (if 0 ≤ (wrap64 ((x6.length : Int) - 1)) then (if (wrap64 ((x6.length : Int) - 1)) < (x6.length : Int) then (if (rd x6 (wrap64 ((x6.length : Int) - 1))) > 0 then (if 0 ≤ x7 then (if x7 < (x0.length : Int) then (some (([] : List (S64)), 2, (rd_T53 x0 x7).f0)) else (none)) else (none)) else (cooperageref9_Parse.j2 k x0 x5 (x6.set ((wrap64 ((x6.length : Int) - 1)) : Int).toNat 1) x7 x409000 x409001 x409002 x409003 x409004 x409005 x409006 x409007 x409008 x409009)) else (none)) else (none))) else (cooperageref9_Parse.j2 k x0 x5 x6 x7 x409000 x409001 x409002 x409003 x409004 x409005 x409006 x409007 x409008 x409009)
def cooperageref9_Parse.j2 : Nat → List (S53) → List (S64) → List Int → Int → Int → Int → ByteArray → ByteArray → ByteArray → ByteArray → ByteArray → ByteArray → ByteArray → List ByteArray → Option ((List (S64)) × Int × Int)
 | 0, _, _, _, _, _, _, _, _, _, _, _, _, _, _ => none
 | k + 1, x0, x5, x6, x7, x409000, x409001, x409002, x409003, x409004, x409005, x409006, x409007, x409008, x409009 => if x409000 = 5 then (if (x6.length : Int) = 0 then (if 0 ≤ x7 then (if x7 < (x0.length : Int) then (some (([] : List (S64)), 2, (rd_T53 x0 x7).f0)) else (none)) else (none)) else (if 0 ≤ (wrap64 ((x6.length : Int) - 1)) then (if (wrap64 ((x6.length : Int) - 1)) ≤ (x6.length : Int) then (if x5.length < 925904528653 then (cooperageref9_Parse.l0 k x0 (x5 ++ [(⟨x409000, x409001, x409002, x409003, x409004, x409005, x409006, x409007, x409008, x409009⟩ : S64)]) (x6.take ((wrap64 ((x6.length : Int) - 1)) : Int).toNat) (wrap64 (x7 + 1))) else (none)) else (none)) else (none))) else (if x5.length < 925904528653 then (cooperageref9_Parse.l0 k x0 (x5 ++ [(⟨x409000, x409001, x409002, x409003, x409004, x409005, x409006, x409007, x409008, x409009⟩ : S64)]) x6 (wrap64 (x7 + 1))) else (none))
end
def cooperageref9_Parse.f (k : Nat) (l0 : List (S53)) : Option ((List (S64)) × Int × Int) := cooperageref9_Parse.l0 k l0 ([] : List (S64)) ([] : List Int) 0
theorem cooperageref9_Parse.mono_l : ∀ k, (∀ y0 y1 y2 y3, LeO (cooperageref9_Parse.l0 k y0 y1 y2 y3) (cooperageref9_Parse.l0 (k + 1) y0 y1 y2 y3)) ∧ (∀ y0 y1 y2 y3 y4 y5 y6 y7 y8 y9 y10 y11 y12 y13, LeO (cooperageref9_Parse.j1 k y0 y1 y2 y3 y4 y5 y6 y7 y8 y9 y10 y11 y12 y13) (cooperageref9_Parse.j1 (k + 1) y0 y1 y2 y3 y4 y5 y6 y7 y8 y9 y10 y11 y12 y13)) ∧ (∀ y0 y1 y2 y3 y4 y5 y6 y7 y8 y9 y10 y11 y12 y13, LeO (cooperageref9_Parse.j2 k y0 y1 y2 y3 y4 y5 y6 y7 y8 y9 y10 y11 y12 y13) (cooperageref9_Parse.j2 (k + 1) y0 y1 y2 y3 y4 y5 y6 y7 y8 y9 y10 y11 y12 y13))
 | 0 => ⟨fun _ _ _ _ r h => by simp [cooperageref9_Parse.l0] at h, fun _ _ _ _ _ _ _ _ _ _ _ _ _ _ r h => by simp [cooperageref9_Parse.j1] at h, fun _ _ _ _ _ _ _ _ _ _ _ _ _ _ r h => by simp [cooperageref9_Parse.j2] at h⟩
 | k + 1 => by
  obtain ⟨ih0, ih1, ih2⟩ := cooperageref9_Parse.mono_l k
  refine ⟨?_, ?_, ?_⟩
  ·intro y0 y1 y2 y3
   unfold cooperageref9_Parse.l0
   repeat' first
   | (with_reducible exact ih0 _ _ _ _)
   | (with_reducible exact ih1 _ _ _ _ _ _ _ _ _ _ _ _ _ _)
   | (with_reducible exact ih2 _ _ _ _ _ _ _ _ _ _ _ _ _ _)
   | (with_reducible exact cooperageref9_one.mono _ _ _ _)
   | (with_reducible exact LeO.refl _)
   | (with_reducible exact LeO.none _)
   | (with_reducible refine LeO.ite ?_ ?_)
   | (with_reducible refine LeO.bind ?_ (fun _ => ?_))
   | exact ih0 _ _ _ _
   | exact ih1 _ _ _ _ _ _ _ _ _ _ _ _ _ _
   | exact ih2 _ _ _ _ _ _ _ _ _ _ _ _ _ _
   | exact cooperageref9_one.mono _ _ _ _
   | exact LeO.none _
   | refine LeO.ite ?_ ?_
   | refine LeO.bind ?_ (fun _ => ?_)
  ·intro y0 y1 y2 y3 y4 y5 y6 y7 y8 y9 y10 y11 y12 y13
   unfold cooperageref9_Parse.j1
   repeat' first
   | (with_reducible exact ih0 _ _ _ _)
   | (with_reducible exact ih1 _ _ _ _ _ _ _ _ _ _ _ _ _ _)
   | (with_reducible exact ih2 _ _ _ _ _ _ _ _ _ _ _ _ _ _)
   | (with_reducible exact cooperageref9_one.mono _ _ _ _)
   | (with_reducible exact LeO.refl _)
   | (with_reducible exact LeO.none _)
   | (with_reducible refine LeO.ite ?_ ?_)
   | (with_reducible refine LeO.bind ?_ (fun _ => ?_))
   | exact ih0 _ _ _ _
   | exact ih1 _ _ _ _ _ _ _ _ _ _ _ _ _ _
   | exact ih2 _ _ _ _ _ _ _ _ _ _ _ _ _ _
   | exact cooperageref9_one.mono _ _ _ _
   | exact LeO.none _
   | refine LeO.ite ?_ ?_
   | refine LeO.bind ?_ (fun _ => ?_)
  ·intro y0 y1 y2 y3 y4 y5 y6 y7 y8 y9 y10 y11 y12 y13
   unfold cooperageref9_Parse.j2
   repeat' first
   | (with_reducible exact ih0 _ _ _ _)
   | (with_reducible exact ih1 _ _ _ _ _ _ _ _ _ _ _ _ _ _)
   | (with_reducible exact ih2 _ _ _ _ _ _ _ _ _ _ _ _ _ _)
   | (with_reducible exact cooperageref9_one.mono _ _ _ _)
   | (with_reducible exact LeO.refl _)
   | (with_reducible exact LeO.none _)
   | (with_reducible refine LeO.ite ?_ ?_)
   | (with_reducible refine LeO.bind ?_ (fun _ => ?_))
   | exact ih0 _ _ _ _
   | exact ih1 _ _ _ _ _ _ _ _ _ _ _ _ _ _
   | exact ih2 _ _ _ _ _ _ _ _ _ _ _ _ _ _
   | exact cooperageref9_one.mono _ _ _ _
   | exact LeO.none _
   | refine LeO.ite ?_ ?_
   | refine LeO.bind ?_ (fun _ => ?_)
theorem cooperageref9_Parse.mono : ∀ a0 k, LeO (cooperageref9_Parse.f k a0) (cooperageref9_Parse.f (k + 1) a0) := by
 intro a0 k
 obtain ⟨ih0, ih1, ih2⟩ := cooperageref9_Parse.mono_l k
 unfold cooperageref9_Parse.f
 repeat' first
   | (with_reducible exact ih0 _ _ _ _)
   | (with_reducible exact ih1 _ _ _ _ _ _ _ _ _ _ _ _ _ _)
   | (with_reducible exact ih2 _ _ _ _ _ _ _ _ _ _ _ _ _ _)
   | (with_reducible exact cooperageref9_one.mono _ _ _ _)
   | (with_reducible exact LeO.refl _)
   | (with_reducible exact LeO.none _)
   | (with_reducible refine LeO.ite ?_ ?_)
   | (with_reducible refine LeO.bind ?_ (fun _ => ?_))
   | exact ih0 _ _ _ _
   | exact ih1 _ _ _ _ _ _ _ _ _ _ _ _ _ _
   | exact ih2 _ _ _ _ _ _ _ _ _ _ _ _ _ _
   | exact cooperageref9_one.mono _ _ _ _
   | exact LeO.none _
   | refine LeO.ite ?_ ?_
   | refine LeO.bind ?_ (fun _ => ?_)
set_option maxHeartbeats 8000000 in
set_option maxRecDepth 100000 in
theorem cooperageref9_Parse.calls (k : Nat) (A0 : Option Addr) (c0 : Nat) (l0 : List (S53)) (r1 : List (S64)) (r2 : Int) (r3 : Int) (w : World) (hr0 : Kd.C k53 w A0 l0.length l0) (hc0 : l0.length ≤ c0) (h : cooperageref9_Parse.f k l0 = some (r1, r2, r3)) :
  Calls Tryd.prog 13 #[.slice A0 l0.length c0] w fun e w' => ∃ v0_ : Value, e = .returned (.tuple #[v0_, .int .i64 r2, .int .i64 r3]) ∧ Kd.S k64 64 w' w.heap.size (fun _ => True) v0_ r1 ∧ Below w.heap.size w w' := by
 have hu64 := Tryd.underlying64
 have hu53 := Tryd.underlying53
 have HR0 := Aside0.mk hr0
 have HC0 := Aside0.mk hc0
 clear hr0 hc0
 have HB := Aside0.mk (Below.refl w.heap.size w)
 have H : (cooperageref9_Parse.l0 k l0 ([] : List (S64)) ([] : List Int) 0) = some (r1, r2, r3) := h
 clear h
 have H' := Aside0.mk H
 clear H
 go_enter Tryd.func13, Tryd.ntmps13
 go_wp2
 repeat (go_quiet (fail); try go_wp2)
 go_loopg [5, 6, 7] k (fun kq v5 v6 v7 w' => ∃ (x5_1 : List (S64)) (x6_1 : List Int) (x7_1 : Int), v7 = .int .i64 x7_1 ∧ Aside0 (cooperageref9_Parse.l0 kq l0 x5_1 x6_1 x7_1 = some (r1, r2, r3)) ∧ Aside0 (kq ≤ k) ∧ Aside0 (Kd.S k64 64 w' w.heap.size (fun _ => True) v5 x5_1) ∧ Aside0 (Kd.R (Kd.int .i64) 3 w' w.heap.size (fun _ => True) v6 x6_1) ∧ Aside0 (Below w.heap.size w w'))
 case atStart => exact ⟨(([] : List (S64))), (([] : List Int)), (0), zS, H', ⟨Nat.le_refl _⟩, ⟨by first | exact Kd.S_nil _ _ _ _ _ | exact Kd.N_nil _ _ _ _ _ | exact Kd.V_nil _ _ _ _ _ | exact Kd.Q_nil _ _ _ _ _ | exact Kd.R_nil _ _ _ _ _⟩, ⟨by first | exact Kd.R_nil _ _ _ _ _ | exact Kd.N_nil _ _ _ _ _ | exact Kd.V_nil _ _ _ _ _ | exact Kd.Q_nil _ _ _ _ _ | exact Kd.S_nil _ _ _ _ _⟩, ⟨zL HB.out⟩⟩
 case round =>
  clear H'
  obtain ⟨x5_1, x6_1, x7_1, rfl, HA, HK1, HO_5, HO_6, HB⟩ := hrel
  cases gk with
  | zero => exact absurd HA.out (by simp [cooperageref9_Parse.l0])
  | succ k1 =>
   have H := HA.out
   clear HA
   simp only [cooperageref9_Parse.l0] at H
   by_cases c2 : x7_1 < (l0.length : Int)
   ·rw [if_pos c2] at H
    have c2b0 := decide_eq_true c2
    clear c2
    by_cases c3 : 0 ≤ x7_1
    ·rw [if_pos c3] at H
     have c3b0 := decide_eq_true c3
     clear c3
     obtain ⟨bq4, hbq4⟩ : ∃ b_ : Bool, b_ = ((rd_T53 l0 x7_1).f1) := ⟨_, rfl⟩
     replace H : (if bq4 = true then (if (x5_1.length : Int) = 0 then (some (([] : List (S64)), 2, (rd_T53 l0 x7_1).f0)) else (if 0 ≤ (wrap64 ((x5_1.length : Int) - 1)) then (if (wrap64 ((x5_1.length : Int) - 1)) < (x5_1.length : Int) then (if ((rd_T64 x5_1 (wrap64 ((x5_1.length : Int) - 1))).f0) = 2 then ((some (([] : List ByteArray) : List ByteArray)).bind fun y382 => (if y382.length + ((rd_T64 x5_1 (wrap64 ((x5_1.length : Int) - 1))).f9).length < 8796093022208 then ((some (y382 ++ ((rd_T64 x5_1 (wrap64 ((x5_1.length : Int) - 1))).f9) : List ByteArray)).bind fun y385 => (if y385.length < 8796093022208 then (cooperageref9_Parse.l0 k1 l0 (x5_1.set ((wrap64 ((x5_1.length : Int) - 1)) : Int).toNat (⟨(rd_T64 x5_1 (wrap64 ((x5_1.length : Int) - 1))).f0, (rd_T64 x5_1 (wrap64 ((x5_1.length : Int) - 1))).f1, (rd_T64 x5_1 (wrap64 ((x5_1.length : Int) - 1))).f2, (rd_T64 x5_1 (wrap64 ((x5_1.length : Int) - 1))).f3, (rd_T64 x5_1 (wrap64 ((x5_1.length : Int) - 1))).f4, (rd_T64 x5_1 (wrap64 ((x5_1.length : Int) - 1))).f5, (rd_T64 x5_1 (wrap64 ((x5_1.length : Int) - 1))).f6, (rd_T64 x5_1 (wrap64 ((x5_1.length : Int) - 1))).f7, (rd_T64 x5_1 (wrap64 ((x5_1.length : Int) - 1))).f8, (y385 ++ [(rd_T53 l0 x7_1).f2])⟩ : S64)) x6_1 (wrap64 (x7_1 + 1))) else (none))) else (none))) else (some (([] : List (S64)), 2, (rd_T53 l0 x7_1).f0))) else (none)) else (none))) else ((cooperageref9_one.f k1 ((rd_T53 l0 x7_1).f0) (bq4) ((rd_T53 l0 x7_1).f2)).bind fun bt395 => (if bt395.2.2.2.2.2.2.2.2.2.2 = true then (if bt395.1 = 3 then (if (x6_1.length : Int) = 20 then (some (([] : List (S64)), 15, (rd_T53 l0 x7_1).f0)) else (if x6_1.length < 17592186044416 then (cooperageref9_Parse.j1 k1 l0 x5_1 (x6_1 ++ [0]) x7_1 bt395.1 bt395.2.1 bt395.2.2.1 bt395.2.2.2.1 bt395.2.2.2.2.1 bt395.2.2.2.2.2.1 bt395.2.2.2.2.2.2.1 bt395.2.2.2.2.2.2.2.1 bt395.2.2.2.2.2.2.2.2.1 bt395.2.2.2.2.2.2.2.2.2.1) else (none))) else (cooperageref9_Parse.j1 k1 l0 x5_1 x6_1 x7_1 bt395.1 bt395.2.1 bt395.2.2.1 bt395.2.2.2.1 bt395.2.2.2.2.1 bt395.2.2.2.2.2.1 bt395.2.2.2.2.2.2.1 bt395.2.2.2.2.2.2.2.1 bt395.2.2.2.2.2.2.2.2.1 bt395.2.2.2.2.2.2.2.2.2.1)) else (some (([] : List (S64)), 2, (rd_T53 l0 x7_1).f0))))) = some (r1, r2, r3) := by rw [← hbq4] at H; exact H
     have Nbq4 := Aside0.mk hbq4
     clear hbq4
     by_cases c5 : bq4 = true
     ·subst c5
      rw [if_pos rfl] at H
      by_cases c6 : (x5_1.length : Int) = 0
      ·rw [if_pos c6] at H
       have c6b0 := beq_iff_eq.mpr c6
       have c6b1 := bne_eq_false_iff_eq.mpr c6
       clear c6
       simp only [Option.some.injEq, Prod.mk.injEq] at H
       obtain ⟨rfl, rfl, rfl⟩ := H
       have p377 : 0 ≤ (x7_1 : Int) := zD
       have q377 : x7_1 < (l0.length : Int) := zD
       obtain ⟨ad377, e377, hx377_0, hx377_1, hx377_2⟩ := at_T53 HR0.out x7_1 p377 q377
       (try rw [← Nbq4.out] at hx377_1)
       cases e377
       replace hx377_0 := zX HB.out hx377_0
       replace hx377_1 := zX HB.out hx377_1
       replace hx377_2 := zX HB.out hx377_2
       replace p377 := eq_true p377
       replace q377 := eq_true q377
       obtain ⟨Ao7, co7, eo7⟩ := Kd.S_slice HO_5.out
       subst eo7
       have p378 : 0 ≤ (x7_1 : Int) := zD
       have q378 : x7_1 < (l0.length : Int) := zD
       obtain ⟨ad378, e378, hx378_0, hx378_1, hx378_2⟩ := at_T53 HR0.out x7_1 p378 q378
       (try rw [← Nbq4.out] at hx378_1)
       obtain rfl : ad377 = ad378 := (by injection e378)
       replace hx378_0 := zX HB.out hx378_0
       replace hx378_1 := zX HB.out hx378_1
       replace hx378_2 := zX HB.out hx378_2
       replace p378 := eq_true p378
       replace q378 := eq_true q378
       go_wp2
       repeat (go_quiet (fail); try go_wp2)
       go_ret3
       exact ⟨_, zE, by first | exact Kd.S_nil _ _ _ _ _ | exact Kd.N_nil _ _ _ _ _ | exact Kd.V_nil _ _ _ _ _ | exact Kd.Q_nil _ _ _ _ _ | exact Kd.R_nil _ _ _ _ _, zL HB.out⟩
      rw [if_neg c6] at H
      have c6b0 := beq_eq_false_iff_ne.mpr c6
      have c6b1 := bne_iff_ne.mpr c6
      have c6b2 : ¬ (x5_1 = []) := fun h_ => c6 (by rw [h_]; rfl)
      obtain ⟨ji8, hji8⟩ : ∃ j_ : Int, (wrap64 ((x5_1.length : Int) - 1)) = j_ := ⟨_, rfl⟩
      replace H : (if 0 ≤ (ji8) then (if (ji8) < (x5_1.length : Int) then (if ((rd_T64 x5_1 (ji8)).f0) = 2 then ((some (([] : List ByteArray) : List ByteArray)).bind fun y382 => (if y382.length + ((rd_T64 x5_1 (ji8)).f9).length < 8796093022208 then ((some (y382 ++ ((rd_T64 x5_1 (ji8)).f9) : List ByteArray)).bind fun y385 => (if y385.length < 8796093022208 then (cooperageref9_Parse.l0 k1 l0 (x5_1.set ((ji8) : Int).toNat (⟨(rd_T64 x5_1 (ji8)).f0, (rd_T64 x5_1 (ji8)).f1, (rd_T64 x5_1 (ji8)).f2, (rd_T64 x5_1 (ji8)).f3, (rd_T64 x5_1 (ji8)).f4, (rd_T64 x5_1 (ji8)).f5, (rd_T64 x5_1 (ji8)).f6, (rd_T64 x5_1 (ji8)).f7, (rd_T64 x5_1 (ji8)).f8, (y385 ++ [(rd_T53 l0 x7_1).f2])⟩ : S64)) x6_1 (wrap64 (x7_1 + 1))) else (none))) else (none))) else (some (([] : List (S64)), 2, (rd_T53 l0 x7_1).f0))) else (none)) else (none)) = some (r1, r2, r3) := by first | (rw [hji8] at H; exact H) | (simp only [hji8] at H ⊢; exact H)
      have hji8w : (IntKind.i64.wrap ((x5_1.length : Int) - 1)) = ji8 := (i64_w _).trans hji8
      by_cases c9 : 0 ≤ (ji8)
      ·rw [if_pos c9] at H
       have c9b0 := decide_eq_true c9
       clear c9
       by_cases c10 : (ji8) < (x5_1.length : Int)
       ·rw [if_pos c10] at H
        have c10b0 := decide_eq_true c10
        clear c10
        by_cases c11 : ((rd_T64 x5_1 (ji8)).f0) = 2
        ·rw [if_pos c11] at H
         have c11b0 := beq_iff_eq.mpr c11
         have c11b1 := bne_eq_false_iff_eq.mpr c11
         clear c11
         obtain ⟨y382, hy382⟩ : ∃ y_ : List ByteArray, y_ = (([] : List ByteArray)) := ⟨_, rfl⟩
         replace H : (if y382.length + ((rd_T64 x5_1 (ji8)).f9).length < 8796093022208 then ((some (y382 ++ ((rd_T64 x5_1 (ji8)).f9) : List ByteArray)).bind fun y385 => (if y385.length < 8796093022208 then (cooperageref9_Parse.l0 k1 l0 (x5_1.set ((ji8) : Int).toNat (⟨(rd_T64 x5_1 (ji8)).f0, (rd_T64 x5_1 (ji8)).f1, (rd_T64 x5_1 (ji8)).f2, (rd_T64 x5_1 (ji8)).f3, (rd_T64 x5_1 (ji8)).f4, (rd_T64 x5_1 (ji8)).f5, (rd_T64 x5_1 (ji8)).f6, (rd_T64 x5_1 (ji8)).f7, (rd_T64 x5_1 (ji8)).f8, (y385 ++ [(rd_T53 l0 x7_1).f2])⟩ : S64)) x6_1 (wrap64 (x7_1 + 1))) else (none))) else (none)) = some (r1, r2, r3) := zH hy382 H
         have Ny382 := Aside0.mk hy382
         clear hy382
         by_cases c12 : y382.length + ((rd_T64 x5_1 (ji8)).f9).length < 8796093022208
         ·rw [if_pos c12] at H
          have LMc12 := Aside0.mk c12
          clear c12
          obtain ⟨y385, hy385⟩ : ∃ y_ : List ByteArray, y_ = (y382 ++ ((rd_T64 x5_1 (ji8)).f9)) := ⟨_, rfl⟩
          replace H : (if y385.length < 8796093022208 then (cooperageref9_Parse.l0 k1 l0 (x5_1.set ((ji8) : Int).toNat (⟨(rd_T64 x5_1 (ji8)).f0, (rd_T64 x5_1 (ji8)).f1, (rd_T64 x5_1 (ji8)).f2, (rd_T64 x5_1 (ji8)).f3, (rd_T64 x5_1 (ji8)).f4, (rd_T64 x5_1 (ji8)).f5, (rd_T64 x5_1 (ji8)).f6, (rd_T64 x5_1 (ji8)).f7, (rd_T64 x5_1 (ji8)).f8, (y385 ++ [(rd_T53 l0 x7_1).f2])⟩ : S64)) x6_1 (wrap64 (x7_1 + 1))) else (none)) = some (r1, r2, r3) := zH hy385 H
          have Ny385 := Aside0.mk hy385
          clear hy385
          by_cases c13 : y385.length < 8796093022208
          ·rw [if_pos c13] at H
           have LMc13 := Aside0.mk c13
           clear c13
           obtain ⟨y389, hy389⟩ : ∃ y_ : List ByteArray, y_ = (y385 ++ [(rd_T53 l0 x7_1).f2]) := ⟨_, rfl⟩
           replace H : (cooperageref9_Parse.l0 k1 l0 (x5_1.set ((ji8) : Int).toNat (⟨(rd_T64 x5_1 (ji8)).f0, (rd_T64 x5_1 (ji8)).f1, (rd_T64 x5_1 (ji8)).f2, (rd_T64 x5_1 (ji8)).f3, (rd_T64 x5_1 (ji8)).f4, (rd_T64 x5_1 (ji8)).f5, (rd_T64 x5_1 (ji8)).f6, (rd_T64 x5_1 (ji8)).f7, (rd_T64 x5_1 (ji8)).f8, y389⟩ : S64)) x6_1 (wrap64 (x7_1 + 1))) = some (r1, r2, r3) := zH hy389 H
           have Ny389 := Aside0.mk hy389
           clear hy389
           obtain ⟨y392, hy392⟩ : ∃ y_ : List (S64), y_ = (x5_1.set ((ji8) : Int).toNat (⟨(rd_T64 x5_1 (ji8)).f0, (rd_T64 x5_1 (ji8)).f1, (rd_T64 x5_1 (ji8)).f2, (rd_T64 x5_1 (ji8)).f3, (rd_T64 x5_1 (ji8)).f4, (rd_T64 x5_1 (ji8)).f5, (rd_T64 x5_1 (ji8)).f6, (rd_T64 x5_1 (ji8)).f7, (rd_T64 x5_1 (ji8)).f8, y389⟩ : S64)) := ⟨_, rfl⟩
           replace H : (cooperageref9_Parse.l0 k1 l0 y392 x6_1 (wrap64 (x7_1 + 1))) = some (r1, r2, r3) := zH hy392 H
           have Ny392 := Aside0.mk hy392
           clear hy392
           have H' := Aside0.mk H
           clear H
           have p377 : 0 ≤ (x7_1 : Int) := zD
           have q377 : x7_1 < (l0.length : Int) := zD
           obtain ⟨ad377, e377, hx377_0, hx377_1, hx377_2⟩ := at_T53 HR0.out x7_1 p377 q377
           (try rw [← Nbq4.out] at hx377_1)
           cases e377
           replace hx377_0 := zX HB.out hx377_0
           replace hx377_1 := zX HB.out hx377_1
           replace hx377_2 := zX HB.out hx377_2
           replace p377 := eq_true p377
           replace q377 := eq_true q377
           obtain ⟨Ao15, co15, eo15⟩ := Kd.S_slice HO_5.out
           subst eo15
           have p379 : 0 ≤ ((ji8) : Int) := zD
           have q379 : (ji8) < (x5_1.length : Int) := zD
           obtain ⟨ad379, A379_9, c379_9, e379, hx379_0, hx379_1, hx379_2, hx379_3, hx379_4, hx379_5, hx379_6, hx379_7, hx379_8, hx379_9, hl379_9, hi379_9⟩ := at_T64 (Kd.S_reads' HO_5.out).2.2 (ji8) p379 q379
           cases e379
           obtain ⟨ce379, hce379, hMe379, hcc379⟩ := Kd.S_get HO_5.out z64 (ji8) p379 (by first | exact q379 | exact zD | (have e_ := (Kd.S_reads' HO_5.out).1; omega))
           obtain ⟨ve379_9, rfl, ge379_9⟩ := k64_openM hMe379
           have hv379_9 := hcc379 9 _ rfl
           rw [add_field _ _ 9 (by omega)] at hv379_9
           replace hv379_9 := Option.some.inj (hv379_9.symm.trans hx379_9)
           rw [hv379_9] at ge379_9
           have HL379_9 := Aside0.mk (show Kd.R Kd.string 9 _ _ _ _ ((rd_T64 x5_1 (ji8)).f9) from ge379_9)
           clear hv379_9 ge379_9
           clear hcc379 hce379
           have HR379_9 := Aside0.mk hi379_9
           have HC379_9 := Aside0.mk hl379_9
           clear hi379_9 hl379_9
           replace p379 := eq_true p379
           replace q379 := eq_true q379
           have p380 : 0 ≤ ((ji8) : Int) := zD
           have q380 : (ji8) < (x5_1.length : Int) := zD
           obtain ⟨ad380, A380_9, c380_9, e380, hx380_0, hx380_1, hx380_2, hx380_3, hx380_4, hx380_5, hx380_6, hx380_7, hx380_8, hx380_9, hl380_9, hi380_9⟩ := at_T64 (Kd.S_reads' HO_5.out).2.2 (ji8) p380 q380
           obtain rfl : ad379 = ad380 := (by injection e380)
           obtain ⟨ce380, hce380, hMe380, hcc380⟩ := Kd.S_get HO_5.out z64 (ji8) p380 (by first | exact q380 | exact zD | (have e_ := (Kd.S_reads' HO_5.out).1; omega))
           obtain ⟨ve380_9, rfl, ge380_9⟩ := k64_openM hMe380
           have hv380_9 := hcc380 9 _ rfl
           rw [add_field _ _ 9 (by omega)] at hv380_9
           replace hv380_9 := Option.some.inj (hv380_9.symm.trans hx380_9)
           rw [hv380_9] at ge380_9
           have HL380_9 := Aside0.mk (show Kd.R Kd.string 9 _ _ _ _ ((rd_T64 x5_1 (ji8)).f9) from ge380_9)
           clear hv380_9 ge380_9
           clear hcc380 hce380
           have HR380_9 := Aside0.mk hi380_9
           have HC380_9 := Aside0.mk hl380_9
           clear hi380_9 hl380_9
           replace p380 := eq_true p380
           replace q380 := eq_true q380
           have ea_ := Option.some.inj (hx379_9.symm.trans hx380_9)
           injection ea_ with ea_ en_ ec_
           subst ea_
           subst ec_
           clear en_
           have F_ := trivial
           repeat ((first | clear F_ | go_quiet (fail)); try go_wp2_with (first | ((with_reducible refine gate_dst (N := 8) rfl ?_); (try (refine gate_guard (by rfl) ?_; dsimp only)); refine box_event ?hg (N := 8) ?hd (cs := #[.int .i64 0, .int .i64 0, .string ⟨#[]⟩, .string ⟨#[]⟩, .string ⟨#[]⟩, .string ⟨#[]⟩, .string ⟨#[]⟩, .string ⟨#[]⟩, .string ⟨#[]⟩, .slice none 0 0]) (t := 64) ?hr ?_; (case hd => rfl); (case hg => rfl); (case hr => (go_simp; try rfl)); intro gb381 hg w16 hbox hb; replace HO_5 := Aside0.mk (Kd.S_below (Kd.S_elderB (zRS HO_5.out) gb381 (Nat.le_of_eq hg.symm)) hb); replace HO_6 := Aside0.mk (Kd.R_below (zR HO_6.out) hb); replace HL379_9 := Aside0.mk (Kd.R_below (zR HL379_9.out) hb); replace HL380_9 := Aside0.mk (Kd.R_below (zR HL380_9.out) hb); replace HR379_9 := Aside0.mk (zCB HR379_9.out hb); replace HR380_9 := Aside0.mk (zCB HR380_9.out hb); have BK381 := Aside0.mk (hbox); have GW381 := Aside0.mk (zG hg (zL HB.out)); have GE381 := Aside0.mk (zG hg (zL HB.out)); replace HB := Aside0.mk (below_step (zL HB.out) hb); clear hb hbox hg; obtain ⟨hcz17_0, hcz17_1, hcz17_2, hcz17_3, hcz17_4, hcz17_5, hcz17_6, hcz17_7, hcz17_8, hcz17_9, hfz17_0, hfz17_1, hfz17_2, hfz17_3, hfz17_4, hfz17_5, hfz17_6, hfz17_7, hfz17_8, hfz17_9⟩ := zC10 BK381.out) | ((with_reducible refine gate_dst (N := 47) rfl ?_); (try (refine gate_guard (by rfl) ?_; dsimp only)); refine Kd.R_lit Kd.string _ 9 ?hg (N := 47) ?hd (xs := ([] : List ByteArray)) (inner := []) (ok := fun _ => True) (okp := fun _ => True) ?hr ?hp (fun _ hk => hk) trivial (Below.refl _ _) (Nat.le_refl _) (by simp) ?_; (case hd => rfl); (case hg => rfl); (case hr => (go_simp; try rfl)); (case hp => exact (Reps.none _ _)); intro v383 w18 ho19 hb hg_ hnew_; clear hg_ hnew_; (first | rw [← Ny382.out] at ho19 | (simp only [Int.reduceToNat] at ho19; rw [← Ny382.out] at ho19)); replace HO_5 := Aside0.mk (Kd.S_elder' (zMS HO_5.out (g := gb381) (fun _ hk => hk.2)) (Kd.R_base ho19) hb); replace HO_6 := Aside0.mk (Kd.R_below (zT HO_6.out BK381.out) hb); have HO384 := Aside0.mk (Kd.R_lower (Kd.R_new' (Kd.R_new' ho19 (Kd.R_lt (zT HL379_9.out BK381.out))) (Kd.R_lt (zT HL380_9.out BK381.out))) (below_size (zL HB.out))); replace HR379_9 := Aside0.mk (Kd.C_below ((Kd.R_reads' (zT HL379_9.out BK381.out)).2.2) hb); replace HL379_9 := Aside0.mk (Kd.R_elder' (zT HL379_9.out BK381.out) (Kd.R_base ho19) hb); replace HR380_9 := Aside0.mk (Kd.C_below ((Kd.R_reads' (zT HL380_9.out BK381.out)).2.2) hb); replace HL380_9 := Aside0.mk (Kd.R_elder' (zT HL380_9.out BK381.out) (Kd.R_base ho19) hb); replace BK381 := Aside0.mk (blk_below (g := gb381) (o := .cells #[.int .i64 ((rd_T64 x5_1 (ji8)).f0), .int .i64 ((rd_T64 x5_1 (ji8)).f1), .string ((rd_T64 x5_1 (ji8)).f2), .string ((rd_T64 x5_1 (ji8)).f3), .string ((rd_T64 x5_1 (ji8)).f4), .string ((rd_T64 x5_1 (ji8)).f5), .string ((rd_T64 x5_1 (ji8)).f6), .string ((rd_T64 x5_1 (ji8)).f7), .string ((rd_T64 x5_1 (ji8)).f8), .slice A379_9 ((rd_T64 x5_1 (ji8)).f9).length c379_9] 64 (0, 0)) (zP10 BK381.out) hb); replace HB := Aside0.mk (below_step (zL HB.out) hb); clear hb ho19; obtain ⟨hcz20_0, hcz20_1, hcz20_2, hcz20_3, hcz20_4, hcz20_5, hcz20_6, hcz20_7, hcz20_8, hcz20_9, hfz20_0, hfz20_1, hfz20_2, hfz20_3, hfz20_4, hfz20_5, hfz20_6, hfz20_7, hfz20_8, hfz20_9⟩ := zC10 BK381.out) | ((with_reducible refine gate_builtin (b := .append) (xs := #[.tmp 47, .tmp 49]) rfl ?_); (try (refine gate_guard (by rfl) ?_; dsimp only)); at_builtin; refine Kd.R_append_rows Kd.string (w0 := w) w.heap.size rfl (.tmp 47) (.tmp 49) 37 9 (.string ⟨#[]⟩) 16 rfl Tryd.underlying37 info9 rfl (by decide) (by omega) v383 y382 ((rd_T64 x5_1 (ji8)).f9) _ _ _ (fun k_ => some k_ ≠ (.slice A379_9 ((rd_T64 x5_1 (ji8)).f9).length c379_9 : Value).ownBlock ∧ some k_ ≠ (.slice A379_9 ((rd_T64 x5_1 (ji8)).f9).length c379_9 : Value).ownBlock) (fun _ => False) rfl rfl ?aO ?aR (fun _ _ h => h) (fun _ h => h.elim) ?aF ?aB ?aS ?aL ?_; (case aR => repeat (first | exact (by repeat (first | (with_reducible exact HR380_9.out) | (with_reducible refine Kd.C_alloc ?_ _) | (with_reducible refine Kd.C_drewN ?_ _) | (with_reducible refine Kd.C_drew ?_) | exact HR380_9.out)) | (with_reducible refine Kd.C_alloc ?_ _) | (with_reducible refine Kd.C_drewN ?_ _) | (with_reducible refine Kd.C_drew ?_))); (case aB => exact (zL HB.out)); (case aF => exact (fun k_ hk => ⟨Kd.fresh' (Kd.R_lt (zR HL379_9.out)) k_ hk, Kd.fresh' (Kd.R_lt (zR HL380_9.out)) k_ hk⟩)); (case aO => exact (by (with_reducible repeat (first | apply Kd.R_alloc | apply Kd.R_drewN | apply Kd.R_drew)); exact Kd.R_mono HO384.out (fun _ hk => ⟨hk.1.2, hk.2⟩))); (case aS => exact (below_size (zL HB.out))); (case aL => have := LMc12.out; omega); intro v386 w21 ho hb hg hat; rw [← Ny385.out] at ho; replace HO_5 := Aside0.mk (Kd.S_after (ok := (fun k_ => k_ ≠ gb381)) (by (with_reducible repeat (first | apply Kd.S_alloc | apply Kd.S_drewN | apply Kd.S_drew)); exact Kd.S_mono HO_5.out (fun _ hk => ⟨hk.1.2, hk.2⟩)) hg hat); replace HO_6 := Aside0.mk (Kd.R_over' (zR HO_6.out) (Kd.R_typed (zR HO384.out)) (by decide) hg); replace HL379_9 := Aside0.mk (Kd.R_after (ok := (fun k_ => some k_ ≠ (.slice (some ad379) x5_1.length co15 : Value).ownBlock)) (by (with_reducible repeat (first | apply Kd.R_alloc | apply Kd.R_drewN | apply Kd.R_drew)); exact Kd.R_mono HL379_9.out (fun _ hk => ⟨hk.1.2, hk.2⟩)) hg hat); replace HL380_9 := Aside0.mk (Kd.R_after (ok := (fun k_ => some k_ ≠ (.slice (some ad379) x5_1.length co15 : Value).ownBlock)) (by (with_reducible repeat (first | apply Kd.R_alloc | apply Kd.R_drewN | apply Kd.R_drew)); exact Kd.R_mono HL380_9.out (fun _ hk => ⟨hk.1.2, hk.2⟩)) hg hat); replace BK381 := Aside0.mk (blk_grown (g := gb381) (o := .cells #[.int .i64 ((rd_T64 x5_1 (ji8)).f0), .int .i64 ((rd_T64 x5_1 (ji8)).f1), .string ((rd_T64 x5_1 (ji8)).f2), .string ((rd_T64 x5_1 (ji8)).f3), .string ((rd_T64 x5_1 (ji8)).f4), .string ((rd_T64 x5_1 (ji8)).f5), .string ((rd_T64 x5_1 (ji8)).f6), .string ((rd_T64 x5_1 (ji8)).f7), .string ((rd_T64 x5_1 (ji8)).f8), .slice A379_9 ((rd_T64 x5_1 (ji8)).f9).length c379_9] 64 (0, 0)) (zK BK381.out) hg (Kd.R_ne HO384.out BK381.out (by decide))); replace HB := Aside0.mk (hb); have HO387 := Aside0.mk (ho); clear HO384; clear ho hb hg hat; have p388 : 0 ≤ (x7_1 : Int) := zD; have q388 : x7_1 < (l0.length : Int) := zD; obtain ⟨ad388, e388, hx388_0, hx388_1, hx388_2⟩ := at_T53 HR0.out x7_1 p388 q388; (try rw [← Nbq4.out] at hx388_1); obtain rfl : ad377 = ad388 := (by injection e388); replace hx388_0 := zX HB.out hx388_0; replace hx388_1 := zX HB.out hx388_1; replace hx388_2 := zX HB.out hx388_2; replace p388 := eq_true p388; replace q388 := eq_true q388) | ((with_reducible refine gate_builtin (b := .append) (xs := #[.tmp 51, .tmp 57]) rfl ?_); (try (refine gate_guard (by rfl) ?_; dsimp only)); at_builtin; refine Kd.R_append Kd.string (w0 := w) w.heap.size rfl (.tmp 51) (.tmp 57) 37 9 (.string ⟨#[]⟩) 16 rfl Tryd.underlying37 info9 rfl (by decide) (by omega) v386 y385 ((rd_T53 l0 x7_1).f2) [.string ((rd_T53 l0 x7_1).f2)] (fun k_ => some k_ ≠ (.slice A379_9 ((rd_T64 x5_1 (ji8)).f9).length c379_9 : Value).ownBlock ∧ some k_ ≠ (.slice A379_9 ((rd_T64 x5_1 (ji8)).f9).length c379_9 : Value).ownBlock) (fun _ => False) rfl rfl ?aP (fun _ hk => hk.elim) ?aF ?aO ?aB ?aS ?aL ?_; (case aP => exact rfl); (case aB => exact (zL HB.out)); (case aF => exact (fun k_ hk => ⟨Kd.fresh' (Kd.R_lt (zR HL379_9.out)) k_ hk, Kd.fresh' (Kd.R_lt (zR HL380_9.out)) k_ hk⟩)); (case aO => exact (zR HO387.out)); (case aS => exact (below_size (zL HB.out))); (case aL => have := LMc13.out; omega); intro v390 w22 ho hb hg hat; rw [← Ny389.out] at ho; replace HO_5 := Aside0.mk (Kd.S_after (ok := (fun k_ => k_ ≠ gb381)) (zRS HO_5.out) hg hat); replace HO_6 := Aside0.mk (Kd.R_over' (zR HO_6.out) (Kd.R_typed (zR HO387.out)) (by decide) hg); replace HL379_9 := Aside0.mk (Kd.R_after (ok := (fun k_ => some k_ ≠ (.slice (some ad379) x5_1.length co15 : Value).ownBlock)) (zR HL379_9.out) hg hat); replace HL380_9 := Aside0.mk (Kd.R_after (ok := (fun k_ => some k_ ≠ (.slice (some ad379) x5_1.length co15 : Value).ownBlock)) (zR HL380_9.out) hg hat); replace BK381 := Aside0.mk (blk_grown (g := gb381) (o := .cells #[.int .i64 ((rd_T64 x5_1 (ji8)).f0), .int .i64 ((rd_T64 x5_1 (ji8)).f1), .string ((rd_T64 x5_1 (ji8)).f2), .string ((rd_T64 x5_1 (ji8)).f3), .string ((rd_T64 x5_1 (ji8)).f4), .string ((rd_T64 x5_1 (ji8)).f5), .string ((rd_T64 x5_1 (ji8)).f6), .string ((rd_T64 x5_1 (ji8)).f7), .string ((rd_T64 x5_1 (ji8)).f8), .slice A379_9 ((rd_T64 x5_1 (ji8)).f9).length c379_9] 64 (0, 0)) (zK BK381.out) hg (Kd.R_ne HO387.out BK381.out (by decide))); replace HB := Aside0.mk (hb); have HO391 := Aside0.mk (ho); clear HO387; clear ho hb hg hat; obtain ⟨Ao23, co23, eo23⟩ := Kd.R_slice HO391.out; subst eo23; obtain ⟨hcz24_0, hcz24_1, hcz24_2, hcz24_3, hcz24_4, hcz24_5, hcz24_6, hcz24_7, hcz24_8, hcz24_9, hfz24_0, hfz24_1, hfz24_2, hfz24_3, hfz24_4, hfz24_5, hfz24_6, hfz24_7, hfz24_8, hfz24_9⟩ := zC10 BK381.out) | ((with_reducible refine gate_store (t := 37) (p := 60) rfl ?_); (try (rw [drewN_self w22]; generalize hq_ : World.drewN w22 _ = w22; have n0_ := Aside0.mk (Kd.S_at hq_ HO_5.out); have n1_ := Aside0.mk (Kd.R_at hq_ HO_6.out); have n2_ := Aside0.mk (Kd.R_at hq_ HL379_9.out); have n3_ := Aside0.mk (Kd.R_at hq_ HL380_9.out); have n4_ := Aside0.mk (Kd.R_at hq_ HO391.out); have n5_ := Aside0.mk (blk_at hq_ BK381.out); have n6_ := Aside0.mk (below_at hq_ HB.out); clear hq_ HO_5 HO_6 HL379_9 HL380_9 HO391 BK381 HB; have HO_5 := n0_; have HO_6 := n1_; have HL379_9 := n2_; have HL380_9 := n3_; have HO391 := n4_; have BK381 := n5_; have HB := n6_; clear n0_ n1_ n2_ n3_ n4_ n5_ n6_; (try (obtain ⟨hcz24_0, hcz24_1, hcz24_2, hcz24_3, hcz24_4, hcz24_5, hcz24_6, hcz24_7, hcz24_8, hcz24_9, hfz24_0, hfz24_1, hfz24_2, hfz24_3, hfz24_4, hfz24_5, hfz24_6, hfz24_7, hfz24_8, hfz24_9⟩ := zC10 BK381.out)))); refine store_event (t := 37) (p := 60) (v := ?vo_w25) (w1 := (w22.setCell ⟨gb381, 9, none⟩ (.slice Ao23 y389.length co23))) ?hg ?ho ?hn ?hr ?_; (case ho => rfl); (case hg => rfl); (case hn => rfl); (case hr => (go_simp; try rfl)); intro w25 hw; have n0_ : Aside0 (Kd.S k64 64 w25 w.heap.size (fun k_ => some k_ ≠ (.slice Ao23 y389.length co23 : Value).ownBlock ∧ k_ ≠ gb381) (.slice (some ad379) x5_1.length co15) x5_1) := ⟨(by rw [hw]; exact (by (with_reducible repeat (first | apply Kd.S_alloc | apply Kd.S_drewN | apply Kd.S_drew)); exact Kd.S_mono (zNMS HO_5.out (g := gb381) (fun _ hk => hk.1)) (fun _ hk => ⟨hk.1.2, hk.1.1⟩)))⟩; have n1_ : Aside0 (Kd.R (Kd.int .i64) 3 w25 w.heap.size (fun _ => True) u6 x6_1) := ⟨(by rw [hw]; exact (by (with_reducible repeat (first | apply Kd.R_alloc | apply Kd.R_drewN | apply Kd.R_drew)); exact Kd.R_mono (zNT HO_6.out BK381.out) (fun _ hk => trivial)))⟩; have n2_ : Aside0 (Kd.R Kd.string 9 w25 w.heap.size (fun k_ => some k_ ≠ (.slice (some ad379) x5_1.length co15 : Value).ownBlock ∧ some k_ ≠ (.slice Ao23 y389.length co23 : Value).ownBlock) (.slice A379_9 ((rd_T64 x5_1 (ji8)).f9).length c379_9) ((rd_T64 x5_1 (ji8)).f9)) := ⟨(by rw [hw]; exact (by (with_reducible repeat (first | apply Kd.R_alloc | apply Kd.R_drewN | apply Kd.R_drew)); exact Kd.R_mono (zNT HL379_9.out BK381.out) (fun _ hk => ⟨hk.1.1, hk.1.2⟩)))⟩; have n3_ : Aside0 (Kd.R Kd.string 9 w25 w.heap.size (fun k_ => some k_ ≠ (.slice (some ad379) x5_1.length co15 : Value).ownBlock ∧ some k_ ≠ (.slice Ao23 y389.length co23 : Value).ownBlock) (.slice A379_9 ((rd_T64 x5_1 (ji8)).f9).length c379_9) ((rd_T64 x5_1 (ji8)).f9)) := ⟨(by rw [hw]; exact (by (with_reducible repeat (first | apply Kd.R_alloc | apply Kd.R_drewN | apply Kd.R_drew)); exact Kd.R_mono (zNT HL380_9.out BK381.out) (fun _ hk => ⟨hk.1.1, hk.1.2⟩)))⟩; have n4_ : Aside0 (Kd.R Kd.string 9 w25 w.heap.size (fun k_ => some k_ ≠ (.slice A379_9 ((rd_T64 x5_1 (ji8)).f9).length c379_9 : Value).ownBlock ∧ some k_ ≠ (.slice A379_9 ((rd_T64 x5_1 (ji8)).f9).length c379_9 : Value).ownBlock) (.slice Ao23 y389.length co23) y389) := ⟨(by rw [hw]; exact (by (with_reducible repeat (first | apply Kd.R_alloc | apply Kd.R_drewN | apply Kd.R_drew)); exact Kd.R_mono (zNT HO391.out BK381.out) (fun _ hk => ⟨hk.1.1, hk.1.2⟩)))⟩; have n5_ : Aside0 (w25.heap[gb381]? = some (.cells #[.int .i64 ((rd_T64 x5_1 (ji8)).f0), .int .i64 ((rd_T64 x5_1 (ji8)).f1), .string ((rd_T64 x5_1 (ji8)).f2), .string ((rd_T64 x5_1 (ji8)).f3), .string ((rd_T64 x5_1 (ji8)).f4), .string ((rd_T64 x5_1 (ji8)).f5), .string ((rd_T64 x5_1 (ji8)).f6), .string ((rd_T64 x5_1 (ji8)).f7), .string ((rd_T64 x5_1 (ji8)).f8), .slice Ao23 y389.length co23] 64 (0, 0))) := ⟨(by rw [hw]; exact (by (with_reducible repeat (first | refine blk_drewN ?_ _ | refine blk_drew ?_ | refine blk_alloc ?_ _)); refine blk_put (cs := #[.int .i64 ((rd_T64 x5_1 (ji8)).f0), .int .i64 ((rd_T64 x5_1 (ji8)).f1), .string ((rd_T64 x5_1 (ji8)).f2), .string ((rd_T64 x5_1 (ji8)).f3), .string ((rd_T64 x5_1 (ji8)).f4), .string ((rd_T64 x5_1 (ji8)).f5), .string ((rd_T64 x5_1 (ji8)).f6), .string ((rd_T64 x5_1 (ji8)).f7), .string ((rd_T64 x5_1 (ji8)).f8), .slice A379_9 ((rd_T64 x5_1 (ji8)).f9).length c379_9]) ?_ 9 _ rfl; (with_reducible repeat (first | refine blk_drewN ?_ _ | refine blk_drew ?_ | refine blk_alloc ?_ _)); exact BK381.out))⟩; have n6_ : Aside0 (Below w.heap.size w w25) := ⟨(by rw [hw]; exact (zL HB.out))⟩; clear hw; revert n0_ n1_ n2_ n3_ n4_ n5_ n6_; clear HO_5 HO_6 HL379_9 HL380_9 HO391 BK381 HB; intro HO_5 HO_6 HL379_9 HL380_9 HO391 BK381 HB; obtain ⟨hcz26_0, hcz26_1, hcz26_2, hcz26_3, hcz26_4, hcz26_5, hcz26_6, hcz26_7, hcz26_8, hcz26_9, hfz26_0, hfz26_1, hfz26_2, hfz26_3, hfz26_4, hfz26_5, hfz26_6, hfz26_7, hfz26_8, hfz26_9⟩ := zC10 BK381.out; have p14 : 0 ≤ ((ji8) : Int) := zD; have q14 : ((ji8) : Int) < ((x5_1.length : Int) : Int) := zD; obtain ⟨go14, co14, eo14, gb14, gl14, cl14, HG14⟩ := Kd.S_form HO_5.out (by omega); (first | cases eo14 | (injection eo14 with ea_ en_ ec_; (first | subst ea_ | (injection ea_ with ea_; subst ea_)); subst ec_; clear en_)); have GB14 := Aside0.mk gb14; have GG14 := Aside0.mk HG14; clear gb14 gl14 HG14; (first | simp only [add_plain] at hx379_0 | skip); (first | simp only [add_plain] at hx379_1 | skip); (first | simp only [add_plain] at hx379_2 | skip); (first | simp only [add_plain] at hx379_3 | skip); (first | simp only [add_plain] at hx379_4 | skip); (first | simp only [add_plain] at hx379_5 | skip); (first | simp only [add_plain] at hx379_6 | skip); (first | simp only [add_plain] at hx379_7 | skip); (first | simp only [add_plain] at hx379_8 | skip); (first | simp only [add_plain] at hx379_9 | skip); (first | simp only [add_plain] at hx380_0 | skip); (first | simp only [add_plain] at hx380_1 | skip); (first | simp only [add_plain] at hx380_2 | skip); (first | simp only [add_plain] at hx380_3 | skip); (first | simp only [add_plain] at hx380_4 | skip); (first | simp only [add_plain] at hx380_5 | skip); (first | simp only [add_plain] at hx380_6 | skip); (first | simp only [add_plain] at hx380_7 | skip); (first | simp only [add_plain] at hx380_8 | skip); (first | simp only [add_plain] at hx380_9 | skip); obtain ⟨_, ce14, hcl14, hM14, hcc14, hfr14, _, _⟩ := Kd.S_elem HO_5.out z64 ((ji8) : Int) p14 q14; obtain ⟨ve14_9, rfl, ge14_9⟩ := k64_openM hM14; have hx14_0 : w25.cell? ⟨go14, ((ji8) : Int).toNat * 10, none⟩ = some (.int .i64 ((rd_T64 x5_1 (ji8)).f0)) := hcc14 0 _ rfl; have hx14_1 : w25.cell? ⟨go14, ((ji8) : Int).toNat * 10 + 1, none⟩ = some (.int .i64 ((rd_T64 x5_1 (ji8)).f1)) := hcc14 1 _ rfl; have hx14_2 : w25.cell? ⟨go14, ((ji8) : Int).toNat * 10 + 2, none⟩ = some (.string ((rd_T64 x5_1 (ji8)).f2)) := hcc14 2 _ rfl; have hx14_3 : w25.cell? ⟨go14, ((ji8) : Int).toNat * 10 + 3, none⟩ = some (.string ((rd_T64 x5_1 (ji8)).f3)) := hcc14 3 _ rfl; have hx14_4 : w25.cell? ⟨go14, ((ji8) : Int).toNat * 10 + 4, none⟩ = some (.string ((rd_T64 x5_1 (ji8)).f4)) := hcc14 4 _ rfl; have hx14_5 : w25.cell? ⟨go14, ((ji8) : Int).toNat * 10 + 5, none⟩ = some (.string ((rd_T64 x5_1 (ji8)).f5)) := hcc14 5 _ rfl; have hx14_6 : w25.cell? ⟨go14, ((ji8) : Int).toNat * 10 + 6, none⟩ = some (.string ((rd_T64 x5_1 (ji8)).f6)) := hcc14 6 _ rfl; have hx14_7 : w25.cell? ⟨go14, ((ji8) : Int).toNat * 10 + 7, none⟩ = some (.string ((rd_T64 x5_1 (ji8)).f7)) := hcc14 7 _ rfl; have hx14_8 : w25.cell? ⟨go14, ((ji8) : Int).toNat * 10 + 8, none⟩ = some (.string ((rd_T64 x5_1 (ji8)).f8)) := hcc14 8 _ rfl; have hx14_9 : w25.cell? ⟨go14, ((ji8) : Int).toNat * 10 + 9, none⟩ = some (ve14_9) := hcc14 9 _ rfl; have hf14_0 : w25.frozen? ⟨go14, ((ji8) : Int).toNat * 10, none⟩ = false := hfr14 0; have hf14_1 : w25.frozen? ⟨go14, ((ji8) : Int).toNat * 10 + 1, none⟩ = false := hfr14 1; have hf14_2 : w25.frozen? ⟨go14, ((ji8) : Int).toNat * 10 + 2, none⟩ = false := hfr14 2; have hf14_3 : w25.frozen? ⟨go14, ((ji8) : Int).toNat * 10 + 3, none⟩ = false := hfr14 3; have hf14_4 : w25.frozen? ⟨go14, ((ji8) : Int).toNat * 10 + 4, none⟩ = false := hfr14 4; have hf14_5 : w25.frozen? ⟨go14, ((ji8) : Int).toNat * 10 + 5, none⟩ = false := hfr14 5; have hf14_6 : w25.frozen? ⟨go14, ((ji8) : Int).toNat * 10 + 6, none⟩ = false := hfr14 6; have hf14_7 : w25.frozen? ⟨go14, ((ji8) : Int).toNat * 10 + 7, none⟩ = false := hfr14 7; have hf14_8 : w25.frozen? ⟨go14, ((ji8) : Int).toNat * 10 + 8, none⟩ = false := hfr14 8; have hf14_9 : w25.frozen? ⟨go14, ((ji8) : Int).toNat * 10 + 9, none⟩ = false := hfr14 9; clear hcl14 hcc14 hfr14 hM14; replace p14 := eq_true p14; replace q14 := eq_true q14; have HX27 := Aside0.mk (show Kd.S k64 64 w25 w.heap.size (fun k_ => ((fun k_ => k_ ≠ gb381)) k_ ∧ ¬ ((fun k_ => some k_ = (.slice Ao23 y389.length co23 : Value).ownBlock)) k_) (.slice (some ⟨go14, 0, none⟩) x5_1.length co15) x5_1 from (by (with_reducible repeat (first | apply Kd.S_alloc | apply Kd.S_drewN | apply Kd.S_drew)); exact Kd.S_mono HO_5.out (fun k_ hk => ⟨hk.2, fun e_ => hk.1 e_⟩))); obtain ⟨oki27, ce27, hcl27, hM27, hcc27, hfr27, hoki27, hH27⟩ := Kd.S_elem HX27.out z64 ((ji8) : Int) zD (by have h_ : ((ji8) : Int) < ((x5_1.length : Int) : Int) := zD; first | exact h_ | (have e_ := (Kd.S_reads' HO_5.out).1; omega) | simpa using h_); obtain ⟨ve27_9, rfl, ge27_9⟩ := k64_openM hM27; have HP27 := Kd.S_seg hH27 zD (by have h_ : ((ji8) : Int) < ((x5_1.length : Int) : Int) := zD; first | exact h_ | (have e_ := (Kd.S_reads' HO_5.out).1; omega) | simpa using h_) (seg := [.int .i64 ((rd_T64 x5_1 (ji8)).f0), .int .i64 ((rd_T64 x5_1 (ji8)).f1), .string ((rd_T64 x5_1 (ji8)).f2), .string ((rd_T64 x5_1 (ji8)).f3), .string ((rd_T64 x5_1 (ji8)).f4), .string ((rd_T64 x5_1 (ji8)).f5), .string ((rd_T64 x5_1 (ji8)).f6), .string ((rd_T64 x5_1 (ji8)).f7), .string ((rd_T64 x5_1 (ji8)).f8), .slice Ao23 y389.length co23]) (j := 0) (show 10 ≤ 10 from by decide) (x' := (⟨(rd_T64 x5_1 (ji8)).f0, (rd_T64 x5_1 (ji8)).f1, (rd_T64 x5_1 (ji8)).f2, (rd_T64 x5_1 (ji8)).f3, (rd_T64 x5_1 (ji8)).f4, (rd_T64 x5_1 (ji8)).f5, (rd_T64 x5_1 (ji8)).f6, (rd_T64 x5_1 (ji8)).f7, (rd_T64 x5_1 (ji8)).f8, y389⟩ : S64)) (k64_mkM _ _ _ (⟨(rd_T64 x5_1 (ji8)).f0, (rd_T64 x5_1 (ji8)).f1, (rd_T64 x5_1 (ji8)).f2, (rd_T64 x5_1 (ji8)).f3, (rd_T64 x5_1 (ji8)).f4, (rd_T64 x5_1 (ji8)).f5, (rd_T64 x5_1 (ji8)).f6, (rd_T64 x5_1 (ji8)).f7, (rd_T64 x5_1 (ji8)).f8, y389⟩ : S64) (Kd.R_mono (Kd.R_tight rfl (Kd.R_mono (ok' := fun k_ => ((fun k_ => k_ ≠ gb381)) k_ ∧ k_ ≠ go14) (Kd.R_types (Kd.R_apart' (HO391.out) (Kd.S_typed HO_5.out) (by decide)) BK381.out (by decide)) (fun k_ hk => ⟨hk.2, fun e_ => (hk.1.2) (by rw [e_]; rfl)⟩))) (fun _ h_ => Or.inr (h_)))) (fun _ hk => hk) (fun k_ hk_ => ((Kd.R_mono (ok' := fun k_ => ((fun k_ => k_ ≠ gb381)) k_ ∧ k_ ≠ go14) (Kd.R_types (Kd.R_apart' (HO391.out) (Kd.S_typed HO_5.out) (by decide)) BK381.out (by decide)) (fun k_ hk => ⟨hk.2, fun e_ => (hk.1.2) (by rw [e_]; rfl)⟩))).1 k_ hk_.symm); have hx27_0 := hcc27 0 _ rfl; (try simp only [show (k64).sz = 10 from rfl, Nat.mul_one, Nat.add_zero] at hx27_0); have hf27_0 := hfr27 0; (try simp only [show (k64).sz = 10 from rfl, Nat.mul_one, Nat.add_zero] at hf27_0); have hx27_1 := hcc27 1 _ rfl; (try simp only [show (k64).sz = 10 from rfl, Nat.mul_one, Nat.add_zero] at hx27_1); have hf27_1 := hfr27 1; (try simp only [show (k64).sz = 10 from rfl, Nat.mul_one, Nat.add_zero] at hf27_1); have hx27_2 := hcc27 2 _ rfl; (try simp only [show (k64).sz = 10 from rfl, Nat.mul_one, Nat.add_zero] at hx27_2); have hf27_2 := hfr27 2; (try simp only [show (k64).sz = 10 from rfl, Nat.mul_one, Nat.add_zero] at hf27_2); have hx27_3 := hcc27 3 _ rfl; (try simp only [show (k64).sz = 10 from rfl, Nat.mul_one, Nat.add_zero] at hx27_3); have hf27_3 := hfr27 3; (try simp only [show (k64).sz = 10 from rfl, Nat.mul_one, Nat.add_zero] at hf27_3); have hx27_4 := hcc27 4 _ rfl; (try simp only [show (k64).sz = 10 from rfl, Nat.mul_one, Nat.add_zero] at hx27_4); have hf27_4 := hfr27 4; (try simp only [show (k64).sz = 10 from rfl, Nat.mul_one, Nat.add_zero] at hf27_4); have hx27_5 := hcc27 5 _ rfl; (try simp only [show (k64).sz = 10 from rfl, Nat.mul_one, Nat.add_zero] at hx27_5); have hf27_5 := hfr27 5; (try simp only [show (k64).sz = 10 from rfl, Nat.mul_one, Nat.add_zero] at hf27_5); have hx27_6 := hcc27 6 _ rfl; (try simp only [show (k64).sz = 10 from rfl, Nat.mul_one, Nat.add_zero] at hx27_6); have hf27_6 := hfr27 6; (try simp only [show (k64).sz = 10 from rfl, Nat.mul_one, Nat.add_zero] at hf27_6); have hx27_7 := hcc27 7 _ rfl; (try simp only [show (k64).sz = 10 from rfl, Nat.mul_one, Nat.add_zero] at hx27_7); have hf27_7 := hfr27 7; (try simp only [show (k64).sz = 10 from rfl, Nat.mul_one, Nat.add_zero] at hf27_7); have hx27_8 := hcc27 8 _ rfl; (try simp only [show (k64).sz = 10 from rfl, Nat.mul_one, Nat.add_zero] at hx27_8); have hf27_8 := hfr27 8; (try simp only [show (k64).sz = 10 from rfl, Nat.mul_one, Nat.add_zero] at hf27_8); have hx27_9 := hcc27 9 _ rfl; (try simp only [show (k64).sz = 10 from rfl, Nat.mul_one, Nat.add_zero] at hx27_9); have hf27_9 := hfr27 9; (try simp only [show (k64).sz = 10 from rfl, Nat.mul_one, Nat.add_zero] at hf27_9); clear hcl27 hcc27 hfr27 hM27 hoki27 hH27) | ((with_reducible refine gate_store (t := 64) (p := 66) rfl ?_); (try (rw [drewN_self w25]; generalize hq_ : World.drewN w25 _ = w25; have n0_ := Aside0.mk (Kd.S_at hq_ HO_5.out); have n1_ := Aside0.mk (Kd.R_at hq_ HO_6.out); have n2_ := Aside0.mk (Kd.R_at hq_ HL379_9.out); have n3_ := Aside0.mk (Kd.R_at hq_ HL380_9.out); have n4_ := Aside0.mk (blk_at hq_ BK381.out); have n5_ := Aside0.mk (below_at hq_ HB.out); clear hq_ HO_5 HO_6 HL379_9 HL380_9 BK381 HB; have HO_5 := n0_; have HO_6 := n1_; have HL379_9 := n2_; have HL380_9 := n3_; have BK381 := n4_; have HB := n5_; clear n0_ n1_ n2_ n3_ n4_ n5_; (try (have HX27 := Aside0.mk (show Kd.S k64 64 w25 w.heap.size (fun k_ => ((fun k_ => k_ ≠ gb381)) k_ ∧ ¬ ((fun k_ => some k_ = (.slice Ao23 y389.length co23 : Value).ownBlock)) k_) (.slice (some ⟨go14, 0, none⟩) x5_1.length co15) x5_1 from (by (with_reducible repeat (first | apply Kd.S_alloc | apply Kd.S_drewN | apply Kd.S_drew)); exact Kd.S_mono HO_5.out (fun k_ hk => ⟨hk.2, fun e_ => hk.1 e_⟩))))); (try (obtain ⟨oki27, ce27, hcl27, hM27, hcc27, hfr27, hoki27, hH27⟩ := Kd.S_elem HX27.out z64 ((ji8) : Int) zD (by have h_ : ((ji8) : Int) < ((x5_1.length : Int) : Int) := zD; first | exact h_ | (have e_ := (Kd.S_reads' HO_5.out).1; omega) | simpa using h_))); (try (obtain ⟨ve27_9, rfl, ge27_9⟩ := k64_openM hM27)); (try (have HP27 := Kd.S_seg hH27 zD (by have h_ : ((ji8) : Int) < ((x5_1.length : Int) : Int) := zD; first | exact h_ | (have e_ := (Kd.S_reads' HO_5.out).1; omega) | simpa using h_) (seg := [.int .i64 ((rd_T64 x5_1 (ji8)).f0), .int .i64 ((rd_T64 x5_1 (ji8)).f1), .string ((rd_T64 x5_1 (ji8)).f2), .string ((rd_T64 x5_1 (ji8)).f3), .string ((rd_T64 x5_1 (ji8)).f4), .string ((rd_T64 x5_1 (ji8)).f5), .string ((rd_T64 x5_1 (ji8)).f6), .string ((rd_T64 x5_1 (ji8)).f7), .string ((rd_T64 x5_1 (ji8)).f8), .slice Ao23 y389.length co23]) (j := 0) (show 10 ≤ 10 from by decide) (x' := (⟨(rd_T64 x5_1 (ji8)).f0, (rd_T64 x5_1 (ji8)).f1, (rd_T64 x5_1 (ji8)).f2, (rd_T64 x5_1 (ji8)).f3, (rd_T64 x5_1 (ji8)).f4, (rd_T64 x5_1 (ji8)).f5, (rd_T64 x5_1 (ji8)).f6, (rd_T64 x5_1 (ji8)).f7, (rd_T64 x5_1 (ji8)).f8, y389⟩ : S64)) (k64_mkM _ _ _ (⟨(rd_T64 x5_1 (ji8)).f0, (rd_T64 x5_1 (ji8)).f1, (rd_T64 x5_1 (ji8)).f2, (rd_T64 x5_1 (ji8)).f3, (rd_T64 x5_1 (ji8)).f4, (rd_T64 x5_1 (ji8)).f5, (rd_T64 x5_1 (ji8)).f6, (rd_T64 x5_1 (ji8)).f7, (rd_T64 x5_1 (ji8)).f8, y389⟩ : S64) (Kd.R_mono (Kd.R_tight rfl (Kd.R_mono (ok' := fun k_ => ((fun k_ => k_ ≠ gb381)) k_ ∧ k_ ≠ go14) (Kd.R_types (Kd.R_apart' (HO391.out) (Kd.S_typed HO_5.out) (by decide)) BK381.out (by decide)) (fun k_ hk => ⟨hk.2, fun e_ => (hk.1.2) (by rw [e_]; rfl)⟩))) (fun _ h_ => Or.inr (h_)))) (fun _ hk => hk) (fun k_ hk_ => ((Kd.R_mono (ok' := fun k_ => ((fun k_ => k_ ≠ gb381)) k_ ∧ k_ ≠ go14) (Kd.R_types (Kd.R_apart' (HO391.out) (Kd.S_typed HO_5.out) (by decide)) BK381.out (by decide)) (fun k_ hk => ⟨hk.2, fun e_ => (hk.1.2) (by rw [e_]; rfl)⟩))).1 k_ hk_.symm))); (try (have hx27_0 := hcc27 0 _ rfl)); (try (try simp only [show (k64).sz = 10 from rfl, Nat.mul_one, Nat.add_zero] at hx27_0)); (try (have hf27_0 := hfr27 0)); (try (try simp only [show (k64).sz = 10 from rfl, Nat.mul_one, Nat.add_zero] at hf27_0)); (try (have hx27_1 := hcc27 1 _ rfl)); (try (try simp only [show (k64).sz = 10 from rfl, Nat.mul_one, Nat.add_zero] at hx27_1)); (try (have hf27_1 := hfr27 1)); (try (try simp only [show (k64).sz = 10 from rfl, Nat.mul_one, Nat.add_zero] at hf27_1)); (try (have hx27_2 := hcc27 2 _ rfl)); (try (try simp only [show (k64).sz = 10 from rfl, Nat.mul_one, Nat.add_zero] at hx27_2)); (try (have hf27_2 := hfr27 2)); (try (try simp only [show (k64).sz = 10 from rfl, Nat.mul_one, Nat.add_zero] at hf27_2)); (try (have hx27_3 := hcc27 3 _ rfl)); (try (try simp only [show (k64).sz = 10 from rfl, Nat.mul_one, Nat.add_zero] at hx27_3)); (try (have hf27_3 := hfr27 3)); (try (try simp only [show (k64).sz = 10 from rfl, Nat.mul_one, Nat.add_zero] at hf27_3)); (try (have hx27_4 := hcc27 4 _ rfl)); (try (try simp only [show (k64).sz = 10 from rfl, Nat.mul_one, Nat.add_zero] at hx27_4)); (try (have hf27_4 := hfr27 4)); (try (try simp only [show (k64).sz = 10 from rfl, Nat.mul_one, Nat.add_zero] at hf27_4)); (try (have hx27_5 := hcc27 5 _ rfl)); (try (try simp only [show (k64).sz = 10 from rfl, Nat.mul_one, Nat.add_zero] at hx27_5)); (try (have hf27_5 := hfr27 5)); (try (try simp only [show (k64).sz = 10 from rfl, Nat.mul_one, Nat.add_zero] at hf27_5)); (try (have hx27_6 := hcc27 6 _ rfl)); (try (try simp only [show (k64).sz = 10 from rfl, Nat.mul_one, Nat.add_zero] at hx27_6)); (try (have hf27_6 := hfr27 6)); (try (try simp only [show (k64).sz = 10 from rfl, Nat.mul_one, Nat.add_zero] at hf27_6)); (try (have hx27_7 := hcc27 7 _ rfl)); (try (try simp only [show (k64).sz = 10 from rfl, Nat.mul_one, Nat.add_zero] at hx27_7)); (try (have hf27_7 := hfr27 7)); (try (try simp only [show (k64).sz = 10 from rfl, Nat.mul_one, Nat.add_zero] at hf27_7)); (try (have hx27_8 := hcc27 8 _ rfl)); (try (try simp only [show (k64).sz = 10 from rfl, Nat.mul_one, Nat.add_zero] at hx27_8)); (try (have hf27_8 := hfr27 8)); (try (try simp only [show (k64).sz = 10 from rfl, Nat.mul_one, Nat.add_zero] at hf27_8)); (try (have hx27_9 := hcc27 9 _ rfl)); (try (try simp only [show (k64).sz = 10 from rfl, Nat.mul_one, Nat.add_zero] at hx27_9)); (try (have hf27_9 := hfr27 9)); (try (try simp only [show (k64).sz = 10 from rfl, Nat.mul_one, Nat.add_zero] at hf27_9)); (try (clear hcl27 hcc27 hfr27 hM27 hoki27 hH27)); (try (obtain ⟨hcz26_0, hcz26_1, hcz26_2, hcz26_3, hcz26_4, hcz26_5, hcz26_6, hcz26_7, hcz26_8, hcz26_9, hfz26_0, hfz26_1, hfz26_2, hfz26_3, hfz26_4, hfz26_5, hfz26_6, hfz26_7, hfz26_8, hfz26_9⟩ := zC10 BK381.out)))); refine store_event (t := 64) (p := 66) (v := ?vo_w28) (w1 := ((((((((((w25.setCell ⟨go14, ((ji8) : Int).toNat * 10, none⟩ (.int .i64 ((rd_T64 x5_1 (ji8)).f0))).setCell ⟨go14, ((ji8) : Int).toNat * 10 + 1, none⟩ (.int .i64 ((rd_T64 x5_1 (ji8)).f1))).setCell ⟨go14, ((ji8) : Int).toNat * 10 + 2, none⟩ (.string ((rd_T64 x5_1 (ji8)).f2))).setCell ⟨go14, ((ji8) : Int).toNat * 10 + 3, none⟩ (.string ((rd_T64 x5_1 (ji8)).f3))).setCell ⟨go14, ((ji8) : Int).toNat * 10 + 4, none⟩ (.string ((rd_T64 x5_1 (ji8)).f4))).setCell ⟨go14, ((ji8) : Int).toNat * 10 + 5, none⟩ (.string ((rd_T64 x5_1 (ji8)).f5))).setCell ⟨go14, ((ji8) : Int).toNat * 10 + 6, none⟩ (.string ((rd_T64 x5_1 (ji8)).f6))).setCell ⟨go14, ((ji8) : Int).toNat * 10 + 7, none⟩ (.string ((rd_T64 x5_1 (ji8)).f7))).setCell ⟨go14, ((ji8) : Int).toNat * 10 + 8, none⟩ (.string ((rd_T64 x5_1 (ji8)).f8))).setCell ⟨go14, ((ji8) : Int).toNat * 10 + 9, none⟩ (.slice Ao23 y389.length co23))) ?hg ?ho ?hn ?hr ?_; (case ho => rfl); (case hg => rfl); (case hn => rfl); (case hr => (go_simp; try rfl)); intro w28 hw; have hg : w25.grownBy w28 (some go14) := (by rw [hw]; exact HP27.2); have hp_ : Kd.S k64 64 w28 w.heap.size (fun k_ => k_ ≠ gb381) (.slice (some ⟨go14, 0, none⟩) x5_1.length co15) y392 := (by rw [hw, Ny392.out]; exact HP27.1); clear HP27; replace HO_6 := Aside0.mk (Kd.R_over' (v := (.slice (some ⟨go14, 0, none⟩) x5_1.length co15)) (zR HO_6.out) (Kd.S_typed HO_5.out) (by decide) hg); replace HL379_9 := Aside0.mk (Kd.R_after (v := (.slice (some ⟨go14, 0, none⟩) x5_1.length co15)) (v1 := (.slice (some ⟨go14, 0, none⟩) x5_1.length co15)) (ok := (fun k_ => some k_ ≠ (.slice Ao23 y389.length co23 : Value).ownBlock)) (by (with_reducible repeat (first | apply Kd.R_alloc | apply Kd.R_drewN | apply Kd.R_drew)); exact Kd.R_mono HL379_9.out (fun _ hk => ⟨hk.2, hk.1⟩)) hg (.inl rfl)); replace HL380_9 := Aside0.mk (Kd.R_after (v := (.slice (some ⟨go14, 0, none⟩) x5_1.length co15)) (v1 := (.slice (some ⟨go14, 0, none⟩) x5_1.length co15)) (ok := (fun k_ => some k_ ≠ (.slice Ao23 y389.length co23 : Value).ownBlock)) (by (with_reducible repeat (first | apply Kd.R_alloc | apply Kd.R_drewN | apply Kd.R_drew)); exact Kd.R_mono HL380_9.out (fun _ hk => ⟨hk.2, hk.1⟩)) hg (.inl rfl)); replace BK381 := Aside0.mk (blk_grown (g := gb381) (o := .cells #[.int .i64 ((rd_T64 x5_1 (ji8)).f0), .int .i64 ((rd_T64 x5_1 (ji8)).f1), .string ((rd_T64 x5_1 (ji8)).f2), .string ((rd_T64 x5_1 (ji8)).f3), .string ((rd_T64 x5_1 (ji8)).f4), .string ((rd_T64 x5_1 (ji8)).f5), .string ((rd_T64 x5_1 (ji8)).f6), .string ((rd_T64 x5_1 (ji8)).f7), .string ((rd_T64 x5_1 (ji8)).f8), .slice Ao23 y389.length co23] 64 (0, 0)) (zK BK381.out) hg (Kd.S_away HO_5.out (fun _ hk => hk.2))); replace HO_5 := Aside0.mk (hp_); replace HB := Aside0.mk ((by rw [hw]; exact below_set (below_set (below_set (below_set (below_set (below_set (below_set (below_set (below_set (below_set (HB.out) GB14.out) GB14.out) GB14.out) GB14.out) GB14.out) GB14.out) GB14.out) GB14.out) GB14.out) GB14.out : Below w.heap.size w w28)); clear HO391; clear hg hw hp_)))
           go_roundg k1
           case measure => have := HK1.out; omega
           case rel => exact ⟨(y392), (x6_1), (wrap64 (x7_1 + 1)), zS, H', ⟨by have := HK1.out; omega⟩, ⟨by (with_reducible repeat (first | apply Kd.S_alloc | apply Kd.S_drewN | apply Kd.S_drew)); exact Kd.S_mono HO_5.out (fun _ hk => trivial)⟩, ⟨by (with_reducible repeat (first | apply Kd.R_alloc | apply Kd.R_drewN | apply Kd.R_drew)); exact HO_6.out⟩, ⟨zL HB.out⟩⟩
          rw [if_neg c13] at H
          exact absurd H (by simp)
         rw [if_neg c12] at H
         exact absurd H (by simp)
        rw [if_neg c11] at H
        have c11b0 := beq_eq_false_iff_ne.mpr c11
        have c11b1 := bne_iff_ne.mpr c11
        simp only [Option.some.injEq, Prod.mk.injEq] at H
        obtain ⟨rfl, rfl, rfl⟩ := H
        have p377 : 0 ≤ (x7_1 : Int) := zD
        have q377 : x7_1 < (l0.length : Int) := zD
        obtain ⟨ad377, e377, hx377_0, hx377_1, hx377_2⟩ := at_T53 HR0.out x7_1 p377 q377
        (try rw [← Nbq4.out] at hx377_1)
        cases e377
        replace hx377_0 := zX HB.out hx377_0
        replace hx377_1 := zX HB.out hx377_1
        replace hx377_2 := zX HB.out hx377_2
        replace p377 := eq_true p377
        replace q377 := eq_true q377
        obtain ⟨Ao29, co29, eo29⟩ := Kd.S_slice HO_5.out
        subst eo29
        have p379 : 0 ≤ ((ji8) : Int) := zD
        have q379 : (ji8) < (x5_1.length : Int) := zD
        obtain ⟨ad379, A379_9, c379_9, e379, hx379_0, hx379_1, hx379_2, hx379_3, hx379_4, hx379_5, hx379_6, hx379_7, hx379_8, hx379_9, hl379_9, hi379_9⟩ := at_T64 (Kd.S_reads' HO_5.out).2.2 (ji8) p379 q379
        cases e379
        obtain ⟨ce379, hce379, hMe379, hcc379⟩ := Kd.S_get HO_5.out z64 (ji8) p379 (by first | exact q379 | exact zD | (have e_ := (Kd.S_reads' HO_5.out).1; omega))
        obtain ⟨ve379_9, rfl, ge379_9⟩ := k64_openM hMe379
        have hv379_9 := hcc379 9 _ rfl
        rw [add_field _ _ 9 (by omega)] at hv379_9
        replace hv379_9 := Option.some.inj (hv379_9.symm.trans hx379_9)
        rw [hv379_9] at ge379_9
        have HL379_9 := Aside0.mk (show Kd.R Kd.string 9 _ _ _ _ ((rd_T64 x5_1 (ji8)).f9) from ge379_9)
        clear hv379_9 ge379_9
        clear hcc379 hce379
        have HR379_9 := Aside0.mk hi379_9
        have HC379_9 := Aside0.mk hl379_9
        clear hi379_9 hl379_9
        replace p379 := eq_true p379
        replace q379 := eq_true q379
        have p393 : 0 ≤ (x7_1 : Int) := zD
        have q393 : x7_1 < (l0.length : Int) := zD
        obtain ⟨ad393, e393, hx393_0, hx393_1, hx393_2⟩ := at_T53 HR0.out x7_1 p393 q393
        (try rw [← Nbq4.out] at hx393_1)
        obtain rfl : ad377 = ad393 := (by injection e393)
        replace hx393_0 := zX HB.out hx393_0
        replace hx393_1 := zX HB.out hx393_1
        replace hx393_2 := zX HB.out hx393_2
        replace p393 := eq_true p393
        replace q393 := eq_true q393
        go_wp2
        repeat (go_quiet (fail); try go_wp2)
        go_ret3
        exact ⟨_, by first | rfl | (simp [errW_none, errW_some] <;> rfl) | (simp only [← hji8]; first | rfl | (simp [errW_none, errW_some] <;> rfl)) | (simp [*, errW_none, errW_some] <;> rfl), by first | exact Kd.S_nil _ _ _ _ _ | exact Kd.N_nil _ _ _ _ _ | exact Kd.V_nil _ _ _ _ _ | exact Kd.Q_nil _ _ _ _ _ | exact Kd.R_nil _ _ _ _ _, zL HB.out⟩
       rw [if_neg c10] at H
       exact absurd H (by simp)
      rw [if_neg c9] at H
      exact absurd H (by simp)
     replace c5 := Bool.eq_false_iff.mpr c5
     subst c5
     rw [if_neg (show ¬ (false = true) by decide)] at H
     replace H := Option.bind_eq_some_iff.mp H
     obtain ⟨⟨t395, t396, t397, t398, t399, t400, t401, t402, t403, t404, t407⟩, A300, H⟩ := H
     try dsimp only at H
     have A30 := Aside0.mk A300
     clear A300
     by_cases c31 : t407 = true
     ·subst c31
      rw [if_pos rfl] at H
      have HC32 := Aside0.mk H
      clear H
      have p377 : 0 ≤ (x7_1 : Int) := zD
      have q377 : x7_1 < (l0.length : Int) := zD
      obtain ⟨ad377, e377, hx377_0, hx377_1, hx377_2⟩ := at_T53 HR0.out x7_1 p377 q377
      (try rw [← Nbq4.out] at hx377_1)
      cases e377
      replace hx377_0 := zX HB.out hx377_0
      replace hx377_1 := zX HB.out hx377_1
      replace hx377_2 := zX HB.out hx377_2
      replace p377 := eq_true p377
      replace q377 := eq_true q377
      have p394 : 0 ≤ (x7_1 : Int) := zD
      have q394 : x7_1 < (l0.length : Int) := zD
      obtain ⟨ad394, e394, hx394_0, hx394_1, hx394_2⟩ := at_T53 HR0.out x7_1 p394 q394
      (try rw [← Nbq4.out] at hx394_1)
      obtain rfl : ad377 = ad394 := (by injection e394)
      replace hx394_0 := zX HB.out hx394_0
      replace hx394_1 := zX HB.out hx394_1
      replace hx394_2 := zX HB.out hx394_2
      replace p394 := eq_true p394
      replace q394 := eq_true q394
      go_upto_if 84 with (first | (go_at_call 26; (with_reducible refine (cooperageref9_one.calls k1 ((rd_T53 l0 x7_1).f0) false ((rd_T53 l0 x7_1).f2) t395 t396 t397 t398 t399 t400 t401 t402 t403 t404 true _ A30.out).mono ?_); rintro e w33 ⟨v405, rfl, ho0, hb⟩; replace HO_5 := Aside0.mk (Kd.S_elder' (zRS HO_5.out) (Kd.R_base ho0) hb); replace HO_6 := Aside0.mk (Kd.R_below (zR HO_6.out) hb); have HO406 := Aside0.mk (Kd.R_lower ho0 (below_size (zL HB.out))); replace HB := Aside0.mk (below_step (zL HB.out) hb); (try clear hb); (try clear hb2); (try clear hk); (try clear hi); (try clear ho0)) | ((with_reducible refine gate_dst (N := 10) rfl ?_); (try (refine gate_guard (by rfl) ?_; dsimp only)); refine box_event ?hg (N := 10) ?hd (cs := #[.int .i64 0, .int .i64 0, .string ⟨#[]⟩, .string ⟨#[]⟩, .string ⟨#[]⟩, .string ⟨#[]⟩, .string ⟨#[]⟩, .string ⟨#[]⟩, .string ⟨#[]⟩, .slice none 0 0]) (t := 64) ?hr ?_; (case hd => rfl); (case hg => rfl); (case hr => (go_simp; try rfl)); intro gb408 hg w34 hbox hb; replace HO_5 := Aside0.mk (Kd.S_below (Kd.S_elderB (zRS HO_5.out) gb408 (Nat.le_of_eq hg.symm)) hb); replace HO_6 := Aside0.mk (Kd.R_below (zR HO_6.out) hb); replace HO406 := Aside0.mk (Kd.R_below (zR HO406.out) hb); have BK408 := Aside0.mk (hbox); have GW408 := Aside0.mk (zG hg (zL HB.out)); have GE408 := Aside0.mk (zG hg (zL HB.out)); replace HB := Aside0.mk (below_step (zL HB.out) hb); clear hb hbox hg; obtain ⟨hcz35_0, hcz35_1, hcz35_2, hcz35_3, hcz35_4, hcz35_5, hcz35_6, hcz35_7, hcz35_8, hcz35_9, hfz35_0, hfz35_1, hfz35_2, hfz35_3, hfz35_4, hfz35_5, hfz35_6, hfz35_7, hfz35_8, hfz35_9⟩ := zC10 BK408.out; obtain ⟨Ao36, co36, eo36⟩ := Kd.R_slice HO406.out; subst eo36))
      repeat (go_quiet (first | (go_at_call 26; (with_reducible refine (cooperageref9_one.calls k1 ((rd_T53 l0 x7_1).f0) false ((rd_T53 l0 x7_1).f2) t395 t396 t397 t398 t399 t400 t401 t402 t403 t404 true _ A30.out).mono ?_); rintro e w33 ⟨v405, rfl, ho0, hb⟩; replace HO_5 := Aside0.mk (Kd.S_elder' (zRS HO_5.out) (Kd.R_base ho0) hb); replace HO_6 := Aside0.mk (Kd.R_below (zR HO_6.out) hb); have HO406 := Aside0.mk (Kd.R_lower ho0 (below_size (zL HB.out))); replace HB := Aside0.mk (below_step (zL HB.out) hb); (try clear hb); (try clear hb2); (try clear hk); (try clear hi); (try clear ho0))); go_upto_if 84 with (first | (go_at_call 26; (with_reducible refine (cooperageref9_one.calls k1 ((rd_T53 l0 x7_1).f0) false ((rd_T53 l0 x7_1).f2) t395 t396 t397 t398 t399 t400 t401 t402 t403 t404 true _ A30.out).mono ?_); rintro e w33 ⟨v405, rfl, ho0, hb⟩; replace HO_5 := Aside0.mk (Kd.S_elder' (zRS HO_5.out) (Kd.R_base ho0) hb); replace HO_6 := Aside0.mk (Kd.R_below (zR HO_6.out) hb); have HO406 := Aside0.mk (Kd.R_lower ho0 (below_size (zL HB.out))); replace HB := Aside0.mk (below_step (zL HB.out) hb); (try clear hb); (try clear hb2); (try clear hk); (try clear hi); (try clear ho0)) | ((with_reducible refine gate_dst (N := 10) rfl ?_); (try (refine gate_guard (by rfl) ?_; dsimp only)); refine box_event ?hg (N := 10) ?hd (cs := #[.int .i64 0, .int .i64 0, .string ⟨#[]⟩, .string ⟨#[]⟩, .string ⟨#[]⟩, .string ⟨#[]⟩, .string ⟨#[]⟩, .string ⟨#[]⟩, .string ⟨#[]⟩, .slice none 0 0]) (t := 64) ?hr ?_; (case hd => rfl); (case hg => rfl); (case hr => (go_simp; try rfl)); intro gb408 hg w34 hbox hb; replace HO_5 := Aside0.mk (Kd.S_below (Kd.S_elderB (zRS HO_5.out) gb408 (Nat.le_of_eq hg.symm)) hb); replace HO_6 := Aside0.mk (Kd.R_below (zR HO_6.out) hb); replace HO406 := Aside0.mk (Kd.R_below (zR HO406.out) hb); have BK408 := Aside0.mk (hbox); have GW408 := Aside0.mk (zG hg (zL HB.out)); have GE408 := Aside0.mk (zG hg (zL HB.out)); replace HB := Aside0.mk (below_step (zL HB.out) hb); clear hb hbox hg; obtain ⟨hcz35_0, hcz35_1, hcz35_2, hcz35_3, hcz35_4, hcz35_5, hcz35_6, hcz35_7, hcz35_8, hcz35_9, hfz35_0, hfz35_1, hfz35_2, hfz35_3, hfz35_4, hfz35_5, hfz35_6, hfz35_7, hfz35_8, hfz35_9⟩ := zC10 BK408.out; obtain ⟨Ao36, co36, eo36⟩ := Kd.R_slice HO406.out; subst eo36)))
      (try simp only [Act.put, List.setIfInBounds_toArray, List.set_cons_zero, List.set_cons_succ])
      go_cut [6] (fun v6 wc => ∃ (kq : Nat) (x6_31 : List Int), Aside0 (cooperageref9_Parse.j1 kq l0 x5_1 x6_31 x7_1 t395 t396 t397 t398 t399 t400 t401 t402 t403 t404 = some (r1, r2, r3)) ∧ Aside0 (kq ≤ k1) ∧ Aside0 (Kd.S k64 64 wc w.heap.size (fun k_ => some k_ ≠ ((.slice Ao36 t404.length co36) : Value).ownBlock ∧ k_ ≠ gb408) u5 x5_1) ∧ Aside0 (Kd.R (Kd.int .i64) 3 wc w.heap.size (fun _ => True) v6 x6_31) ∧ Aside0 (Kd.R Kd.string 9 wc w.heap.size (fun _ => True) (.slice Ao36 t404.length co36) t404) ∧ Aside0 (wc.heap[gb408]? = some (.cells #[.int .i64 t395, .int .i64 t396, .string t397, .string t398, .string t399, .string t400, .string t401, .string t402, .string t403, (.slice Ao36 t404.length co36)] 64 (0, 0))) ∧ Aside0 (Below w.heap.size w wc))
      case first =>
       have H := HC32.out
       clear HC32
       by_cases c37 : t395 = 3
       ·rw [if_pos c37] at H
        have c37b0 := beq_iff_eq.mpr c37
        have c37b1 := bne_eq_false_iff_eq.mpr c37
        clear c37
        (first | rw [c37b0] | (simp only [i64_w, i32_w]; rw [c37b0]) | rw [isE_ c37b0] | skip)
        by_cases c38 : (x6_1.length : Int) = 20
        ·rw [if_pos c38] at H
         have c38b0 := beq_iff_eq.mpr c38
         have c38b1 := bne_eq_false_iff_eq.mpr c38
         clear c38
         simp only [Option.some.injEq, Prod.mk.injEq] at H
         obtain ⟨rfl, rfl, rfl⟩ := H
         obtain ⟨Ao39, co39, eo39⟩ := Kd.R_slice HO_6.out
         subst eo39
         have p410 : 0 ≤ (x7_1 : Int) := zD
         have q410 : x7_1 < (l0.length : Int) := zD
         obtain ⟨ad410, e410, hx410_0, hx410_1, hx410_2⟩ := at_T53 HR0.out x7_1 p410 q410
         (try rw [← Nbq4.out] at hx410_1)
         obtain rfl : ad377 = ad410 := (by injection e410)
         have hn410_0 : ad377.block ≠ gb408 := Nat.ne_of_lt (Nat.lt_of_lt_of_le (by have := World.block_lt_of_cell? _ _ hx410_0; first | rwa [add_block] at this | exact this) GW408.out)
         have hn410_1 : ad377.block ≠ gb408 := Nat.ne_of_lt (Nat.lt_of_lt_of_le (by have := World.block_lt_of_cell? _ _ hx410_0; first | rwa [add_block] at this | exact this) GW408.out)
         have hn410_2 : ad377.block ≠ gb408 := Nat.ne_of_lt (Nat.lt_of_lt_of_le (by have := World.block_lt_of_cell? _ _ hx410_0; first | rwa [add_block] at this | exact this) GW408.out)
         have hn410_3 : ad377.block ≠ gb408 := Nat.ne_of_lt (Nat.lt_of_lt_of_le (by have := World.block_lt_of_cell? _ _ hx410_0; first | rwa [add_block] at this | exact this) GW408.out)
         have hn410_4 : ad377.block ≠ gb408 := Nat.ne_of_lt (Nat.lt_of_lt_of_le (by have := World.block_lt_of_cell? _ _ hx410_0; first | rwa [add_block] at this | exact this) GW408.out)
         have hn410_5 : ad377.block ≠ gb408 := Nat.ne_of_lt (Nat.lt_of_lt_of_le (by have := World.block_lt_of_cell? _ _ hx410_0; first | rwa [add_block] at this | exact this) GW408.out)
         have hn410_6 : ad377.block ≠ gb408 := Nat.ne_of_lt (Nat.lt_of_lt_of_le (by have := World.block_lt_of_cell? _ _ hx410_0; first | rwa [add_block] at this | exact this) GW408.out)
         have hn410_7 : ad377.block ≠ gb408 := Nat.ne_of_lt (Nat.lt_of_lt_of_le (by have := World.block_lt_of_cell? _ _ hx410_0; first | rwa [add_block] at this | exact this) GW408.out)
         have hn410_8 : ad377.block ≠ gb408 := Nat.ne_of_lt (Nat.lt_of_lt_of_le (by have := World.block_lt_of_cell? _ _ hx410_0; first | rwa [add_block] at this | exact this) GW408.out)
         have hn410_9 : ad377.block ≠ gb408 := Nat.ne_of_lt (Nat.lt_of_lt_of_le (by have := World.block_lt_of_cell? _ _ hx410_0; first | rwa [add_block] at this | exact this) GW408.out)
         replace hx410_0 := zX HB.out hx410_0
         replace hx410_1 := zX HB.out hx410_1
         replace hx410_2 := zX HB.out hx410_2
         replace hx410_0 := zF gb408 0 (.int .i64 t395) hn410_0 hx410_0
         replace hx410_1 := zF gb408 0 (.int .i64 t395) hn410_0 hx410_1
         replace hx410_2 := zF gb408 0 (.int .i64 t395) hn410_0 hx410_2
         replace hx410_0 := zF gb408 1 (.int .i64 t396) hn410_1 hx410_0
         replace hx410_1 := zF gb408 1 (.int .i64 t396) hn410_1 hx410_1
         replace hx410_2 := zF gb408 1 (.int .i64 t396) hn410_1 hx410_2
         replace hx410_0 := zF gb408 2 (.string t397) hn410_2 hx410_0
         replace hx410_1 := zF gb408 2 (.string t397) hn410_2 hx410_1
         replace hx410_2 := zF gb408 2 (.string t397) hn410_2 hx410_2
         replace hx410_0 := zF gb408 3 (.string t398) hn410_3 hx410_0
         replace hx410_1 := zF gb408 3 (.string t398) hn410_3 hx410_1
         replace hx410_2 := zF gb408 3 (.string t398) hn410_3 hx410_2
         replace hx410_0 := zF gb408 4 (.string t399) hn410_4 hx410_0
         replace hx410_1 := zF gb408 4 (.string t399) hn410_4 hx410_1
         replace hx410_2 := zF gb408 4 (.string t399) hn410_4 hx410_2
         replace hx410_0 := zF gb408 5 (.string t400) hn410_5 hx410_0
         replace hx410_1 := zF gb408 5 (.string t400) hn410_5 hx410_1
         replace hx410_2 := zF gb408 5 (.string t400) hn410_5 hx410_2
         replace hx410_0 := zF gb408 6 (.string t401) hn410_6 hx410_0
         replace hx410_1 := zF gb408 6 (.string t401) hn410_6 hx410_1
         replace hx410_2 := zF gb408 6 (.string t401) hn410_6 hx410_2
         replace hx410_0 := zF gb408 7 (.string t402) hn410_7 hx410_0
         replace hx410_1 := zF gb408 7 (.string t402) hn410_7 hx410_1
         replace hx410_2 := zF gb408 7 (.string t402) hn410_7 hx410_2
         replace hx410_0 := zF gb408 8 (.string t403) hn410_8 hx410_0
         replace hx410_1 := zF gb408 8 (.string t403) hn410_8 hx410_1
         replace hx410_2 := zF gb408 8 (.string t403) hn410_8 hx410_2
         replace hx410_0 := zF gb408 9 (.slice Ao36 t404.length co36) hn410_9 hx410_0
         replace hx410_1 := zF gb408 9 (.slice Ao36 t404.length co36) hn410_9 hx410_1
         replace hx410_2 := zF gb408 9 (.slice Ao36 t404.length co36) hn410_9 hx410_2
         (try have hy410_0 := fun (n_ : Nat) => zDY (w2 := ((((((((((((w34.drewN n_).setCell ⟨gb408, 0, none⟩ (.int .i64 t395)).setCell ⟨gb408, 1, none⟩ (.int .i64 t396)).setCell ⟨gb408, 2, none⟩ (.string t397)).setCell ⟨gb408, 3, none⟩ (.string t398)).setCell ⟨gb408, 4, none⟩ (.string t399)).setCell ⟨gb408, 5, none⟩ (.string t400)).setCell ⟨gb408, 6, none⟩ (.string t401)).setCell ⟨gb408, 7, none⟩ (.string t402)).setCell ⟨gb408, 8, none⟩ (.string t403)).setCell ⟨gb408, 9, none⟩ (.slice Ao36 t404.length co36)))) hx410_0)
         (try have hy410_1 := fun (n_ : Nat) => zDY (w2 := ((((((((((((w34.drewN n_).setCell ⟨gb408, 0, none⟩ (.int .i64 t395)).setCell ⟨gb408, 1, none⟩ (.int .i64 t396)).setCell ⟨gb408, 2, none⟩ (.string t397)).setCell ⟨gb408, 3, none⟩ (.string t398)).setCell ⟨gb408, 4, none⟩ (.string t399)).setCell ⟨gb408, 5, none⟩ (.string t400)).setCell ⟨gb408, 6, none⟩ (.string t401)).setCell ⟨gb408, 7, none⟩ (.string t402)).setCell ⟨gb408, 8, none⟩ (.string t403)).setCell ⟨gb408, 9, none⟩ (.slice Ao36 t404.length co36)))) hx410_1)
         (try have hy410_2 := fun (n_ : Nat) => zDY (w2 := ((((((((((((w34.drewN n_).setCell ⟨gb408, 0, none⟩ (.int .i64 t395)).setCell ⟨gb408, 1, none⟩ (.int .i64 t396)).setCell ⟨gb408, 2, none⟩ (.string t397)).setCell ⟨gb408, 3, none⟩ (.string t398)).setCell ⟨gb408, 4, none⟩ (.string t399)).setCell ⟨gb408, 5, none⟩ (.string t400)).setCell ⟨gb408, 6, none⟩ (.string t401)).setCell ⟨gb408, 7, none⟩ (.string t402)).setCell ⟨gb408, 8, none⟩ (.string t403)).setCell ⟨gb408, 9, none⟩ (.slice Ao36 t404.length co36)))) hx410_2)
         clear hn410_0
         clear hn410_1
         clear hn410_2
         clear hn410_3
         clear hn410_4
         clear hn410_5
         clear hn410_6
         clear hn410_7
         clear hn410_8
         clear hn410_9
         replace p410 := eq_true p410
         replace q410 := eq_true q410
         go_wp2
         repeat (go_quiet (fail); try go_wp2)
         go_ret3
         exact ⟨_, zE, by first | exact Kd.S_nil _ _ _ _ _ | exact Kd.N_nil _ _ _ _ _ | exact Kd.V_nil _ _ _ _ _ | exact Kd.Q_nil _ _ _ _ _ | exact Kd.R_nil _ _ _ _ _, zL HB.out⟩
        rw [if_neg c38] at H
        have c38b0 := beq_eq_false_iff_ne.mpr c38
        have c38b1 := bne_iff_ne.mpr c38
        by_cases c40 : x6_1.length < 17592186044416
        ·rw [if_pos c40] at H
         have LMc40 := Aside0.mk c40
         clear c40
         obtain ⟨y411, hy411⟩ : ∃ y_ : List Int, y_ = (x6_1 ++ [0]) := ⟨_, rfl⟩
         replace H : (cooperageref9_Parse.j1 k1 l0 x5_1 y411 x7_1 t395 t396 t397 t398 t399 t400 t401 t402 t403 t404) = some (r1, r2, r3) := zH hy411 H
         have Ny411 := Aside0.mk hy411
         clear hy411
         have H' := Aside0.mk H
         clear H
         obtain ⟨Ao41, co41, eo41⟩ := Kd.R_slice HO_6.out
         subst eo41
         have F_ := trivial
         repeat ((first | clear F_ | go_quiet (fail)); try go_wp2_with (first | ((with_reducible refine gate_builtin (b := .append) (xs := #[.tmp 93, .tmp 94]) rfl ?_); (try (refine gate_guard (by rfl) ?_; dsimp only)); at_builtin; refine Kd.R_append (Kd.int .i64) (w0 := w) w.heap.size rfl (.tmp 93) (.tmp 94) 63 3 (.int .i64 0) 8 rfl Tryd.underlying63 info3 rfl (by decide) (by omega) (.slice Ao41 x6_1.length co41) x6_1 0 [.int .i64 0] (fun _ => True) (fun _ => False) rfl (by first | (go_simp; done) | (go_simp; rfl)) ?aP (fun _ hk => hk.elim) ?aF ?aO ?aB ?aS ?aL ?_; (case aP => exact rfl); (case aB => exact (zL HB.out)); (case aF => exact (fun _ _ => trivial)); (case aO => exact (by (with_reducible repeat (first | apply Kd.R_alloc | apply Kd.R_drewN | apply Kd.R_drew)); exact Kd.R_mono (zNT HO_6.out BK408.out) (fun _ hk => trivial))); (case aS => exact (below_size (zL HB.out))); (case aL => have := LMc40.out; omega); intro v412 w42 ho hb hg hat; rw [← Ny411.out] at ho; replace HO_5 := Aside0.mk (Kd.S_over' (zMS HO_5.out (g := gb408) (fun _ hk => hk.2)) (Kd.R_typed (zT HO_6.out BK408.out)) (by decide) hg); replace HO406 := Aside0.mk (Kd.R_over' (zT HO406.out BK408.out) (Kd.R_typed (zT HO_6.out BK408.out)) (by decide) hg); replace BK408 := Aside0.mk (blk_grown (g := gb408) (o := .cells #[.int .i64 t395, .int .i64 t396, .string t397, .string t398, .string t399, .string t400, .string t401, .string t402, .string t403, .slice Ao36 t404.length co36] 64 (0, 0)) (zP10 BK408.out) hg (Kd.R_ne HO_6.out BK408.out (by decide))); replace HB := Aside0.mk (hb); have HO413 := Aside0.mk (ho); clear HO_6; clear ho hb hg hat)))
         go_meet
         case rel => exact ⟨_, (y411), H', ⟨by have := HK1.out; first | omega | exact Nat.le_refl _⟩, ⟨by (with_reducible repeat (first | apply Kd.S_alloc | apply Kd.S_drewN | apply Kd.S_drew)); exact Kd.S_mono HO_5.out (fun _ hk => ⟨hk.1.2, hk.2⟩)⟩, ⟨by (with_reducible repeat (first | apply Kd.R_alloc | apply Kd.R_drewN | apply Kd.R_drew)); exact HO413.out⟩, ⟨by (with_reducible repeat (first | apply Kd.R_alloc | apply Kd.R_drewN | apply Kd.R_drew)); exact HO406.out⟩, ⟨zK BK408.out⟩, ⟨zL HB.out⟩⟩
        rw [if_neg c40] at H
        exact absurd H (by simp)
       rw [if_neg c37] at H
       have c37b0 := beq_eq_false_iff_ne.mpr c37
       have c37b1 := bne_iff_ne.mpr c37
       (first | rw [c37b0] | (simp only [i64_w, i32_w]; rw [c37b0]) | rw [isE_ c37b0] | skip)
       have H' := Aside0.mk H
       clear H
       go_wp2
       repeat (go_quiet (fail); try go_wp2)
       go_meet
       case rel => exact ⟨_, (x6_1), H', ⟨by have := HK1.out; first | omega | exact Nat.le_refl _⟩, ⟨by (with_reducible repeat (first | apply Kd.S_alloc | apply Kd.S_drewN | apply Kd.S_drew)); exact Kd.S_mono (zNMS HO_5.out (g := gb408) (fun _ hk => hk.2)) (fun _ hk => ⟨hk.1.1.2, hk.1.2⟩)⟩, ⟨by (with_reducible repeat (first | apply Kd.R_alloc | apply Kd.R_drewN | apply Kd.R_drew)); exact Kd.R_mono (zNT HO_6.out BK408.out) (fun _ hk => trivial)⟩, ⟨by (with_reducible repeat (first | apply Kd.R_alloc | apply Kd.R_drewN | apply Kd.R_drew)); exact Kd.R_mono (zNT HO406.out BK408.out) (fun _ hk => trivial)⟩, ⟨zP10 BK408.out⟩, ⟨zL HB.out⟩⟩
      case rest =>
       clear HC32
       try clear c2
       try clear c2b0
       try clear c3
       try clear c3b0
       try clear c5
       try clear c31
       try clear hcz35_0 hcz35_1 hcz35_2 hcz35_3 hcz35_4 hcz35_5 hcz35_6 hcz35_7 hcz35_8 hcz35_9
       try clear hfz35_0 hfz35_1 hfz35_2 hfz35_3 hfz35_4 hfz35_5 hfz35_6 hfz35_7 hfz35_8 hfz35_9
       try clear hx377_0
       try clear hx377_1
       try clear hx377_2
       try clear hx394_0
       try clear hx394_1
       try clear hx394_2
       try clear p377
       try clear p394
       try clear q377
       try clear q394
       obtain ⟨kq, x6_31, HA, HJ31, HO_5, HO_6, HO_409009, BK408, HB⟩ := hcut
       cases kq with
       | zero => exact absurd HA.out (by simp [cooperageref9_Parse.j1])
       | succ kj31 =>
        have H := HA.out
        clear HA
        simp only [cooperageref9_Parse.j1] at H
        have HC43 := Aside0.mk H
        clear H
        obtain ⟨hcz44_0, hcz44_1, hcz44_2, hcz44_3, hcz44_4, hcz44_5, hcz44_6, hcz44_7, hcz44_8, hcz44_9, hfz44_0, hfz44_1, hfz44_2, hfz44_3, hfz44_4, hfz44_5, hfz44_6, hfz44_7, hfz44_8, hfz44_9⟩ := zC10 BK408.out
        go_upto_if 98 with (fail)
        repeat (go_quiet (fail); go_upto_if 98 with (fail))
        go_cut [] (fun wc => ∃ (kq : Nat) (x6_42 : List Int), Aside0 (cooperageref9_Parse.j2 kq l0 x5_1 x6_42 x7_1 t395 t396 t397 t398 t399 t400 t401 t402 t403 t404 = some (r1, r2, r3)) ∧ Aside0 (kq ≤ kj31) ∧ Aside0 (Kd.S k64 64 wc w.heap.size (fun k_ => some k_ ≠ ((.slice Ao36 t404.length co36) : Value).ownBlock ∧ k_ ≠ gb408) u5 x5_1) ∧ Aside0 (Kd.R (Kd.int .i64) 3 wc w.heap.size (fun _ => True) u6 x6_42) ∧ Aside0 (Kd.R Kd.string 9 wc w.heap.size (fun _ => True) (.slice Ao36 t404.length co36) t404) ∧ Aside0 (wc.heap[gb408]? = some (.cells #[.int .i64 t395, .int .i64 t396, .string t397, .string t398, .string t399, .string t400, .string t401, .string t402, .string t403, (.slice Ao36 t404.length co36)] 64 (0, 0))) ∧ Aside0 (Below w.heap.size w wc))
        case first =>
         have H := HC43.out
         clear HC43
         by_cases c45 : t395 = 4
         ·rw [if_pos c45] at H
          have c45b0 := beq_iff_eq.mpr c45
          have c45b1 := bne_eq_false_iff_eq.mpr c45
          clear c45
          (first | rw [c45b0] | (simp only [i64_w, i32_w]; rw [c45b0]) | rw [isE_ c45b0] | skip)
          by_cases c46 : (x6_31.length : Int) = 0
          ·rw [if_pos c46] at H
           have c46b0 := beq_iff_eq.mpr c46
           have c46b1 := bne_eq_false_iff_eq.mpr c46
           clear c46
           by_cases c47 : 0 ≤ x7_1
           ·rw [if_pos c47] at H
            have c47b0 := decide_eq_true c47
            clear c47
            by_cases c48 : x7_1 < (l0.length : Int)
            ·rw [if_pos c48] at H
             have c48b0 := decide_eq_true c48
             clear c48
             simp only [Option.some.injEq, Prod.mk.injEq] at H
             obtain ⟨rfl, rfl, rfl⟩ := H
             obtain ⟨Ao49, co49, eo49⟩ := Kd.R_slice HO_6.out
             subst eo49
             have p414 : 0 ≤ (x7_1 : Int) := zD
             have q414 : x7_1 < (l0.length : Int) := zD
             obtain ⟨ad414, e414, hx414_0, hx414_1, hx414_2⟩ := at_T53 HR0.out x7_1 p414 q414
             (try rw [← Nbq4.out] at hx414_1)
             obtain rfl : ad377 = ad414 := (by injection e414)
             replace hx414_0 := zX HB.out hx414_0
             replace hx414_1 := zX HB.out hx414_1
             replace hx414_2 := zX HB.out hx414_2
             replace p414 := eq_true p414
             replace q414 := eq_true q414
             go_wp2
             repeat (go_quiet (fail); try go_wp2)
             go_ret3
             exact ⟨_, zE, by first | exact Kd.S_nil _ _ _ _ _ | exact Kd.N_nil _ _ _ _ _ | exact Kd.V_nil _ _ _ _ _ | exact Kd.Q_nil _ _ _ _ _ | exact Kd.R_nil _ _ _ _ _, zL HB.out⟩
            rw [if_neg c48] at H
            exact absurd H (by simp)
           rw [if_neg c47] at H
           exact absurd H (by simp)
          rw [if_neg c46] at H
          have c46b0 := beq_eq_false_iff_ne.mpr c46
          have c46b1 := bne_iff_ne.mpr c46
          have c46b2 : ¬ (x6_31 = []) := fun h_ => c46 (by rw [h_]; rfl)
          obtain ⟨ji50, hji50⟩ : ∃ j_ : Int, (wrap64 ((x6_31.length : Int) - 1)) = j_ := ⟨_, rfl⟩
          replace H : (if 0 ≤ (ji50) then (if (ji50) < (x6_31.length : Int) then (if (rd x6_31 (ji50)) > 0 then (if 0 ≤ x7_1 then (if x7_1 < (l0.length : Int) then (some (([] : List (S64)), 2, (rd_T53 l0 x7_1).f0)) else (none)) else (none)) else (cooperageref9_Parse.j2 kj31 l0 x5_1 (x6_31.set ((ji50) : Int).toNat 1) x7_1 t395 t396 t397 t398 t399 t400 t401 t402 t403 t404)) else (none)) else (none)) = some (r1, r2, r3) := by first | (rw [hji50] at H; exact H) | (simp only [hji50] at H ⊢; exact H)
          have hji50w : (IntKind.i64.wrap ((x6_31.length : Int) - 1)) = ji50 := (i64_w _).trans hji50
          by_cases c51 : 0 ≤ (ji50)
          ·rw [if_pos c51] at H
           have c51b0 := decide_eq_true c51
           clear c51
           by_cases c52 : (ji50) < (x6_31.length : Int)
           ·rw [if_pos c52] at H
            have c52b0 := decide_eq_true c52
            clear c52
            by_cases c53 : (rd x6_31 (ji50)) > 0
            ·rw [if_pos c53] at H
             have c53b0 : decide (0 < (rd x6_31 (ji50))) = true := decide_eq_true c53
             clear c53
             by_cases c54 : 0 ≤ x7_1
             ·rw [if_pos c54] at H
              have c54b0 := decide_eq_true c54
              clear c54
              by_cases c55 : x7_1 < (l0.length : Int)
              ·rw [if_pos c55] at H
               have c55b0 := decide_eq_true c55
               clear c55
               simp only [Option.some.injEq, Prod.mk.injEq] at H
               obtain ⟨rfl, rfl, rfl⟩ := H
               obtain ⟨Ao56, co56, eo56⟩ := Kd.R_slice HO_6.out
               subst eo56
               have p415 : 0 ≤ ((ji50) : Int) := zD
               have q415 : (ji50) < (x6_31.length : Int) := zD
               obtain ⟨ad415, e415, hx415_0⟩ := Kd.at_int (Kd.R_reads' HO_6.out).2.2 (ji50) p415 q415
               cases e415
               replace p415 := eq_true p415
               replace q415 := eq_true q415
               have p416 : 0 ≤ (x7_1 : Int) := zD
               have q416 : x7_1 < (l0.length : Int) := zD
               obtain ⟨ad416, e416, hx416_0, hx416_1, hx416_2⟩ := at_T53 HR0.out x7_1 p416 q416
               (try rw [← Nbq4.out] at hx416_1)
               obtain rfl : ad377 = ad416 := (by injection e416)
               replace hx416_0 := zX HB.out hx416_0
               replace hx416_1 := zX HB.out hx416_1
               replace hx416_2 := zX HB.out hx416_2
               replace p416 := eq_true p416
               replace q416 := eq_true q416
               go_wp2
               repeat (go_quiet (fail); try go_wp2)
               go_ret3
               exact ⟨_, by first | rfl | (simp [errW_none, errW_some] <;> rfl) | (simp only [← hji50]; first | rfl | (simp [errW_none, errW_some] <;> rfl)) | (simp [*, errW_none, errW_some] <;> rfl), by first | exact Kd.S_nil _ _ _ _ _ | exact Kd.N_nil _ _ _ _ _ | exact Kd.V_nil _ _ _ _ _ | exact Kd.Q_nil _ _ _ _ _ | exact Kd.R_nil _ _ _ _ _, zL HB.out⟩
              rw [if_neg c55] at H
              exact absurd H (by simp)
             rw [if_neg c54] at H
             exact absurd H (by simp)
            rw [if_neg c53] at H
            have c53b0 : decide (0 < (rd x6_31 (ji50))) = false := decide_eq_false c53
            clear c53
            obtain ⟨y417, hy417⟩ : ∃ y_ : List Int, y_ = (x6_31.set ((ji50) : Int).toNat 1) := ⟨_, rfl⟩
            replace H : (cooperageref9_Parse.j2 kj31 l0 x5_1 y417 x7_1 t395 t396 t397 t398 t399 t400 t401 t402 t403 t404) = some (r1, r2, r3) := zH hy417 H
            have Ny417 := Aside0.mk hy417
            clear hy417
            have H' := Aside0.mk H
            clear H
            obtain ⟨Ao58, co58, eo58⟩ := Kd.R_slice HO_6.out
            subst eo58
            have p415 : 0 ≤ ((ji50) : Int) := zD
            have q415 : (ji50) < (x6_31.length : Int) := zD
            obtain ⟨ad415, e415, hx415_0⟩ := Kd.at_int (Kd.R_reads' HO_6.out).2.2 (ji50) p415 q415
            cases e415
            replace p415 := eq_true p415
            replace q415 := eq_true q415
            have p57 : 0 ≤ ((ji50) : Int) := zD
            have q57 : ((ji50) : Int) < ((x6_31.length : Int) : Int) := zD
            obtain ⟨go57, co57, eo57, gb57, gl57, cl57, HG57⟩ := Kd.R_form HO_6.out (by omega)
            (first | cases eo57 | (injection eo57 with ea_ en_ ec_; (first | subst ea_ | (injection ea_ with ea_; subst ea_)); subst ec_; clear en_))
            have GB57 := Aside0.mk gb57
            have GG57 := Aside0.mk HG57
            clear gb57 gl57 HG57
            (first | simp only [add_plain] at hx415_0 | skip)
            obtain ⟨hx57_0, hf57_0⟩ := Kd.R_celln 0 HO_6.out ((ji50) : Int) p57 q57
            replace p57 := eq_true p57
            replace q57 := eq_true q57
            have HP59 := Kd.R_putg HO_6.out ((ji50) : Int) 1
            have F_ := trivial
            repeat ((first | clear F_ | go_quiet (fail)); try go_wp2_with (first | ((with_reducible refine gate_store (t := 3) (p := 120) rfl ?_); (try (rw [drewN_self wc]; generalize hq_ : World.drewN wc _ = wc; have n0_ := Aside0.mk (Kd.S_at hq_ HO_5.out); have n1_ := Aside0.mk (Kd.R_at hq_ HO_6.out); have n2_ := Aside0.mk (Kd.R_at hq_ HO_409009.out); have n3_ := Aside0.mk (blk_at hq_ BK408.out); have n4_ := Aside0.mk (below_at hq_ HB.out); clear hq_ HO_5 HO_6 HO_409009 BK408 HB; have HO_5 := n0_; have HO_6 := n1_; have HO_409009 := n2_; have BK408 := n3_; have HB := n4_; clear n0_ n1_ n2_ n3_ n4_; (try (have HP59 := Kd.R_putg HO_6.out ((ji50) : Int) 1)); (try (obtain ⟨hx57_0, hf57_0⟩ := Kd.R_celln 0 HO_6.out ((ji50) : Int) (of_eq_true p57) (of_eq_true q57))); (try (obtain ⟨hcz44_0, hcz44_1, hcz44_2, hcz44_3, hcz44_4, hcz44_5, hcz44_6, hcz44_7, hcz44_8, hcz44_9, hfz44_0, hfz44_1, hfz44_2, hfz44_3, hfz44_4, hfz44_5, hfz44_6, hfz44_7, hfz44_8, hfz44_9⟩ := zC10 BK408.out)))); refine store_event (t := 3) (p := 120) (v := ?vo_w60) (w1 := (wc.setCell ⟨go57, ((ji50) : Int).toNat, none⟩ (.int .i64 1))) ?hg ?ho ?hn ?hr ?_; (case ho => rfl); (case hg => rfl); (case hn => rfl); (case hr => (go_simp; try rfl)); intro w60 hw; have hg : wc.grownBy w60 (some go57) := (by rw [hw]; exact HP59.2); have hp_ : Kd.R (Kd.int .i64) 3 w60 w.heap.size (fun _ => True) (.slice (some ⟨go57, 0, none⟩) x6_31.length co58) y417 := (by rw [hw, Ny417.out]; exact HP59.1); clear HP59; replace HO_5 := Aside0.mk (Kd.S_over' (v := (.slice (some ⟨go57, 0, none⟩) x6_31.length co58)) (zRS HO_5.out) (Kd.R_typed HO_6.out) (by decide) hg); replace HO_409009 := Aside0.mk (Kd.R_over' (v := (.slice (some ⟨go57, 0, none⟩) x6_31.length co58)) (zR HO_409009.out) (Kd.R_typed HO_6.out) (by decide) hg); replace BK408 := Aside0.mk (blk_grown (g := gb408) (o := .cells #[.int .i64 t395, .int .i64 t396, .string t397, .string t398, .string t399, .string t400, .string t401, .string t402, .string t403, .slice Ao36 t404.length co36] 64 (0, 0)) (zK BK408.out) hg (Kd.R_ne HO_6.out BK408.out (by decide))); replace HO_6 := Aside0.mk (hp_); replace HB := Aside0.mk ((by rw [hw]; exact below_set (HB.out) GB57.out : Below w.heap.size w w60)); clear hg hw hp_)))
            go_meet
            case rel => exact ⟨_, (y417), H', ⟨by have := HK1.out; have := HJ31.out; first | omega | exact Nat.le_refl _⟩, ⟨by (with_reducible repeat (first | apply Kd.S_alloc | apply Kd.S_drewN | apply Kd.S_drew)); exact HO_5.out⟩, ⟨by (with_reducible repeat (first | apply Kd.R_alloc | apply Kd.R_drewN | apply Kd.R_drew)); exact HO_6.out⟩, ⟨by (with_reducible repeat (first | apply Kd.R_alloc | apply Kd.R_drewN | apply Kd.R_drew)); exact HO_409009.out⟩, ⟨zK BK408.out⟩, ⟨zL HB.out⟩⟩
           rw [if_neg c52] at H
           exact absurd H (by simp)
          rw [if_neg c51] at H
          exact absurd H (by simp)
         rw [if_neg c45] at H
         have c45b0 := beq_eq_false_iff_ne.mpr c45
         have c45b1 := bne_iff_ne.mpr c45
         (first | rw [c45b0] | (simp only [i64_w, i32_w]; rw [c45b0]) | rw [isE_ c45b0] | skip)
         have H' := Aside0.mk H
         clear H
         go_wp2
         repeat (go_quiet (fail); try go_wp2)
         go_meet
         case rel => exact ⟨_, (x6_31), H', ⟨by have := HK1.out; have := HJ31.out; first | omega | exact Nat.le_refl _⟩, ⟨by (with_reducible repeat (first | apply Kd.S_alloc | apply Kd.S_drewN | apply Kd.S_drew)); exact HO_5.out⟩, ⟨by (with_reducible repeat (first | apply Kd.R_alloc | apply Kd.R_drewN | apply Kd.R_drew)); exact HO_6.out⟩, ⟨by (with_reducible repeat (first | apply Kd.R_alloc | apply Kd.R_drewN | apply Kd.R_drew)); exact HO_409009.out⟩, ⟨zK BK408.out⟩, ⟨zL HB.out⟩⟩
        case rest =>
         clear HC43
         try clear c2
         try clear c2b0
         try clear c3
         try clear c3b0
         try clear c5
         try clear c31
         try clear hcz35_0 hcz35_1 hcz35_2 hcz35_3 hcz35_4 hcz35_5 hcz35_6 hcz35_7 hcz35_8 hcz35_9
         try clear hcz44_0 hcz44_1 hcz44_2 hcz44_3 hcz44_4 hcz44_5 hcz44_6 hcz44_7 hcz44_8 hcz44_9
         try clear hfz35_0 hfz35_1 hfz35_2 hfz35_3 hfz35_4 hfz35_5 hfz35_6 hfz35_7 hfz35_8 hfz35_9
         try clear hfz44_0 hfz44_1 hfz44_2 hfz44_3 hfz44_4 hfz44_5 hfz44_6 hfz44_7 hfz44_8 hfz44_9
         try clear hx377_0
         try clear hx377_1
         try clear hx377_2
         try clear hx394_0
         try clear hx394_1
         try clear hx394_2
         try clear p377
         try clear p394
         try clear q377
         try clear q394
         obtain ⟨kq, x6_42, HA, HJ42, HO_5, HO_6, HO_409009, BK408, HB⟩ := hcut
         cases kq with
         | zero => exact absurd HA.out (by simp [cooperageref9_Parse.j2])
         | succ kj42 =>
          have H := HA.out
          clear HA
          simp only [cooperageref9_Parse.j2] at H
          by_cases c61 : t395 = 5
          ·rw [if_pos c61] at H
           have c61b0 := beq_iff_eq.mpr c61
           have c61b1 := bne_eq_false_iff_eq.mpr c61
           clear c61
           by_cases c62 : (x6_42.length : Int) = 0
           ·rw [if_pos c62] at H
            have c62b0 := beq_iff_eq.mpr c62
            have c62b1 := bne_eq_false_iff_eq.mpr c62
            clear c62
            by_cases c63 : 0 ≤ x7_1
            ·rw [if_pos c63] at H
             have c63b0 := decide_eq_true c63
             clear c63
             by_cases c64 : x7_1 < (l0.length : Int)
             ·rw [if_pos c64] at H
              have c64b0 := decide_eq_true c64
              clear c64
              simp only [Option.some.injEq, Prod.mk.injEq] at H
              obtain ⟨rfl, rfl, rfl⟩ := H
              obtain ⟨hcz65_0, hcz65_1, hcz65_2, hcz65_3, hcz65_4, hcz65_5, hcz65_6, hcz65_7, hcz65_8, hcz65_9, hfz65_0, hfz65_1, hfz65_2, hfz65_3, hfz65_4, hfz65_5, hfz65_6, hfz65_7, hfz65_8, hfz65_9⟩ := zC10 BK408.out
              obtain ⟨Ao66, co66, eo66⟩ := Kd.R_slice HO_6.out
              subst eo66
              have p418 : 0 ≤ (x7_1 : Int) := zD
              have q418 : x7_1 < (l0.length : Int) := zD
              obtain ⟨ad418, e418, hx418_0, hx418_1, hx418_2⟩ := at_T53 HR0.out x7_1 p418 q418
              (try rw [← Nbq4.out] at hx418_1)
              obtain rfl : ad377 = ad418 := (by injection e418)
              replace hx418_0 := zX HB.out hx418_0
              replace hx418_1 := zX HB.out hx418_1
              replace hx418_2 := zX HB.out hx418_2
              replace p418 := eq_true p418
              replace q418 := eq_true q418
              go_wp2
              repeat (go_quiet (fail); try go_wp2)
              go_ret3
              exact ⟨_, zE, by first | exact Kd.S_nil _ _ _ _ _ | exact Kd.N_nil _ _ _ _ _ | exact Kd.V_nil _ _ _ _ _ | exact Kd.Q_nil _ _ _ _ _ | exact Kd.R_nil _ _ _ _ _, zL HB.out⟩
             rw [if_neg c64] at H
             exact absurd H (by simp)
            rw [if_neg c63] at H
            exact absurd H (by simp)
           rw [if_neg c62] at H
           have c62b0 := beq_eq_false_iff_ne.mpr c62
           have c62b1 := bne_iff_ne.mpr c62
           have c62b2 : ¬ (x6_42 = []) := fun h_ => c62 (by rw [h_]; rfl)
           obtain ⟨ji67, hji67⟩ : ∃ j_ : Int, (wrap64 ((x6_42.length : Int) - 1)) = j_ := ⟨_, rfl⟩
           replace H : (if 0 ≤ (ji67) then (if (ji67) ≤ (x6_42.length : Int) then (if x5_1.length < 925904528653 then (cooperageref9_Parse.l0 kj42 l0 (x5_1 ++ [(⟨t395, t396, t397, t398, t399, t400, t401, t402, t403, t404⟩ : S64)]) (x6_42.take ((ji67) : Int).toNat) (wrap64 (x7_1 + 1))) else (none)) else (none)) else (none)) = some (r1, r2, r3) := by first | (rw [hji67] at H; exact H) | (simp only [hji67] at H ⊢; exact H)
           have hji67w : (IntKind.i64.wrap ((x6_42.length : Int) - 1)) = ji67 := (i64_w _).trans hji67
           by_cases c68 : 0 ≤ (ji67)
           ·rw [if_pos c68] at H
            have c68b0 := eq_true c68
            have c68b1 := decide_eq_true c68
            clear c68
            by_cases c69 : (ji67) ≤ (x6_42.length : Int)
            ·rw [if_pos c69] at H
             have c69b0 := eq_true c69
             have c69b1 := decide_eq_true c69
             clear c69
             obtain ⟨y419, hy419⟩ : ∃ y_ : List Int, y_ = (x6_42.take ((ji67) : Int).toNat) := ⟨_, rfl⟩
             replace H : (if x5_1.length < 925904528653 then (cooperageref9_Parse.l0 kj42 l0 (x5_1 ++ [(⟨t395, t396, t397, t398, t399, t400, t401, t402, t403, t404⟩ : S64)]) y419 (wrap64 (x7_1 + 1))) else (none)) = some (r1, r2, r3) := zH hy419 H
             have Ny419 := Aside0.mk hy419
             clear hy419
             by_cases c70 : x5_1.length < 925904528653
             ·rw [if_pos c70] at H
              have LMc70 := Aside0.mk c70
              clear c70
              obtain ⟨y422, hy422⟩ : ∃ y_ : List (S64), y_ = (x5_1 ++ [(⟨t395, t396, t397, t398, t399, t400, t401, t402, t403, t404⟩ : S64)]) := ⟨_, rfl⟩
              replace H : (cooperageref9_Parse.l0 kj42 l0 y422 y419 (wrap64 (x7_1 + 1))) = some (r1, r2, r3) := zH hy422 H
              have Ny422 := Aside0.mk hy422
              clear hy422
              have H' := Aside0.mk H
              clear H
              obtain ⟨hcz71_0, hcz71_1, hcz71_2, hcz71_3, hcz71_4, hcz71_5, hcz71_6, hcz71_7, hcz71_8, hcz71_9, hfz71_0, hfz71_1, hfz71_2, hfz71_3, hfz71_4, hfz71_5, hfz71_6, hfz71_7, hfz71_8, hfz71_9⟩ := zC10 BK408.out
              obtain ⟨Ao72, co72, eo72⟩ := Kd.R_slice HO_6.out
              subst eo72
              have q73 : ((ji67) : Int) ≤ ((x6_42.length : Int) : Int) := zD
              obtain ⟨i073, hi073, _, hsz73, _⟩ := info_parts info3
              have hcut73 := cut_to (P := Tryd.prog) 63 3 .i64 Tryd.underlying63 hi073 Ao72 x6_42.length co72 (ji67) zD q73 (Kd.R_reads' HO_6.out).2.1
              have hr73 := Kd.R_take (m := ((ji67) : Int).toNat) HO_6.out (by omega)
              have hy73 : y419.length = ((ji67) : Int).toNat := (by rw [Ny419.out, List.length_take]; omega)
              rw [← Ny419.out] at hr73
              rw [← hy73] at hr73 hcut73
              clear hy73 hi073 hsz73 HO_6
              have HO421 := Aside0.mk hr73
              clear hr73
              replace q73 := eq_true q73
              have F_ := trivial
              repeat ((first | clear F_ | go_quiet (fail)); try go_wp2_with (first | ((with_reducible refine gate_builtin (b := .append) (xs := #[.tmp 137, .tmp 139]) rfl ?_); (try (refine gate_guard (by rfl) ?_; dsimp only)); at_builtin; refine Kd.S_append k64 (w0 := w) w.heap.size rfl (.tmp 137) (.tmp 139) 31 64 (.agg #[(.int .i64 0), (.int .i64 0), (.string ⟨#[]⟩), (.string ⟨#[]⟩), (.string ⟨#[]⟩), (.string ⟨#[]⟩), (.string ⟨#[]⟩), (.string ⟨#[]⟩), (.string ⟨#[]⟩), (.slice none 0 0)]) 152 rfl Tryd.underlying31 info64 rfl (by decide) (by omega) u5 x5_1 (⟨t395, t396, t397, t398, t399, t400, t401, t402, t403, t404⟩ : S64) [.int .i64 t395, .int .i64 t396, .string t397, .string t398, .string t399, .string t400, .string t401, .string t402, .string t403, .slice Ao36 t404.length co36] (fun k_ => k_ ≠ gb408) (fun k_ => some k_ = (.slice Ao36 t404.length co36 : Value).ownBlock) rfl rfl ?aP (fun k_ hk_ => ((Kd.R_mono (ok' := fun k_ => ((fun k_ => k_ ≠ gb408)) k_ ∧ some k_ ≠ (u5 : Value).ownBlock) (Kd.R_types (Kd.R_apart' (HO_409009.out) (Kd.S_typed HO_5.out) (by decide)) BK408.out (by decide)) (fun k_ hk => ⟨hk.2, hk.1.2⟩))).1 k_ hk_.symm) ?aF ?aO ?aB ?aS ?aL ?_; (case aP => exact k64_mkM _ _ _ (⟨t395, t396, t397, t398, t399, t400, t401, t402, t403, t404⟩ : S64) (Kd.R_mono (Kd.R_tight rfl (Kd.R_mono (ok' := fun k_ => ((fun k_ => k_ ≠ gb408)) k_ ∧ some k_ ≠ (u5 : Value).ownBlock) (Kd.R_types (Kd.R_apart' (HO_409009.out) (Kd.S_typed HO_5.out) (by decide)) BK408.out (by decide)) (fun k_ hk => ⟨hk.2, hk.1.2⟩))) (fun _ h_ => h_))); (case aB => exact (zL HB.out)); (case aF => exact (fun k_ hk => Kd.freshB (g := gb408) (o := .cells #[.int .i64 t395, .int .i64 t396, .string t397, .string t398, .string t399, .string t400, .string t401, .string t402, .string t403, .slice Ao36 t404.length co36] 64 (0, 0)) (zK BK408.out) k_ hk)); (case aO => exact (by (with_reducible repeat (first | apply Kd.S_alloc | apply Kd.S_drewN | apply Kd.S_drew)); exact Kd.S_mono HO_5.out (fun k_ hk => ⟨hk.2, fun e_ => hk.1 e_⟩))); (case aS => exact (below_size (zL HB.out))); (case aL => have := LMc70.out; omega); intro v423 w74 ho hb hg hat; rw [← Ny422.out] at ho; replace HO421 := Aside0.mk (Kd.R_over' (zR HO421.out) (Kd.S_typed (zRS HO_5.out)) (by decide) hg); replace BK408 := Aside0.mk (blk_grown (g := gb408) (o := .cells #[.int .i64 t395, .int .i64 t396, .string t397, .string t398, .string t399, .string t400, .string t401, .string t402, .string t403, .slice Ao36 t404.length co36] 64 (0, 0)) (zK BK408.out) hg (Kd.S_away HO_5.out (fun _ hk => hk.2))); replace HB := Aside0.mk (hb); have HO424 := Aside0.mk (ho); clear HO_5 HO_409009; clear ho hb hg hat)))
              go_roundg kj42
              case measure => have := HK1.out; have := HJ31.out; have := HJ42.out; omega
              case rel => exact ⟨(y422), (y419), (wrap64 (x7_1 + 1)), zS, H', ⟨by have := HK1.out; have := HJ31.out; have := HJ42.out; omega⟩, ⟨by (with_reducible repeat (first | apply Kd.S_alloc | apply Kd.S_drewN | apply Kd.S_drew)); exact Kd.S_mono HO424.out (fun _ hk => trivial)⟩, ⟨by (with_reducible repeat (first | apply Kd.R_alloc | apply Kd.R_drewN | apply Kd.R_drew)); exact HO421.out⟩, ⟨zL HB.out⟩⟩
             rw [if_neg c70] at H
             exact absurd H (by simp)
            rw [if_neg c69] at H
            exact absurd H (by simp)
           rw [if_neg c68] at H
           exact absurd H (by simp)
          rw [if_neg c61] at H
          have c61b0 := beq_eq_false_iff_ne.mpr c61
          have c61b1 := bne_iff_ne.mpr c61
          by_cases c75 : x5_1.length < 925904528653
          ·rw [if_pos c75] at H
           have LMc75 := Aside0.mk c75
           clear c75
           obtain ⟨y425, hy425⟩ : ∃ y_ : List (S64), y_ = (x5_1 ++ [(⟨t395, t396, t397, t398, t399, t400, t401, t402, t403, t404⟩ : S64)]) := ⟨_, rfl⟩
           replace H : (cooperageref9_Parse.l0 kj42 l0 y425 x6_42 (wrap64 (x7_1 + 1))) = some (r1, r2, r3) := zH hy425 H
           have Ny425 := Aside0.mk hy425
           clear hy425
           have H' := Aside0.mk H
           clear H
           obtain ⟨hcz76_0, hcz76_1, hcz76_2, hcz76_3, hcz76_4, hcz76_5, hcz76_6, hcz76_7, hcz76_8, hcz76_9, hfz76_0, hfz76_1, hfz76_2, hfz76_3, hfz76_4, hfz76_5, hfz76_6, hfz76_7, hfz76_8, hfz76_9⟩ := zC10 BK408.out
           have F_ := trivial
           repeat ((first | clear F_ | go_quiet (fail)); try go_wp2_with (first | ((with_reducible refine gate_builtin (b := .append) (xs := #[.tmp 137, .tmp 139]) rfl ?_); (try (refine gate_guard (by rfl) ?_; dsimp only)); at_builtin; refine Kd.S_append k64 (w0 := w) w.heap.size rfl (.tmp 137) (.tmp 139) 31 64 (.agg #[(.int .i64 0), (.int .i64 0), (.string ⟨#[]⟩), (.string ⟨#[]⟩), (.string ⟨#[]⟩), (.string ⟨#[]⟩), (.string ⟨#[]⟩), (.string ⟨#[]⟩), (.string ⟨#[]⟩), (.slice none 0 0)]) 152 rfl Tryd.underlying31 info64 rfl (by decide) (by omega) u5 x5_1 (⟨t395, t396, t397, t398, t399, t400, t401, t402, t403, t404⟩ : S64) [.int .i64 t395, .int .i64 t396, .string t397, .string t398, .string t399, .string t400, .string t401, .string t402, .string t403, .slice Ao36 t404.length co36] (fun k_ => k_ ≠ gb408) (fun k_ => some k_ = (.slice Ao36 t404.length co36 : Value).ownBlock) rfl rfl ?aP (fun k_ hk_ => ((Kd.R_mono (ok' := fun k_ => ((fun k_ => k_ ≠ gb408)) k_ ∧ some k_ ≠ (u5 : Value).ownBlock) (Kd.R_types (Kd.R_apart' (HO_409009.out) (Kd.S_typed HO_5.out) (by decide)) BK408.out (by decide)) (fun k_ hk => ⟨hk.2, hk.1.2⟩))).1 k_ hk_.symm) ?aF ?aO ?aB ?aS ?aL ?_; (case aP => exact k64_mkM _ _ _ (⟨t395, t396, t397, t398, t399, t400, t401, t402, t403, t404⟩ : S64) (Kd.R_mono (Kd.R_tight rfl (Kd.R_mono (ok' := fun k_ => ((fun k_ => k_ ≠ gb408)) k_ ∧ some k_ ≠ (u5 : Value).ownBlock) (Kd.R_types (Kd.R_apart' (HO_409009.out) (Kd.S_typed HO_5.out) (by decide)) BK408.out (by decide)) (fun k_ hk => ⟨hk.2, hk.1.2⟩))) (fun _ h_ => h_))); (case aB => exact (zL HB.out)); (case aF => exact (fun k_ hk => Kd.freshB (g := gb408) (o := .cells #[.int .i64 t395, .int .i64 t396, .string t397, .string t398, .string t399, .string t400, .string t401, .string t402, .string t403, .slice Ao36 t404.length co36] 64 (0, 0)) (zK BK408.out) k_ hk)); (case aO => exact (by (with_reducible repeat (first | apply Kd.S_alloc | apply Kd.S_drewN | apply Kd.S_drew)); exact Kd.S_mono HO_5.out (fun k_ hk => ⟨hk.2, fun e_ => hk.1 e_⟩))); (case aS => exact (below_size (zL HB.out))); (case aL => have := LMc75.out; omega); intro v426 w77 ho hb hg hat; rw [← Ny425.out] at ho; replace HO_6 := Aside0.mk (Kd.R_over' (zR HO_6.out) (Kd.S_typed (zRS HO_5.out)) (by decide) hg); replace BK408 := Aside0.mk (blk_grown (g := gb408) (o := .cells #[.int .i64 t395, .int .i64 t396, .string t397, .string t398, .string t399, .string t400, .string t401, .string t402, .string t403, .slice Ao36 t404.length co36] 64 (0, 0)) (zK BK408.out) hg (Kd.S_away HO_5.out (fun _ hk => hk.2))); replace HB := Aside0.mk (hb); have HO427 := Aside0.mk (ho); clear HO_5 HO_409009; clear ho hb hg hat)))
           go_roundg kj42
           case measure => have := HK1.out; have := HJ31.out; have := HJ42.out; omega
           case rel => exact ⟨(y425), (x6_42), (wrap64 (x7_1 + 1)), zS, H', ⟨by have := HK1.out; have := HJ31.out; have := HJ42.out; omega⟩, ⟨by (with_reducible repeat (first | apply Kd.S_alloc | apply Kd.S_drewN | apply Kd.S_drew)); exact Kd.S_mono HO427.out (fun _ hk => trivial)⟩, ⟨by (with_reducible repeat (first | apply Kd.R_alloc | apply Kd.R_drewN | apply Kd.R_drew)); exact HO_6.out⟩, ⟨zL HB.out⟩⟩
          rw [if_neg c75] at H
          exact absurd H (by simp)
     replace c31 := Bool.eq_false_iff.mpr c31
     subst c31
     rw [if_neg (show ¬ (false = true) by decide)] at H
     simp only [Option.some.injEq, Prod.mk.injEq] at H
     obtain ⟨rfl, rfl, rfl⟩ := H
     have p377 : 0 ≤ (x7_1 : Int) := zD
     have q377 : x7_1 < (l0.length : Int) := zD
     obtain ⟨ad377, e377, hx377_0, hx377_1, hx377_2⟩ := at_T53 HR0.out x7_1 p377 q377
     (try rw [← Nbq4.out] at hx377_1)
     cases e377
     replace hx377_0 := zX HB.out hx377_0
     replace hx377_1 := zX HB.out hx377_1
     replace hx377_2 := zX HB.out hx377_2
     replace p377 := eq_true p377
     replace q377 := eq_true q377
     have p394 : 0 ≤ (x7_1 : Int) := zD
     have q394 : x7_1 < (l0.length : Int) := zD
     obtain ⟨ad394, e394, hx394_0, hx394_1, hx394_2⟩ := at_T53 HR0.out x7_1 p394 q394
     (try rw [← Nbq4.out] at hx394_1)
     obtain rfl : ad377 = ad394 := (by injection e394)
     replace hx394_0 := zX HB.out hx394_0
     replace hx394_1 := zX HB.out hx394_1
     replace hx394_2 := zX HB.out hx394_2
     replace p394 := eq_true p394
     replace q394 := eq_true q394
     have F_ := trivial
     repeat ((first | clear F_ | go_quiet (first | (go_at_call 26; (with_reducible refine (cooperageref9_one.calls k1 ((rd_T53 l0 x7_1).f0) false ((rd_T53 l0 x7_1).f2) t395 t396 t397 t398 t399 t400 t401 t402 t403 t404 false _ A30.out).mono ?_); rintro e w78 ⟨v405, rfl, ho0, hb⟩; replace HO_5 := Aside0.mk (Kd.S_elder' (zRS HO_5.out) (Kd.R_base ho0) hb); replace HO_6 := Aside0.mk (Kd.R_below (zR HO_6.out) hb); have HO406 := Aside0.mk (Kd.R_lower ho0 (below_size (zL HB.out))); replace HB := Aside0.mk (below_step (zL HB.out) hb); (try clear hb); (try clear hb2); (try clear hk); (try clear hi); (try clear ho0)))); try go_wp2_with (first | (go_at_call 26; (with_reducible refine (cooperageref9_one.calls k1 ((rd_T53 l0 x7_1).f0) false ((rd_T53 l0 x7_1).f2) t395 t396 t397 t398 t399 t400 t401 t402 t403 t404 false _ A30.out).mono ?_); rintro e w78 ⟨v405, rfl, ho0, hb⟩; replace HO_5 := Aside0.mk (Kd.S_elder' (zRS HO_5.out) (Kd.R_base ho0) hb); replace HO_6 := Aside0.mk (Kd.R_below (zR HO_6.out) hb); have HO406 := Aside0.mk (Kd.R_lower ho0 (below_size (zL HB.out))); replace HB := Aside0.mk (below_step (zL HB.out) hb); (try clear hb); (try clear hb2); (try clear hk); (try clear hi); (try clear ho0)) | ((with_reducible refine gate_dst (N := 10) rfl ?_); (try (refine gate_guard (by rfl) ?_; dsimp only)); refine box_event ?hg (N := 10) ?hd (cs := #[.int .i64 0, .int .i64 0, .string ⟨#[]⟩, .string ⟨#[]⟩, .string ⟨#[]⟩, .string ⟨#[]⟩, .string ⟨#[]⟩, .string ⟨#[]⟩, .string ⟨#[]⟩, .slice none 0 0]) (t := 64) ?hr ?_; (case hd => rfl); (case hg => rfl); (case hr => (go_simp; try rfl)); intro gb408 hg w79 hbox hb; replace HO_5 := Aside0.mk (Kd.S_below (Kd.S_elderB (zRS HO_5.out) gb408 (Nat.le_of_eq hg.symm)) hb); replace HO_6 := Aside0.mk (Kd.R_below (zR HO_6.out) hb); replace HO406 := Aside0.mk (Kd.R_below (zR HO406.out) hb); have BK408 := Aside0.mk (hbox); have GW408 := Aside0.mk (zG hg (zL HB.out)); have GE408 := Aside0.mk (zG hg (zL HB.out)); replace HB := Aside0.mk (below_step (zL HB.out) hb); clear hb hbox hg; obtain ⟨hcz80_0, hcz80_1, hcz80_2, hcz80_3, hcz80_4, hcz80_5, hcz80_6, hcz80_7, hcz80_8, hcz80_9, hfz80_0, hfz80_1, hfz80_2, hfz80_3, hfz80_4, hfz80_5, hfz80_6, hfz80_7, hfz80_8, hfz80_9⟩ := zC10 BK408.out; obtain ⟨Ao81, co81, eo81⟩ := Kd.R_slice HO406.out; subst eo81; have p409 : 0 ≤ (x7_1 : Int) := zD; have q409 : x7_1 < (l0.length : Int) := zD; obtain ⟨ad409, e409, hx409_0, hx409_1, hx409_2⟩ := at_T53 HR0.out x7_1 p409 q409; (try rw [← Nbq4.out] at hx409_1); obtain rfl : ad377 = ad409 := (by injection e409); have hn409_0 : ad377.block ≠ gb408 := Nat.ne_of_lt (Nat.lt_of_lt_of_le (by have := World.block_lt_of_cell? _ _ hx409_0; first | rwa [add_block] at this | exact this) GW408.out); have hn409_1 : ad377.block ≠ gb408 := Nat.ne_of_lt (Nat.lt_of_lt_of_le (by have := World.block_lt_of_cell? _ _ hx409_0; first | rwa [add_block] at this | exact this) GW408.out); have hn409_2 : ad377.block ≠ gb408 := Nat.ne_of_lt (Nat.lt_of_lt_of_le (by have := World.block_lt_of_cell? _ _ hx409_0; first | rwa [add_block] at this | exact this) GW408.out); have hn409_3 : ad377.block ≠ gb408 := Nat.ne_of_lt (Nat.lt_of_lt_of_le (by have := World.block_lt_of_cell? _ _ hx409_0; first | rwa [add_block] at this | exact this) GW408.out); have hn409_4 : ad377.block ≠ gb408 := Nat.ne_of_lt (Nat.lt_of_lt_of_le (by have := World.block_lt_of_cell? _ _ hx409_0; first | rwa [add_block] at this | exact this) GW408.out); have hn409_5 : ad377.block ≠ gb408 := Nat.ne_of_lt (Nat.lt_of_lt_of_le (by have := World.block_lt_of_cell? _ _ hx409_0; first | rwa [add_block] at this | exact this) GW408.out); have hn409_6 : ad377.block ≠ gb408 := Nat.ne_of_lt (Nat.lt_of_lt_of_le (by have := World.block_lt_of_cell? _ _ hx409_0; first | rwa [add_block] at this | exact this) GW408.out); have hn409_7 : ad377.block ≠ gb408 := Nat.ne_of_lt (Nat.lt_of_lt_of_le (by have := World.block_lt_of_cell? _ _ hx409_0; first | rwa [add_block] at this | exact this) GW408.out); have hn409_8 : ad377.block ≠ gb408 := Nat.ne_of_lt (Nat.lt_of_lt_of_le (by have := World.block_lt_of_cell? _ _ hx409_0; first | rwa [add_block] at this | exact this) GW408.out); have hn409_9 : ad377.block ≠ gb408 := Nat.ne_of_lt (Nat.lt_of_lt_of_le (by have := World.block_lt_of_cell? _ _ hx409_0; first | rwa [add_block] at this | exact this) GW408.out); replace hx409_0 := zX HB.out hx409_0; replace hx409_1 := zX HB.out hx409_1; replace hx409_2 := zX HB.out hx409_2; replace hx409_0 := zF gb408 0 (.int .i64 t395) hn409_0 hx409_0; replace hx409_1 := zF gb408 0 (.int .i64 t395) hn409_0 hx409_1; replace hx409_2 := zF gb408 0 (.int .i64 t395) hn409_0 hx409_2; replace hx409_0 := zF gb408 1 (.int .i64 t396) hn409_1 hx409_0; replace hx409_1 := zF gb408 1 (.int .i64 t396) hn409_1 hx409_1; replace hx409_2 := zF gb408 1 (.int .i64 t396) hn409_1 hx409_2; replace hx409_0 := zF gb408 2 (.string t397) hn409_2 hx409_0; replace hx409_1 := zF gb408 2 (.string t397) hn409_2 hx409_1; replace hx409_2 := zF gb408 2 (.string t397) hn409_2 hx409_2; replace hx409_0 := zF gb408 3 (.string t398) hn409_3 hx409_0; replace hx409_1 := zF gb408 3 (.string t398) hn409_3 hx409_1; replace hx409_2 := zF gb408 3 (.string t398) hn409_3 hx409_2; replace hx409_0 := zF gb408 4 (.string t399) hn409_4 hx409_0; replace hx409_1 := zF gb408 4 (.string t399) hn409_4 hx409_1; replace hx409_2 := zF gb408 4 (.string t399) hn409_4 hx409_2; replace hx409_0 := zF gb408 5 (.string t400) hn409_5 hx409_0; replace hx409_1 := zF gb408 5 (.string t400) hn409_5 hx409_1; replace hx409_2 := zF gb408 5 (.string t400) hn409_5 hx409_2; replace hx409_0 := zF gb408 6 (.string t401) hn409_6 hx409_0; replace hx409_1 := zF gb408 6 (.string t401) hn409_6 hx409_1; replace hx409_2 := zF gb408 6 (.string t401) hn409_6 hx409_2; replace hx409_0 := zF gb408 7 (.string t402) hn409_7 hx409_0; replace hx409_1 := zF gb408 7 (.string t402) hn409_7 hx409_1; replace hx409_2 := zF gb408 7 (.string t402) hn409_7 hx409_2; replace hx409_0 := zF gb408 8 (.string t403) hn409_8 hx409_0; replace hx409_1 := zF gb408 8 (.string t403) hn409_8 hx409_1; replace hx409_2 := zF gb408 8 (.string t403) hn409_8 hx409_2; replace hx409_0 := zF gb408 9 (.slice Ao81 t404.length co81) hn409_9 hx409_0; replace hx409_1 := zF gb408 9 (.slice Ao81 t404.length co81) hn409_9 hx409_1; replace hx409_2 := zF gb408 9 (.slice Ao81 t404.length co81) hn409_9 hx409_2; (try have hy409_0 := fun (n_ : Nat) => zDY (w2 := ((((((((((((w79.drewN n_).setCell ⟨gb408, 0, none⟩ (.int .i64 t395)).setCell ⟨gb408, 1, none⟩ (.int .i64 t396)).setCell ⟨gb408, 2, none⟩ (.string t397)).setCell ⟨gb408, 3, none⟩ (.string t398)).setCell ⟨gb408, 4, none⟩ (.string t399)).setCell ⟨gb408, 5, none⟩ (.string t400)).setCell ⟨gb408, 6, none⟩ (.string t401)).setCell ⟨gb408, 7, none⟩ (.string t402)).setCell ⟨gb408, 8, none⟩ (.string t403)).setCell ⟨gb408, 9, none⟩ (.slice Ao81 t404.length co81)))) hx409_0); (try have hy409_1 := fun (n_ : Nat) => zDY (w2 := ((((((((((((w79.drewN n_).setCell ⟨gb408, 0, none⟩ (.int .i64 t395)).setCell ⟨gb408, 1, none⟩ (.int .i64 t396)).setCell ⟨gb408, 2, none⟩ (.string t397)).setCell ⟨gb408, 3, none⟩ (.string t398)).setCell ⟨gb408, 4, none⟩ (.string t399)).setCell ⟨gb408, 5, none⟩ (.string t400)).setCell ⟨gb408, 6, none⟩ (.string t401)).setCell ⟨gb408, 7, none⟩ (.string t402)).setCell ⟨gb408, 8, none⟩ (.string t403)).setCell ⟨gb408, 9, none⟩ (.slice Ao81 t404.length co81)))) hx409_1); (try have hy409_2 := fun (n_ : Nat) => zDY (w2 := ((((((((((((w79.drewN n_).setCell ⟨gb408, 0, none⟩ (.int .i64 t395)).setCell ⟨gb408, 1, none⟩ (.int .i64 t396)).setCell ⟨gb408, 2, none⟩ (.string t397)).setCell ⟨gb408, 3, none⟩ (.string t398)).setCell ⟨gb408, 4, none⟩ (.string t399)).setCell ⟨gb408, 5, none⟩ (.string t400)).setCell ⟨gb408, 6, none⟩ (.string t401)).setCell ⟨gb408, 7, none⟩ (.string t402)).setCell ⟨gb408, 8, none⟩ (.string t403)).setCell ⟨gb408, 9, none⟩ (.slice Ao81 t404.length co81)))) hx409_2); clear hn409_0; clear hn409_1; clear hn409_2; clear hn409_3; clear hn409_4; clear hn409_5; clear hn409_6; clear hn409_7; clear hn409_8; clear hn409_9; replace p409 := eq_true p409; replace q409 := eq_true q409)))
     go_ret3
     exact ⟨_, zE, by first | exact Kd.S_nil _ _ _ _ _ | exact Kd.N_nil _ _ _ _ _ | exact Kd.V_nil _ _ _ _ _ | exact Kd.Q_nil _ _ _ _ _ | exact Kd.R_nil _ _ _ _ _, zL HB.out⟩
    rw [if_neg c3] at H
    exact absurd H (by simp)
   rw [if_neg c2] at H
   have c2b0 := decide_eq_false c2
   clear c2
   by_cases c82 : (x6_1.length : Int) > 0
   ·rw [if_pos c82] at H
    have c82b0 : decide (0 < (x6_1.length : Int)) = true := decide_eq_true c82
    have c82b1 : decide (0 < x6_1.length) = true := decide_eq_true (by omega)
    clear c82
    simp only [Option.some.injEq, Prod.mk.injEq] at H
    obtain ⟨rfl, rfl, rfl⟩ := H
    obtain ⟨Ao83, co83, eo83⟩ := Kd.R_slice HO_6.out
    subst eo83
    go_wp2
    repeat (go_quiet (fail); try go_wp2)
    go_ret3
    exact ⟨_, zE, by first | exact Kd.S_nil _ _ _ _ _ | exact Kd.N_nil _ _ _ _ _ | exact Kd.V_nil _ _ _ _ _ | exact Kd.Q_nil _ _ _ _ _ | exact Kd.R_nil _ _ _ _ _, zL HB.out⟩
   rw [if_neg c82] at H
   have c82b0 : decide (0 < (x6_1.length : Int)) = false := decide_eq_false c82
   have c82b1 : decide (0 < x6_1.length) = false := decide_eq_false (by omega)
   clear c82
   simp only [Option.some.injEq, Prod.mk.injEq] at H
   obtain ⟨rfl, rfl, rfl⟩ := H
   obtain ⟨Ao84, co84, eo84⟩ := Kd.R_slice HO_6.out
   subst eo84
   go_wp2
   repeat (go_quiet (fail); try go_wp2)
   go_ret3
   exact ⟨_, zE, by (with_reducible repeat (first | apply Kd.S_alloc | apply Kd.S_drewN | apply Kd.S_drew)); exact HO_5.out, zL HB.out⟩

end Go.Proofs.YthnholondnfjoaaDoor.PParse
