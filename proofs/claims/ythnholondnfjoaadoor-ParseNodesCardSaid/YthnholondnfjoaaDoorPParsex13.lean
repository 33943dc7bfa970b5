-- Written by a program of this session (wip/tools/ext.py, over the kit's printer); not trusted: Lean checks it.
import Derived.Test.YthnholondnfjoaaDoorPParsex0
import Derived.Test.YthnholondnfjoaaDoorPParsex12
namespace Go.Proofs.YthnholondnfjoaaDoor.PParse
open Go.RowKit Go.Proofs.YthnholondnfjoaaDoorW.PrintWords Go.Proofs.YthnholondnfjoaaDoorW.PrintLast Go.Proofs.YthnholondnfjoaaDoorW.PrintMore
attribute [local go_sem] max2_int min2_int max_two min_two max_three min_three max_four min_four
set_option linter.unusedVariables false
set_option linter.unusedSimpArgs false
set_option maxHeartbeats 8000000
set_option maxRecDepth 100000

/-! ### cooperageref9_Parse: function 13 -/
mutual
def cooperageref9_Parse.l0 : Nat → List (S53) → List (S64) → List Int → Int → Option ((List (S64)) × Int × Int)
 | 0, _, _, _, _ => none
 | k + 1, x0, x5, x6, x7 => if x7 < (x0.length : Int) then (if 0 ≤ x7 then (if (rd_T53 x0 x7).f1 = true then (if (x5.length : Int) = 0 then (some (([] : List (S64)), 2, (rd_T53 x0 x7).f0)) else (if 0 ≤ (wrap64 ((x5.length : Int) - 1)) then (if (wrap64 ((x5.length : Int) - 1)) < (x5.length : Int) then (if ((rd_T64 x5 (wrap64 ((x5.length : Int) - 1))).f0) = 2 then ((some (([] : List ByteArray) : List ByteArray)).bind fun y375 => (if y375.length + ((rd_T64 x5 (wrap64 ((x5.length : Int) - 1))).f9).length < 8796093022208 then ((some (y375 ++ ((rd_T64 x5 (wrap64 ((x5.length : Int) - 1))).f9) : List ByteArray)).bind fun y378 => (if y378.length < 8796093022208 then (cooperageref9_Parse.l0 k x0 (x5.set ((wrap64 ((x5.length : Int) - 1)) : Int).toNat (⟨(rd_T64 x5 (wrap64 ((x5.length : Int) - 1))).f0, (rd_T64 x5 (wrap64 ((x5.length : Int) - 1))).f1, (rd_T64 x5 (wrap64 ((x5.length : Int) - 1))).f2, (rd_T64 x5 (wrap64 ((x5.length : Int) - 1))).f3, (rd_T64 x5 (wrap64 ((x5.length : Int) - 1))).f4, (rd_T64 x5 (wrap64 ((x5.length : Int) - 1))).f5, (rd_T64 x5 (wrap64 ((x5.length : Int) - 1))).f6, (rd_T64 x5 (wrap64 ((x5.length : Int) - 1))).f7, (rd_T64 x5 (wrap64 ((x5.length : Int) - 1))).f8, (y378 ++ [(rd_T53 x0 x7).f2])⟩ : S64)) x6 (wrap64 (x7 + 1))) else (none))) else (none))) else (some (([] : List (S64)), 2, (rd_T53 x0 x7).f0))) else (none)) else (none))) else ((cooperageref9_one.f k ((rd_T53 x0 x7).f0) ((rd_T53 x0 x7).f1) ((rd_T53 x0 x7).f2)).bind fun bt388 => (if bt388.2.2.2.2.2.2.2.2.2.2 = true then (if bt388.1 = 3 then (if (x6.length : Int) = 20 then (some (([] : List (S64)), 15, (rd_T53 x0 x7).f0)) else (if x6.length < 17592186044416 then (cooperageref9_Parse.j1 k x0 x5 (x6 ++ [0]) x7 bt388.1 bt388.2.1 bt388.2.2.1 bt388.2.2.2.1 bt388.2.2.2.2.1 bt388.2.2.2.2.2.1 bt388.2.2.2.2.2.2.1 bt388.2.2.2.2.2.2.2.1 bt388.2.2.2.2.2.2.2.2.1 bt388.2.2.2.2.2.2.2.2.2.1) else (none))) else (cooperageref9_Parse.j1 k x0 x5 x6 x7 bt388.1 bt388.2.1 bt388.2.2.1 bt388.2.2.2.1 bt388.2.2.2.2.1 bt388.2.2.2.2.2.1 bt388.2.2.2.2.2.2.1 bt388.2.2.2.2.2.2.2.1 bt388.2.2.2.2.2.2.2.2.1 bt388.2.2.2.2.2.2.2.2.2.1)) else (some (([] : List (S64)), 2, (rd_T53 x0 x7).f0))))) else (none)) else (if (x6.length : Int) > 0 then (some (([] : List (S64)), 14, 0)) else (some (x5, 0, 0)))
def cooperageref9_Parse.j1 : Nat → List (S53) → List (S64) → List Int → Int → Int → Int → ByteArray → ByteArray → ByteArray → ByteArray → ByteArray → ByteArray → ByteArray → List ByteArray → Option ((List (S64)) × Int × Int)
 | 0, _, _, _, _, _, _, _, _, _, _, _, _, _, _ => none
 | k + 1, x0, x5, x6, x7, x402000, x402001, x402002, x402003, x402004, x402005, x402006, x402007, x402008, x402009 => if x402000 = 4 then (if (x6.length : Int) = 0 then (if 0 ≤ x7 then (if x7 < (x0.length : Int) then (some (([] : List (S64)), 2, (rd_T53 x0 x7).f0)) else (none)) else (none)) else (if 0 ≤ (wrap64 ((x6.length : Int) - 1)) then (if (wrap64 ((x6.length : Int) - 1)) < (x6.length : Int) then (if (rd x6 (wrap64 ((x6.length : Int) - 1))) > 0 then (if 0 ≤ x7 then (if x7 < (x0.length : Int) then (some (([] : List (S64)), 2, (rd_T53 x0 x7).f0)) else (none)) else (none)) else (cooperageref9_Parse.j2 k x0 x5 (x6.set ((wrap64 ((x6.length : Int) - 1)) : Int).toNat 1) x7 x402000 x402001 x402002 x402003 x402004 x402005 x402006 x402007 x402008 x402009)) else (none)) else (none))) else (cooperageref9_Parse.j2 k x0 x5 x6 x7 x402000 x402001 x402002 x402003 x402004 x402005 x402006 x402007 x402008 x402009)
def cooperageref9_Parse.j2 : Nat → List (S53) → List (S64) → List Int → Int → Int → Int → ByteArray → ByteArray → ByteArray → ByteArray → ByteArray → ByteArray → ByteArray → List ByteArray → Option ((List (S64)) × Int × Int)
 | 0, _, _, _, _, _, _, _, _, _, _, _, _, _, _ => none
 | k + 1, x0, x5, x6, x7, x402000, x402001, x402002, x402003, x402004, x402005, x402006, x402007, x402008, x402009 => if x402000 = 5 then (if (x6.length : Int) = 0 then (if 0 ≤ x7 then (if x7 < (x0.length : Int) then (some (([] : List (S64)), 2, (rd_T53 x0 x7).f0)) else (none)) else (none)) else (if 0 ≤ (wrap64 ((x6.length : Int) - 1)) then (if (wrap64 ((x6.length : Int) - 1)) ≤ (x6.length : Int) then (if x5.length < 925904528653 then (cooperageref9_Parse.l0 k x0 (x5 ++ [(⟨x402000, x402001, x402002, x402003, x402004, x402005, x402006, x402007, x402008, x402009⟩ : S64)]) (x6.take ((wrap64 ((x6.length : Int) - 1)) : Int).toNat) (wrap64 (x7 + 1))) else (none)) else (none)) else (none))) else (if x5.length < 925904528653 then (cooperageref9_Parse.l0 k x0 (x5 ++ [(⟨x402000, x402001, x402002, x402003, x402004, x402005, x402006, x402007, x402008, x402009⟩ : S64)]) x6 (wrap64 (x7 + 1))) else (none))
end
def cooperageref9_Parse.f (k : Nat) (l0 : List (S53)) : Option ((List (S64)) × Int × Int) := cooperageref9_Parse.l0 k l0 ([] : List (S64)) ([] : List Int) 0
theorem cooperageref9_Parse.mono_l : ∀ k, (∀ y0 y1 y2 y3, LeO (cooperageref9_Parse.l0 k y0 y1 y2 y3) (cooperageref9_Parse.l0 (k + 1) y0 y1 y2 y3)) ∧ (∀ y0 y1 y2 y3 y4 y5 y6 y7 y8 y9 y10 y11 y12 y13, LeO (cooperageref9_Parse.j1 k y0 y1 y2 y3 y4 y5 y6 y7 y8 y9 y10 y11 y12 y13) (cooperageref9_Parse.j1 (k + 1) y0 y1 y2 y3 y4 y5 y6 y7 y8 y9 y10 y11 y12 y13)) ∧ (∀ y0 y1 y2 y3 y4 y5 y6 y7 y8 y9 y10 y11 y12 y13, LeO (cooperageref9_Parse.j2 k y0 y1 y2 y3 y4 y5 y6 y7 y8 y9 y10 y11 y12 y13) (cooperageref9_Parse.j2 (k + 1) y0 y1 y2 y3 y4 y5 y6 y7 y8 y9 y10 y11 y12 y13))
 | 0 => ⟨fun _ _ _ _ r h => by simp [cooperageref9_Parse.l0] at h, fun _ _ _ _ _ _ _ _ _ _ _ _ _ _ r h => by simp [cooperageref9_Parse.j1] at h, fun _ _ _ _ _ _ _ _ _ _ _ _ _ _ r h => by simp [cooperageref9_Parse.j2] at h⟩
 | k + 1 => by
  obtain ⟨ih0, ih1, ih2⟩ := cooperageref9_Parse.mono_l k
  have m0 := @cooperageref9_one.mono
  refine ⟨?_, ?_, ?_⟩
  ·intros
   unfold cooperageref9_Parse.l0
   exact zLe
  ·intros
   unfold cooperageref9_Parse.j1
   exact zLe
  ·intros
   unfold cooperageref9_Parse.j2
   exact zLe
theorem cooperageref9_Parse.mono : ∀ a0 k, LeO (cooperageref9_Parse.f k a0) (cooperageref9_Parse.f (k + 1) a0) := by
 intro a0 k
 obtain ⟨ih0, ih1, ih2⟩ := cooperageref9_Parse.mono_l k
 unfold cooperageref9_Parse.f
 have m0 := @cooperageref9_one.mono
 exact zLe
theorem cooperageref9_Parse.calls (k : Nat) (A0 : Option Addr) (c0 : Nat) (l0 : List (S53)) (r1 : List (S64)) (r2 : Int) (r3 : Int) (w : World) (hr0 : Kd.C k53 w A0 l0.length l0) (hc0 : l0.length ≤ c0) (h : cooperageref9_Parse.f k l0 = some (r1, r2, r3)) :
  Calls Tryd.prog 13 #[.slice A0 l0.length c0] w fun e w' => ∃ v0_ : Value, e = .returned (.tuple #[v0_, .int .i64 r2, .int .i64 r3]) ∧ Kd.S k64 64 w' w.heap.size (fun _ => True) v0_ r1 ∧ Below w.heap.size w w' := by
 have hu64 := Tryd.underlying64
 have hu53 := Tryd.underlying53
 have HR0 := ka hr0
 have HC0 := ka hc0
 clear hr0 hc0
 have HB := ka (Below.refl w.heap.size w)
 have H : (cooperageref9_Parse.l0 k l0 ([] : List (S64)) ([] : List Int) 0) = some (r1, r2, r3) := h
 clear h
 have H' := ka H
 clear H
 go_enter Tryd.func13, Tryd.ntmps13
 go_wp2
 repeat (go_quiet (fail); try go_wp2)
 go_loopg [5, 6, 7] k (fun kq v5 v6 v7 w' => ∃ (x5_1 : List (S64)) (x6_1 : List Int) (x7_1 : Int), v7 = .int .i64 x7_1 ∧ Aside0 (cooperageref9_Parse.l0 kq l0 x5_1 x6_1 x7_1 = some (r1, r2, r3)) ∧ Aside0 (kq ≤ k) ∧ Aside0 (Kd.S k64 64 w' w.heap.size (fun _ => True) v5 x5_1) ∧ Aside0 (Kd.R (Kd.int .i64) 3 w' w.heap.size (fun _ => True) v6 x6_1) ∧ Aside0 (Below w.heap.size w w'))
 case atStart => exact ⟨(([] : List (S64))), (([] : List Int)), (0), zS, H', ⟨Nat.le_refl _⟩, ⟨zNl⟩, ⟨zNl⟩, ⟨zL HB.out⟩⟩
 case round =>
  clear H'
  obtain ⟨x5_1, x6_1, x7_1, rfl, HA, HK1, HO_5, HO_6, HB⟩ := hrel
  cases gk with
  | zero => exact absurd HA.out (by simp [cooperageref9_Parse.l0])
  | succ k1 =>
   have H := HA.out
   clear HA
   simp only [cooperageref9_Parse.l0] at H
   by_cases c2 : x7_1 < (l0.length : Int)
   ·rw [if_pos c2] at H
    have c2b0 := zdt c2
    clear c2
    replace H := zif H
    obtain ⟨c3, H⟩ := H
    have c3b0 := zdt c3
    clear c3
    obtain ⟨bq4, hbq4⟩ : ∃ b_ : Bool, b_ = ((rd_T53 l0 x7_1).f1) := ⟨_, rfl⟩
    replace H : (if bq4 = true then (if (x5_1.length : Int) = 0 then (some (([] : List (S64)), 2, (rd_T53 l0 x7_1).f0)) else (if 0 ≤ (wrap64 ((x5_1.length : Int) - 1)) then (if (wrap64 ((x5_1.length : Int) - 1)) < (x5_1.length : Int) then (if ((rd_T64 x5_1 (wrap64 ((x5_1.length : Int) - 1))).f0) = 2 then ((some (([] : List ByteArray) : List ByteArray)).bind fun y375 => (if y375.length + ((rd_T64 x5_1 (wrap64 ((x5_1.length : Int) - 1))).f9).length < 8796093022208 then ((some (y375 ++ ((rd_T64 x5_1 (wrap64 ((x5_1.length : Int) - 1))).f9) : List ByteArray)).bind fun y378 => (if y378.length < 8796093022208 then (cooperageref9_Parse.l0 k1 l0 (x5_1.set ((wrap64 ((x5_1.length : Int) - 1)) : Int).toNat (⟨(rd_T64 x5_1 (wrap64 ((x5_1.length : Int) - 1))).f0, (rd_T64 x5_1 (wrap64 ((x5_1.length : Int) - 1))).f1, (rd_T64 x5_1 (wrap64 ((x5_1.length : Int) - 1))).f2, (rd_T64 x5_1 (wrap64 ((x5_1.length : Int) - 1))).f3, (rd_T64 x5_1 (wrap64 ((x5_1.length : Int) - 1))).f4, (rd_T64 x5_1 (wrap64 ((x5_1.length : Int) - 1))).f5, (rd_T64 x5_1 (wrap64 ((x5_1.length : Int) - 1))).f6, (rd_T64 x5_1 (wrap64 ((x5_1.length : Int) - 1))).f7, (rd_T64 x5_1 (wrap64 ((x5_1.length : Int) - 1))).f8, (y378 ++ [(rd_T53 l0 x7_1).f2])⟩ : S64)) x6_1 (wrap64 (x7_1 + 1))) else (none))) else (none))) else (some (([] : List (S64)), 2, (rd_T53 l0 x7_1).f0))) else (none)) else (none))) else ((cooperageref9_one.f k1 ((rd_T53 l0 x7_1).f0) (bq4) ((rd_T53 l0 x7_1).f2)).bind fun bt388 => (if bt388.2.2.2.2.2.2.2.2.2.2 = true then (if bt388.1 = 3 then (if (x6_1.length : Int) = 20 then (some (([] : List (S64)), 15, (rd_T53 l0 x7_1).f0)) else (if x6_1.length < 17592186044416 then (cooperageref9_Parse.j1 k1 l0 x5_1 (x6_1 ++ [0]) x7_1 bt388.1 bt388.2.1 bt388.2.2.1 bt388.2.2.2.1 bt388.2.2.2.2.1 bt388.2.2.2.2.2.1 bt388.2.2.2.2.2.2.1 bt388.2.2.2.2.2.2.2.1 bt388.2.2.2.2.2.2.2.2.1 bt388.2.2.2.2.2.2.2.2.2.1) else (none))) else (cooperageref9_Parse.j1 k1 l0 x5_1 x6_1 x7_1 bt388.1 bt388.2.1 bt388.2.2.1 bt388.2.2.2.1 bt388.2.2.2.2.1 bt388.2.2.2.2.2.1 bt388.2.2.2.2.2.2.1 bt388.2.2.2.2.2.2.2.1 bt388.2.2.2.2.2.2.2.2.1 bt388.2.2.2.2.2.2.2.2.2.1)) else (some (([] : List (S64)), 2, (rd_T53 l0 x7_1).f0))))) = some (r1, r2, r3) := by rw [← hbq4] at H; exact H
    have Nbq4 := ka hbq4
    clear hbq4
    by_cases c5 : bq4 = true
    ·subst c5
     rw [if_pos rfl] at H
     by_cases c6 : (x5_1.length : Int) = 0
     ·rw [if_pos c6] at H
      have c6b0 := zb0 c6
      have c6b1 := zb1 c6
      clear c6
      replace H := zs3 H
      obtain ⟨rfl, rfl, rfl⟩ := H
      have p370 : 0 ≤ (x7_1 : Int) := zD
      have q370 : x7_1 < (l0.length : Int) := zD
      obtain ⟨ad370, e370, hx370_0, hx370_1, hx370_2⟩ := at_T53 HR0.out x7_1 p370 q370
      (try rw [← Nbq4.out] at hx370_1)
      cases e370
      replace hx370_0 := zX HB.out hx370_0
      replace hx370_1 := zX HB.out hx370_1
      replace hx370_2 := zX HB.out hx370_2
      replace p370 := eq_true p370
      replace q370 := eq_true q370
      obtain ⟨Ao7, co7, eo7⟩ := Kd.S_slice HO_5.out
      subst eo7
      have p371 : 0 ≤ (x7_1 : Int) := zD
      have q371 : x7_1 < (l0.length : Int) := zD
      obtain ⟨ad371, e371, hx371_0, hx371_1, hx371_2⟩ := at_T53 HR0.out x7_1 p371 q371
      (try rw [← Nbq4.out] at hx371_1)
      obtain rfl : ad370 = ad371 := (by injection e371)
      replace hx371_0 := zX HB.out hx371_0
      replace hx371_1 := zX HB.out hx371_1
      replace hx371_2 := zX HB.out hx371_2
      replace p371 := eq_true p371
      replace q371 := eq_true q371
      go_wp2
      repeat (go_quiet (fail); try go_wp2)
      go_ret3
      exact ⟨_, zE, zNl, zL HB.out⟩
     rw [if_neg c6] at H
     have c6b0 := zn0 c6
     have c6b1 := zn1 c6
     have c6b2 : ¬ (x5_1 = []) := fun h_ => c6 (by rw [h_]; rfl)
     obtain ⟨ji8, hji8⟩ : ∃ j_ : Int, (wrap64 ((x5_1.length : Int) - 1)) = j_ := ⟨_, rfl⟩
     replace H : (if 0 ≤ (ji8) then (if (ji8) < (x5_1.length : Int) then (if ((rd_T64 x5_1 (ji8)).f0) = 2 then ((some (([] : List ByteArray) : List ByteArray)).bind fun y375 => (if y375.length + ((rd_T64 x5_1 (ji8)).f9).length < 8796093022208 then ((some (y375 ++ ((rd_T64 x5_1 (ji8)).f9) : List ByteArray)).bind fun y378 => (if y378.length < 8796093022208 then (cooperageref9_Parse.l0 k1 l0 (x5_1.set ((ji8) : Int).toNat (⟨(rd_T64 x5_1 (ji8)).f0, (rd_T64 x5_1 (ji8)).f1, (rd_T64 x5_1 (ji8)).f2, (rd_T64 x5_1 (ji8)).f3, (rd_T64 x5_1 (ji8)).f4, (rd_T64 x5_1 (ji8)).f5, (rd_T64 x5_1 (ji8)).f6, (rd_T64 x5_1 (ji8)).f7, (rd_T64 x5_1 (ji8)).f8, (y378 ++ [(rd_T53 l0 x7_1).f2])⟩ : S64)) x6_1 (wrap64 (x7_1 + 1))) else (none))) else (none))) else (some (([] : List (S64)), 2, (rd_T53 l0 x7_1).f0))) else (none)) else (none)) = some (r1, r2, r3) := by first | (rw [hji8] at H; exact H) | (simp only [hji8] at H ⊢; exact H)
     have hji8w : (IntKind.i64.wrap ((x5_1.length : Int) - 1)) = ji8 := (i64_w _).trans hji8
     replace H := zif H
     obtain ⟨c9, H⟩ := H
     have c9b0 := zdt c9
     clear c9
     replace H := zif H
     obtain ⟨c10, H⟩ := H
     have c10b0 := zdt c10
     clear c10
     by_cases c11 : ((rd_T64 x5_1 (ji8)).f0) = 2
     ·rw [if_pos c11] at H
      have c11b0 := zb0 c11
      have c11b1 := zb1 c11
      clear c11
      obtain ⟨y375, hy375⟩ : ∃ y_ : List ByteArray, y_ = (([] : List ByteArray)) := ⟨_, rfl⟩
      replace H : (if y375.length + ((rd_T64 x5_1 (ji8)).f9).length < 8796093022208 then ((some (y375 ++ ((rd_T64 x5_1 (ji8)).f9) : List ByteArray)).bind fun y378 => (if y378.length < 8796093022208 then (cooperageref9_Parse.l0 k1 l0 (x5_1.set ((ji8) : Int).toNat (⟨(rd_T64 x5_1 (ji8)).f0, (rd_T64 x5_1 (ji8)).f1, (rd_T64 x5_1 (ji8)).f2, (rd_T64 x5_1 (ji8)).f3, (rd_T64 x5_1 (ji8)).f4, (rd_T64 x5_1 (ji8)).f5, (rd_T64 x5_1 (ji8)).f6, (rd_T64 x5_1 (ji8)).f7, (rd_T64 x5_1 (ji8)).f8, (y378 ++ [(rd_T53 l0 x7_1).f2])⟩ : S64)) x6_1 (wrap64 (x7_1 + 1))) else (none))) else (none)) = some (r1, r2, r3) := zH hy375 H
      have Ny375 := ka hy375
      clear hy375
      replace H := zif H
      obtain ⟨c12, H⟩ := H
      have LMc12 := ka c12
      clear c12
      obtain ⟨y378, hy378⟩ : ∃ y_ : List ByteArray, y_ = (y375 ++ ((rd_T64 x5_1 (ji8)).f9)) := ⟨_, rfl⟩
      replace H : (if y378.length < 8796093022208 then (cooperageref9_Parse.l0 k1 l0 (x5_1.set ((ji8) : Int).toNat (⟨(rd_T64 x5_1 (ji8)).f0, (rd_T64 x5_1 (ji8)).f1, (rd_T64 x5_1 (ji8)).f2, (rd_T64 x5_1 (ji8)).f3, (rd_T64 x5_1 (ji8)).f4, (rd_T64 x5_1 (ji8)).f5, (rd_T64 x5_1 (ji8)).f6, (rd_T64 x5_1 (ji8)).f7, (rd_T64 x5_1 (ji8)).f8, (y378 ++ [(rd_T53 l0 x7_1).f2])⟩ : S64)) x6_1 (wrap64 (x7_1 + 1))) else (none)) = some (r1, r2, r3) := zH hy378 H
      have Ny378 := ka hy378
      clear hy378
      replace H := zif H
      obtain ⟨c13, H⟩ := H
      have LMc13 := ka c13
      clear c13
      obtain ⟨y382, hy382⟩ : ∃ y_ : List ByteArray, y_ = (y378 ++ [(rd_T53 l0 x7_1).f2]) := ⟨_, rfl⟩
      replace H : (cooperageref9_Parse.l0 k1 l0 (x5_1.set ((ji8) : Int).toNat (⟨(rd_T64 x5_1 (ji8)).f0, (rd_T64 x5_1 (ji8)).f1, (rd_T64 x5_1 (ji8)).f2, (rd_T64 x5_1 (ji8)).f3, (rd_T64 x5_1 (ji8)).f4, (rd_T64 x5_1 (ji8)).f5, (rd_T64 x5_1 (ji8)).f6, (rd_T64 x5_1 (ji8)).f7, (rd_T64 x5_1 (ji8)).f8, y382⟩ : S64)) x6_1 (wrap64 (x7_1 + 1))) = some (r1, r2, r3) := zH hy382 H
      have Ny382 := ka hy382
      clear hy382
      obtain ⟨y385, hy385⟩ : ∃ y_ : List (S64), y_ = (x5_1.set ((ji8) : Int).toNat (⟨(rd_T64 x5_1 (ji8)).f0, (rd_T64 x5_1 (ji8)).f1, (rd_T64 x5_1 (ji8)).f2, (rd_T64 x5_1 (ji8)).f3, (rd_T64 x5_1 (ji8)).f4, (rd_T64 x5_1 (ji8)).f5, (rd_T64 x5_1 (ji8)).f6, (rd_T64 x5_1 (ji8)).f7, (rd_T64 x5_1 (ji8)).f8, y382⟩ : S64)) := ⟨_, rfl⟩
      replace H : (cooperageref9_Parse.l0 k1 l0 y385 x6_1 (wrap64 (x7_1 + 1))) = some (r1, r2, r3) := zH hy385 H
      have Ny385 := ka hy385
      clear hy385
      have H' := ka H
      clear H
      have p370 : 0 ≤ (x7_1 : Int) := zD
      have q370 : x7_1 < (l0.length : Int) := zD
      obtain ⟨ad370, e370, hx370_0, hx370_1, hx370_2⟩ := at_T53 HR0.out x7_1 p370 q370
      (try rw [← Nbq4.out] at hx370_1)
      cases e370
      replace hx370_0 := zX HB.out hx370_0
      replace hx370_1 := zX HB.out hx370_1
      replace hx370_2 := zX HB.out hx370_2
      replace p370 := eq_true p370
      replace q370 := eq_true q370
      obtain ⟨Ao15, co15, eo15⟩ := Kd.S_slice HO_5.out
      subst eo15
      have p372 : 0 ≤ ((ji8) : Int) := zD
      have q372 : (ji8) < (x5_1.length : Int) := zD
      obtain ⟨ad372, A372_9, c372_9, e372, hx372_0, hx372_1, hx372_2, hx372_3, hx372_4, hx372_5, hx372_6, hx372_7, hx372_8, hx372_9, hl372_9, hi372_9⟩ := at_T64 (Kd.S_reads' HO_5.out).2.2 (ji8) p372 q372
      cases e372
      obtain ⟨ce372, hce372, hMe372, hcc372⟩ := Kd.S_get HO_5.out z64 (ji8) p372 (by first | exact q372 | exact zD | (have e_ := (Kd.S_reads' HO_5.out).1; omega))
      obtain ⟨ve372_9, rfl, ge372_9⟩ := k64_openM hMe372
      have hv372_9 := hcc372 9 _ rfl
      rw [add_field _ _ 9 (by omega)] at hv372_9
      replace hv372_9 := Option.some.inj (hv372_9.symm.trans hx372_9)
      rw [hv372_9] at ge372_9
      have HL372_9 := ka (show Kd.R Kd.string 9 _ _ _ _ ((rd_T64 x5_1 (ji8)).f9) from ge372_9)
      clear hv372_9 ge372_9
      clear hcc372 hce372
      have HR372_9 := ka hi372_9
      have HC372_9 := ka hl372_9
      clear hi372_9 hl372_9
      replace p372 := eq_true p372
      replace q372 := eq_true q372
      have p373 : 0 ≤ ((ji8) : Int) := zD
      have q373 : (ji8) < (x5_1.length : Int) := zD
      obtain ⟨ad373, A373_9, c373_9, e373, hx373_0, hx373_1, hx373_2, hx373_3, hx373_4, hx373_5, hx373_6, hx373_7, hx373_8, hx373_9, hl373_9, hi373_9⟩ := at_T64 (Kd.S_reads' HO_5.out).2.2 (ji8) p373 q373
      obtain rfl : ad372 = ad373 := (by injection e373)
      obtain ⟨ce373, hce373, hMe373, hcc373⟩ := Kd.S_get HO_5.out z64 (ji8) p373 (by first | exact q373 | exact zD | (have e_ := (Kd.S_reads' HO_5.out).1; omega))
      obtain ⟨ve373_9, rfl, ge373_9⟩ := k64_openM hMe373
      have hv373_9 := hcc373 9 _ rfl
      rw [add_field _ _ 9 (by omega)] at hv373_9
      replace hv373_9 := Option.some.inj (hv373_9.symm.trans hx373_9)
      rw [hv373_9] at ge373_9
      have HL373_9 := ka (show Kd.R Kd.string 9 _ _ _ _ ((rd_T64 x5_1 (ji8)).f9) from ge373_9)
      clear hv373_9 ge373_9
      clear hcc373 hce373
      have HR373_9 := ka hi373_9
      have HC373_9 := ka hl373_9
      clear hi373_9 hl373_9
      replace p373 := eq_true p373
      replace q373 := eq_true q373
      have ea_ := Option.some.inj (hx372_9.symm.trans hx373_9)
      injection ea_ with ea_ en_ ec_
      subst ea_
      subst ec_
      clear en_
      have F_ := trivial
      repeat ((first | clear F_ | go_quiet (fail)); try go_wp2_with (first | ((with_reducible refine gate_dst (N := 8) rfl ?_); (try (refine gate_guard (by rfl) ?_; dsimp only)); refine box_event ?hg (N := 8) ?hd (cs := #[.int .i64 0, .int .i64 0, .string ⟨#[]⟩, .string ⟨#[]⟩, .string ⟨#[]⟩, .string ⟨#[]⟩, .string ⟨#[]⟩, .string ⟨#[]⟩, .string ⟨#[]⟩, .slice none 0 0]) (t := 64) ?hr ?_; (case hd => rfl); (case hg => rfl); (case hr => (go_simp; try rfl)); intro gb374 hg w16 hbox hb; replace HO_5 := ka (Kd.S_below (Kd.S_elderB (zRS HO_5.out) gb374 (Nat.le_of_eq hg.symm)) hb); replace HO_6 := ka (Kd.R_below (zR HO_6.out) hb); replace HL372_9 := ka (Kd.R_below (zR HL372_9.out) hb); replace HL373_9 := ka (Kd.R_below (zR HL373_9.out) hb); replace HR372_9 := ka (zCB HR372_9.out hb); replace HR373_9 := ka (zCB HR373_9.out hb); have BK374 := ka (hbox); have GW374 := ka (zG hg (zL HB.out)); have GE374 := ka (zG hg (zL HB.out)); replace HB := ka (below_step (zL HB.out) hb); clear hb hbox hg; obtain ⟨z17_0, z17_1, z17_2, z17_3, z17_4, z17_5, z17_6, z17_7, z17_8, z17_9, y17_0, y17_1, y17_2, y17_3, y17_4, y17_5, y17_6, y17_7, y17_8, y17_9⟩ := zC10 BK374.out) | ((with_reducible refine gate_dst (N := 47) rfl ?_); (try (refine gate_guard (by rfl) ?_; dsimp only)); refine Kd.R_lit Kd.string _ 9 ?hg (N := 47) ?hd (xs := ([] : List ByteArray)) (inner := []) (ok := fun _ => True) (okp := fun _ => True) ?hr ?hp (fun _ hk => hk) trivial (Below.refl _ _) (Nat.le_refl _) (by simp) ?_; (case hd => rfl); (case hg => rfl); (case hr => (go_simp; try rfl)); (case hp => exact (Reps.none _ _)); intro v376 w18 ho19 hb hg_ hnew_; clear hg_ hnew_; (first | rw [← Ny375.out] at ho19 | (simp only [Int.reduceToNat] at ho19; rw [← Ny375.out] at ho19)); replace HO_5 := ka (Kd.S_elder' (zMS HO_5.out (g := gb374) (fun _ hk => hk.2)) (Kd.R_base ho19) hb); replace HO_6 := ka (Kd.R_below (zT HO_6.out BK374.out) hb); have HO377 := ka (Kd.R_lower (Kd.R_new' (Kd.R_new' ho19 (Kd.R_lt (zT HL372_9.out BK374.out))) (Kd.R_lt (zT HL373_9.out BK374.out))) (below_size (zL HB.out))); replace HR372_9 := ka (Kd.C_below ((Kd.R_reads' (zT HL372_9.out BK374.out)).2.2) hb); replace HL372_9 := ka (Kd.R_elder' (zT HL372_9.out BK374.out) (Kd.R_base ho19) hb); replace HR373_9 := ka (Kd.C_below ((Kd.R_reads' (zT HL373_9.out BK374.out)).2.2) hb); replace HL373_9 := ka (Kd.R_elder' (zT HL373_9.out BK374.out) (Kd.R_base ho19) hb); replace BK374 := ka (blk_below (g := gb374) (o := .cells #[.int .i64 ((rd_T64 x5_1 (ji8)).f0), .int .i64 ((rd_T64 x5_1 (ji8)).f1), .string ((rd_T64 x5_1 (ji8)).f2), .string ((rd_T64 x5_1 (ji8)).f3), .string ((rd_T64 x5_1 (ji8)).f4), .string ((rd_T64 x5_1 (ji8)).f5), .string ((rd_T64 x5_1 (ji8)).f6), .string ((rd_T64 x5_1 (ji8)).f7), .string ((rd_T64 x5_1 (ji8)).f8), .slice A372_9 ((rd_T64 x5_1 (ji8)).f9).length c372_9] 64 (0, 0)) (zP10 BK374.out) hb); replace HB := ka (below_step (zL HB.out) hb); clear hb ho19; obtain ⟨z20_0, z20_1, z20_2, z20_3, z20_4, z20_5, z20_6, z20_7, z20_8, z20_9, y20_0, y20_1, y20_2, y20_3, y20_4, y20_5, y20_6, y20_7, y20_8, y20_9⟩ := zC10 BK374.out) | ((with_reducible refine gate_builtin (b := .append) (xs := #[.tmp 47, .tmp 49]) rfl ?_); (try (refine gate_guard (by rfl) ?_; dsimp only)); at_builtin; refine Kd.R_append_rows Kd.string (w0 := w) w.heap.size rfl (.tmp 47) (.tmp 49) 37 9 (.string ⟨#[]⟩) 16 rfl Tryd.underlying37 info9 rfl (by decide) (by omega) v376 y375 ((rd_T64 x5_1 (ji8)).f9) _ _ _ (fun k_ => some k_ ≠ (.slice A372_9 ((rd_T64 x5_1 (ji8)).f9).length c372_9 : Value).ownBlock ∧ some k_ ≠ (.slice A372_9 ((rd_T64 x5_1 (ji8)).f9).length c372_9 : Value).ownBlock) (fun _ => False) rfl rfl ?aO ?aR (fun _ _ h => h) (fun _ h => h.elim) ?aF ?aB ?aS ?aL ?_; (case aR => repeat (first | exact (by repeat (first | (with_reducible exact HR373_9.out) | (with_reducible refine Kd.C_alloc ?_ _) | (with_reducible refine Kd.C_drewN ?_ _) | (with_reducible refine Kd.C_drew ?_) | exact HR373_9.out)) | (with_reducible refine Kd.C_alloc ?_ _) | (with_reducible refine Kd.C_drewN ?_ _) | (with_reducible refine Kd.C_drew ?_))); (case aB => exact (zL HB.out)); (case aF => exact (fun k_ hk => ⟨Kd.fresh' (Kd.R_lt (zR HL372_9.out)) k_ hk, Kd.fresh' (Kd.R_lt (zR HL373_9.out)) k_ hk⟩)); (case aO => exact (by (with_reducible repeat (first | apply Kd.R_alloc | apply Kd.R_drewN | apply Kd.R_drew)); exact Kd.R_mono HO377.out (fun _ hk => ⟨hk.1.2, hk.2⟩))); (case aS => exact (below_size (zL HB.out))); (case aL => have := LMc12.out; omega); intro v379 w21 ho hb hg hat; rw [← Ny378.out] at ho; replace HO_5 := ka (Kd.S_after (ok := (fun k_ => k_ ≠ gb374)) (by (with_reducible repeat (first | apply Kd.S_alloc | apply Kd.S_drewN | apply Kd.S_drew)); exact Kd.S_mono HO_5.out (fun _ hk => ⟨hk.1.2, hk.2⟩)) hg hat); replace HO_6 := ka (Kd.R_over' (zR HO_6.out) (Kd.R_typed (zR HO377.out)) (by decide) hg); replace HL372_9 := ka (Kd.R_after (ok := (fun k_ => some k_ ≠ (.slice (some ad372) x5_1.length co15 : Value).ownBlock)) (by (with_reducible repeat (first | apply Kd.R_alloc | apply Kd.R_drewN | apply Kd.R_drew)); exact Kd.R_mono HL372_9.out (fun _ hk => ⟨hk.1.2, hk.2⟩)) hg hat); replace HL373_9 := ka (Kd.R_after (ok := (fun k_ => some k_ ≠ (.slice (some ad372) x5_1.length co15 : Value).ownBlock)) (by (with_reducible repeat (first | apply Kd.R_alloc | apply Kd.R_drewN | apply Kd.R_drew)); exact Kd.R_mono HL373_9.out (fun _ hk => ⟨hk.1.2, hk.2⟩)) hg hat); replace BK374 := ka (blk_grown (g := gb374) (o := .cells #[.int .i64 ((rd_T64 x5_1 (ji8)).f0), .int .i64 ((rd_T64 x5_1 (ji8)).f1), .string ((rd_T64 x5_1 (ji8)).f2), .string ((rd_T64 x5_1 (ji8)).f3), .string ((rd_T64 x5_1 (ji8)).f4), .string ((rd_T64 x5_1 (ji8)).f5), .string ((rd_T64 x5_1 (ji8)).f6), .string ((rd_T64 x5_1 (ji8)).f7), .string ((rd_T64 x5_1 (ji8)).f8), .slice A372_9 ((rd_T64 x5_1 (ji8)).f9).length c372_9] 64 (0, 0)) (zK BK374.out) hg (Kd.R_ne HO377.out BK374.out (by decide))); replace HB := ka (hb); have HO380 := ka (ho); clear HO377; clear ho hb hg hat; have p381 : 0 ≤ (x7_1 : Int) := zD; have q381 : x7_1 < (l0.length : Int) := zD; obtain ⟨ad381, e381, hx381_0, hx381_1, hx381_2⟩ := at_T53 HR0.out x7_1 p381 q381; (try rw [← Nbq4.out] at hx381_1); obtain rfl : ad370 = ad381 := (by injection e381); replace hx381_0 := zX HB.out hx381_0; replace hx381_1 := zX HB.out hx381_1; replace hx381_2 := zX HB.out hx381_2; replace p381 := eq_true p381; replace q381 := eq_true q381) | ((with_reducible refine gate_builtin (b := .append) (xs := #[.tmp 51, .tmp 57]) rfl ?_); (try (refine gate_guard (by rfl) ?_; dsimp only)); at_builtin; refine Kd.R_append Kd.string (w0 := w) w.heap.size rfl (.tmp 51) (.tmp 57) 37 9 (.string ⟨#[]⟩) 16 rfl Tryd.underlying37 info9 rfl (by decide) (by omega) v379 y378 ((rd_T53 l0 x7_1).f2) [.string ((rd_T53 l0 x7_1).f2)] (fun k_ => some k_ ≠ (.slice A372_9 ((rd_T64 x5_1 (ji8)).f9).length c372_9 : Value).ownBlock ∧ some k_ ≠ (.slice A372_9 ((rd_T64 x5_1 (ji8)).f9).length c372_9 : Value).ownBlock) (fun _ => False) rfl rfl ?aP (fun _ hk => hk.elim) ?aF ?aO ?aB ?aS ?aL ?_; (case aP => exact rfl); (case aB => exact (zL HB.out)); (case aF => exact (fun k_ hk => ⟨Kd.fresh' (Kd.R_lt (zR HL372_9.out)) k_ hk, Kd.fresh' (Kd.R_lt (zR HL373_9.out)) k_ hk⟩)); (case aO => exact (zR HO380.out)); (case aS => exact (below_size (zL HB.out))); (case aL => have := LMc13.out; omega); intro v383 w22 ho hb hg hat; rw [← Ny382.out] at ho; replace HO_5 := ka (Kd.S_after (ok := (fun k_ => k_ ≠ gb374)) (zRS HO_5.out) hg hat); replace HO_6 := ka (Kd.R_over' (zR HO_6.out) (Kd.R_typed (zR HO380.out)) (by decide) hg); replace HL372_9 := ka (Kd.R_after (ok := (fun k_ => some k_ ≠ (.slice (some ad372) x5_1.length co15 : Value).ownBlock)) (zR HL372_9.out) hg hat); replace HL373_9 := ka (Kd.R_after (ok := (fun k_ => some k_ ≠ (.slice (some ad372) x5_1.length co15 : Value).ownBlock)) (zR HL373_9.out) hg hat); replace BK374 := ka (blk_grown (g := gb374) (o := .cells #[.int .i64 ((rd_T64 x5_1 (ji8)).f0), .int .i64 ((rd_T64 x5_1 (ji8)).f1), .string ((rd_T64 x5_1 (ji8)).f2), .string ((rd_T64 x5_1 (ji8)).f3), .string ((rd_T64 x5_1 (ji8)).f4), .string ((rd_T64 x5_1 (ji8)).f5), .string ((rd_T64 x5_1 (ji8)).f6), .string ((rd_T64 x5_1 (ji8)).f7), .string ((rd_T64 x5_1 (ji8)).f8), .slice A372_9 ((rd_T64 x5_1 (ji8)).f9).length c372_9] 64 (0, 0)) (zK BK374.out) hg (Kd.R_ne HO380.out BK374.out (by decide))); replace HB := ka (hb); have HO384 := ka (ho); clear HO380; clear ho hb hg hat; obtain ⟨Ao23, co23, eo23⟩ := Kd.R_slice HO384.out; subst eo23; obtain ⟨z24_0, z24_1, z24_2, z24_3, z24_4, z24_5, z24_6, z24_7, z24_8, z24_9, y24_0, y24_1, y24_2, y24_3, y24_4, y24_5, y24_6, y24_7, y24_8, y24_9⟩ := zC10 BK374.out) | ((with_reducible refine gate_store (t := 37) (p := 60) rfl ?_); (try (rw [drewN_self w22]; generalize hq_ : World.drewN w22 _ = w22; have n0_ := ka (Kd.S_at hq_ HO_5.out); have n1_ := ka (Kd.R_at hq_ HO_6.out); have n2_ := ka (Kd.R_at hq_ HL372_9.out); have n3_ := ka (Kd.R_at hq_ HL373_9.out); have n4_ := ka (Kd.R_at hq_ HO384.out); have n5_ := ka (blk_at hq_ BK374.out); have n6_ := ka (below_at hq_ HB.out); clear hq_ HO_5 HO_6 HL372_9 HL373_9 HO384 BK374 HB; have HO_5 := n0_; have HO_6 := n1_; have HL372_9 := n2_; have HL373_9 := n3_; have HO384 := n4_; have BK374 := n5_; have HB := n6_; clear n0_ n1_ n2_ n3_ n4_ n5_ n6_; (try (obtain ⟨z24_0, z24_1, z24_2, z24_3, z24_4, z24_5, z24_6, z24_7, z24_8, z24_9, y24_0, y24_1, y24_2, y24_3, y24_4, y24_5, y24_6, y24_7, y24_8, y24_9⟩ := zC10 BK374.out)))); refine store_event (t := 37) (p := 60) (v := ?vo_w25) (w1 := (w22.setCell ⟨gb374, 9, none⟩ (.slice Ao23 y382.length co23))) ?hg ?ho ?hn ?hr ?_; (case ho => rfl); (case hg => rfl); (case hn => rfl); (case hr => (go_simp; try rfl)); intro w25 hw; have n0_ : Aside0 (Kd.S k64 64 w25 w.heap.size (fun k_ => some k_ ≠ (.slice Ao23 y382.length co23 : Value).ownBlock ∧ k_ ≠ gb374) (.slice (some ad372) x5_1.length co15) x5_1) := ⟨(by rw [hw]; exact (by (with_reducible repeat (first | apply Kd.S_alloc | apply Kd.S_drewN | apply Kd.S_drew)); exact Kd.S_mono (zNMS HO_5.out (g := gb374) (fun _ hk => hk.1)) (fun _ hk => ⟨hk.1.2, hk.1.1⟩)))⟩; have n1_ : Aside0 (Kd.R (Kd.int .i64) 3 w25 w.heap.size (fun _ => True) u6 x6_1) := ⟨(by rw [hw]; exact (by (with_reducible repeat (first | apply Kd.R_alloc | apply Kd.R_drewN | apply Kd.R_drew)); exact Kd.R_mono (zNT HO_6.out BK374.out) (fun _ hk => trivial)))⟩; have n2_ : Aside0 (Kd.R Kd.string 9 w25 w.heap.size (fun k_ => some k_ ≠ (.slice (some ad372) x5_1.length co15 : Value).ownBlock ∧ some k_ ≠ (.slice Ao23 y382.length co23 : Value).ownBlock) (.slice A372_9 ((rd_T64 x5_1 (ji8)).f9).length c372_9) ((rd_T64 x5_1 (ji8)).f9)) := ⟨(by rw [hw]; exact (by (with_reducible repeat (first | apply Kd.R_alloc | apply Kd.R_drewN | apply Kd.R_drew)); exact Kd.R_mono (zNT HL372_9.out BK374.out) (fun _ hk => ⟨hk.1.1, hk.1.2⟩)))⟩; have n3_ : Aside0 (Kd.R Kd.string 9 w25 w.heap.size (fun k_ => some k_ ≠ (.slice (some ad372) x5_1.length co15 : Value).ownBlock ∧ some k_ ≠ (.slice Ao23 y382.length co23 : Value).ownBlock) (.slice A372_9 ((rd_T64 x5_1 (ji8)).f9).length c372_9) ((rd_T64 x5_1 (ji8)).f9)) := ⟨(by rw [hw]; exact (by (with_reducible repeat (first | apply Kd.R_alloc | apply Kd.R_drewN | apply Kd.R_drew)); exact Kd.R_mono (zNT HL373_9.out BK374.out) (fun _ hk => ⟨hk.1.1, hk.1.2⟩)))⟩; have n4_ : Aside0 (Kd.R Kd.string 9 w25 w.heap.size (fun k_ => some k_ ≠ (.slice A372_9 ((rd_T64 x5_1 (ji8)).f9).length c372_9 : Value).ownBlock ∧ some k_ ≠ (.slice A372_9 ((rd_T64 x5_1 (ji8)).f9).length c372_9 : Value).ownBlock) (.slice Ao23 y382.length co23) y382) := ⟨(by rw [hw]; exact (by (with_reducible repeat (first | apply Kd.R_alloc | apply Kd.R_drewN | apply Kd.R_drew)); exact Kd.R_mono (zNT HO384.out BK374.out) (fun _ hk => ⟨hk.1.1, hk.1.2⟩)))⟩; have n5_ : Aside0 (w25.heap[gb374]? = some (.cells #[.int .i64 ((rd_T64 x5_1 (ji8)).f0), .int .i64 ((rd_T64 x5_1 (ji8)).f1), .string ((rd_T64 x5_1 (ji8)).f2), .string ((rd_T64 x5_1 (ji8)).f3), .string ((rd_T64 x5_1 (ji8)).f4), .string ((rd_T64 x5_1 (ji8)).f5), .string ((rd_T64 x5_1 (ji8)).f6), .string ((rd_T64 x5_1 (ji8)).f7), .string ((rd_T64 x5_1 (ji8)).f8), .slice Ao23 y382.length co23] 64 (0, 0))) := ⟨(by rw [hw]; exact (by (with_reducible repeat (first | refine blk_drewN ?_ _ | refine blk_drew ?_ | refine blk_alloc ?_ _)); refine blk_put (cs := #[.int .i64 ((rd_T64 x5_1 (ji8)).f0), .int .i64 ((rd_T64 x5_1 (ji8)).f1), .string ((rd_T64 x5_1 (ji8)).f2), .string ((rd_T64 x5_1 (ji8)).f3), .string ((rd_T64 x5_1 (ji8)).f4), .string ((rd_T64 x5_1 (ji8)).f5), .string ((rd_T64 x5_1 (ji8)).f6), .string ((rd_T64 x5_1 (ji8)).f7), .string ((rd_T64 x5_1 (ji8)).f8), .slice A372_9 ((rd_T64 x5_1 (ji8)).f9).length c372_9]) ?_ 9 _ rfl; (with_reducible repeat (first | refine blk_drewN ?_ _ | refine blk_drew ?_ | refine blk_alloc ?_ _)); exact BK374.out))⟩; have n6_ : Aside0 (Below w.heap.size w w25) := ⟨(by rw [hw]; exact (zL HB.out))⟩; clear hw; revert n0_ n1_ n2_ n3_ n4_ n5_ n6_; clear HO_5 HO_6 HL372_9 HL373_9 HO384 BK374 HB; intro HO_5 HO_6 HL372_9 HL373_9 HO384 BK374 HB; obtain ⟨z26_0, z26_1, z26_2, z26_3, z26_4, z26_5, z26_6, z26_7, z26_8, z26_9, y26_0, y26_1, y26_2, y26_3, y26_4, y26_5, y26_6, y26_7, y26_8, y26_9⟩ := zC10 BK374.out; have p14 : 0 ≤ ((ji8) : Int) := zD; have q14 : ((ji8) : Int) < ((x5_1.length : Int) : Int) := zD; obtain ⟨go14, co14, eo14, gb14, gl14, cl14, HG14⟩ := Kd.S_form HO_5.out (by omega); (first | cases eo14 | (injection eo14 with ea_ en_ ec_; (first | subst ea_ | (injection ea_ with ea_; subst ea_)); subst ec_; clear en_)); have GB14 := ka gb14; have GG14 := ka HG14; clear gb14 gl14 HG14; (first | simp only [add_plain] at hx372_0 | skip); (first | simp only [add_plain] at hx372_1 | skip); (first | simp only [add_plain] at hx372_2 | skip); (first | simp only [add_plain] at hx372_3 | skip); (first | simp only [add_plain] at hx372_4 | skip); (first | simp only [add_plain] at hx372_5 | skip); (first | simp only [add_plain] at hx372_6 | skip); (first | simp only [add_plain] at hx372_7 | skip); (first | simp only [add_plain] at hx372_8 | skip); (first | simp only [add_plain] at hx372_9 | skip); (first | simp only [add_plain] at hx373_0 | skip); (first | simp only [add_plain] at hx373_1 | skip); (first | simp only [add_plain] at hx373_2 | skip); (first | simp only [add_plain] at hx373_3 | skip); (first | simp only [add_plain] at hx373_4 | skip); (first | simp only [add_plain] at hx373_5 | skip); (first | simp only [add_plain] at hx373_6 | skip); (first | simp only [add_plain] at hx373_7 | skip); (first | simp only [add_plain] at hx373_8 | skip); (first | simp only [add_plain] at hx373_9 | skip); obtain ⟨_, ce14, hcl14, hM14, hcc14, hfr14, _, _⟩ := Kd.S_elem HO_5.out z64 ((ji8) : Int) p14 q14; obtain ⟨ve14_9, rfl, ge14_9⟩ := k64_openM hM14; have hx14_0 : w25.cell? ⟨go14, ((ji8) : Int).toNat * 10, none⟩ = some (.int .i64 ((rd_T64 x5_1 (ji8)).f0)) := hcc14 0 _ rfl; have hx14_1 : w25.cell? ⟨go14, ((ji8) : Int).toNat * 10 + 1, none⟩ = some (.int .i64 ((rd_T64 x5_1 (ji8)).f1)) := hcc14 1 _ rfl; have hx14_2 : w25.cell? ⟨go14, ((ji8) : Int).toNat * 10 + 2, none⟩ = some (.string ((rd_T64 x5_1 (ji8)).f2)) := hcc14 2 _ rfl; have hx14_3 : w25.cell? ⟨go14, ((ji8) : Int).toNat * 10 + 3, none⟩ = some (.string ((rd_T64 x5_1 (ji8)).f3)) := hcc14 3 _ rfl; have hx14_4 : w25.cell? ⟨go14, ((ji8) : Int).toNat * 10 + 4, none⟩ = some (.string ((rd_T64 x5_1 (ji8)).f4)) := hcc14 4 _ rfl; have hx14_5 : w25.cell? ⟨go14, ((ji8) : Int).toNat * 10 + 5, none⟩ = some (.string ((rd_T64 x5_1 (ji8)).f5)) := hcc14 5 _ rfl; have hx14_6 : w25.cell? ⟨go14, ((ji8) : Int).toNat * 10 + 6, none⟩ = some (.string ((rd_T64 x5_1 (ji8)).f6)) := hcc14 6 _ rfl; have hx14_7 : w25.cell? ⟨go14, ((ji8) : Int).toNat * 10 + 7, none⟩ = some (.string ((rd_T64 x5_1 (ji8)).f7)) := hcc14 7 _ rfl; have hx14_8 : w25.cell? ⟨go14, ((ji8) : Int).toNat * 10 + 8, none⟩ = some (.string ((rd_T64 x5_1 (ji8)).f8)) := hcc14 8 _ rfl; have hx14_9 : w25.cell? ⟨go14, ((ji8) : Int).toNat * 10 + 9, none⟩ = some (ve14_9) := hcc14 9 _ rfl; have hf14_0 : w25.frozen? ⟨go14, ((ji8) : Int).toNat * 10, none⟩ = false := hfr14 0; have hf14_1 : w25.frozen? ⟨go14, ((ji8) : Int).toNat * 10 + 1, none⟩ = false := hfr14 1; have hf14_2 : w25.frozen? ⟨go14, ((ji8) : Int).toNat * 10 + 2, none⟩ = false := hfr14 2; have hf14_3 : w25.frozen? ⟨go14, ((ji8) : Int).toNat * 10 + 3, none⟩ = false := hfr14 3; have hf14_4 : w25.frozen? ⟨go14, ((ji8) : Int).toNat * 10 + 4, none⟩ = false := hfr14 4; have hf14_5 : w25.frozen? ⟨go14, ((ji8) : Int).toNat * 10 + 5, none⟩ = false := hfr14 5; have hf14_6 : w25.frozen? ⟨go14, ((ji8) : Int).toNat * 10 + 6, none⟩ = false := hfr14 6; have hf14_7 : w25.frozen? ⟨go14, ((ji8) : Int).toNat * 10 + 7, none⟩ = false := hfr14 7; have hf14_8 : w25.frozen? ⟨go14, ((ji8) : Int).toNat * 10 + 8, none⟩ = false := hfr14 8; have hf14_9 : w25.frozen? ⟨go14, ((ji8) : Int).toNat * 10 + 9, none⟩ = false := hfr14 9; clear hcl14 hcc14 hfr14 hM14; replace p14 := eq_true p14; replace q14 := eq_true q14; have HX27 := ka (show Kd.S k64 64 w25 w.heap.size (fun k_ => ((fun k_ => k_ ≠ gb374)) k_ ∧ ¬ ((fun k_ => some k_ = (.slice Ao23 y382.length co23 : Value).ownBlock)) k_) (.slice (some ⟨go14, 0, none⟩) x5_1.length co15) x5_1 from (by (with_reducible repeat (first | apply Kd.S_alloc | apply Kd.S_drewN | apply Kd.S_drew)); exact Kd.S_mono HO_5.out (fun k_ hk => ⟨hk.2, fun e_ => hk.1 e_⟩))); obtain ⟨oki27, ce27, hcl27, hM27, hcc27, hfr27, hoki27, hH27⟩ := Kd.S_elem HX27.out z64 ((ji8) : Int) zD (by have h_ : ((ji8) : Int) < ((x5_1.length : Int) : Int) := zD; first | exact h_ | (have e_ := (Kd.S_reads' HO_5.out).1; omega) | simpa using h_); obtain ⟨ve27_9, rfl, ge27_9⟩ := k64_openM hM27; have HP27 := Kd.S_seg hH27 zD (by have h_ : ((ji8) : Int) < ((x5_1.length : Int) : Int) := zD; first | exact h_ | (have e_ := (Kd.S_reads' HO_5.out).1; omega) | simpa using h_) (seg := [.int .i64 ((rd_T64 x5_1 (ji8)).f0), .int .i64 ((rd_T64 x5_1 (ji8)).f1), .string ((rd_T64 x5_1 (ji8)).f2), .string ((rd_T64 x5_1 (ji8)).f3), .string ((rd_T64 x5_1 (ji8)).f4), .string ((rd_T64 x5_1 (ji8)).f5), .string ((rd_T64 x5_1 (ji8)).f6), .string ((rd_T64 x5_1 (ji8)).f7), .string ((rd_T64 x5_1 (ji8)).f8), .slice Ao23 y382.length co23]) (j := 0) (show 10 ≤ 10 from by decide) (x' := (⟨(rd_T64 x5_1 (ji8)).f0, (rd_T64 x5_1 (ji8)).f1, (rd_T64 x5_1 (ji8)).f2, (rd_T64 x5_1 (ji8)).f3, (rd_T64 x5_1 (ji8)).f4, (rd_T64 x5_1 (ji8)).f5, (rd_T64 x5_1 (ji8)).f6, (rd_T64 x5_1 (ji8)).f7, (rd_T64 x5_1 (ji8)).f8, y382⟩ : S64)) (k64_mkM _ _ _ (⟨(rd_T64 x5_1 (ji8)).f0, (rd_T64 x5_1 (ji8)).f1, (rd_T64 x5_1 (ji8)).f2, (rd_T64 x5_1 (ji8)).f3, (rd_T64 x5_1 (ji8)).f4, (rd_T64 x5_1 (ji8)).f5, (rd_T64 x5_1 (ji8)).f6, (rd_T64 x5_1 (ji8)).f7, (rd_T64 x5_1 (ji8)).f8, y382⟩ : S64) (Kd.R_mono (Kd.R_tight rfl (Kd.R_mono (ok' := fun k_ => ((fun k_ => k_ ≠ gb374)) k_ ∧ k_ ≠ go14) (Kd.R_types (Kd.R_apart' (HO384.out) (Kd.S_typed HO_5.out) (by decide)) BK374.out (by decide)) (fun k_ hk => ⟨hk.2, fun e_ => (hk.1.2) (by rw [e_]; rfl)⟩))) (fun _ h_ => Or.inr (h_)))) (fun _ hk => hk) (fun k_ hk_ => ((Kd.R_mono (ok' := fun k_ => ((fun k_ => k_ ≠ gb374)) k_ ∧ k_ ≠ go14) (Kd.R_types (Kd.R_apart' (HO384.out) (Kd.S_typed HO_5.out) (by decide)) BK374.out (by decide)) (fun k_ hk => ⟨hk.2, fun e_ => (hk.1.2) (by rw [e_]; rfl)⟩))).1 k_ hk_.symm); have hx27_0 := hcc27 0 _ rfl; (try simp only [show (k64).sz = 10 from rfl, Nat.mul_one, Nat.add_zero] at hx27_0); have hf27_0 := hfr27 0; (try simp only [show (k64).sz = 10 from rfl, Nat.mul_one, Nat.add_zero] at hf27_0); have hx27_1 := hcc27 1 _ rfl; (try simp only [show (k64).sz = 10 from rfl, Nat.mul_one, Nat.add_zero] at hx27_1); have hf27_1 := hfr27 1; (try simp only [show (k64).sz = 10 from rfl, Nat.mul_one, Nat.add_zero] at hf27_1); have hx27_2 := hcc27 2 _ rfl; (try simp only [show (k64).sz = 10 from rfl, Nat.mul_one, Nat.add_zero] at hx27_2); have hf27_2 := hfr27 2; (try simp only [show (k64).sz = 10 from rfl, Nat.mul_one, Nat.add_zero] at hf27_2); have hx27_3 := hcc27 3 _ rfl; (try simp only [show (k64).sz = 10 from rfl, Nat.mul_one, Nat.add_zero] at hx27_3); have hf27_3 := hfr27 3; (try simp only [show (k64).sz = 10 from rfl, Nat.mul_one, Nat.add_zero] at hf27_3); have hx27_4 := hcc27 4 _ rfl; (try simp only [show (k64).sz = 10 from rfl, Nat.mul_one, Nat.add_zero] at hx27_4); have hf27_4 := hfr27 4; (try simp only [show (k64).sz = 10 from rfl, Nat.mul_one, Nat.add_zero] at hf27_4); have hx27_5 := hcc27 5 _ rfl; (try simp only [show (k64).sz = 10 from rfl, Nat.mul_one, Nat.add_zero] at hx27_5); have hf27_5 := hfr27 5; (try simp only [show (k64).sz = 10 from rfl, Nat.mul_one, Nat.add_zero] at hf27_5); have hx27_6 := hcc27 6 _ rfl; (try simp only [show (k64).sz = 10 from rfl, Nat.mul_one, Nat.add_zero] at hx27_6); have hf27_6 := hfr27 6; (try simp only [show (k64).sz = 10 from rfl, Nat.mul_one, Nat.add_zero] at hf27_6); have hx27_7 := hcc27 7 _ rfl; (try simp only [show (k64).sz = 10 from rfl, Nat.mul_one, Nat.add_zero] at hx27_7); have hf27_7 := hfr27 7; (try simp only [show (k64).sz = 10 from rfl, Nat.mul_one, Nat.add_zero] at hf27_7); have hx27_8 := hcc27 8 _ rfl; (try simp only [show (k64).sz = 10 from rfl, Nat.mul_one, Nat.add_zero] at hx27_8); have hf27_8 := hfr27 8; (try simp only [show (k64).sz = 10 from rfl, Nat.mul_one, Nat.add_zero] at hf27_8); have hx27_9 := hcc27 9 _ rfl; (try simp only [show (k64).sz = 10 from rfl, Nat.mul_one, Nat.add_zero] at hx27_9); have hf27_9 := hfr27 9; (try simp only [show (k64).sz = 10 from rfl, Nat.mul_one, Nat.add_zero] at hf27_9); clear hcl27 hcc27 hfr27 hM27 hoki27 hH27) | ((with_reducible refine gate_store (t := 64) (p := 66) rfl ?_); (try (rw [drewN_self w25]; generalize hq_ : World.drewN w25 _ = w25; have n0_ := ka (Kd.S_at hq_ HO_5.out); have n1_ := ka (Kd.R_at hq_ HO_6.out); have n2_ := ka (Kd.R_at hq_ HL372_9.out); have n3_ := ka (Kd.R_at hq_ HL373_9.out); have n4_ := ka (blk_at hq_ BK374.out); have n5_ := ka (below_at hq_ HB.out); clear hq_ HO_5 HO_6 HL372_9 HL373_9 BK374 HB; have HO_5 := n0_; have HO_6 := n1_; have HL372_9 := n2_; have HL373_9 := n3_; have BK374 := n4_; have HB := n5_; clear n0_ n1_ n2_ n3_ n4_ n5_; (try (have HX27 := ka (show Kd.S k64 64 w25 w.heap.size (fun k_ => ((fun k_ => k_ ≠ gb374)) k_ ∧ ¬ ((fun k_ => some k_ = (.slice Ao23 y382.length co23 : Value).ownBlock)) k_) (.slice (some ⟨go14, 0, none⟩) x5_1.length co15) x5_1 from (by (with_reducible repeat (first | apply Kd.S_alloc | apply Kd.S_drewN | apply Kd.S_drew)); exact Kd.S_mono HO_5.out (fun k_ hk => ⟨hk.2, fun e_ => hk.1 e_⟩))))); (try (obtain ⟨oki27, ce27, hcl27, hM27, hcc27, hfr27, hoki27, hH27⟩ := Kd.S_elem HX27.out z64 ((ji8) : Int) zD (by have h_ : ((ji8) : Int) < ((x5_1.length : Int) : Int) := zD; first | exact h_ | (have e_ := (Kd.S_reads' HO_5.out).1; omega) | simpa using h_))); (try (obtain ⟨ve27_9, rfl, ge27_9⟩ := k64_openM hM27)); (try (have HP27 := Kd.S_seg hH27 zD (by have h_ : ((ji8) : Int) < ((x5_1.length : Int) : Int) := zD; first | exact h_ | (have e_ := (Kd.S_reads' HO_5.out).1; omega) | simpa using h_) (seg := [.int .i64 ((rd_T64 x5_1 (ji8)).f0), .int .i64 ((rd_T64 x5_1 (ji8)).f1), .string ((rd_T64 x5_1 (ji8)).f2), .string ((rd_T64 x5_1 (ji8)).f3), .string ((rd_T64 x5_1 (ji8)).f4), .string ((rd_T64 x5_1 (ji8)).f5), .string ((rd_T64 x5_1 (ji8)).f6), .string ((rd_T64 x5_1 (ji8)).f7), .string ((rd_T64 x5_1 (ji8)).f8), .slice Ao23 y382.length co23]) (j := 0) (show 10 ≤ 10 from by decide) (x' := (⟨(rd_T64 x5_1 (ji8)).f0, (rd_T64 x5_1 (ji8)).f1, (rd_T64 x5_1 (ji8)).f2, (rd_T64 x5_1 (ji8)).f3, (rd_T64 x5_1 (ji8)).f4, (rd_T64 x5_1 (ji8)).f5, (rd_T64 x5_1 (ji8)).f6, (rd_T64 x5_1 (ji8)).f7, (rd_T64 x5_1 (ji8)).f8, y382⟩ : S64)) (k64_mkM _ _ _ (⟨(rd_T64 x5_1 (ji8)).f0, (rd_T64 x5_1 (ji8)).f1, (rd_T64 x5_1 (ji8)).f2, (rd_T64 x5_1 (ji8)).f3, (rd_T64 x5_1 (ji8)).f4, (rd_T64 x5_1 (ji8)).f5, (rd_T64 x5_1 (ji8)).f6, (rd_T64 x5_1 (ji8)).f7, (rd_T64 x5_1 (ji8)).f8, y382⟩ : S64) (Kd.R_mono (Kd.R_tight rfl (Kd.R_mono (ok' := fun k_ => ((fun k_ => k_ ≠ gb374)) k_ ∧ k_ ≠ go14) (Kd.R_types (Kd.R_apart' (HO384.out) (Kd.S_typed HO_5.out) (by decide)) BK374.out (by decide)) (fun k_ hk => ⟨hk.2, fun e_ => (hk.1.2) (by rw [e_]; rfl)⟩))) (fun _ h_ => Or.inr (h_)))) (fun _ hk => hk) (fun k_ hk_ => ((Kd.R_mono (ok' := fun k_ => ((fun k_ => k_ ≠ gb374)) k_ ∧ k_ ≠ go14) (Kd.R_types (Kd.R_apart' (HO384.out) (Kd.S_typed HO_5.out) (by decide)) BK374.out (by decide)) (fun k_ hk => ⟨hk.2, fun e_ => (hk.1.2) (by rw [e_]; rfl)⟩))).1 k_ hk_.symm))); (try (have hx27_0 := hcc27 0 _ rfl)); (try (try simp only [show (k64).sz = 10 from rfl, Nat.mul_one, Nat.add_zero] at hx27_0)); (try (have hf27_0 := hfr27 0)); (try (try simp only [show (k64).sz = 10 from rfl, Nat.mul_one, Nat.add_zero] at hf27_0)); (try (have hx27_1 := hcc27 1 _ rfl)); (try (try simp only [show (k64).sz = 10 from rfl, Nat.mul_one, Nat.add_zero] at hx27_1)); (try (have hf27_1 := hfr27 1)); (try (try simp only [show (k64).sz = 10 from rfl, Nat.mul_one, Nat.add_zero] at hf27_1)); (try (have hx27_2 := hcc27 2 _ rfl)); (try (try simp only [show (k64).sz = 10 from rfl, Nat.mul_one, Nat.add_zero] at hx27_2)); (try (have hf27_2 := hfr27 2)); (try (try simp only [show (k64).sz = 10 from rfl, Nat.mul_one, Nat.add_zero] at hf27_2)); (try (have hx27_3 := hcc27 3 _ rfl)); (try (try simp only [show (k64).sz = 10 from rfl, Nat.mul_one, Nat.add_zero] at hx27_3)); (try (have hf27_3 := hfr27 3)); (try (try simp only [show (k64).sz = 10 from rfl, Nat.mul_one, Nat.add_zero] at hf27_3)); (try (have hx27_4 := hcc27 4 _ rfl)); (try (try simp only [show (k64).sz = 10 from rfl, Nat.mul_one, Nat.add_zero] at hx27_4)); (try (have hf27_4 := hfr27 4)); (try (try simp only [show (k64).sz = 10 from rfl, Nat.mul_one, Nat.add_zero] at hf27_4)); (try (have hx27_5 := hcc27 5 _ rfl)); (try (try simp only [show (k64).sz = 10 from rfl, Nat.mul_one, Nat.add_zero] at hx27_5)); (try (have hf27_5 := hfr27 5)); (try (try simp only [show (k64).sz = 10 from rfl, Nat.mul_one, Nat.add_zero] at hf27_5)); (try (have hx27_6 := hcc27 6 _ rfl)); (try (try simp only [show (k64).sz = 10 from rfl, Nat.mul_one, Nat.add_zero] at hx27_6)); (try (have hf27_6 := hfr27 6)); (try (try simp only [show (k64).sz = 10 from rfl, Nat.mul_one, Nat.add_zero] at hf27_6)); (try (have hx27_7 := hcc27 7 _ rfl)); (try (try simp only [show (k64).sz = 10 from rfl, Nat.mul_one, Nat.add_zero] at hx27_7)); (try (have hf27_7 := hfr27 7)); (try (try simp only [show (k64).sz = 10 from rfl, Nat.mul_one, Nat.add_zero] at hf27_7)); (try (have hx27_8 := hcc27 8 _ rfl)); (try (try simp only [show (k64).sz = 10 from rfl, Nat.mul_one, Nat.add_zero] at hx27_8)); (try (have hf27_8 := hfr27 8)); (try (try simp only [show (k64).sz = 10 from rfl, Nat.mul_one, Nat.add_zero] at hf27_8)); (try (have hx27_9 := hcc27 9 _ rfl)); (try (try simp only [show (k64).sz = 10 from rfl, Nat.mul_one, Nat.add_zero] at hx27_9)); (try (have hf27_9 := hfr27 9)); (try (try simp only [show (k64).sz = 10 from rfl, Nat.mul_one, Nat.add_zero] at hf27_9)); (try (clear hcl27 hcc27 hfr27 hM27 hoki27 hH27)); (try (obtain ⟨z26_0, z26_1, z26_2, z26_3, z26_4, z26_5, z26_6, z26_7, z26_8, z26_9, y26_0, y26_1, y26_2, y26_3, y26_4, y26_5, y26_6, y26_7, y26_8, y26_9⟩ := zC10 BK374.out)))); refine store_event (t := 64) (p := 66) (v := ?vo_w28) (w1 := ((((((((((w25.setCell ⟨go14, ((ji8) : Int).toNat * 10, none⟩ (.int .i64 ((rd_T64 x5_1 (ji8)).f0))).setCell ⟨go14, ((ji8) : Int).toNat * 10 + 1, none⟩ (.int .i64 ((rd_T64 x5_1 (ji8)).f1))).setCell ⟨go14, ((ji8) : Int).toNat * 10 + 2, none⟩ (.string ((rd_T64 x5_1 (ji8)).f2))).setCell ⟨go14, ((ji8) : Int).toNat * 10 + 3, none⟩ (.string ((rd_T64 x5_1 (ji8)).f3))).setCell ⟨go14, ((ji8) : Int).toNat * 10 + 4, none⟩ (.string ((rd_T64 x5_1 (ji8)).f4))).setCell ⟨go14, ((ji8) : Int).toNat * 10 + 5, none⟩ (.string ((rd_T64 x5_1 (ji8)).f5))).setCell ⟨go14, ((ji8) : Int).toNat * 10 + 6, none⟩ (.string ((rd_T64 x5_1 (ji8)).f6))).setCell ⟨go14, ((ji8) : Int).toNat * 10 + 7, none⟩ (.string ((rd_T64 x5_1 (ji8)).f7))).setCell ⟨go14, ((ji8) : Int).toNat * 10 + 8, none⟩ (.string ((rd_T64 x5_1 (ji8)).f8))).setCell ⟨go14, ((ji8) : Int).toNat * 10 + 9, none⟩ (.slice Ao23 y382.length co23))) ?hg ?ho ?hn ?hr ?_; (case ho => rfl); (case hg => rfl); (case hn => rfl); (case hr => (go_simp; try rfl)); intro w28 hw; have hg : w25.grownBy w28 (some go14) := (by rw [hw]; exact HP27.2); have hp_ : Kd.S k64 64 w28 w.heap.size (fun k_ => k_ ≠ gb374) (.slice (some ⟨go14, 0, none⟩) x5_1.length co15) y385 := (by rw [hw, Ny385.out]; exact HP27.1); clear HP27; replace HO_6 := ka (Kd.R_over' (v := (.slice (some ⟨go14, 0, none⟩) x5_1.length co15)) (zR HO_6.out) (Kd.S_typed HO_5.out) (by decide) hg); replace HL372_9 := ka (Kd.R_after (v := (.slice (some ⟨go14, 0, none⟩) x5_1.length co15)) (v1 := (.slice (some ⟨go14, 0, none⟩) x5_1.length co15)) (ok := (fun k_ => some k_ ≠ (.slice Ao23 y382.length co23 : Value).ownBlock)) (by (with_reducible repeat (first | apply Kd.R_alloc | apply Kd.R_drewN | apply Kd.R_drew)); exact Kd.R_mono HL372_9.out (fun _ hk => ⟨hk.2, hk.1⟩)) hg (.inl rfl)); replace HL373_9 := ka (Kd.R_after (v := (.slice (some ⟨go14, 0, none⟩) x5_1.length co15)) (v1 := (.slice (some ⟨go14, 0, none⟩) x5_1.length co15)) (ok := (fun k_ => some k_ ≠ (.slice Ao23 y382.length co23 : Value).ownBlock)) (by (with_reducible repeat (first | apply Kd.R_alloc | apply Kd.R_drewN | apply Kd.R_drew)); exact Kd.R_mono HL373_9.out (fun _ hk => ⟨hk.2, hk.1⟩)) hg (.inl rfl)); replace BK374 := ka (blk_grown (g := gb374) (o := .cells #[.int .i64 ((rd_T64 x5_1 (ji8)).f0), .int .i64 ((rd_T64 x5_1 (ji8)).f1), .string ((rd_T64 x5_1 (ji8)).f2), .string ((rd_T64 x5_1 (ji8)).f3), .string ((rd_T64 x5_1 (ji8)).f4), .string ((rd_T64 x5_1 (ji8)).f5), .string ((rd_T64 x5_1 (ji8)).f6), .string ((rd_T64 x5_1 (ji8)).f7), .string ((rd_T64 x5_1 (ji8)).f8), .slice Ao23 y382.length co23] 64 (0, 0)) (zK BK374.out) hg (Kd.S_away HO_5.out (fun _ hk => hk.2))); replace HO_5 := ka (hp_); replace HB := ka ((by rw [hw]; exact below_set (below_set (below_set (below_set (below_set (below_set (below_set (below_set (below_set (below_set (HB.out) GB14.out) GB14.out) GB14.out) GB14.out) GB14.out) GB14.out) GB14.out) GB14.out) GB14.out) GB14.out : Below w.heap.size w w28)); clear HO384; clear hg hw hp_)))
      go_roundg k1
      case measure => have := HK1.out; omega
      case rel => exact ⟨(y385), (x6_1), (wrap64 (x7_1 + 1)), zS, H', ⟨by have := HK1.out; omega⟩, ⟨by (with_reducible repeat (first | apply Kd.S_alloc | apply Kd.S_drewN | apply Kd.S_drew)); exact Kd.S_mono HO_5.out (fun _ hk => trivial)⟩, ⟨zR HO_6.out⟩, ⟨zL HB.out⟩⟩
     rw [if_neg c11] at H
     have c11b0 := zn0 c11
     have c11b1 := zn1 c11
     replace H := zs3 H
     obtain ⟨rfl, rfl, rfl⟩ := H
     have p370 : 0 ≤ (x7_1 : Int) := zD
     have q370 : x7_1 < (l0.length : Int) := zD
     obtain ⟨ad370, e370, hx370_0, hx370_1, hx370_2⟩ := at_T53 HR0.out x7_1 p370 q370
     (try rw [← Nbq4.out] at hx370_1)
     cases e370
     replace hx370_0 := zX HB.out hx370_0
     replace hx370_1 := zX HB.out hx370_1
     replace hx370_2 := zX HB.out hx370_2
     replace p370 := eq_true p370
     replace q370 := eq_true q370
     obtain ⟨Ao29, co29, eo29⟩ := Kd.S_slice HO_5.out
     subst eo29
     have p372 : 0 ≤ ((ji8) : Int) := zD
     have q372 : (ji8) < (x5_1.length : Int) := zD
     obtain ⟨ad372, A372_9, c372_9, e372, hx372_0, hx372_1, hx372_2, hx372_3, hx372_4, hx372_5, hx372_6, hx372_7, hx372_8, hx372_9, hl372_9, hi372_9⟩ := at_T64 (Kd.S_reads' HO_5.out).2.2 (ji8) p372 q372
     cases e372
     obtain ⟨ce372, hce372, hMe372, hcc372⟩ := Kd.S_get HO_5.out z64 (ji8) p372 (by first | exact q372 | exact zD | (have e_ := (Kd.S_reads' HO_5.out).1; omega))
     obtain ⟨ve372_9, rfl, ge372_9⟩ := k64_openM hMe372
     have hv372_9 := hcc372 9 _ rfl
     rw [add_field _ _ 9 (by omega)] at hv372_9
     replace hv372_9 := Option.some.inj (hv372_9.symm.trans hx372_9)
     rw [hv372_9] at ge372_9
     have HL372_9 := ka (show Kd.R Kd.string 9 _ _ _ _ ((rd_T64 x5_1 (ji8)).f9) from ge372_9)
     clear hv372_9 ge372_9
     clear hcc372 hce372
     have HR372_9 := ka hi372_9
     have HC372_9 := ka hl372_9
     clear hi372_9 hl372_9
     replace p372 := eq_true p372
     replace q372 := eq_true q372
     have p386 : 0 ≤ (x7_1 : Int) := zD
     have q386 : x7_1 < (l0.length : Int) := zD
     obtain ⟨ad386, e386, hx386_0, hx386_1, hx386_2⟩ := at_T53 HR0.out x7_1 p386 q386
     (try rw [← Nbq4.out] at hx386_1)
     obtain rfl : ad370 = ad386 := (by injection e386)
     replace hx386_0 := zX HB.out hx386_0
     replace hx386_1 := zX HB.out hx386_1
     replace hx386_2 := zX HB.out hx386_2
     replace p386 := eq_true p386
     replace q386 := eq_true q386
     go_wp2
     repeat (go_quiet (fail); try go_wp2)
     go_ret3
     exact ⟨_, by first | rfl | (simp [errW_none, errW_some] <;> rfl) | (simp only [← hji8]; first | rfl | (simp [errW_none, errW_some] <;> rfl)) | (simp [*, errW_none, errW_some] <;> rfl), zNl, zL HB.out⟩
    replace c5 := Bool.eq_false_iff.mpr c5
    subst c5
    rw [if_neg (show ¬ (false = true) by decide)] at H
    replace H := Option.bind_eq_some_iff.mp H
    obtain ⟨⟨t388, t389, t390, t391, t392, t393, t394, t395, t396, t397, t400⟩, A300, H⟩ := H
    try dsimp only at H
    have A30 := ka A300
    clear A300
    by_cases c31 : t400 = true
    ·subst c31
     rw [if_pos rfl] at H
     have HC32 := ka H
     clear H
     have p370 : 0 ≤ (x7_1 : Int) := zD
     have q370 : x7_1 < (l0.length : Int) := zD
     obtain ⟨ad370, e370, hx370_0, hx370_1, hx370_2⟩ := at_T53 HR0.out x7_1 p370 q370
     (try rw [← Nbq4.out] at hx370_1)
     cases e370
     replace hx370_0 := zX HB.out hx370_0
     replace hx370_1 := zX HB.out hx370_1
     replace hx370_2 := zX HB.out hx370_2
     replace p370 := eq_true p370
     replace q370 := eq_true q370
     have p387 : 0 ≤ (x7_1 : Int) := zD
     have q387 : x7_1 < (l0.length : Int) := zD
     obtain ⟨ad387, e387, hx387_0, hx387_1, hx387_2⟩ := at_T53 HR0.out x7_1 p387 q387
     (try rw [← Nbq4.out] at hx387_1)
     obtain rfl : ad370 = ad387 := (by injection e387)
     replace hx387_0 := zX HB.out hx387_0
     replace hx387_1 := zX HB.out hx387_1
     replace hx387_2 := zX HB.out hx387_2
     replace p387 := eq_true p387
     replace q387 := eq_true q387
     go_upto_if 84 with (first | (go_at_call 26; (with_reducible refine (cooperageref9_one.calls k1 ((rd_T53 l0 x7_1).f0) false ((rd_T53 l0 x7_1).f2) t388 t389 t390 t391 t392 t393 t394 t395 t396 t397 true _ A30.out).mono ?_); rintro e w33 ⟨v398, rfl, ho0, hb⟩; replace HO_5 := ka (Kd.S_elder' (zRS HO_5.out) (Kd.R_base ho0) hb); replace HO_6 := ka (Kd.R_below (zR HO_6.out) hb); have HO399 := ka (Kd.R_lower ho0 (below_size (zL HB.out))); replace HB := ka (below_step (zL HB.out) hb); (try clear hb); (try clear hb2); (try clear hk); (try clear hi); (try clear ho0)) | ((with_reducible refine gate_dst (N := 10) rfl ?_); (try (refine gate_guard (by rfl) ?_; dsimp only)); refine box_event ?hg (N := 10) ?hd (cs := #[.int .i64 0, .int .i64 0, .string ⟨#[]⟩, .string ⟨#[]⟩, .string ⟨#[]⟩, .string ⟨#[]⟩, .string ⟨#[]⟩, .string ⟨#[]⟩, .string ⟨#[]⟩, .slice none 0 0]) (t := 64) ?hr ?_; (case hd => rfl); (case hg => rfl); (case hr => (go_simp; try rfl)); intro gb401 hg w34 hbox hb; replace HO_5 := ka (Kd.S_below (Kd.S_elderB (zRS HO_5.out) gb401 (Nat.le_of_eq hg.symm)) hb); replace HO_6 := ka (Kd.R_below (zR HO_6.out) hb); replace HO399 := ka (Kd.R_below (zR HO399.out) hb); have BK401 := ka (hbox); have GW401 := ka (zG hg (zL HB.out)); have GE401 := ka (zG hg (zL HB.out)); replace HB := ka (below_step (zL HB.out) hb); clear hb hbox hg; obtain ⟨z35_0, z35_1, z35_2, z35_3, z35_4, z35_5, z35_6, z35_7, z35_8, z35_9, y35_0, y35_1, y35_2, y35_3, y35_4, y35_5, y35_6, y35_7, y35_8, y35_9⟩ := zC10 BK401.out; obtain ⟨Ao36, co36, eo36⟩ := Kd.R_slice HO399.out; subst eo36))
     repeat (go_quiet (first | (go_at_call 26; (with_reducible refine (cooperageref9_one.calls k1 ((rd_T53 l0 x7_1).f0) false ((rd_T53 l0 x7_1).f2) t388 t389 t390 t391 t392 t393 t394 t395 t396 t397 true _ A30.out).mono ?_); rintro e w33 ⟨v398, rfl, ho0, hb⟩; replace HO_5 := ka (Kd.S_elder' (zRS HO_5.out) (Kd.R_base ho0) hb); replace HO_6 := ka (Kd.R_below (zR HO_6.out) hb); have HO399 := ka (Kd.R_lower ho0 (below_size (zL HB.out))); replace HB := ka (below_step (zL HB.out) hb); (try clear hb); (try clear hb2); (try clear hk); (try clear hi); (try clear ho0))); go_upto_if 84 with (first | (go_at_call 26; (with_reducible refine (cooperageref9_one.calls k1 ((rd_T53 l0 x7_1).f0) false ((rd_T53 l0 x7_1).f2) t388 t389 t390 t391 t392 t393 t394 t395 t396 t397 true _ A30.out).mono ?_); rintro e w33 ⟨v398, rfl, ho0, hb⟩; replace HO_5 := ka (Kd.S_elder' (zRS HO_5.out) (Kd.R_base ho0) hb); replace HO_6 := ka (Kd.R_below (zR HO_6.out) hb); have HO399 := ka (Kd.R_lower ho0 (below_size (zL HB.out))); replace HB := ka (below_step (zL HB.out) hb); (try clear hb); (try clear hb2); (try clear hk); (try clear hi); (try clear ho0)) | ((with_reducible refine gate_dst (N := 10) rfl ?_); (try (refine gate_guard (by rfl) ?_; dsimp only)); refine box_event ?hg (N := 10) ?hd (cs := #[.int .i64 0, .int .i64 0, .string ⟨#[]⟩, .string ⟨#[]⟩, .string ⟨#[]⟩, .string ⟨#[]⟩, .string ⟨#[]⟩, .string ⟨#[]⟩, .string ⟨#[]⟩, .slice none 0 0]) (t := 64) ?hr ?_; (case hd => rfl); (case hg => rfl); (case hr => (go_simp; try rfl)); intro gb401 hg w34 hbox hb; replace HO_5 := ka (Kd.S_below (Kd.S_elderB (zRS HO_5.out) gb401 (Nat.le_of_eq hg.symm)) hb); replace HO_6 := ka (Kd.R_below (zR HO_6.out) hb); replace HO399 := ka (Kd.R_below (zR HO399.out) hb); have BK401 := ka (hbox); have GW401 := ka (zG hg (zL HB.out)); have GE401 := ka (zG hg (zL HB.out)); replace HB := ka (below_step (zL HB.out) hb); clear hb hbox hg; obtain ⟨z35_0, z35_1, z35_2, z35_3, z35_4, z35_5, z35_6, z35_7, z35_8, z35_9, y35_0, y35_1, y35_2, y35_3, y35_4, y35_5, y35_6, y35_7, y35_8, y35_9⟩ := zC10 BK401.out; obtain ⟨Ao36, co36, eo36⟩ := Kd.R_slice HO399.out; subst eo36)))
     (try simp only [Act.put, List.setIfInBounds_toArray, List.set_cons_zero, List.set_cons_succ])
     go_cut [6] (fun v6 wc => ∃ (kq : Nat) (x6_31 : List Int), Aside0 (cooperageref9_Parse.j1 kq l0 x5_1 x6_31 x7_1 t388 t389 t390 t391 t392 t393 t394 t395 t396 t397 = some (r1, r2, r3)) ∧ Aside0 (kq ≤ k1) ∧ Aside0 (Kd.S k64 64 wc w.heap.size (fun k_ => some k_ ≠ ((.slice Ao36 t397.length co36) : Value).ownBlock ∧ k_ ≠ gb401) u5 x5_1) ∧ Aside0 (Kd.R (Kd.int .i64) 3 wc w.heap.size (fun _ => True) v6 x6_31) ∧ Aside0 (Kd.R Kd.string 9 wc w.heap.size (fun _ => True) (.slice Ao36 t397.length co36) t397) ∧ Aside0 (wc.heap[gb401]? = some (.cells #[.int .i64 t388, .int .i64 t389, .string t390, .string t391, .string t392, .string t393, .string t394, .string t395, .string t396, (.slice Ao36 t397.length co36)] 64 (0, 0))) ∧ Aside0 (Below w.heap.size w wc))
     case first =>
      have H := HC32.out
      clear HC32
      by_cases c37 : t388 = 3
      ·rw [if_pos c37] at H
       have c37b0 := zb0 c37
       have c37b1 := zb1 c37
       clear c37
       (first | rw [c37b0] | (simp only [i64_w, i32_w]; rw [c37b0]) | rw [isE_ c37b0] | skip)
       by_cases c38 : (x6_1.length : Int) = 20
       ·rw [if_pos c38] at H
        have c38b0 := zb0 c38
        have c38b1 := zb1 c38
        clear c38
        replace H := zs3 H
        obtain ⟨rfl, rfl, rfl⟩ := H
        obtain ⟨Ao39, co39, eo39⟩ := Kd.R_slice HO_6.out
        subst eo39
        have p403 : 0 ≤ (x7_1 : Int) := zD
        have q403 : x7_1 < (l0.length : Int) := zD
        obtain ⟨ad403, e403, hx403_0, hx403_1, hx403_2⟩ := at_T53 HR0.out x7_1 p403 q403
        (try rw [← Nbq4.out] at hx403_1)
        obtain rfl : ad370 = ad403 := (by injection e403)
        have hn403_0 : ad370.block ≠ gb401 := Nat.ne_of_lt (Nat.lt_of_lt_of_le (by have := World.block_lt_of_cell? _ _ hx403_0; first | rwa [add_block] at this | exact this) GW401.out)
        have hn403_1 : ad370.block ≠ gb401 := Nat.ne_of_lt (Nat.lt_of_lt_of_le (by have := World.block_lt_of_cell? _ _ hx403_0; first | rwa [add_block] at this | exact this) GW401.out)
        have hn403_2 : ad370.block ≠ gb401 := Nat.ne_of_lt (Nat.lt_of_lt_of_le (by have := World.block_lt_of_cell? _ _ hx403_0; first | rwa [add_block] at this | exact this) GW401.out)
        have hn403_3 : ad370.block ≠ gb401 := Nat.ne_of_lt (Nat.lt_of_lt_of_le (by have := World.block_lt_of_cell? _ _ hx403_0; first | rwa [add_block] at this | exact this) GW401.out)
        have hn403_4 : ad370.block ≠ gb401 := Nat.ne_of_lt (Nat.lt_of_lt_of_le (by have := World.block_lt_of_cell? _ _ hx403_0; first | rwa [add_block] at this | exact this) GW401.out)
        have hn403_5 : ad370.block ≠ gb401 := Nat.ne_of_lt (Nat.lt_of_lt_of_le (by have := World.block_lt_of_cell? _ _ hx403_0; first | rwa [add_block] at this | exact this) GW401.out)
        have hn403_6 : ad370.block ≠ gb401 := Nat.ne_of_lt (Nat.lt_of_lt_of_le (by have := World.block_lt_of_cell? _ _ hx403_0; first | rwa [add_block] at this | exact this) GW401.out)
        have hn403_7 : ad370.block ≠ gb401 := Nat.ne_of_lt (Nat.lt_of_lt_of_le (by have := World.block_lt_of_cell? _ _ hx403_0; first | rwa [add_block] at this | exact this) GW401.out)
        have hn403_8 : ad370.block ≠ gb401 := Nat.ne_of_lt (Nat.lt_of_lt_of_le (by have := World.block_lt_of_cell? _ _ hx403_0; first | rwa [add_block] at this | exact this) GW401.out)
        have hn403_9 : ad370.block ≠ gb401 := Nat.ne_of_lt (Nat.lt_of_lt_of_le (by have := World.block_lt_of_cell? _ _ hx403_0; first | rwa [add_block] at this | exact this) GW401.out)
        replace hx403_0 := zX HB.out hx403_0
        replace hx403_1 := zX HB.out hx403_1
        replace hx403_2 := zX HB.out hx403_2
        replace hx403_0 := zF gb401 0 (.int .i64 t388) hn403_0 hx403_0
        replace hx403_1 := zF gb401 0 (.int .i64 t388) hn403_0 hx403_1
        replace hx403_2 := zF gb401 0 (.int .i64 t388) hn403_0 hx403_2
        replace hx403_0 := zF gb401 1 (.int .i64 t389) hn403_1 hx403_0
        replace hx403_1 := zF gb401 1 (.int .i64 t389) hn403_1 hx403_1
        replace hx403_2 := zF gb401 1 (.int .i64 t389) hn403_1 hx403_2
        replace hx403_0 := zF gb401 2 (.string t390) hn403_2 hx403_0
        replace hx403_1 := zF gb401 2 (.string t390) hn403_2 hx403_1
        replace hx403_2 := zF gb401 2 (.string t390) hn403_2 hx403_2
        replace hx403_0 := zF gb401 3 (.string t391) hn403_3 hx403_0
        replace hx403_1 := zF gb401 3 (.string t391) hn403_3 hx403_1
        replace hx403_2 := zF gb401 3 (.string t391) hn403_3 hx403_2
        replace hx403_0 := zF gb401 4 (.string t392) hn403_4 hx403_0
        replace hx403_1 := zF gb401 4 (.string t392) hn403_4 hx403_1
        replace hx403_2 := zF gb401 4 (.string t392) hn403_4 hx403_2
        replace hx403_0 := zF gb401 5 (.string t393) hn403_5 hx403_0
        replace hx403_1 := zF gb401 5 (.string t393) hn403_5 hx403_1
        replace hx403_2 := zF gb401 5 (.string t393) hn403_5 hx403_2
        replace hx403_0 := zF gb401 6 (.string t394) hn403_6 hx403_0
        replace hx403_1 := zF gb401 6 (.string t394) hn403_6 hx403_1
        replace hx403_2 := zF gb401 6 (.string t394) hn403_6 hx403_2
        replace hx403_0 := zF gb401 7 (.string t395) hn403_7 hx403_0
        replace hx403_1 := zF gb401 7 (.string t395) hn403_7 hx403_1
        replace hx403_2 := zF gb401 7 (.string t395) hn403_7 hx403_2
        replace hx403_0 := zF gb401 8 (.string t396) hn403_8 hx403_0
        replace hx403_1 := zF gb401 8 (.string t396) hn403_8 hx403_1
        replace hx403_2 := zF gb401 8 (.string t396) hn403_8 hx403_2
        replace hx403_0 := zF gb401 9 (.slice Ao36 t397.length co36) hn403_9 hx403_0
        replace hx403_1 := zF gb401 9 (.slice Ao36 t397.length co36) hn403_9 hx403_1
        replace hx403_2 := zF gb401 9 (.slice Ao36 t397.length co36) hn403_9 hx403_2
        (try have hy403_0 := fun (n_ : Nat) => zDY (w2 := ((((((((((((w34.drewN n_).setCell ⟨gb401, 0, none⟩ (.int .i64 t388)).setCell ⟨gb401, 1, none⟩ (.int .i64 t389)).setCell ⟨gb401, 2, none⟩ (.string t390)).setCell ⟨gb401, 3, none⟩ (.string t391)).setCell ⟨gb401, 4, none⟩ (.string t392)).setCell ⟨gb401, 5, none⟩ (.string t393)).setCell ⟨gb401, 6, none⟩ (.string t394)).setCell ⟨gb401, 7, none⟩ (.string t395)).setCell ⟨gb401, 8, none⟩ (.string t396)).setCell ⟨gb401, 9, none⟩ (.slice Ao36 t397.length co36)))) hx403_0)
        (try have hy403_1 := fun (n_ : Nat) => zDY (w2 := ((((((((((((w34.drewN n_).setCell ⟨gb401, 0, none⟩ (.int .i64 t388)).setCell ⟨gb401, 1, none⟩ (.int .i64 t389)).setCell ⟨gb401, 2, none⟩ (.string t390)).setCell ⟨gb401, 3, none⟩ (.string t391)).setCell ⟨gb401, 4, none⟩ (.string t392)).setCell ⟨gb401, 5, none⟩ (.string t393)).setCell ⟨gb401, 6, none⟩ (.string t394)).setCell ⟨gb401, 7, none⟩ (.string t395)).setCell ⟨gb401, 8, none⟩ (.string t396)).setCell ⟨gb401, 9, none⟩ (.slice Ao36 t397.length co36)))) hx403_1)
        (try have hy403_2 := fun (n_ : Nat) => zDY (w2 := ((((((((((((w34.drewN n_).setCell ⟨gb401, 0, none⟩ (.int .i64 t388)).setCell ⟨gb401, 1, none⟩ (.int .i64 t389)).setCell ⟨gb401, 2, none⟩ (.string t390)).setCell ⟨gb401, 3, none⟩ (.string t391)).setCell ⟨gb401, 4, none⟩ (.string t392)).setCell ⟨gb401, 5, none⟩ (.string t393)).setCell ⟨gb401, 6, none⟩ (.string t394)).setCell ⟨gb401, 7, none⟩ (.string t395)).setCell ⟨gb401, 8, none⟩ (.string t396)).setCell ⟨gb401, 9, none⟩ (.slice Ao36 t397.length co36)))) hx403_2)
        clear hn403_0
        clear hn403_1
        clear hn403_2
        clear hn403_3
        clear hn403_4
        clear hn403_5
        clear hn403_6
        clear hn403_7
        clear hn403_8
        clear hn403_9
        replace p403 := eq_true p403
        replace q403 := eq_true q403
        go_wp2
        repeat (go_quiet (fail); try go_wp2)
        go_ret3
        exact ⟨_, zE, zNl, zL HB.out⟩
       rw [if_neg c38] at H
       have c38b0 := zn0 c38
       have c38b1 := zn1 c38
       replace H := zif H
       obtain ⟨c40, H⟩ := H
       have LMc40 := ka c40
       clear c40
       obtain ⟨y404, hy404⟩ : ∃ y_ : List Int, y_ = (x6_1 ++ [0]) := ⟨_, rfl⟩
       replace H : (cooperageref9_Parse.j1 k1 l0 x5_1 y404 x7_1 t388 t389 t390 t391 t392 t393 t394 t395 t396 t397) = some (r1, r2, r3) := zH hy404 H
       have Ny404 := ka hy404
       clear hy404
       have H' := ka H
       clear H
       obtain ⟨Ao41, co41, eo41⟩ := Kd.R_slice HO_6.out
       subst eo41
       have F_ := trivial
       repeat ((first | clear F_ | go_quiet (fail)); try go_wp2_with (first | ((with_reducible refine gate_builtin (b := .append) (xs := #[.tmp 93, .tmp 94]) rfl ?_); (try (refine gate_guard (by rfl) ?_; dsimp only)); at_builtin; refine Kd.R_append (Kd.int .i64) (w0 := w) w.heap.size rfl (.tmp 93) (.tmp 94) 63 3 (.int .i64 0) 8 rfl Tryd.underlying63 info3 rfl (by decide) (by omega) (.slice Ao41 x6_1.length co41) x6_1 0 [.int .i64 0] (fun _ => True) (fun _ => False) rfl (by first | (go_simp; done) | (go_simp; rfl)) ?aP (fun _ hk => hk.elim) ?aF ?aO ?aB ?aS ?aL ?_; (case aP => exact rfl); (case aB => exact (zL HB.out)); (case aF => exact (fun _ _ => trivial)); (case aO => exact (by (with_reducible repeat (first | apply Kd.R_alloc | apply Kd.R_drewN | apply Kd.R_drew)); exact Kd.R_mono (zNT HO_6.out BK401.out) (fun _ hk => trivial))); (case aS => exact (below_size (zL HB.out))); (case aL => have := LMc40.out; omega); intro v405 w42 ho hb hg hat; rw [← Ny404.out] at ho; replace HO_5 := ka (Kd.S_over' (zMS HO_5.out (g := gb401) (fun _ hk => hk.2)) (Kd.R_typed (zT HO_6.out BK401.out)) (by decide) hg); replace HO399 := ka (Kd.R_over' (zT HO399.out BK401.out) (Kd.R_typed (zT HO_6.out BK401.out)) (by decide) hg); replace BK401 := ka (blk_grown (g := gb401) (o := .cells #[.int .i64 t388, .int .i64 t389, .string t390, .string t391, .string t392, .string t393, .string t394, .string t395, .string t396, .slice Ao36 t397.length co36] 64 (0, 0)) (zP10 BK401.out) hg (Kd.R_ne HO_6.out BK401.out (by decide))); replace HB := ka (hb); have HO406 := ka (ho); clear HO_6; clear ho hb hg hat)))
       go_meet
       case rel => exact ⟨_, (y404), H', ⟨by have := HK1.out; first | omega | exact Nat.le_refl _⟩, ⟨by (with_reducible repeat (first | apply Kd.S_alloc | apply Kd.S_drewN | apply Kd.S_drew)); exact Kd.S_mono HO_5.out (fun _ hk => ⟨hk.1.2, hk.2⟩)⟩, ⟨zR HO406.out⟩, ⟨zR HO399.out⟩, ⟨zK BK401.out⟩, ⟨zL HB.out⟩⟩
      rw [if_neg c37] at H
      have c37b0 := zn0 c37
      have c37b1 := zn1 c37
      (first | rw [c37b0] | (simp only [i64_w, i32_w]; rw [c37b0]) | rw [isE_ c37b0] | skip)
      have H' := ka H
      clear H
      go_wp2
      repeat (go_quiet (fail); try go_wp2)
      go_meet
      case rel => exact ⟨_, (x6_1), H', ⟨by have := HK1.out; first | omega | exact Nat.le_refl _⟩, ⟨by (with_reducible repeat (first | apply Kd.S_alloc | apply Kd.S_drewN | apply Kd.S_drew)); exact Kd.S_mono (zNMS HO_5.out (g := gb401) (fun _ hk => hk.2)) (fun _ hk => ⟨hk.1.1.2, hk.1.2⟩)⟩, ⟨by (with_reducible repeat (first | apply Kd.R_alloc | apply Kd.R_drewN | apply Kd.R_drew)); exact Kd.R_mono (zNT HO_6.out BK401.out) (fun _ hk => trivial)⟩, ⟨by (with_reducible repeat (first | apply Kd.R_alloc | apply Kd.R_drewN | apply Kd.R_drew)); exact Kd.R_mono (zNT HO399.out BK401.out) (fun _ hk => trivial)⟩, ⟨zP10 BK401.out⟩, ⟨zL HB.out⟩⟩
     case rest =>
      clear HC32
      try clear c2
      try clear c2b0
      try clear c3
      try clear c3b0
      try clear c5
      try clear c31
      try clear z35_0 z35_1 z35_2 z35_3 z35_4 z35_5 z35_6 z35_7 z35_8 z35_9
      try clear y35_0 y35_1 y35_2 y35_3 y35_4 y35_5 y35_6 y35_7 y35_8 y35_9
      try clear hx370_0
      try clear hx370_1
      try clear hx370_2
      try clear hx387_0
      try clear hx387_1
      try clear hx387_2
      try clear p370
      try clear p387
      try clear q370
      try clear q387
      obtain ⟨kq, x6_31, HA, HJ31, HO_5, HO_6, HO_402009, BK401, HB⟩ := hcut
      cases kq with
      | zero => exact absurd HA.out (by simp [cooperageref9_Parse.j1])
      | succ kj31 =>
       have H := HA.out
       clear HA
       simp only [cooperageref9_Parse.j1] at H
       have HC43 := ka H
       clear H
       obtain ⟨z44_0, z44_1, z44_2, z44_3, z44_4, z44_5, z44_6, z44_7, z44_8, z44_9, y44_0, y44_1, y44_2, y44_3, y44_4, y44_5, y44_6, y44_7, y44_8, y44_9⟩ := zC10 BK401.out
       go_upto_if 98 with (fail)
       repeat (go_quiet (fail); go_upto_if 98 with (fail))
       go_cut [] (fun wc => ∃ (kq : Nat) (x6_42 : List Int), Aside0 (cooperageref9_Parse.j2 kq l0 x5_1 x6_42 x7_1 t388 t389 t390 t391 t392 t393 t394 t395 t396 t397 = some (r1, r2, r3)) ∧ Aside0 (kq ≤ kj31) ∧ Aside0 (Kd.S k64 64 wc w.heap.size (fun k_ => some k_ ≠ ((.slice Ao36 t397.length co36) : Value).ownBlock ∧ k_ ≠ gb401) u5 x5_1) ∧ Aside0 (Kd.R (Kd.int .i64) 3 wc w.heap.size (fun _ => True) u6 x6_42) ∧ Aside0 (Kd.R Kd.string 9 wc w.heap.size (fun _ => True) (.slice Ao36 t397.length co36) t397) ∧ Aside0 (wc.heap[gb401]? = some (.cells #[.int .i64 t388, .int .i64 t389, .string t390, .string t391, .string t392, .string t393, .string t394, .string t395, .string t396, (.slice Ao36 t397.length co36)] 64 (0, 0))) ∧ Aside0 (Below w.heap.size w wc))
       case first =>
        have H := HC43.out
        clear HC43
        by_cases c45 : t388 = 4
        ·rw [if_pos c45] at H
         have c45b0 := zb0 c45
         have c45b1 := zb1 c45
         clear c45
         (first | rw [c45b0] | (simp only [i64_w, i32_w]; rw [c45b0]) | rw [isE_ c45b0] | skip)
         by_cases c46 : (x6_31.length : Int) = 0
         ·rw [if_pos c46] at H
          have c46b0 := zb0 c46
          have c46b1 := zb1 c46
          clear c46
          replace H := zif H
          obtain ⟨c47, H⟩ := H
          have c47b0 := zdt c47
          clear c47
          replace H := zif H
          obtain ⟨c48, H⟩ := H
          have c48b0 := zdt c48
          clear c48
          replace H := zs3 H
          obtain ⟨rfl, rfl, rfl⟩ := H
          obtain ⟨Ao49, co49, eo49⟩ := Kd.R_slice HO_6.out
          subst eo49
          have p407 : 0 ≤ (x7_1 : Int) := zD
          have q407 : x7_1 < (l0.length : Int) := zD
          obtain ⟨ad407, e407, hx407_0, hx407_1, hx407_2⟩ := at_T53 HR0.out x7_1 p407 q407
          (try rw [← Nbq4.out] at hx407_1)
          obtain rfl : ad370 = ad407 := (by injection e407)
          replace hx407_0 := zX HB.out hx407_0
          replace hx407_1 := zX HB.out hx407_1
          replace hx407_2 := zX HB.out hx407_2
          replace p407 := eq_true p407
          replace q407 := eq_true q407
          go_wp2
          repeat (go_quiet (fail); try go_wp2)
          go_ret3
          exact ⟨_, zE, zNl, zL HB.out⟩
         rw [if_neg c46] at H
         have c46b0 := zn0 c46
         have c46b1 := zn1 c46
         have c46b2 : ¬ (x6_31 = []) := fun h_ => c46 (by rw [h_]; rfl)
         obtain ⟨ji50, hji50⟩ : ∃ j_ : Int, (wrap64 ((x6_31.length : Int) - 1)) = j_ := ⟨_, rfl⟩
         replace H : (if 0 ≤ (ji50) then (if (ji50) < (x6_31.length : Int) then (if (rd x6_31 (ji50)) > 0 then (if 0 ≤ x7_1 then (if x7_1 < (l0.length : Int) then (some (([] : List (S64)), 2, (rd_T53 l0 x7_1).f0)) else (none)) else (none)) else (cooperageref9_Parse.j2 kj31 l0 x5_1 (x6_31.set ((ji50) : Int).toNat 1) x7_1 t388 t389 t390 t391 t392 t393 t394 t395 t396 t397)) else (none)) else (none)) = some (r1, r2, r3) := by first | (rw [hji50] at H; exact H) | (simp only [hji50] at H ⊢; exact H)
         have hji50w : (IntKind.i64.wrap ((x6_31.length : Int) - 1)) = ji50 := (i64_w _).trans hji50
         replace H := zif H
         obtain ⟨c51, H⟩ := H
         have c51b0 := zdt c51
         clear c51
         replace H := zif H
         obtain ⟨c52, H⟩ := H
         have c52b0 := zdt c52
         clear c52
         by_cases c53 : (rd x6_31 (ji50)) > 0
         ·rw [if_pos c53] at H
          have c53b0 : decide (0 < (rd x6_31 (ji50))) = true := zdt c53
          clear c53
          replace H := zif H
          obtain ⟨c54, H⟩ := H
          have c54b0 := zdt c54
          clear c54
          replace H := zif H
          obtain ⟨c55, H⟩ := H
          have c55b0 := zdt c55
          clear c55
          replace H := zs3 H
          obtain ⟨rfl, rfl, rfl⟩ := H
          obtain ⟨Ao56, co56, eo56⟩ := Kd.R_slice HO_6.out
          subst eo56
          have p408 : 0 ≤ ((ji50) : Int) := zD
          have q408 : (ji50) < (x6_31.length : Int) := zD
          obtain ⟨ad408, e408, hx408_0⟩ := Kd.at_int (Kd.R_reads' HO_6.out).2.2 (ji50) p408 q408
          cases e408
          replace p408 := eq_true p408
          replace q408 := eq_true q408
          have p409 : 0 ≤ (x7_1 : Int) := zD
          have q409 : x7_1 < (l0.length : Int) := zD
          obtain ⟨ad409, e409, hx409_0, hx409_1, hx409_2⟩ := at_T53 HR0.out x7_1 p409 q409
          (try rw [← Nbq4.out] at hx409_1)
          obtain rfl : ad370 = ad409 := (by injection e409)
          replace hx409_0 := zX HB.out hx409_0
          replace hx409_1 := zX HB.out hx409_1
          replace hx409_2 := zX HB.out hx409_2
          replace p409 := eq_true p409
          replace q409 := eq_true q409
          go_wp2
          repeat (go_quiet (fail); try go_wp2)
          go_ret3
          exact ⟨_, by first | rfl | (simp [errW_none, errW_some] <;> rfl) | (simp only [← hji50]; first | rfl | (simp [errW_none, errW_some] <;> rfl)) | (simp [*, errW_none, errW_some] <;> rfl), zNl, zL HB.out⟩
         rw [if_neg c53] at H
         have c53b0 : decide (0 < (rd x6_31 (ji50))) = false := zdf c53
         clear c53
         obtain ⟨y410, hy410⟩ : ∃ y_ : List Int, y_ = (x6_31.set ((ji50) : Int).toNat 1) := ⟨_, rfl⟩
         replace H : (cooperageref9_Parse.j2 kj31 l0 x5_1 y410 x7_1 t388 t389 t390 t391 t392 t393 t394 t395 t396 t397) = some (r1, r2, r3) := zH hy410 H
         have Ny410 := ka hy410
         clear hy410
         have H' := ka H
         clear H
         obtain ⟨Ao58, co58, eo58⟩ := Kd.R_slice HO_6.out
         subst eo58
         have p408 : 0 ≤ ((ji50) : Int) := zD
         have q408 : (ji50) < (x6_31.length : Int) := zD
         obtain ⟨ad408, e408, hx408_0⟩ := Kd.at_int (Kd.R_reads' HO_6.out).2.2 (ji50) p408 q408
         cases e408
         replace p408 := eq_true p408
         replace q408 := eq_true q408
         have p57 : 0 ≤ ((ji50) : Int) := zD
         have q57 : ((ji50) : Int) < ((x6_31.length : Int) : Int) := zD
         obtain ⟨go57, co57, eo57, gb57, gl57, cl57, HG57⟩ := Kd.R_form HO_6.out (by omega)
         (first | cases eo57 | (injection eo57 with ea_ en_ ec_; (first | subst ea_ | (injection ea_ with ea_; subst ea_)); subst ec_; clear en_))
         have GB57 := ka gb57
         have GG57 := ka HG57
         clear gb57 gl57 HG57
         (first | simp only [add_plain] at hx408_0 | skip)
         obtain ⟨hx57_0, hf57_0⟩ := Kd.R_celln 0 HO_6.out ((ji50) : Int) p57 q57
         replace p57 := eq_true p57
         replace q57 := eq_true q57
         have HP59 := Kd.R_putg HO_6.out ((ji50) : Int) 1
         have F_ := trivial
         repeat ((first | clear F_ | go_quiet (fail)); try go_wp2_with (first | ((with_reducible refine gate_store (t := 3) (p := 120) rfl ?_); (try (rw [drewN_self wc]; generalize hq_ : World.drewN wc _ = wc; have n0_ := ka (Kd.S_at hq_ HO_5.out); have n1_ := ka (Kd.R_at hq_ HO_6.out); have n2_ := ka (Kd.R_at hq_ HO_402009.out); have n3_ := ka (blk_at hq_ BK401.out); have n4_ := ka (below_at hq_ HB.out); clear hq_ HO_5 HO_6 HO_402009 BK401 HB; have HO_5 := n0_; have HO_6 := n1_; have HO_402009 := n2_; have BK401 := n3_; have HB := n4_; clear n0_ n1_ n2_ n3_ n4_; (try (have HP59 := Kd.R_putg HO_6.out ((ji50) : Int) 1)); (try (obtain ⟨hx57_0, hf57_0⟩ := Kd.R_celln 0 HO_6.out ((ji50) : Int) (of_eq_true p57) (of_eq_true q57))); (try (obtain ⟨z44_0, z44_1, z44_2, z44_3, z44_4, z44_5, z44_6, z44_7, z44_8, z44_9, y44_0, y44_1, y44_2, y44_3, y44_4, y44_5, y44_6, y44_7, y44_8, y44_9⟩ := zC10 BK401.out)))); refine store_event (t := 3) (p := 120) (v := ?vo_w60) (w1 := (wc.setCell ⟨go57, ((ji50) : Int).toNat, none⟩ (.int .i64 1))) ?hg ?ho ?hn ?hr ?_; (case ho => rfl); (case hg => rfl); (case hn => rfl); (case hr => (go_simp; try rfl)); intro w60 hw; have hg : wc.grownBy w60 (some go57) := (by rw [hw]; exact HP59.2); have hp_ : Kd.R (Kd.int .i64) 3 w60 w.heap.size (fun _ => True) (.slice (some ⟨go57, 0, none⟩) x6_31.length co58) y410 := (by rw [hw, Ny410.out]; exact HP59.1); clear HP59; replace HO_5 := ka (Kd.S_over' (v := (.slice (some ⟨go57, 0, none⟩) x6_31.length co58)) (zRS HO_5.out) (Kd.R_typed HO_6.out) (by decide) hg); replace HO_402009 := ka (Kd.R_over' (v := (.slice (some ⟨go57, 0, none⟩) x6_31.length co58)) (zR HO_402009.out) (Kd.R_typed HO_6.out) (by decide) hg); replace BK401 := ka (blk_grown (g := gb401) (o := .cells #[.int .i64 t388, .int .i64 t389, .string t390, .string t391, .string t392, .string t393, .string t394, .string t395, .string t396, .slice Ao36 t397.length co36] 64 (0, 0)) (zK BK401.out) hg (Kd.R_ne HO_6.out BK401.out (by decide))); replace HO_6 := ka (hp_); replace HB := ka ((by rw [hw]; exact below_set (HB.out) GB57.out : Below w.heap.size w w60)); clear hg hw hp_)))
         go_meet
         case rel => exact ⟨_, (y410), H', ⟨by have := HK1.out; have := HJ31.out; first | omega | exact Nat.le_refl _⟩, ⟨zRS HO_5.out⟩, ⟨zR HO_6.out⟩, ⟨zR HO_402009.out⟩, ⟨zK BK401.out⟩, ⟨zL HB.out⟩⟩
        rw [if_neg c45] at H
        have c45b0 := zn0 c45
        have c45b1 := zn1 c45
        (first | rw [c45b0] | (simp only [i64_w, i32_w]; rw [c45b0]) | rw [isE_ c45b0] | skip)
        have H' := ka H
        clear H
        go_wp2
        repeat (go_quiet (fail); try go_wp2)
        go_meet
        case rel => exact ⟨_, (x6_31), H', ⟨by have := HK1.out; have := HJ31.out; first | omega | exact Nat.le_refl _⟩, ⟨zRS HO_5.out⟩, ⟨zR HO_6.out⟩, ⟨zR HO_402009.out⟩, ⟨zK BK401.out⟩, ⟨zL HB.out⟩⟩
       case rest =>
        clear HC43
        try clear c2
        try clear c2b0
        try clear c3
        try clear c3b0
        try clear c5
        try clear c31
        try clear z35_0 z35_1 z35_2 z35_3 z35_4 z35_5 z35_6 z35_7 z35_8 z35_9
        try clear z44_0 z44_1 z44_2 z44_3 z44_4 z44_5 z44_6 z44_7 z44_8 z44_9
        try clear y35_0 y35_1 y35_2 y35_3 y35_4 y35_5 y35_6 y35_7 y35_8 y35_9
        try clear y44_0 y44_1 y44_2 y44_3 y44_4 y44_5 y44_6 y44_7 y44_8 y44_9
        try clear hx370_0
        try clear hx370_1
        try clear hx370_2
        try clear hx387_0
        try clear hx387_1
        try clear hx387_2
        try clear p370
        try clear p387
        try clear q370
        try clear q387
        obtain ⟨kq, x6_42, HA, HJ42, HO_5, HO_6, HO_402009, BK401, HB⟩ := hcut
        cases kq with
        | zero => exact absurd HA.out (by simp [cooperageref9_Parse.j2])
        | succ kj42 =>
         have H := HA.out
         clear HA
         simp only [cooperageref9_Parse.j2] at H
         by_cases c61 : t388 = 5
         ·rw [if_pos c61] at H
          have c61b0 := zb0 c61
          have c61b1 := zb1 c61
          clear c61
          by_cases c62 : (x6_42.length : Int) = 0
          ·rw [if_pos c62] at H
           have c62b0 := zb0 c62
           have c62b1 := zb1 c62
           clear c62
           replace H := zif H
           obtain ⟨c63, H⟩ := H
           have c63b0 := zdt c63
           clear c63
           replace H := zif H
           obtain ⟨c64, H⟩ := H
           have c64b0 := zdt c64
           clear c64
           replace H := zs3 H
           obtain ⟨rfl, rfl, rfl⟩ := H
           obtain ⟨z65_0, z65_1, z65_2, z65_3, z65_4, z65_5, z65_6, z65_7, z65_8, z65_9, y65_0, y65_1, y65_2, y65_3, y65_4, y65_5, y65_6, y65_7, y65_8, y65_9⟩ := zC10 BK401.out
           obtain ⟨Ao66, co66, eo66⟩ := Kd.R_slice HO_6.out
           subst eo66
           have p411 : 0 ≤ (x7_1 : Int) := zD
           have q411 : x7_1 < (l0.length : Int) := zD
           obtain ⟨ad411, e411, hx411_0, hx411_1, hx411_2⟩ := at_T53 HR0.out x7_1 p411 q411
           (try rw [← Nbq4.out] at hx411_1)
           obtain rfl : ad370 = ad411 := (by injection e411)
           replace hx411_0 := zX HB.out hx411_0
           replace hx411_1 := zX HB.out hx411_1
           replace hx411_2 := zX HB.out hx411_2
           replace p411 := eq_true p411
           replace q411 := eq_true q411
           go_wp2
           repeat (go_quiet (fail); try go_wp2)
           go_ret3
           exact ⟨_, zE, zNl, zL HB.out⟩
          rw [if_neg c62] at H
          have c62b0 := zn0 c62
          have c62b1 := zn1 c62
          have c62b2 : ¬ (x6_42 = []) := fun h_ => c62 (by rw [h_]; rfl)
          obtain ⟨ji67, hji67⟩ : ∃ j_ : Int, (wrap64 ((x6_42.length : Int) - 1)) = j_ := ⟨_, rfl⟩
          replace H : (if 0 ≤ (ji67) then (if (ji67) ≤ (x6_42.length : Int) then (if x5_1.length < 925904528653 then (cooperageref9_Parse.l0 kj42 l0 (x5_1 ++ [(⟨t388, t389, t390, t391, t392, t393, t394, t395, t396, t397⟩ : S64)]) (x6_42.take ((ji67) : Int).toNat) (wrap64 (x7_1 + 1))) else (none)) else (none)) else (none)) = some (r1, r2, r3) := by first | (rw [hji67] at H; exact H) | (simp only [hji67] at H ⊢; exact H)
          have hji67w : (IntKind.i64.wrap ((x6_42.length : Int) - 1)) = ji67 := (i64_w _).trans hji67
          replace H := zif H
          obtain ⟨c68, H⟩ := H
          have c68b0 := eq_true c68
          have c68b1 := zdt c68
          clear c68
          replace H := zif H
          obtain ⟨c69, H⟩ := H
          have c69b0 := eq_true c69
          have c69b1 := zdt c69
          clear c69
          obtain ⟨y412, hy412⟩ : ∃ y_ : List Int, y_ = (x6_42.take ((ji67) : Int).toNat) := ⟨_, rfl⟩
          replace H : (if x5_1.length < 925904528653 then (cooperageref9_Parse.l0 kj42 l0 (x5_1 ++ [(⟨t388, t389, t390, t391, t392, t393, t394, t395, t396, t397⟩ : S64)]) y412 (wrap64 (x7_1 + 1))) else (none)) = some (r1, r2, r3) := zH hy412 H
          have Ny412 := ka hy412
          clear hy412
          replace H := zif H
          obtain ⟨c70, H⟩ := H
          have LMc70 := ka c70
          clear c70
          obtain ⟨y415, hy415⟩ : ∃ y_ : List (S64), y_ = (x5_1 ++ [(⟨t388, t389, t390, t391, t392, t393, t394, t395, t396, t397⟩ : S64)]) := ⟨_, rfl⟩
          replace H : (cooperageref9_Parse.l0 kj42 l0 y415 y412 (wrap64 (x7_1 + 1))) = some (r1, r2, r3) := zH hy415 H
          have Ny415 := ka hy415
          clear hy415
          have H' := ka H
          clear H
          obtain ⟨z71_0, z71_1, z71_2, z71_3, z71_4, z71_5, z71_6, z71_7, z71_8, z71_9, y71_0, y71_1, y71_2, y71_3, y71_4, y71_5, y71_6, y71_7, y71_8, y71_9⟩ := zC10 BK401.out
          obtain ⟨Ao72, co72, eo72⟩ := Kd.R_slice HO_6.out
          subst eo72
          have q73 : ((ji67) : Int) ≤ ((x6_42.length : Int) : Int) := zD
          obtain ⟨i073, hi073, _, hsz73, _⟩ := info_parts info3
          have hcut73 := cut_to (P := Tryd.prog) 63 3 .i64 Tryd.underlying63 hi073 Ao72 x6_42.length co72 (ji67) zD q73 (Kd.R_reads' HO_6.out).2.1
          have hr73 := Kd.R_take (m := ((ji67) : Int).toNat) HO_6.out (by omega)
          have hy73 : y412.length = ((ji67) : Int).toNat := (by rw [Ny412.out, List.length_take]; omega)
          rw [← Ny412.out] at hr73
          rw [← hy73] at hr73 hcut73
          clear hy73 hi073 hsz73 HO_6
          have HO414 := ka hr73
          clear hr73
          replace q73 := eq_true q73
          have F_ := trivial
          repeat ((first | clear F_ | go_quiet (fail)); try go_wp2_with (first | ((with_reducible refine gate_builtin (b := .append) (xs := #[.tmp 137, .tmp 139]) rfl ?_); (try (refine gate_guard (by rfl) ?_; dsimp only)); at_builtin; refine Kd.S_append k64 (w0 := w) w.heap.size rfl (.tmp 137) (.tmp 139) 31 64 (.agg #[(.int .i64 0), (.int .i64 0), (.string ⟨#[]⟩), (.string ⟨#[]⟩), (.string ⟨#[]⟩), (.string ⟨#[]⟩), (.string ⟨#[]⟩), (.string ⟨#[]⟩), (.string ⟨#[]⟩), (.slice none 0 0)]) 152 rfl Tryd.underlying31 info64 rfl (by decide) (by omega) u5 x5_1 (⟨t388, t389, t390, t391, t392, t393, t394, t395, t396, t397⟩ : S64) [.int .i64 t388, .int .i64 t389, .string t390, .string t391, .string t392, .string t393, .string t394, .string t395, .string t396, .slice Ao36 t397.length co36] (fun k_ => k_ ≠ gb401) (fun k_ => some k_ = (.slice Ao36 t397.length co36 : Value).ownBlock) rfl rfl ?aP (fun k_ hk_ => ((Kd.R_mono (ok' := fun k_ => ((fun k_ => k_ ≠ gb401)) k_ ∧ some k_ ≠ (u5 : Value).ownBlock) (Kd.R_types (Kd.R_apart' (HO_402009.out) (Kd.S_typed HO_5.out) (by decide)) BK401.out (by decide)) (fun k_ hk => ⟨hk.2, hk.1.2⟩))).1 k_ hk_.symm) ?aF ?aO ?aB ?aS ?aL ?_; (case aP => exact k64_mkM _ _ _ (⟨t388, t389, t390, t391, t392, t393, t394, t395, t396, t397⟩ : S64) (Kd.R_mono (Kd.R_tight rfl (Kd.R_mono (ok' := fun k_ => ((fun k_ => k_ ≠ gb401)) k_ ∧ some k_ ≠ (u5 : Value).ownBlock) (Kd.R_types (Kd.R_apart' (HO_402009.out) (Kd.S_typed HO_5.out) (by decide)) BK401.out (by decide)) (fun k_ hk => ⟨hk.2, hk.1.2⟩))) (fun _ h_ => h_))); (case aB => exact (zL HB.out)); (case aF => exact (fun k_ hk => Kd.freshB (g := gb401) (o := .cells #[.int .i64 t388, .int .i64 t389, .string t390, .string t391, .string t392, .string t393, .string t394, .string t395, .string t396, .slice Ao36 t397.length co36] 64 (0, 0)) (zK BK401.out) k_ hk)); (case aO => exact (by (with_reducible repeat (first | apply Kd.S_alloc | apply Kd.S_drewN | apply Kd.S_drew)); exact Kd.S_mono HO_5.out (fun k_ hk => ⟨hk.2, fun e_ => hk.1 e_⟩))); (case aS => exact (below_size (zL HB.out))); (case aL => have := LMc70.out; omega); intro v416 w74 ho hb hg hat; rw [← Ny415.out] at ho; replace HO414 := ka (Kd.R_over' (zR HO414.out) (Kd.S_typed (zRS HO_5.out)) (by decide) hg); replace BK401 := ka (blk_grown (g := gb401) (o := .cells #[.int .i64 t388, .int .i64 t389, .string t390, .string t391, .string t392, .string t393, .string t394, .string t395, .string t396, .slice Ao36 t397.length co36] 64 (0, 0)) (zK BK401.out) hg (Kd.S_away HO_5.out (fun _ hk => hk.2))); replace HB := ka (hb); have HO417 := ka (ho); clear HO_5 HO_402009; clear ho hb hg hat)))
          go_roundg kj42
          case measure => have := HK1.out; have := HJ31.out; have := HJ42.out; omega
          case rel => exact ⟨(y415), (y412), (wrap64 (x7_1 + 1)), zS, H', ⟨by have := HK1.out; have := HJ31.out; have := HJ42.out; omega⟩, ⟨by (with_reducible repeat (first | apply Kd.S_alloc | apply Kd.S_drewN | apply Kd.S_drew)); exact Kd.S_mono HO417.out (fun _ hk => trivial)⟩, ⟨zR HO414.out⟩, ⟨zL HB.out⟩⟩
         rw [if_neg c61] at H
         have c61b0 := zn0 c61
         have c61b1 := zn1 c61
         replace H := zif H
         obtain ⟨c75, H⟩ := H
         have LMc75 := ka c75
         clear c75
         obtain ⟨y418, hy418⟩ : ∃ y_ : List (S64), y_ = (x5_1 ++ [(⟨t388, t389, t390, t391, t392, t393, t394, t395, t396, t397⟩ : S64)]) := ⟨_, rfl⟩
         replace H : (cooperageref9_Parse.l0 kj42 l0 y418 x6_42 (wrap64 (x7_1 + 1))) = some (r1, r2, r3) := zH hy418 H
         have Ny418 := ka hy418
         clear hy418
         have H' := ka H
         clear H
         obtain ⟨z76_0, z76_1, z76_2, z76_3, z76_4, z76_5, z76_6, z76_7, z76_8, z76_9, y76_0, y76_1, y76_2, y76_3, y76_4, y76_5, y76_6, y76_7, y76_8, y76_9⟩ := zC10 BK401.out
         have F_ := trivial
         repeat ((first | clear F_ | go_quiet (fail)); try go_wp2_with (first | ((with_reducible refine gate_builtin (b := .append) (xs := #[.tmp 137, .tmp 139]) rfl ?_); (try (refine gate_guard (by rfl) ?_; dsimp only)); at_builtin; refine Kd.S_append k64 (w0 := w) w.heap.size rfl (.tmp 137) (.tmp 139) 31 64 (.agg #[(.int .i64 0), (.int .i64 0), (.string ⟨#[]⟩), (.string ⟨#[]⟩), (.string ⟨#[]⟩), (.string ⟨#[]⟩), (.string ⟨#[]⟩), (.string ⟨#[]⟩), (.string ⟨#[]⟩), (.slice none 0 0)]) 152 rfl Tryd.underlying31 info64 rfl (by decide) (by omega) u5 x5_1 (⟨t388, t389, t390, t391, t392, t393, t394, t395, t396, t397⟩ : S64) [.int .i64 t388, .int .i64 t389, .string t390, .string t391, .string t392, .string t393, .string t394, .string t395, .string t396, .slice Ao36 t397.length co36] (fun k_ => k_ ≠ gb401) (fun k_ => some k_ = (.slice Ao36 t397.length co36 : Value).ownBlock) rfl rfl ?aP (fun k_ hk_ => ((Kd.R_mono (ok' := fun k_ => ((fun k_ => k_ ≠ gb401)) k_ ∧ some k_ ≠ (u5 : Value).ownBlock) (Kd.R_types (Kd.R_apart' (HO_402009.out) (Kd.S_typed HO_5.out) (by decide)) BK401.out (by decide)) (fun k_ hk => ⟨hk.2, hk.1.2⟩))).1 k_ hk_.symm) ?aF ?aO ?aB ?aS ?aL ?_; (case aP => exact k64_mkM _ _ _ (⟨t388, t389, t390, t391, t392, t393, t394, t395, t396, t397⟩ : S64) (Kd.R_mono (Kd.R_tight rfl (Kd.R_mono (ok' := fun k_ => ((fun k_ => k_ ≠ gb401)) k_ ∧ some k_ ≠ (u5 : Value).ownBlock) (Kd.R_types (Kd.R_apart' (HO_402009.out) (Kd.S_typed HO_5.out) (by decide)) BK401.out (by decide)) (fun k_ hk => ⟨hk.2, hk.1.2⟩))) (fun _ h_ => h_))); (case aB => exact (zL HB.out)); (case aF => exact (fun k_ hk => Kd.freshB (g := gb401) (o := .cells #[.int .i64 t388, .int .i64 t389, .string t390, .string t391, .string t392, .string t393, .string t394, .string t395, .string t396, .slice Ao36 t397.length co36] 64 (0, 0)) (zK BK401.out) k_ hk)); (case aO => exact (by (with_reducible repeat (first | apply Kd.S_alloc | apply Kd.S_drewN | apply Kd.S_drew)); exact Kd.S_mono HO_5.out (fun k_ hk => ⟨hk.2, fun e_ => hk.1 e_⟩))); (case aS => exact (below_size (zL HB.out))); (case aL => have := LMc75.out; omega); intro v419 w77 ho hb hg hat; rw [← Ny418.out] at ho; replace HO_6 := ka (Kd.R_over' (zR HO_6.out) (Kd.S_typed (zRS HO_5.out)) (by decide) hg); replace BK401 := ka (blk_grown (g := gb401) (o := .cells #[.int .i64 t388, .int .i64 t389, .string t390, .string t391, .string t392, .string t393, .string t394, .string t395, .string t396, .slice Ao36 t397.length co36] 64 (0, 0)) (zK BK401.out) hg (Kd.S_away HO_5.out (fun _ hk => hk.2))); replace HB := ka (hb); have HO420 := ka (ho); clear HO_5 HO_402009; clear ho hb hg hat)))
         go_roundg kj42
         case measure => have := HK1.out; have := HJ31.out; have := HJ42.out; omega
         case rel => exact ⟨(y418), (x6_42), (wrap64 (x7_1 + 1)), zS, H', ⟨by have := HK1.out; have := HJ31.out; have := HJ42.out; omega⟩, ⟨by (with_reducible repeat (first | apply Kd.S_alloc | apply Kd.S_drewN | apply Kd.S_drew)); exact Kd.S_mono HO420.out (fun _ hk => trivial)⟩, ⟨zR HO_6.out⟩, ⟨zL HB.out⟩⟩
    replace c31 := Bool.eq_false_iff.mpr c31
    subst c31
    rw [if_neg (show ¬ (false = true) by decide)] at H
    replace H := zs3 H
    obtain ⟨rfl, rfl, rfl⟩ := H
    have p370 : 0 ≤ (x7_1 : Int) := zD
    have q370 : x7_1 < (l0.length : Int) := zD
    obtain ⟨ad370, e370, hx370_0, hx370_1, hx370_2⟩ := at_T53 HR0.out x7_1 p370 q370
    (try rw [← Nbq4.out] at hx370_1)
    cases e370
    replace hx370_0 := zX HB.out hx370_0
    replace hx370_1 := zX HB.out hx370_1
    replace hx370_2 := zX HB.out hx370_2
    replace p370 := eq_true p370
    replace q370 := eq_true q370
    have p387 : 0 ≤ (x7_1 : Int) := zD
    have q387 : x7_1 < (l0.length : Int) := zD
    obtain ⟨ad387, e387, hx387_0, hx387_1, hx387_2⟩ := at_T53 HR0.out x7_1 p387 q387
    (try rw [← Nbq4.out] at hx387_1)
    obtain rfl : ad370 = ad387 := (by injection e387)
    replace hx387_0 := zX HB.out hx387_0
    replace hx387_1 := zX HB.out hx387_1
    replace hx387_2 := zX HB.out hx387_2
    replace p387 := eq_true p387
    replace q387 := eq_true q387
    have F_ := trivial
    repeat ((first | clear F_ | go_quiet (first | (go_at_call 26; (with_reducible refine (cooperageref9_one.calls k1 ((rd_T53 l0 x7_1).f0) false ((rd_T53 l0 x7_1).f2) t388 t389 t390 t391 t392 t393 t394 t395 t396 t397 false _ A30.out).mono ?_); rintro e w78 ⟨v398, rfl, ho0, hb⟩; replace HO_5 := ka (Kd.S_elder' (zRS HO_5.out) (Kd.R_base ho0) hb); replace HO_6 := ka (Kd.R_below (zR HO_6.out) hb); have HO399 := ka (Kd.R_lower ho0 (below_size (zL HB.out))); replace HB := ka (below_step (zL HB.out) hb); (try clear hb); (try clear hb2); (try clear hk); (try clear hi); (try clear ho0)))); try go_wp2_with (first | (go_at_call 26; (with_reducible refine (cooperageref9_one.calls k1 ((rd_T53 l0 x7_1).f0) false ((rd_T53 l0 x7_1).f2) t388 t389 t390 t391 t392 t393 t394 t395 t396 t397 false _ A30.out).mono ?_); rintro e w78 ⟨v398, rfl, ho0, hb⟩; replace HO_5 := ka (Kd.S_elder' (zRS HO_5.out) (Kd.R_base ho0) hb); replace HO_6 := ka (Kd.R_below (zR HO_6.out) hb); have HO399 := ka (Kd.R_lower ho0 (below_size (zL HB.out))); replace HB := ka (below_step (zL HB.out) hb); (try clear hb); (try clear hb2); (try clear hk); (try clear hi); (try clear ho0)) | ((with_reducible refine gate_dst (N := 10) rfl ?_); (try (refine gate_guard (by rfl) ?_; dsimp only)); refine box_event ?hg (N := 10) ?hd (cs := #[.int .i64 0, .int .i64 0, .string ⟨#[]⟩, .string ⟨#[]⟩, .string ⟨#[]⟩, .string ⟨#[]⟩, .string ⟨#[]⟩, .string ⟨#[]⟩, .string ⟨#[]⟩, .slice none 0 0]) (t := 64) ?hr ?_; (case hd => rfl); (case hg => rfl); (case hr => (go_simp; try rfl)); intro gb401 hg w79 hbox hb; replace HO_5 := ka (Kd.S_below (Kd.S_elderB (zRS HO_5.out) gb401 (Nat.le_of_eq hg.symm)) hb); replace HO_6 := ka (Kd.R_below (zR HO_6.out) hb); replace HO399 := ka (Kd.R_below (zR HO399.out) hb); have BK401 := ka (hbox); have GW401 := ka (zG hg (zL HB.out)); have GE401 := ka (zG hg (zL HB.out)); replace HB := ka (below_step (zL HB.out) hb); clear hb hbox hg; obtain ⟨z80_0, z80_1, z80_2, z80_3, z80_4, z80_5, z80_6, z80_7, z80_8, z80_9, y80_0, y80_1, y80_2, y80_3, y80_4, y80_5, y80_6, y80_7, y80_8, y80_9⟩ := zC10 BK401.out; obtain ⟨Ao81, co81, eo81⟩ := Kd.R_slice HO399.out; subst eo81; have p402 : 0 ≤ (x7_1 : Int) := zD; have q402 : x7_1 < (l0.length : Int) := zD; obtain ⟨ad402, e402, hx402_0, hx402_1, hx402_2⟩ := at_T53 HR0.out x7_1 p402 q402; (try rw [← Nbq4.out] at hx402_1); obtain rfl : ad370 = ad402 := (by injection e402); have hn402_0 : ad370.block ≠ gb401 := Nat.ne_of_lt (Nat.lt_of_lt_of_le (by have := World.block_lt_of_cell? _ _ hx402_0; first | rwa [add_block] at this | exact this) GW401.out); have hn402_1 : ad370.block ≠ gb401 := Nat.ne_of_lt (Nat.lt_of_lt_of_le (by have := World.block_lt_of_cell? _ _ hx402_0; first | rwa [add_block] at this | exact this) GW401.out); have hn402_2 : ad370.block ≠ gb401 := Nat.ne_of_lt (Nat.lt_of_lt_of_le (by have := World.block_lt_of_cell? _ _ hx402_0; first | rwa [add_block] at this | exact this) GW401.out); have hn402_3 : ad370.block ≠ gb401 := Nat.ne_of_lt (Nat.lt_of_lt_of_le (by have := World.block_lt_of_cell? _ _ hx402_0; first | rwa [add_block] at this | exact this) GW401.out); have hn402_4 : ad370.block ≠ gb401 := Nat.ne_of_lt (Nat.lt_of_lt_of_le (by have := World.block_lt_of_cell? _ _ hx402_0; first | rwa [add_block] at this | exact this) GW401.out); have hn402_5 : ad370.block ≠ gb401 := Nat.ne_of_lt (Nat.lt_of_lt_of_le (by have := World.block_lt_of_cell? _ _ hx402_0; first | rwa [add_block] at this | exact this) GW401.out); have hn402_6 : ad370.block ≠ gb401 := Nat.ne_of_lt (Nat.lt_of_lt_of_le (by have := World.block_lt_of_cell? _ _ hx402_0; first | rwa [add_block] at this | exact this) GW401.out); have hn402_7 : ad370.block ≠ gb401 := Nat.ne_of_lt (Nat.lt_of_lt_of_le (by have := World.block_lt_of_cell? _ _ hx402_0; first | rwa [add_block] at this | exact this) GW401.out); have hn402_8 : ad370.block ≠ gb401 := Nat.ne_of_lt (Nat.lt_of_lt_of_le (by have := World.block_lt_of_cell? _ _ hx402_0; first | rwa [add_block] at this | exact this) GW401.out); have hn402_9 : ad370.block ≠ gb401 := Nat.ne_of_lt (Nat.lt_of_lt_of_le (by have := World.block_lt_of_cell? _ _ hx402_0; first | rwa [add_block] at this | exact this) GW401.out); replace hx402_0 := zX HB.out hx402_0; replace hx402_1 := zX HB.out hx402_1; replace hx402_2 := zX HB.out hx402_2; replace hx402_0 := zF gb401 0 (.int .i64 t388) hn402_0 hx402_0; replace hx402_1 := zF gb401 0 (.int .i64 t388) hn402_0 hx402_1; replace hx402_2 := zF gb401 0 (.int .i64 t388) hn402_0 hx402_2; replace hx402_0 := zF gb401 1 (.int .i64 t389) hn402_1 hx402_0; replace hx402_1 := zF gb401 1 (.int .i64 t389) hn402_1 hx402_1; replace hx402_2 := zF gb401 1 (.int .i64 t389) hn402_1 hx402_2; replace hx402_0 := zF gb401 2 (.string t390) hn402_2 hx402_0; replace hx402_1 := zF gb401 2 (.string t390) hn402_2 hx402_1; replace hx402_2 := zF gb401 2 (.string t390) hn402_2 hx402_2; replace hx402_0 := zF gb401 3 (.string t391) hn402_3 hx402_0; replace hx402_1 := zF gb401 3 (.string t391) hn402_3 hx402_1; replace hx402_2 := zF gb401 3 (.string t391) hn402_3 hx402_2; replace hx402_0 := zF gb401 4 (.string t392) hn402_4 hx402_0; replace hx402_1 := zF gb401 4 (.string t392) hn402_4 hx402_1; replace hx402_2 := zF gb401 4 (.string t392) hn402_4 hx402_2; replace hx402_0 := zF gb401 5 (.string t393) hn402_5 hx402_0; replace hx402_1 := zF gb401 5 (.string t393) hn402_5 hx402_1; replace hx402_2 := zF gb401 5 (.string t393) hn402_5 hx402_2; replace hx402_0 := zF gb401 6 (.string t394) hn402_6 hx402_0; replace hx402_1 := zF gb401 6 (.string t394) hn402_6 hx402_1; replace hx402_2 := zF gb401 6 (.string t394) hn402_6 hx402_2; replace hx402_0 := zF gb401 7 (.string t395) hn402_7 hx402_0; replace hx402_1 := zF gb401 7 (.string t395) hn402_7 hx402_1; replace hx402_2 := zF gb401 7 (.string t395) hn402_7 hx402_2; replace hx402_0 := zF gb401 8 (.string t396) hn402_8 hx402_0; replace hx402_1 := zF gb401 8 (.string t396) hn402_8 hx402_1; replace hx402_2 := zF gb401 8 (.string t396) hn402_8 hx402_2; replace hx402_0 := zF gb401 9 (.slice Ao81 t397.length co81) hn402_9 hx402_0; replace hx402_1 := zF gb401 9 (.slice Ao81 t397.length co81) hn402_9 hx402_1; replace hx402_2 := zF gb401 9 (.slice Ao81 t397.length co81) hn402_9 hx402_2; (try have hy402_0 := fun (n_ : Nat) => zDY (w2 := ((((((((((((w79.drewN n_).setCell ⟨gb401, 0, none⟩ (.int .i64 t388)).setCell ⟨gb401, 1, none⟩ (.int .i64 t389)).setCell ⟨gb401, 2, none⟩ (.string t390)).setCell ⟨gb401, 3, none⟩ (.string t391)).setCell ⟨gb401, 4, none⟩ (.string t392)).setCell ⟨gb401, 5, none⟩ (.string t393)).setCell ⟨gb401, 6, none⟩ (.string t394)).setCell ⟨gb401, 7, none⟩ (.string t395)).setCell ⟨gb401, 8, none⟩ (.string t396)).setCell ⟨gb401, 9, none⟩ (.slice Ao81 t397.length co81)))) hx402_0); (try have hy402_1 := fun (n_ : Nat) => zDY (w2 := ((((((((((((w79.drewN n_).setCell ⟨gb401, 0, none⟩ (.int .i64 t388)).setCell ⟨gb401, 1, none⟩ (.int .i64 t389)).setCell ⟨gb401, 2, none⟩ (.string t390)).setCell ⟨gb401, 3, none⟩ (.string t391)).setCell ⟨gb401, 4, none⟩ (.string t392)).setCell ⟨gb401, 5, none⟩ (.string t393)).setCell ⟨gb401, 6, none⟩ (.string t394)).setCell ⟨gb401, 7, none⟩ (.string t395)).setCell ⟨gb401, 8, none⟩ (.string t396)).setCell ⟨gb401, 9, none⟩ (.slice Ao81 t397.length co81)))) hx402_1); (try have hy402_2 := fun (n_ : Nat) => zDY (w2 := ((((((((((((w79.drewN n_).setCell ⟨gb401, 0, none⟩ (.int .i64 t388)).setCell ⟨gb401, 1, none⟩ (.int .i64 t389)).setCell ⟨gb401, 2, none⟩ (.string t390)).setCell ⟨gb401, 3, none⟩ (.string t391)).setCell ⟨gb401, 4, none⟩ (.string t392)).setCell ⟨gb401, 5, none⟩ (.string t393)).setCell ⟨gb401, 6, none⟩ (.string t394)).setCell ⟨gb401, 7, none⟩ (.string t395)).setCell ⟨gb401, 8, none⟩ (.string t396)).setCell ⟨gb401, 9, none⟩ (.slice Ao81 t397.length co81)))) hx402_2); clear hn402_0; clear hn402_1; clear hn402_2; clear hn402_3; clear hn402_4; clear hn402_5; clear hn402_6; clear hn402_7; clear hn402_8; clear hn402_9; replace p402 := eq_true p402; replace q402 := eq_true q402)))
    go_ret3
    exact ⟨_, zE, zNl, zL HB.out⟩
   rw [if_neg c2] at H
   have c2b0 := zdf c2
   clear c2
   by_cases c82 : (x6_1.length : Int) > 0
   ·rw [if_pos c82] at H
    have c82b0 : decide (0 < (x6_1.length : Int)) = true := zdt c82
    have c82b1 : decide (0 < x6_1.length) = true := decide_eq_true (by omega)
    clear c82
    replace H := zs3 H
    obtain ⟨rfl, rfl, rfl⟩ := H
    obtain ⟨Ao83, co83, eo83⟩ := Kd.R_slice HO_6.out
    subst eo83
    go_wp2
    repeat (go_quiet (fail); try go_wp2)
    go_ret3
    exact ⟨_, zE, zNl, zL HB.out⟩
   rw [if_neg c82] at H
   have c82b0 : decide (0 < (x6_1.length : Int)) = false := zdf c82
   have c82b1 : decide (0 < x6_1.length) = false := decide_eq_false (by omega)
   clear c82
   replace H := zs3 H
   obtain ⟨rfl, rfl, rfl⟩ := H
   obtain ⟨Ao84, co84, eo84⟩ := Kd.R_slice HO_6.out
   subst eo84
   go_wp2
   repeat (go_quiet (fail); try go_wp2)
   go_ret3
   exact ⟨_, zE, by (with_reducible repeat (first | apply Kd.S_alloc | apply Kd.S_drewN | apply Kd.S_drew)); exact HO_5.out, zL HB.out⟩

end Go.Proofs.YthnholondnfjoaaDoor.PParse
