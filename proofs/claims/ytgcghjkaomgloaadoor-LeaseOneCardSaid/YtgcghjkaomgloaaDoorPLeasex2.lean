-- Written by a program of this session (wip/tools/ext.py, over the kit's printer); not trusted: Lean checks it.
import Derived.Test.YtgcghjkaomgloaaDoorPLeasex0
import Derived.Test.YtgcghjkaomgloaaDoorPLeasex1
namespace Go.Proofs.YtgcghjkaomgloaaDoor.PLease
open Go.RowKit Go.Proofs.YtgcghjkaomgloaaDoorW.PrintWords Go.Proofs.YtgcghjkaomgloaaDoorW.PrintLast Go.Proofs.YtgcghjkaomgloaaDoorW.PrintMore
attribute [local go_sem] max2_int min2_int max_two min_two max_three min_three max_four min_four   -- for this text's walks alone
set_option linter.unusedVariables false
set_option linter.unusedSimpArgs false

/-! ### strings_Index: function 63 -/
def strings_Index.f (a0 : ByteArray) (a1 : ByteArray) : Option (Int) := (stringslite_Index.f a0 a1).bind fun t173 => (some t173)
set_option maxHeartbeats 8000000 in
set_option maxRecDepth 100000 in
theorem strings_Index.calls (a0 : ByteArray) (a1 : ByteArray) (r : Int) (w : World) (h : strings_Index.f a0 a1 = some r) :
  Calls Tryd.prog 63 #[.string a0, .string a1] w fun e w' => e = .returned (.int .i64 r) ∧ Drawn0 w w' := by
 have H : ((stringslite_Index.f a0 a1).bind fun t173 => (some t173)) = some r := h
 clear h
 replace H := Option.bind_eq_some_iff.mp H
 obtain ⟨t173, A30, H⟩ := H
 replace H : (some t173) = some r := H
 have A3 := Aside0.mk A30
 clear A30
 obtain rfl := Option.some.inj H
 go_enter Tryd.func63, Tryd.ntmps63
 go_wp2_with (first | ((with_reducible refine gate_callee (f := 69) rfl ?_); refine goesL_ (some 7) rfl rfl Tryd.func69 (by kernel_rfl) rfl #[.string a0, .string a1] rfl zA ?_; (with_reducible refine (stringslite_Index.calls a0 a1 t173 _ A3.out).mono ?_); rintro e w' ⟨rfl, ⟨nd, rfl⟩⟩; refine ⟨_, rfl, ?_⟩))
 go_ret
 exact ⟨by first | rfl | (simp; done) | (simp [*]; done), by repeat (first | exact Drawn0.refl _ | apply Drawn0.step)⟩

/-! ### strings_genSplit: function 55 -/
mutual
def strings_genSplit.j0 : Nat → ByteArray → ByteArray → Int → Int → Option (List ByteArray)
 | 0, _, _, _, _ => none
 | k + 1, x0, x1, x2, x3 => if 0 ≤ (mn x3 (wrap64 ((x0.size : Int) + 1))) then (if (mn x3 (wrap64 ((x0.size : Int) + 1)) : Int).toNat ≤ 17592186044416 then (strings_genSplit.l0 k x0 x1 x2 (wrap64 ((mn x3 (wrap64 ((x0.size : Int) + 1))) - 1)) (List.replicate (mn x3 (wrap64 ((x0.size : Int) + 1)) : Int).toNat (⟨#[]⟩ : ByteArray)) 0) else (none)) else (none)
def strings_genSplit.l0 : Nat → ByteArray → ByteArray → Int → Int → List ByteArray → Int → Option (List ByteArray)
 | 0, _, _, _, _, _, _ => none
 | k + 1, x0, x1, x2, x3, x9, x10 => if x10 < x3 then ((strings_Index.f x0 x1).bind fun t181 => (if t181 < 0 then (if 0 ≤ x10 then (if x10 < (x9.length : Int) then (if 0 ≤ (wrap64 (x10 + 1)) then (if (wrap64 (x10 + 1)) ≤ (x9.length : Int) then (some ((x9.set (x10 : Int).toNat x0).take ((wrap64 (x10 + 1)) : Int).toNat)) else (none)) else (none)) else (none)) else (none)) else (if 0 ≤ (wrap64 (t181 + x2)) then (if (wrap64 (t181 + x2)) ≤ (x0.size : Int) then (if 0 ≤ x10 then (if x10 < (x9.length : Int) then (if 0 ≤ (wrap64 (t181 + (x1.size : Int))) then (if (wrap64 (t181 + (x1.size : Int))) ≤ (x0.size : Int) then (strings_genSplit.l0 k (x0.extract ((wrap64 (t181 + (x1.size : Int))) : Int).toNat x0.size) x1 x2 x3 (x9.set (x10 : Int).toNat (x0.extract 0 ((wrap64 (t181 + x2)) : Int).toNat)) (wrap64 (x10 + 1))) else (none)) else (none)) else (none)) else (none)) else (none)) else (none)))) else (if 0 ≤ x10 then (if x10 < (x9.length : Int) then (if 0 ≤ (wrap64 (x10 + 1)) then (if (wrap64 (x10 + 1)) ≤ (x9.length : Int) then (some ((x9.set (x10 : Int).toNat x0).take ((wrap64 (x10 + 1)) : Int).toNat)) else (none)) else (none)) else (none)) else (none))
end
def strings_genSplit.f (k : Nat) (a0 : ByteArray) (a1 : ByteArray) (a2 : Int) (a3 : Int) : Option (List ByteArray) := if a3 = 0 then (some ([] : List ByteArray)) else (if a1.toList = ([] : List UInt8) then ((strings_explode.f a0 a3).bind fun t174 => (some t174)) else (if a3 < 0 then ((strings_Count.f a0 a1).bind fun t177 => (strings_genSplit.j0 k a0 a1 a2 (wrap64 (t177 + 1)))) else (strings_genSplit.j0 k a0 a1 a2 a3)))
theorem strings_genSplit.mono_l : ∀ k, (∀ y0 y1 y2 y3, LeO (strings_genSplit.j0 k y0 y1 y2 y3) (strings_genSplit.j0 (k + 1) y0 y1 y2 y3)) ∧ (∀ y0 y1 y2 y3 y4 y5, LeO (strings_genSplit.l0 k y0 y1 y2 y3 y4 y5) (strings_genSplit.l0 (k + 1) y0 y1 y2 y3 y4 y5))
 | 0 => ⟨fun _ _ _ _ r h => by simp [strings_genSplit.j0] at h, fun _ _ _ _ _ _ r h => by simp [strings_genSplit.l0] at h⟩
 | k + 1 => by
  obtain ⟨ih0, ih1⟩ := strings_genSplit.mono_l k
  refine ⟨?_, ?_⟩
  ·intro y0 y1 y2 y3
   unfold strings_genSplit.j0
   repeat' first
   | (with_reducible exact ih0 _ _ _ _)
   | (with_reducible exact ih1 _ _ _ _ _ _)
   | (with_reducible exact LeO.refl _)
   | (with_reducible exact LeO.none _)
   | (with_reducible refine LeO.ite ?_ ?_)
   | (with_reducible refine LeO.bind ?_ (fun _ => ?_))
   | exact ih0 _ _ _ _
   | exact ih1 _ _ _ _ _ _
   | exact LeO.none _
   | refine LeO.ite ?_ ?_
   | refine LeO.bind ?_ (fun _ => ?_)
  ·intro y0 y1 y2 y3 y4 y5
   unfold strings_genSplit.l0
   repeat' first
   | (with_reducible exact ih0 _ _ _ _)
   | (with_reducible exact ih1 _ _ _ _ _ _)
   | (with_reducible exact LeO.refl _)
   | (with_reducible exact LeO.none _)
   | (with_reducible refine LeO.ite ?_ ?_)
   | (with_reducible refine LeO.bind ?_ (fun _ => ?_))
   | exact ih0 _ _ _ _
   | exact ih1 _ _ _ _ _ _
   | exact LeO.none _
   | refine LeO.ite ?_ ?_
   | refine LeO.bind ?_ (fun _ => ?_)
theorem strings_genSplit.mono : ∀ a0 a1 a2 a3 k, LeO (strings_genSplit.f k a0 a1 a2 a3) (strings_genSplit.f (k + 1) a0 a1 a2 a3) := by
 intro a0 a1 a2 a3 k
 obtain ⟨ih0, ih1⟩ := strings_genSplit.mono_l k
 unfold strings_genSplit.f
 repeat' first
   | (with_reducible exact ih0 _ _ _ _)
   | (with_reducible exact ih1 _ _ _ _ _ _)
   | (with_reducible exact LeO.refl _)
   | (with_reducible exact LeO.none _)
   | (with_reducible refine LeO.ite ?_ ?_)
   | (with_reducible refine LeO.bind ?_ (fun _ => ?_))
   | exact ih0 _ _ _ _
   | exact ih1 _ _ _ _ _ _
   | exact LeO.none _
   | refine LeO.ite ?_ ?_
   | refine LeO.bind ?_ (fun _ => ?_)
set_option maxHeartbeats 8000000 in
set_option maxRecDepth 100000 in
theorem strings_genSplit.calls (k : Nat) (a0 : ByteArray) (a1 : ByteArray) (a2 : Int) (a3 : Int) (r : List ByteArray) (w : World) (h : strings_genSplit.f k a0 a1 a2 a3 = some r) :
  Calls Tryd.prog 55 #[.string a0, .string a1, .int .i64 a2, .int .i64 a3] w fun e w' => ∃ v0_ : Value, e = .returned (v0_) ∧ Kd.R Kd.string 9 w' w.heap.size (fun _ => True) v0_ r ∧ Below w.heap.size w w' := by
 have HB := Aside0.mk (Below.refl w.heap.size w)
 have H : (if a3 = 0 then (some ([] : List ByteArray)) else (if a1.toList = ([] : List UInt8) then ((strings_explode.f a0 a3).bind fun t174 => (some t174)) else (if a3 < 0 then ((strings_Count.f a0 a1).bind fun t177 => (strings_genSplit.j0 k a0 a1 a2 (wrap64 (t177 + 1)))) else (strings_genSplit.j0 k a0 a1 a2 a3)))) = some r := h
 clear h
 by_cases c5 : a3 = 0
 ·rw [if_pos c5] at H
  have c5b0 : (a3 == 0) = true := beq_iff_eq.mpr c5
  have c5b1 : (a3 != 0) = false := bne_eq_false_iff_eq.mpr c5
  clear c5
  obtain rfl := Option.some.inj H
  go_enter Tryd.func55, Tryd.ntmps55
  go_wp2
  go_ret
  exact ⟨_, zE, by first | exact Kd.R_nil _ _ _ _ _ | exact Kd.N_nil _ _ _ _ _ | exact Kd.V_nil _ _ _ _ _ | exact Kd.Q_nil _ _ _ _ _ | exact Kd.S_nil _ _ _ _ _, zL HB.out⟩
 ·rw [if_neg c5] at H
  have c5b0 : (a3 == 0) = false := beq_eq_false_iff_ne.mpr c5
  have c5b1 : (a3 != 0) = true := bne_iff_ne.mpr c5
  by_cases c6 : a1.toList = ([] : List UInt8)
  ·rw [if_pos c6] at H
   have c6b0 : (a1.toList == ([] : List UInt8)) = true := beq_iff_eq.mpr c6
   have c6b1 : (a1.toList != ([] : List UInt8)) = false := bne_eq_false_iff_eq.mpr c6
   clear c6
   replace H := Option.bind_eq_some_iff.mp H
   obtain ⟨t174, A70, H⟩ := H
   replace H : (some t174) = some r := H
   have A7 := Aside0.mk A70
   clear A70
   obtain rfl := Option.some.inj H
   go_enter Tryd.func55, Tryd.ntmps55
   go_wp2_with (first | ((with_reducible refine gate_callee (f := 61) rfl ?_); refine goesL_ (some 18) rfl rfl Tryd.func61 (by kernel_rfl) rfl #[.string a0, .int .i64 a3] rfl zA ?_; (with_reducible refine (strings_explode.calls a0 a3 t174 _ A7.out).mono ?_); rintro e w8 ⟨v175, rfl, ho0, hb⟩; refine ⟨_, rfl, ?_⟩; have n0_ := Aside0.mk (Kd.R_lower ho0 (below_size (zL HB.out))); have n1_ := Aside0.mk (below_step (zL HB.out) hb); revert n0_ n1_; clear HB; intro HO176 HB; (try clear hb); (try clear hb2); (try clear hk); (try clear hi); (try clear ho0)))
   go_ret
   exact ⟨_, zE, by (with_reducible repeat (first | apply Kd.R_alloc | apply Kd.R_drewN | apply Kd.R_drew)); exact HO176.out, zL HB.out⟩
  ·rw [if_neg c6] at H
   have c6b0 : (a1.toList == ([] : List UInt8)) = false := beq_eq_false_iff_ne.mpr c6
   have c6b1 : (a1.toList != ([] : List UInt8)) = true := bne_iff_ne.mpr c6
   have HC9 := Aside0.mk H
   clear H
   go_enter Tryd.func55, Tryd.ntmps55
   go_upto_if 20 with (fail)
   go_cut [3] (fun v3 wc => ∃ (kq : Nat) (x3_8 : Int), v3 = .int .i64 x3_8 ∧ Aside0 (strings_genSplit.j0 kq a0 a1 a2 x3_8 = some r) ∧ Aside0 (kq ≤ k) ∧ Aside0 (Below w.heap.size w wc))
   case first =>
    have H := HC9.out
    clear HC9
    by_cases c10 : a3 < 0
    ·rw [if_pos c10] at H
     have c10b0 : decide (a3 < 0) = true := decide_eq_true c10
     clear c10
     (first | rw [c10b0] | (simp only [i64_w, i32_w]; rw [c10b0]) | skip)
     replace H := Option.bind_eq_some_iff.mp H
     obtain ⟨t177, A110, H⟩ := H
     replace H : (strings_genSplit.j0 k a0 a1 a2 (wrap64 (t177 + 1))) = some r := H
     have A11 := Aside0.mk A110
     clear A110
     have H' := Aside0.mk H
     clear H
     go_wp2_with (first | ((with_reducible refine gate_callee (f := 62) rfl ?_); refine goesL_ (some 23) rfl rfl Tryd.func62 (by kernel_rfl) rfl #[.string a0, .string a1] rfl zA ?_; (with_reducible refine (strings_Count.calls a0 a1 t177 _ A11.out).mono ?_); rintro e w' ⟨rfl, ⟨nd, rfl⟩⟩; refine ⟨_, rfl, ?_⟩))
     go_meet
     case rel => exact ⟨_, (wrap64 (t177 + 1)), zS, H', ⟨by first | omega | exact Nat.le_refl _⟩, ⟨zL HB.out⟩⟩
    ·rw [if_neg c10] at H
     have c10b0 : decide (a3 < 0) = false := decide_eq_false c10
     clear c10
     (first | rw [c10b0] | (simp only [i64_w, i32_w]; rw [c10b0]) | skip)
     have H' := Aside0.mk H
     clear H
     go_wp2
     go_meet
     case rel => exact ⟨_, (a3), zS, H', ⟨by first | omega | exact Nat.le_refl _⟩, ⟨zL HB.out⟩⟩
   case rest =>
    clear HC9
    try clear c1
    try clear p2
    try clear c5
    try clear c5b0
    try clear c5b1
    try clear c6
    try clear c6b0
    try clear c6b1
    try clear p6
    try clear c10
    try clear c10b0
    obtain ⟨kq, x3_8, rfl, HA, HJ8, HB⟩ := hcut
    cases kq with
    | zero => exact absurd HA.out (by simp [strings_genSplit.j0])
    | succ kj8 =>
     have H := HA.out
     clear HA
     simp only [strings_genSplit.j0] at H
     obtain ⟨ji12, hji12⟩ : ∃ j_ : Int, (mn x3_8 (wrap64 ((a0.size : Int) + 1))) = j_ := ⟨_, rfl⟩
     replace H : (if 0 ≤ (ji12) then (if (ji12 : Int).toNat ≤ 17592186044416 then (strings_genSplit.l0 kj8 a0 a1 a2 (wrap64 ((ji12) - 1)) (List.replicate (ji12 : Int).toNat (⟨#[]⟩ : ByteArray)) 0) else (none)) else (none)) = some r := by first | (rw [hji12] at H; exact H) | (simp only [hji12] at H ⊢; exact H)
     have hji12_ : (if (wrap64 ((a0.size : Int) + 1)) < x3_8 then (wrap64 ((a0.size : Int) + 1)) else x3_8) = ji12 := hji12
     by_cases c13 : 0 ≤ (ji12)
     ·rw [if_pos c13] at H
      have c13b0 := eq_true c13
      have c13b1 : decide (0 ≤ (ji12)) = true := decide_eq_true c13
      clear c13
      by_cases c14 : (ji12 : Int).toNat ≤ 17592186044416
      ·rw [if_pos c14] at H
       have c14b0 := eq_true c14
       have c14b1 : decide ((ji12 : Int).toNat ≤ 17592186044416) = true := decide_eq_true c14
       clear c14
       obtain ⟨y178, hy178⟩ : ∃ y_ : List ByteArray, y_ = (List.replicate (ji12 : Int).toNat (⟨#[]⟩ : ByteArray)) := ⟨_, rfl⟩
       replace H : (strings_genSplit.l0 kj8 a0 a1 a2 (wrap64 ((ji12) - 1)) y178 0) = some r := zH hy178 H
       have Ny178 := Aside0.mk hy178
       clear hy178
       have H' := Aside0.mk H
       clear H
       go_wp2_with (first | ((with_reducible refine gate_dst (N := 31) rfl ?_); refine Kd.R_make Kd.string _ 9 rfl (N := 31) rfl 89 _ _ rfl ji12 rfl rfl Tryd.underlying89 (.string ⟨#[]⟩) 16 info9 rfl (by decide) (by omega) (⟨#[]⟩ : ByteArray) (ok := fun _ => True) (okp := fun _ => True) rfl (fun _ hk => hk) trivial zD (Nat.le_trans (Nat.mul_le_mul_right _ (zD : ji12.toNat ≤ 17592186044416)) (by omega)) (Below.refl _ _) (Nat.le_refl _) ?_; intro v179 w15 ho16 hb hg_ hnew_; clear hg_ hnew_; (first | rw [← Ny178.out] at ho16 | (simp only [Int.reduceToNat] at ho16; rw [← Ny178.out] at ho16)); have n0_ := Aside0.mk (Kd.R_lower ho16 (below_size (zL HB.out))); have n1_ := Aside0.mk (below_step (zL HB.out) hb); revert n0_ n1_; clear HB; intro HO180 HB; clear hb ho16))
       go_loopg [0, 10] kj8 (fun kq v0 v10 w' => ∃ (x0_2 : ByteArray) (x9_2 : List ByteArray) (x10_2 : Int), v0 = .string x0_2 ∧ v10 = .int .i64 x10_2 ∧ Aside0 (strings_genSplit.l0 kq x0_2 a1 a2 (wrap64 ((ji12) - 1)) x9_2 x10_2 = some r) ∧ Aside0 (kq ≤ kj8) ∧ Aside0 (Kd.R Kd.string 9 w' w.heap.size (fun _ => True) v179 x9_2) ∧ Aside0 (Below w.heap.size w w'))
       case atStart => exact ⟨(a0), (y178), (0), zS, zS, H', ⟨Nat.le_refl _⟩, ⟨by (with_reducible repeat (first | apply Kd.R_alloc | apply Kd.R_drewN | apply Kd.R_drew)); exact HO180.out⟩, ⟨zL HB.out⟩⟩
       case round =>
        clear H'
        try clear c1
        try clear p2
        try clear c5
        try clear c5b0
        try clear c5b1
        try clear c6
        try clear c6b0
        try clear c6b1
        try clear p6
        try clear c10
        try clear c10b0
        try clear c13
        try clear c13b0
        try clear c13b1
        try clear c14
        try clear c14b0
        try clear c14b1
        try clear p2
        try clear p6
        obtain ⟨x0_2, x9_2, x10_2, rfl, rfl, HA, HK2, HO_9, HB⟩ := hrel
        cases gk with
        | zero => exact absurd HA.out (by simp [strings_genSplit.l0])
        | succ k2 =>
         have H := HA.out
         clear HA
         simp only [strings_genSplit.l0] at H
         by_cases c17 : x10_2 < (wrap64 ((ji12) - 1))
         ·rw [if_pos c17] at H
          have c17b0 : decide (x10_2 < (wrap64 ((ji12) - 1))) = true := decide_eq_true c17
          clear c17
          replace H := Option.bind_eq_some_iff.mp H
          obtain ⟨t181, A180, H⟩ := H
          replace H : (if t181 < 0 then (if 0 ≤ x10_2 then (if x10_2 < (x9_2.length : Int) then (if 0 ≤ (wrap64 (x10_2 + 1)) then (if (wrap64 (x10_2 + 1)) ≤ (x9_2.length : Int) then (some ((x9_2.set (x10_2 : Int).toNat x0_2).take ((wrap64 (x10_2 + 1)) : Int).toNat)) else (none)) else (none)) else (none)) else (none)) else (if 0 ≤ (wrap64 (t181 + a2)) then (if (wrap64 (t181 + a2)) ≤ (x0_2.size : Int) then (if 0 ≤ x10_2 then (if x10_2 < (x9_2.length : Int) then (if 0 ≤ (wrap64 (t181 + (a1.size : Int))) then (if (wrap64 (t181 + (a1.size : Int))) ≤ (x0_2.size : Int) then (strings_genSplit.l0 k2 (x0_2.extract ((wrap64 (t181 + (a1.size : Int))) : Int).toNat x0_2.size) a1 a2 (wrap64 ((ji12) - 1)) (x9_2.set (x10_2 : Int).toNat (x0_2.extract 0 ((wrap64 (t181 + a2)) : Int).toNat)) (wrap64 (x10_2 + 1))) else (none)) else (none)) else (none)) else (none)) else (none)) else (none))) = some r := H
          have A18 := Aside0.mk A180
          clear A180
          by_cases c19 : t181 < 0
          ·rw [if_pos c19] at H
           have c19b0 : decide (t181 < 0) = true := decide_eq_true c19
           clear c19
           by_cases c20 : 0 ≤ x10_2
           ·rw [if_pos c20] at H
            have c20b0 : decide (0 ≤ x10_2) = true := decide_eq_true c20
            clear c20
            by_cases c21 : x10_2 < (x9_2.length : Int)
            ·rw [if_pos c21] at H
             have c21b0 : decide (x10_2 < (x9_2.length : Int)) = true := decide_eq_true c21
             clear c21
             obtain ⟨y182, hy182⟩ : ∃ y_ : List ByteArray, y_ = (x9_2.set (x10_2 : Int).toNat x0_2) := ⟨_, rfl⟩
             replace H : (if 0 ≤ (wrap64 (x10_2 + 1)) then (if (wrap64 (x10_2 + 1)) ≤ (x9_2.length : Int) then (some (y182.take ((wrap64 (x10_2 + 1)) : Int).toNat)) else (none)) else (none)) = some r := zH hy182 H
             have Ny182 := Aside0.mk hy182
             clear hy182
             obtain ⟨ji23, hji23⟩ : ∃ j_ : Int, (wrap64 (x10_2 + 1)) = j_ := ⟨_, rfl⟩
             replace H : (if 0 ≤ (ji23) then (if (ji23) ≤ (x9_2.length : Int) then (some (y182.take ((ji23) : Int).toNat)) else (none)) else (none)) = some r := by first | (rw [hji23] at H; exact H) | (simp only [hji23] at H ⊢; exact H)
             (try rw [hji23] at A18)
             have hji23w : (IntKind.i64.wrap (x10_2 + 1)) = ji23 := (i64_w _).trans hji23
             by_cases c24 : 0 ≤ (ji23)
             ·rw [if_pos c24] at H
              have c24b0 := eq_true c24
              have c24b1 : decide (0 ≤ (ji23)) = true := decide_eq_true c24
              clear c24
              by_cases c25 : (ji23) ≤ (x9_2.length : Int)
              ·rw [if_pos c25] at H
               have c25b0 := eq_true c25
               have c25b1 : decide ((ji23) ≤ (x9_2.length : Int)) = true := decide_eq_true c25
               clear c25
               obtain ⟨y183, hy183⟩ : ∃ y_ : List ByteArray, y_ = (y182.take ((ji23) : Int).toNat) := ⟨_, rfl⟩
               replace H : (some y183) = some r := zH hy183 H
               have Ny183 := Aside0.mk hy183
               clear hy183
               obtain rfl := Option.some.inj H
               go_wp2_with (first | ((with_reducible refine gate_callee (f := 63) rfl ?_); refine goesL_ (some 39) rfl rfl Tryd.func63 (by kernel_rfl) rfl #[.string x0_2, .string a1] rfl zA ?_; (with_reducible refine (strings_Index.calls x0_2 a1 t181 _ A18.out).mono ?_); rintro e w' ⟨rfl, ⟨nd, rfl⟩⟩; refine ⟨_, rfl, ?_⟩; (try (rw [drewN_self wr]; generalize hq_ : World.drewN wr _ = wr; have n0_ : Aside0 (Kd.R Kd.string 9 wr w.heap.size (fun _ => True) v179 x9_2) := ⟨by rw [← hq_]; exact (zR HO_9.out)⟩; have n1_ : Aside0 (Below w.heap.size w wr) := ⟨by rw [← hq_]; exact (zL HB.out)⟩; clear HO_9 HB hq_; have HO_9 := n0_; have HB := n1_; clear n0_ n1_)); have p22 : 0 ≤ (x10_2 : Int) := zD; have q22 : (x10_2 : Int) < ((x9_2.length : Int) : Int) := zD; obtain ⟨go22, co22, eo22, gb22, gl22, cl22, HG22⟩ := Kd.R_form HO_9.out (by omega); (first | cases eo22 | (injection eo22 with ea_ en_ ec_; (first | subst ea_ | (injection ea_ with ea_; subst ea_)); subst ec_; clear en_)); have GB22 := Aside0.mk gb22; have GG22 := Aside0.mk HG22; clear gb22 gl22 HG22; obtain ⟨hx22_0, hf22_0⟩ := Kd.R_celln (⟨#[]⟩ : ByteArray) HO_9.out (x10_2 : Int) p22 q22; replace p22 := eq_true p22; replace q22 := eq_true q22; obtain ⟨hy26_, hz26_⟩ := Kd.R_celln (⟨#[]⟩ : ByteArray) HO_9.out (x10_2 : Int) zD zD; have HP26 := Kd.R_putg HO_9.out (x10_2 : Int) x0_2) | ((with_reducible refine gate_store (t := 9) (p := 61) rfl ?_); refine store_event (t := 9) (p := 61) (v := ?vo_w27) (w1 := (wr.setCell ⟨go22, (x10_2 : Int).toNat, none⟩ (.string x0_2))) ?hg ?ho ?hn ?hr ?_; (case ho => rfl); (case hg => rfl); (case hn => rfl); (case hr => first | (go_simp; done) | (go_simp; rfl)); intro w27 hw; have hg : wr.grownBy w27 (some go22) := (by rw [hw]; exact HP26.2); have hp_ : Kd.R Kd.string 9 w27 w.heap.size (fun _ => True) (.slice (some ⟨go22, 0, none⟩) x9_2.length co22) y182 := (by rw [hw, Ny182.out]; exact HP26.1); clear HP26; have n0_ := Aside0.mk (hp_); have n1_ := Aside0.mk ((by rw [hw]; exact below_set (HB.out) GB22.out : Below w.heap.size w w27)); revert n0_ n1_; clear HO_9 HB; intro HO_9 HB; clear hg hw hp_; have hlx28 := Aside0.mk (Kd.R_reads' HO_9.out).1; have hlx_ := hlx28.out; have q28 : ((ji23) : Int) ≤ ((x9_2.length : Int) : Int) := zD; obtain ⟨i028, hi028, _, hsz28, _⟩ := info_parts info9; have hcut28 := cut_to (P := Tryd.prog) 89 9 .i64 Tryd.underlying89 hi028 (some ⟨go22, 0, none⟩) x9_2.length co22 (ji23) zD q28 (Kd.R_reads' HO_9.out).2.1; have hr28 := Kd.R_take (m := ((ji23) : Int).toNat) HO_9.out (by omega); have hy28 : y183.length = ((ji23) : Int).toNat := (by rw [Ny183.out, List.length_take]; omega); rw [← Ny183.out] at hr28; rw [← hy28] at hr28 hcut28; clear hy28 hi028 hsz28 HO_9; have HO185 := Aside0.mk hr28; clear hr28; replace q28 := eq_true q28; clear hlx_))
               go_ret
               exact ⟨_, by first | rfl | (simp [errW_none, errW_some] <;> rfl) | (simp only [← hji12, ← hji23]; first | rfl | (simp [errW_none, errW_some] <;> rfl)) | (simp [*, errW_none, errW_some] <;> rfl), by (with_reducible repeat (first | apply Kd.R_alloc | apply Kd.R_drewN | apply Kd.R_drew)); exact HO185.out, zL HB.out⟩
              ·rw [if_neg c25] at H
               exact absurd H (by simp)
             ·rw [if_neg c24] at H
              exact absurd H (by simp)
            ·rw [if_neg c21] at H
             exact absurd H (by simp)
           ·rw [if_neg c20] at H
            exact absurd H (by simp)
          ·rw [if_neg c19] at H
           have c19b0 : decide (t181 < 0) = false := decide_eq_false c19
           clear c19
           obtain ⟨ji29, hji29⟩ : ∃ j_ : Int, (wrap64 (t181 + a2)) = j_ := ⟨_, rfl⟩
           replace H : (if 0 ≤ (ji29) then (if (ji29) ≤ (x0_2.size : Int) then (if 0 ≤ x10_2 then (if x10_2 < (x9_2.length : Int) then (if 0 ≤ (wrap64 (t181 + (a1.size : Int))) then (if (wrap64 (t181 + (a1.size : Int))) ≤ (x0_2.size : Int) then (strings_genSplit.l0 k2 (x0_2.extract ((wrap64 (t181 + (a1.size : Int))) : Int).toNat x0_2.size) a1 a2 (wrap64 ((ji12) - 1)) (x9_2.set (x10_2 : Int).toNat (x0_2.extract 0 ((ji29) : Int).toNat)) (wrap64 (x10_2 + 1))) else (none)) else (none)) else (none)) else (none)) else (none)) else (none)) = some r := by first | (rw [hji29] at H; exact H) | (simp only [hji29] at H ⊢; exact H)
           (try rw [hji29] at A18)
           have hji29w : (IntKind.i64.wrap (t181 + a2)) = ji29 := (i64_w _).trans hji29
           by_cases c30 : 0 ≤ (ji29)
           ·rw [if_pos c30] at H
            have c30b0 := eq_true c30
            have c30b1 : decide (0 ≤ (ji29)) = true := decide_eq_true c30
            clear c30
            by_cases c31 : (ji29) ≤ (x0_2.size : Int)
            ·rw [if_pos c31] at H
             have c31b0 := eq_true c31
             have c31b1 : decide ((ji29) ≤ (x0_2.size : Int)) = true := decide_eq_true c31
             clear c31
             by_cases c32 : 0 ≤ x10_2
             ·rw [if_pos c32] at H
              have c32b0 : decide (0 ≤ x10_2) = true := decide_eq_true c32
              clear c32
              by_cases c33 : x10_2 < (x9_2.length : Int)
              ·rw [if_pos c33] at H
               have c33b0 : decide (x10_2 < (x9_2.length : Int)) = true := decide_eq_true c33
               clear c33
               obtain ⟨y186, hy186⟩ : ∃ y_ : List ByteArray, y_ = (x9_2.set (x10_2 : Int).toNat (x0_2.extract 0 ((ji29) : Int).toNat)) := ⟨_, rfl⟩
               replace H : (if 0 ≤ (wrap64 (t181 + (a1.size : Int))) then (if (wrap64 (t181 + (a1.size : Int))) ≤ (x0_2.size : Int) then (strings_genSplit.l0 k2 (x0_2.extract ((wrap64 (t181 + (a1.size : Int))) : Int).toNat x0_2.size) a1 a2 (wrap64 ((ji12) - 1)) y186 (wrap64 (x10_2 + 1))) else (none)) else (none)) = some r := zH hy186 H
               have Ny186 := Aside0.mk hy186
               clear hy186
               obtain ⟨ji35, hji35⟩ : ∃ j_ : Int, (wrap64 (t181 + (a1.size : Int))) = j_ := ⟨_, rfl⟩
               replace H : (if 0 ≤ (ji35) then (if (ji35) ≤ (x0_2.size : Int) then (strings_genSplit.l0 k2 (x0_2.extract ((ji35) : Int).toNat x0_2.size) a1 a2 (wrap64 ((ji12) - 1)) y186 (wrap64 (x10_2 + 1))) else (none)) else (none)) = some r := by first | (rw [hji35] at H; exact H) | (simp only [hji35] at H ⊢; exact H)
               (try rw [hji35] at A18)
               have hji35w : (IntKind.i64.wrap (t181 + (a1.size : Int))) = ji35 := (i64_w _).trans hji35
               by_cases c36 : 0 ≤ (ji35)
               ·rw [if_pos c36] at H
                have c36b0 := eq_true c36
                have c36b1 : decide (0 ≤ (ji35)) = true := decide_eq_true c36
                clear c36
                by_cases c37 : (ji35) ≤ (x0_2.size : Int)
                ·rw [if_pos c37] at H
                 have c37b0 := eq_true c37
                 have c37b1 : decide ((ji35) ≤ (x0_2.size : Int)) = true := decide_eq_true c37
                 clear c37
                 have H' := Aside0.mk H
                 clear H
                 go_wp2_with (first | ((with_reducible refine gate_callee (f := 63) rfl ?_); refine goesL_ (some 39) rfl rfl Tryd.func63 (by kernel_rfl) rfl #[.string x0_2, .string a1] rfl zA ?_; (with_reducible refine (strings_Index.calls x0_2 a1 t181 _ A18.out).mono ?_); rintro e w' ⟨rfl, ⟨nd, rfl⟩⟩; refine ⟨_, rfl, ?_⟩; (try (rw [drewN_self wr]; generalize hq_ : World.drewN wr _ = wr; have n0_ : Aside0 (Kd.R Kd.string 9 wr w.heap.size (fun _ => True) v179 x9_2) := ⟨by rw [← hq_]; exact (zR HO_9.out)⟩; have n1_ : Aside0 (Below w.heap.size w wr) := ⟨by rw [← hq_]; exact (zL HB.out)⟩; clear HO_9 HB hq_; have HO_9 := n0_; have HB := n1_; clear n0_ n1_)); have p34 : 0 ≤ (x10_2 : Int) := zD; have q34 : (x10_2 : Int) < ((x9_2.length : Int) : Int) := zD; obtain ⟨go34, co34, eo34, gb34, gl34, cl34, HG34⟩ := Kd.R_form HO_9.out (by omega); (first | cases eo34 | (injection eo34 with ea_ en_ ec_; (first | subst ea_ | (injection ea_ with ea_; subst ea_)); subst ec_; clear en_)); have GB34 := Aside0.mk gb34; have GG34 := Aside0.mk HG34; clear gb34 gl34 HG34; obtain ⟨hx34_0, hf34_0⟩ := Kd.R_celln (⟨#[]⟩ : ByteArray) HO_9.out (x10_2 : Int) p34 q34; replace p34 := eq_true p34; replace q34 := eq_true q34; obtain ⟨hy38_, hz38_⟩ := Kd.R_celln (⟨#[]⟩ : ByteArray) HO_9.out (x10_2 : Int) zD zD; have HP38 := Kd.R_putg HO_9.out (x10_2 : Int) (x0_2.extract 0 ((ji29) : Int).toNat)) | ((with_reducible refine gate_store (t := 9) (p := 49) rfl ?_); refine store_event (t := 9) (p := 49) (v := ?vo_w39) (w1 := (wr.setCell ⟨go34, (x10_2 : Int).toNat, none⟩ (.string (x0_2.extract 0 ((ji29) : Int).toNat)))) ?hg ?ho ?hn ?hr ?_; (case ho => rfl); (case hg => rfl); (case hn => rfl); (case hr => first | (go_simp; done) | (go_simp; rfl)); intro w39 hw; have hg : wr.grownBy w39 (some go34) := (by rw [hw]; exact HP38.2); have hp_ : Kd.R Kd.string 9 w39 w.heap.size (fun _ => True) (.slice (some ⟨go34, 0, none⟩) x9_2.length co34) y186 := (by rw [hw, Ny186.out]; exact HP38.1); clear HP38; have n0_ := Aside0.mk (hp_); have n1_ := Aside0.mk ((by rw [hw]; exact below_set (HB.out) GB34.out : Below w.heap.size w w39)); revert n0_ n1_; clear HO_9 HB; intro HO_9 HB; clear hg hw hp_))
                 go_roundg k2
                 case measure => have := HJ8.out; have := HK2.out; omega
                 case rel => exact ⟨(x0_2.extract ((ji35) : Int).toNat x0_2.size), (y186), (wrap64 (x10_2 + 1)), (by first | rfl | (simp; done) | (simp only [← hji35] <;> (first | rfl | simp)) | (simp [*]; done)), zS, H', ⟨by have := HJ8.out; have := HK2.out; omega⟩, ⟨by (with_reducible repeat (first | apply Kd.R_alloc | apply Kd.R_drewN | apply Kd.R_drew)); exact HO_9.out⟩, ⟨zL HB.out⟩⟩
                ·rw [if_neg c37] at H
                 exact absurd H (by simp)
               ·rw [if_neg c36] at H
                exact absurd H (by simp)
              ·rw [if_neg c33] at H
               exact absurd H (by simp)
             ·rw [if_neg c32] at H
              exact absurd H (by simp)
            ·rw [if_neg c31] at H
             exact absurd H (by simp)
           ·rw [if_neg c30] at H
            exact absurd H (by simp)
         ·rw [if_neg c17] at H
          have c17b0 : decide (x10_2 < (wrap64 ((ji12) - 1))) = false := decide_eq_false c17
          clear c17
          by_cases c40 : 0 ≤ x10_2
          ·rw [if_pos c40] at H
           have c40b0 : decide (0 ≤ x10_2) = true := decide_eq_true c40
           clear c40
           by_cases c41 : x10_2 < (x9_2.length : Int)
           ·rw [if_pos c41] at H
            have c41b0 : decide (x10_2 < (x9_2.length : Int)) = true := decide_eq_true c41
            clear c41
            obtain ⟨y187, hy187⟩ : ∃ y_ : List ByteArray, y_ = (x9_2.set (x10_2 : Int).toNat x0_2) := ⟨_, rfl⟩
            replace H : (if 0 ≤ (wrap64 (x10_2 + 1)) then (if (wrap64 (x10_2 + 1)) ≤ (x9_2.length : Int) then (some (y187.take ((wrap64 (x10_2 + 1)) : Int).toNat)) else (none)) else (none)) = some r := zH hy187 H
            have Ny187 := Aside0.mk hy187
            clear hy187
            obtain ⟨ji43, hji43⟩ : ∃ j_ : Int, (wrap64 (x10_2 + 1)) = j_ := ⟨_, rfl⟩
            replace H : (if 0 ≤ (ji43) then (if (ji43) ≤ (x9_2.length : Int) then (some (y187.take ((ji43) : Int).toNat)) else (none)) else (none)) = some r := by first | (rw [hji43] at H; exact H) | (simp only [hji43] at H ⊢; exact H)
            have hji43w : (IntKind.i64.wrap (x10_2 + 1)) = ji43 := (i64_w _).trans hji43
            by_cases c44 : 0 ≤ (ji43)
            ·rw [if_pos c44] at H
             have c44b0 := eq_true c44
             have c44b1 : decide (0 ≤ (ji43)) = true := decide_eq_true c44
             clear c44
             by_cases c45 : (ji43) ≤ (x9_2.length : Int)
             ·rw [if_pos c45] at H
              have c45b0 := eq_true c45
              have c45b1 : decide ((ji43) ≤ (x9_2.length : Int)) = true := decide_eq_true c45
              clear c45
              obtain ⟨y188, hy188⟩ : ∃ y_ : List ByteArray, y_ = (y187.take ((ji43) : Int).toNat) := ⟨_, rfl⟩
              replace H : (some y188) = some r := zH hy188 H
              have Ny188 := Aside0.mk hy188
              clear hy188
              obtain rfl := Option.some.inj H
              have p42 : 0 ≤ (x10_2 : Int) := zD
              have q42 : (x10_2 : Int) < ((x9_2.length : Int) : Int) := zD
              obtain ⟨go42, co42, eo42, gb42, gl42, cl42, HG42⟩ := Kd.R_form HO_9.out (by omega)
              (first | cases eo42 | (injection eo42 with ea_ en_ ec_; (first | subst ea_ | (injection ea_ with ea_; subst ea_)); subst ec_; clear en_))
              have GB42 := Aside0.mk gb42
              have GG42 := Aside0.mk HG42
              clear gb42 gl42 HG42
              obtain ⟨hx42_0, hf42_0⟩ := Kd.R_celln (⟨#[]⟩ : ByteArray) HO_9.out (x10_2 : Int) p42 q42
              replace p42 := eq_true p42
              replace q42 := eq_true q42
              have HP46 := Kd.R_putg HO_9.out (x10_2 : Int) x0_2
              go_wp2_with (first | ((with_reducible refine gate_store (t := 9) (p := 61) rfl ?_); refine store_event (t := 9) (p := 61) (v := ?vo_w47) (w1 := (wr.setCell ⟨go42, (x10_2 : Int).toNat, none⟩ (.string x0_2))) ?hg ?ho ?hn ?hr ?_; (case ho => rfl); (case hg => rfl); (case hn => rfl); (case hr => first | (go_simp; done) | (go_simp; rfl)); intro w47 hw; have hg : wr.grownBy w47 (some go42) := (by rw [hw]; exact HP46.2); have hp_ : Kd.R Kd.string 9 w47 w.heap.size (fun _ => True) (.slice (some ⟨go42, 0, none⟩) x9_2.length co42) y187 := (by rw [hw, Ny187.out]; exact HP46.1); clear HP46; have n0_ := Aside0.mk (hp_); have n1_ := Aside0.mk ((by rw [hw]; exact below_set (HB.out) GB42.out : Below w.heap.size w w47)); revert n0_ n1_; clear HO_9 HB; intro HO_9 HB; clear hg hw hp_; have hlx48 := Aside0.mk (Kd.R_reads' HO_9.out).1; have hlx_ := hlx48.out; have q48 : ((ji43) : Int) ≤ ((x9_2.length : Int) : Int) := zD; obtain ⟨i048, hi048, _, hsz48, _⟩ := info_parts info9; have hcut48 := cut_to (P := Tryd.prog) 89 9 .i64 Tryd.underlying89 hi048 (some ⟨go42, 0, none⟩) x9_2.length co42 (ji43) zD q48 (Kd.R_reads' HO_9.out).2.1; have hr48 := Kd.R_take (m := ((ji43) : Int).toNat) HO_9.out (by omega); have hy48 : y188.length = ((ji43) : Int).toNat := (by rw [Ny188.out, List.length_take]; omega); rw [← Ny188.out] at hr48; rw [← hy48] at hr48 hcut48; clear hy48 hi048 hsz48 HO_9; have HO190 := Aside0.mk hr48; clear hr48; replace q48 := eq_true q48; clear hlx_))
              go_ret
              exact ⟨_, by first | rfl | (simp [errW_none, errW_some] <;> rfl) | (simp only [← hji12, ← hji43]; first | rfl | (simp [errW_none, errW_some] <;> rfl)) | (simp [*, errW_none, errW_some] <;> rfl), by (with_reducible repeat (first | apply Kd.R_alloc | apply Kd.R_drewN | apply Kd.R_drew)); exact HO190.out, zL HB.out⟩
             ·rw [if_neg c45] at H
              exact absurd H (by simp)
            ·rw [if_neg c44] at H
             exact absurd H (by simp)
           ·rw [if_neg c41] at H
            exact absurd H (by simp)
          ·rw [if_neg c40] at H
           exact absurd H (by simp)
      ·rw [if_neg c14] at H
       exact absurd H (by simp)
     ·rw [if_neg c13] at H
      exact absurd H (by simp)

/-! ### strings_Split: function 48 -/
def strings_Split.f (k : Nat) (a0 : ByteArray) (a1 : ByteArray) : Option (List ByteArray) := (strings_genSplit.f k a0 a1 0 (-1)).bind fun t191 => (some t191)
theorem strings_Split.mono : ∀ a0 a1 k, LeO (strings_Split.f k a0 a1) (strings_Split.f (k + 1) a0 a1) := by
 intro a0 a1 k
 unfold strings_Split.f
 repeat' first
   | (with_reducible exact strings_genSplit.mono _ _ _ _ _)
   | (with_reducible exact LeO.refl _)
   | (with_reducible exact LeO.none _)
   | (with_reducible refine LeO.ite ?_ ?_)
   | (with_reducible refine LeO.bind ?_ (fun _ => ?_))
   | exact strings_genSplit.mono _ _ _ _ _
   | exact LeO.none _
   | refine LeO.ite ?_ ?_
   | refine LeO.bind ?_ (fun _ => ?_)
set_option maxHeartbeats 8000000 in
set_option maxRecDepth 100000 in
theorem strings_Split.calls (k : Nat) (a0 : ByteArray) (a1 : ByteArray) (r : List ByteArray) (w : World) (h : strings_Split.f k a0 a1 = some r) :
  Calls Tryd.prog 48 #[.string a0, .string a1] w fun e w' => ∃ v0_ : Value, e = .returned (v0_) ∧ Kd.R Kd.string 9 w' w.heap.size (fun _ => True) v0_ r ∧ Below w.heap.size w w' := by
 have HB := Aside0.mk (Below.refl w.heap.size w)
 have H : ((strings_genSplit.f k a0 a1 0 (-1)).bind fun t191 => (some t191)) = some r := h
 clear h
 replace H := Option.bind_eq_some_iff.mp H
 obtain ⟨t191, A30, H⟩ := H
 replace H : (some t191) = some r := H
 have A3 := Aside0.mk A30
 clear A30
 obtain rfl := Option.some.inj H
 go_enter Tryd.func48, Tryd.ntmps48
 go_wp2_with (first | ((with_reducible refine gate_callee (f := 55) rfl ?_); refine goesL_ (some 7) rfl rfl Tryd.func55 (by kernel_rfl) rfl #[.string a0, .string a1, .int .i64 0, .int .i64 (-1)] rfl zA ?_; (with_reducible refine (strings_genSplit.calls k a0 a1 0 (-1) t191 _ A3.out).mono ?_); rintro e w4 ⟨v192, rfl, ho0, hb⟩; refine ⟨_, rfl, ?_⟩; have n0_ := Aside0.mk (Kd.R_lower ho0 (below_size (zL HB.out))); have n1_ := Aside0.mk (below_step (zL HB.out) hb); revert n0_ n1_; clear HB; intro HO193 HB; (try clear hb); (try clear hb2); (try clear hk); (try clear hi); (try clear ho0)))
 go_ret
 exact ⟨_, zE, by (with_reducible repeat (first | apply Kd.R_alloc | apply Kd.R_drewN | apply Kd.R_drew)); exact HO193.out, zL HB.out⟩

/-! ### text_Path: function 26 -/
/-- text.Path: its two loops. -/
def text_Path.l0 : Nat → ByteArray → Int → Option (Bool)
  | 0, _, _ => none
  | k + 1, x0, x11 => if x11 < (x0.size : Int) then (if 0 ≤ x11 then ((text_plain.f k (bt x0 x11)).bind fun t1 => (if t1 = true then (text_Path.l0 k x0 (wrap64 (x11 + 1))) else (some false))) else (none)) else (some true)
def text_Path.l1 : Nat → List ByteArray → Int → Option (Bool)
  | 0, _, _ => none
  | k + 1, x21, x23 => if x23 < (x21.length : Int) then (if 0 ≤ x23 then (if (rdOf ByteArray.empty x21 x23).toList = ([] : List UInt8) then (some false) else (if (rdOf ByteArray.empty x21 x23).toList = ([46] : List UInt8) then (some false) else (if (rdOf ByteArray.empty x21 x23).toList = ([46, 46] : List UInt8) then (some false) else (text_Path.l1 k x21 (wrap64 (x23 + 1)))))) else (none)) else (some true)
def text_Path.f (k : Nat) (a0 : ByteArray) : Option (Bool) := if a0.size ≤ 9223372036854775807 then ((text_Path.l0 k a0 0).bind fun t1 => (if t1 = true then ((strings_Split.f k a0 (⟨#[47]⟩ : ByteArray)).bind fun t2 => ((text_Path.l1 k t2 0).bind fun t3 => (if t3 = true then (if (a0.size : Int) ≤ 100 then (some (decide ((t2.length : Int) ≤ 8))) else (some false)) else (some false)))) else (some false))) else (none)
theorem text_Path.mono_l0 : ∀ k, (∀ y0 y1, LeO (text_Path.l0 k y0 y1) (text_Path.l0 (k + 1) y0 y1))
  | 0 => fun _ _ r h => by simp [text_Path.l0] at h
  | k + 1 => by
    have ih0 := text_Path.mono_l0 k
    intro y0 y1
    unfold text_Path.l0
    repeat' first
    | (with_reducible exact ih0 _ _)
    | (with_reducible exact text_plain.mono _ _)
    | (with_reducible exact LeO.refl _)
    | (with_reducible exact LeO.none _)
    | (with_reducible refine LeO.ite ?_ ?_)
    | (with_reducible refine LeO.bind ?_ (fun _ => ?_))
theorem text_Path.mono_l1 : ∀ k, (∀ y0 y1, LeO (text_Path.l1 k y0 y1) (text_Path.l1 (k + 1) y0 y1))
  | 0 => fun _ _ r h => by simp [text_Path.l1] at h
  | k + 1 => by
    have ih0 := text_Path.mono_l1 k
    intro y0 y1
    unfold text_Path.l1
    repeat' first
    | (with_reducible exact ih0 _ _)
    | (with_reducible exact LeO.refl _)
    | (with_reducible exact LeO.none _)
    | (with_reducible refine LeO.ite ?_ ?_)
theorem text_Path.mono : ∀ a0 k, LeO (text_Path.f k a0) (text_Path.f (k + 1) a0) := by
  intro a0 k
  have ih0 := text_Path.mono_l0 k
  have ih1 := text_Path.mono_l1 k
  unfold text_Path.f
  repeat' first
    | (with_reducible exact ih0 _ _)
    | (with_reducible exact ih1 _ _)
    | (with_reducible exact strings_Split.mono _ _ _)
    | (with_reducible exact LeO.refl _)
    | (with_reducible exact LeO.none _)
    | (with_reducible refine LeO.ite ?_ ?_)
    | (with_reducible refine LeO.bind ?_ (fun _ => ?_))
set_option maxHeartbeats 8000000 in
set_option maxRecDepth 100000 in
theorem text_Path.calls (k : Nat) (a0 : ByteArray) (r : Bool) (w : World) (h : text_Path.f k a0 = some r) :
    Calls Tryd.prog 26 #[.string a0] w fun e w' => e = .returned (.bool r) ∧ Below w.heap.size w w' := by
  unfold text_Path.f at h
  by_cases hsz : a0.size ≤ 9223372036854775807
  case neg => rw [if_neg hsz] at h; exact absurd h (by simp)
  rw [if_pos hsz] at h
  replace h := Option.bind_eq_some_iff.mp h
  obtain ⟨t1, A10, H⟩ := h
  have A1 := Aside0.mk A10
  clear A10
  have H0 := Aside0.mk H
  clear H
  have hcv := print_bytes (P := Tryd.prog) 9 87 5 Tryd.underlying9 Tryd.underlying87 Tryd.underlying5 a0 w
  have hrd := Aside0.mk (bytes_reads w 5 a0 hsz)
  have hbl := Aside0.mk (bytes_below (Below.refl w.heap.size w) (Nat.le_refl _) 5 a0)
  obtain ⟨cp, hcp⟩ : ∃ cp, cp = grownCap w a0.size 0 5 := ⟨_, rfl⟩
  obtain ⟨W1, hW1⟩ : ∃ W1, W1 = Lib.bytesWorld w 5 a0 := ⟨_, rfl⟩
  rw [← hcp, ← hW1] at hcv
  rw [← hW1] at hrd hbl
  clear hcp hW1 hsz
  obtain ⟨bB, hbB⟩ : ∃ bB, bB = w.heap.size := ⟨_, rfl⟩
  rw [← hbB] at hcv hrd
  clear hbB
  go_enter Tryd.func26, Tryd.ntmps26
  go_wp2
  clear hcv
  go_loopg [4, 11] k (fun kq v4 v11 w' => ∃ (x11_1 : Int), v11 = .int .i64 x11_1 ∧ Aside0 (text_Path.l0 kq a0 x11_1 = some t1) ∧ Aside0 (kq ≤ k) ∧ Drawn0 W1 w')
  case atStart => exact ⟨(0), rfl, A1, ⟨Nat.le_refl _⟩, Drawn0.refl _⟩
  case round =>
    clear A1
    obtain ⟨x11_1, rfl, HA, HK1, ⟨m1, rfl⟩⟩ := hrel
    cases gk with
    | zero => exact absurd HA.out (by simp [text_Path.l0])
    | succ k1 =>
      have H := HA.out
      clear HA
      simp only [text_Path.l0] at H
      by_cases c2 : x11_1 < (a0.size : Int)
      · rw [if_pos c2] at H
        have c2b0 : decide (x11_1 < (a0.size : Int)) = true := decide_eq_true c2
        by_cases c3 : 0 ≤ x11_1
        · rw [if_pos c3] at H
          have c3b0 : decide (0 ≤ x11_1) = true := decide_eq_true c3
          replace H := Option.bind_eq_some_iff.mp H
          obtain ⟨t2, A20, H⟩ := H
          have A2 := Aside0.mk A20
          clear A20
          obtain ⟨ad, e1, hx⟩ := hrd.out.at_ x11_1 c3 c2
          obtain rfl := Option.some.inj e1
          clear e1
          rw [rd_bytesOf, add_plain] at hx
          replace c2 := eq_true c2
          replace c3 := eq_true c3
          by_cases c4 : t2 = true
          · subst c4
            rw [if_pos rfl] at H
            have H' := Aside0.mk H
            clear H
            go_wp2_with (first | (go_at_call 47; (with_reducible refine (text_plain.calls k1 _ true _ A2.out).mono ?_); rintro e w' ⟨rfl, ⟨nd, rfl⟩⟩))
            go_roundg k1
            case measure => have := HK1.out; omega
            case rel => exact ⟨(wrap64 (x11_1 + 1)), (by first | rfl | (simp; done) | (simp [*]; done)), H', ⟨by have := HK1.out; omega⟩, by repeat (first | exact Drawn0.refl _ | apply Drawn0.step)⟩
          · replace c4 := Bool.eq_false_iff.mpr c4
            subst c4
            rw [if_neg (show ¬ (false = true) by decide)] at H
            obtain rfl := Option.some.inj H
            clear H
            have H1 := H0.out
            clear H0
            rw [if_neg (show ¬ (false = true) by decide)] at H1
            obtain rfl := Option.some.inj H1
            clear H1
            go_wp2_with (first | (go_at_call 47; (with_reducible refine (text_plain.calls k1 _ false _ A2.out).mono ?_); rintro e w' ⟨rfl, ⟨nd, rfl⟩⟩))
            go_ret
            exact ⟨by first | rfl | (simp; done) | (simp [*]; done), by repeat (first | exact hbl.out | apply pw_below_drewN | apply below_drew1)⟩
        · rw [if_neg c3] at H
          exact absurd H (by simp)
      · rw [if_neg c2] at H
        have c2b0 : decide (x11_1 < (a0.size : Int)) = false := decide_eq_false c2
        clear c2
        obtain rfl := Option.some.inj H
        clear H
        have H := H0.out
        clear H0
        rw [if_pos rfl] at H
        replace H := Option.bind_eq_some_iff.mp H
        obtain ⟨t2, A20, H⟩ := H
        have A2 := Aside0.mk A20
        clear A20
        replace H := Option.bind_eq_some_iff.mp H
        obtain ⟨t3, A30, H⟩ := H
        have A3 := Aside0.mk A30
        clear A30
        have H3 := Aside0.mk H
        clear H
        clear hrd
        go_wp2_with (first | (go_at_call 48; (with_reducible refine (strings_Split.calls k a0 _ t2 _ A2.out).mono ?_); rintro e w2 ⟨v2, rfl, ho2, hb2⟩; obtain ⟨A2_, c2_, rfl, hc2_, hr2_⟩ := Kd.R_reads ho2; have HR2 := Aside0.mk hr2_; clear hr2_ ho2; have HB2 := Aside0.mk (show Below w.heap.size w w2 from below_step (by repeat (first | exact hbl.out | apply pw_below_drewN | apply below_drew1)) hb2); clear hb2))
        clear hbl
        go_loopg [7, 23] k (fun kq v7 v23 w' => ∃ (x23_1 : Int), v23 = .int .i64 x23_1 ∧ Aside0 (text_Path.l1 kq t2 x23_1 = some t3) ∧ Aside0 (kq ≤ k) ∧ Drawn0 w2 w')
        case atStart => exact ⟨(0), rfl, A3, ⟨Nat.le_refl _⟩, Drawn0.refl _⟩
        case round =>
          clear A3
          obtain ⟨x23_1, rfl, HA, HK2, ⟨m2, rfl⟩⟩ := hrel
          cases gk with
          | zero => exact absurd HA.out (by simp [text_Path.l1])
          | succ k2 =>
            have H := HA.out
            clear HA
            simp only [text_Path.l1] at H
            by_cases c2 : x23_1 < (t2.length : Int)
            · rw [if_pos c2] at H
              have c2b0' : decide (x23_1 < (t2.length : Int)) = true := decide_eq_true c2
              by_cases c3 : 0 ≤ x23_1
              · rw [if_pos c3] at H
                have c3b0' : decide (0 ≤ x23_1) = true := decide_eq_true c3
                obtain ⟨ad9, e9, hx9⟩ := Kd.at_string HR2.out x23_1 c3 c2
                cases e9
                replace c2 := eq_true c2
                replace c3 := eq_true c3
                by_cases c4 : (rdOf ByteArray.empty t2 x23_1).toList = ([] : List UInt8)
                · rw [if_pos c4] at H
                  have c4b0 : ((rdOf ByteArray.empty t2 x23_1).toList == ([] : List UInt8)) = true := beq_iff_eq.mpr c4
                  clear c4
                  obtain rfl := Option.some.inj H
                  clear H
                  have H1 := H3.out
                  clear H3
                  rw [if_neg (show ¬ (false = true) by decide)] at H1
                  obtain rfl := Option.some.inj H1
                  clear H1
                  go_wp2
                  go_ret
                  exact ⟨by first | rfl | (simp; done) | (simp [*]; done), by repeat (first | exact HB2.out | apply pw_below_drewN | apply below_drew1)⟩
                · rw [if_neg c4] at H
                  have c4b0 : ((rdOf ByteArray.empty t2 x23_1).toList == ([] : List UInt8)) = false := beq_eq_false_iff_ne.mpr c4
                  by_cases c5 : (rdOf ByteArray.empty t2 x23_1).toList = ([46] : List UInt8)
                  · rw [if_pos c5] at H
                    have c5b0 : ((rdOf ByteArray.empty t2 x23_1).toList == ([46] : List UInt8)) = true := beq_iff_eq.mpr c5
                    clear c5
                    obtain rfl := Option.some.inj H
                    clear H
                    have H1 := H3.out
                    clear H3
                    rw [if_neg (show ¬ (false = true) by decide)] at H1
                    obtain rfl := Option.some.inj H1
                    clear H1
                    go_wp2
                    go_ret
                    exact ⟨by first | rfl | (simp; done) | (simp [*]; done), by repeat (first | exact HB2.out | apply pw_below_drewN | apply below_drew1)⟩
                  · rw [if_neg c5] at H
                    have c5b0 : ((rdOf ByteArray.empty t2 x23_1).toList == ([46] : List UInt8)) = false := beq_eq_false_iff_ne.mpr c5
                    by_cases c6 : (rdOf ByteArray.empty t2 x23_1).toList = ([46, 46] : List UInt8)
                    · rw [if_pos c6] at H
                      have c6b0 : ((rdOf ByteArray.empty t2 x23_1).toList == ([46, 46] : List UInt8)) = true := beq_iff_eq.mpr c6
                      clear c6
                      obtain rfl := Option.some.inj H
                      clear H
                      have H1 := H3.out
                      clear H3
                      rw [if_neg (show ¬ (false = true) by decide)] at H1
                      obtain rfl := Option.some.inj H1
                      clear H1
                      go_wp2
                      go_ret
                      exact ⟨by first | rfl | (simp; done) | (simp [*]; done), by repeat (first | exact HB2.out | apply pw_below_drewN | apply below_drew1)⟩
                    · rw [if_neg c6] at H
                      have c6b0 : ((rdOf ByteArray.empty t2 x23_1).toList == ([46, 46] : List UInt8)) = false := beq_eq_false_iff_ne.mpr c6
                      have H' := Aside0.mk H
                      clear H
                      go_wp2
                      go_roundg k2
                      case measure => have := HK2.out; omega
                      case rel => exact ⟨(wrap64 (x23_1 + 1)), (by first | rfl | (simp; done) | (simp [*]; done)), H', ⟨by have := HK2.out; omega⟩, by repeat (first | exact Drawn0.refl _ | apply Drawn0.step)⟩
              · rw [if_neg c3] at H
                exact absurd H (by simp)
            · rw [if_neg c2] at H
              have c2b0' : decide (x23_1 < (t2.length : Int)) = false := decide_eq_false c2
              clear c2
              obtain rfl := Option.some.inj H
              clear H
              have H := H3.out
              clear H3
              rw [if_pos rfl] at H
              by_cases c7 : (a0.size : Int) ≤ 100
              · rw [if_pos c7] at H
                have c7b0 : decide ((a0.size : Int) ≤ 100) = true := decide_eq_true c7
                have c7b1 : decide (a0.size ≤ 100) = true := decide_eq_true (by omega)
                clear c7
                obtain rfl := Option.some.inj H
                clear H
                go_wp2
                go_ret
                exact ⟨by first | rfl | (simp; done) | (simp [*]; done), by repeat (first | exact HB2.out | apply pw_below_drewN | apply below_drew1)⟩
              · rw [if_neg c7] at H
                have c7b0 : decide ((a0.size : Int) ≤ 100) = false := decide_eq_false c7
                have c7b1 : decide (a0.size ≤ 100) = false := decide_eq_false (by omega)
                clear c7
                obtain rfl := Option.some.inj H
                clear H
                go_wp2
                go_ret
                exact ⟨by first | rfl | (simp; done) | (simp [*]; done), by repeat (first | exact HB2.out | apply pw_below_drewN | apply below_drew1)⟩



/-! ### lease_lives: function 27 -/
def lease_lives.f (a0 : Int) : Option (Bool) := if a0 ≥ 1 then (some (decide (a0 ≤ 1048576))) else (some false)
set_option maxHeartbeats 8000000 in
set_option maxRecDepth 100000 in
theorem lease_lives.calls (a0 : Int) (r : Bool) (w : World) (h : lease_lives.f a0 = some r) :
  Calls Tryd.prog 27 #[.int .i64 a0] w fun e w' => e = .returned (.bool r) ∧ Drawn0 w w' := by
 have H : (if a0 ≥ 1 then (some (decide (a0 ≤ 1048576))) else (some false)) = some r := h
 clear h
 by_cases c2 : a0 ≥ 1
 ·rw [if_pos c2] at H
  have c2b0 : decide (1 ≤ a0) = true := decide_eq_true c2
  clear c2
  obtain rfl := Option.some.inj H
  go_enter Tryd.func27, Tryd.ntmps27
  go_wp2
  go_ret
  exact ⟨by first | rfl | (simp; done) | (simp [*]; done), by repeat (first | exact Drawn0.refl _ | apply Drawn0.step)⟩
 ·rw [if_neg c2] at H
  have c2b0 : decide (1 ≤ a0) = false := decide_eq_false c2
  clear c2
  obtain rfl := Option.some.inj H
  go_enter Tryd.func27, Tryd.ntmps27
  go_wp2
  go_ret
  exact ⟨by first | rfl | (simp; done) | (simp [*]; done), by repeat (first | exact Drawn0.refl _ | apply Drawn0.step)⟩

/-! ### lease_time: function 28 -/
def lease_time.f (a0 : Int) : Option (Bool) := if a0 ≥ 0 then (some (decide (a0 ≤ 1099511627776))) else (some false)
set_option maxHeartbeats 8000000 in
set_option maxRecDepth 100000 in
theorem lease_time.calls (a0 : Int) (r : Bool) (w : World) (h : lease_time.f a0 = some r) :
  Calls Tryd.prog 28 #[.int .i64 a0] w fun e w' => e = .returned (.bool r) ∧ Drawn0 w w' := by
 have H : (if a0 ≥ 0 then (some (decide (a0 ≤ 1099511627776))) else (some false)) = some r := h
 clear h
 by_cases c2 : a0 ≥ 0
 ·rw [if_pos c2] at H
  have c2b0 : decide (0 ≤ a0) = true := decide_eq_true c2
  clear c2
  obtain rfl := Option.some.inj H
  go_enter Tryd.func28, Tryd.ntmps28
  go_wp2
  go_ret
  exact ⟨by first | rfl | (simp; done) | (simp [*]; done), by repeat (first | exact Drawn0.refl _ | apply Drawn0.step)⟩
 ·rw [if_neg c2] at H
  have c2b0 : decide (0 ≤ a0) = false := decide_eq_false c2
  clear c2
  obtain rfl := Option.some.inj H
  go_enter Tryd.func28, Tryd.ntmps28
  go_wp2
  go_ret
  exact ⟨by first | rfl | (simp; done) | (simp [*]; done), by repeat (first | exact Drawn0.refl _ | apply Drawn0.step)⟩

/-! ### lease_Ask_29: function 29 -/
def lease_Ask_29.f (l0 : List (S32)) : Option ((List (S32))) := (some (([] : List (S32)) : List (S32))).bind fun y194 => (if y194.length + l0.length < 3518437208883 then (some (y194 ++ l0)) else (none))
set_option maxHeartbeats 8000000 in
set_option maxRecDepth 100000 in
theorem lease_Ask_29.calls_some (A0 : Addr) (c0 : Nat) (l0 : List (S32)) (r : List (S32)) (w : World) (hr0 : Kd.C k32 w (some A0) l0.length l0) (hc0 : l0.length ≤ c0) (h : lease_Ask_29.f l0 = some r) :
  Calls Tryd.prog 29 #[.slice (some A0) l0.length c0] w fun e w' => ∃ v0_ : Value, e = .returned (v0_) ∧ Kd.R k32 32 w' w.heap.size (fun _ => True) v0_ r ∧ Below w.heap.size w w' := by
 have HR0 := Aside0.mk hr0
 have HC0 := Aside0.mk hc0
 clear hr0 hc0
 have HB := Aside0.mk (Below.refl w.heap.size w)
 have H : ((some (([] : List (S32)) : List (S32))).bind fun y194 => (if y194.length + l0.length < 3518437208883 then (some (y194 ++ l0)) else (none))) = some r := h
 clear h
 obtain ⟨y194, hy194⟩ : ∃ y_ : List (S32), y_ = (([] : List (S32))) := ⟨_, rfl⟩
 replace H : (if y194.length + l0.length < 3518437208883 then (some (y194 ++ l0)) else (none)) = some r := zH hy194 H
 have Ny194 := Aside0.mk hy194
 clear hy194
 by_cases c2 : y194.length + l0.length < 3518437208883
 ·rw [if_pos c2] at H
  have LMc2 := Aside0.mk c2
  clear c2
  obtain ⟨y197, hy197⟩ : ∃ y_ : List (S32), y_ = (y194 ++ l0) := ⟨_, rfl⟩
  replace H : (some y197) = some r := zH hy197 H
  have Ny197 := Aside0.mk hy197
  clear hy197
  obtain rfl := Option.some.inj H
  have xq_ : ∀ (w : World) (a : Option Addr) (n c n' c' : Nat), (Go.binOp .eql 25 (.slice a n c) (.slice none n' c')).run Tryd.prog w = Result.ok (Value.bool a.isNone) w := fun w a n c n' c' => Lib.run_eql_slice_nil w _ _ a n c n' c' Tryd.underlying25
  go_enter Tryd.func29, Tryd.ntmps29
  go_wp2_with (first | ((with_reducible refine gate_dst (N := 5) rfl ?_); refine Kd.R_lit k32 _ 32 ?hg (N := 5) ?hd (xs := ([] : List (S32))) (inner := []) (ok := fun _ => True) (okp := fun _ => True) ?hr ?hp (fun _ hk => hk) trivial (Below.refl _ _) (Nat.le_refl _) (by simp) ?_; (case hd => rfl); (case hg => rfl); (case hr => first | (go_simp; done) | (go_simp; rfl)); (case hp => exact (Reps.none _ _)); intro v195 w3 ho4 hb hg_ hnew_; clear hg_ hnew_; (first | rw [← Ny194.out] at ho4 | (simp only [Int.reduceToNat] at ho4; rw [← Ny194.out] at ho4)); have n0_ := Aside0.mk (Kd.R_lower ho4 (below_size (zL HB.out))); have n1_ := Aside0.mk (below_step (zL HB.out) hb); revert n0_ n1_; clear HB; intro HO196 HB; clear hb ho4) | ((with_reducible refine gate_builtin (b := .append) (xs := #[.tmp 5, .tmp 6]) rfl ?_); at_builtin; refine Kd.R_append_rows k32 (w0 := w) w.heap.size rfl (.tmp 5) (.tmp 6) 25 32 (.agg #[(.int .i64 0), (.string ⟨#[]⟩), (.bool false), (.int .i64 0)]) 40 rfl Tryd.underlying25 info32 rfl (by decide) (by omega) v195 y194 l0 _ _ _ (fun _ => True) (fun _ => False) rfl rfl ?aO ?aR (fun _ _ h => h) (fun _ h => h.elim) ?aF ?aB ?aS ?aL ?_; (case aR => repeat (first | exact (Kd.C_below HR0.out HB.out) | (with_reducible refine Kd.C_alloc ?_ _) | (with_reducible refine Kd.C_drewN ?_ _) | (with_reducible refine Kd.C_drew ?_))); (case aB => exact (zL HB.out)); (case aF => exact (fun _ _ => trivial)); (case aO => exact (zR HO196.out)); (case aS => exact (below_size (zL HB.out))); (case aL => have := LMc2.out; omega); intro v198 w5 ho hb hg hat; rw [← Ny197.out] at ho; have n0_ := Aside0.mk (hb); have n1_ := Aside0.mk (ho); revert n0_ n1_; clear HB HO196; intro HB HO199; clear ho hb hg hat))
  go_ret
  exact ⟨_, zE, by (with_reducible repeat (first | apply Kd.R_alloc | apply Kd.R_drewN | apply Kd.R_drew)); exact HO199.out, zL HB.out⟩
 ·rw [if_neg c2] at H
  exact absurd H (by simp)
set_option maxHeartbeats 8000000 in
set_option maxRecDepth 100000 in
theorem lease_Ask_29.calls (A0 : Option Addr) (c0 : Nat) (l0 : List (S32)) (r : List (S32)) (w : World) (hr0 : Kd.C k32 w A0 l0.length l0) (hc0 : l0.length ≤ c0) (h : lease_Ask_29.f l0 = some r) :
    Calls Tryd.prog 29 #[.slice A0 l0.length c0] w fun e w' => ∃ v0_ : Value, e = .returned (v0_) ∧ Kd.R k32 32 w' w.heap.size (fun _ => True) v0_ r ∧ Below w.heap.size w w' := by
  cases A0 with
  | some ad => exact lease_Ask_29.calls_some ad c0 l0 r w hr0 hc0 h
  | none =>
    obtain rfl : l0 = [] := by
      cases l0 with
      | nil => rfl
      | cons x l =>
        obtain ⟨ad, e, _⟩ := hr0.2.2 (by simp)
        cases e
    obtain rfl : r = [] := by
      have h2 := h
      simp [lease_Ask_29.f] at h2
      first | exact h2 | exact h2.symm | simp_all
    clear h hr0 hc0
    simp only [List.length_nil]
    have xq_ : ∀ (w : World) (a : Option Addr) (n c n' c' : Nat), (Go.binOp .eql 25 (.slice a n c) (.slice none n' c')).run Tryd.prog w = Result.ok (Value.bool a.isNone) w := fun w a n c n' c' => Lib.run_eql_slice_nil w _ _ a n c n' c' Tryd.underlying25
    go_enter Tryd.func29, Tryd.ntmps29
    go_wp2
    go_ret
    exact ⟨.slice none 0 0, rfl, Kd.R_nil _ _ _ _ _, (by repeat (first | exact Below.refl _ _ | apply below_alloc | apply pw_below_drewN | apply below_drew1))⟩

/-! ### lease_Lease_46: function 46 -/
def lease_Lease_46.f (l0 : List (S34)) : Option ((List (S34))) := (some (([] : List (S34)) : List (S34))).bind fun y200 => (if y200.length + l0.length < 2932031007402 then (some (y200 ++ l0)) else (none))
set_option maxHeartbeats 8000000 in
set_option maxRecDepth 100000 in
theorem lease_Lease_46.calls_some (A0 : Addr) (c0 : Nat) (l0 : List (S34)) (r : List (S34)) (w : World) (hr0 : Kd.C k34 w (some A0) l0.length l0) (hc0 : l0.length ≤ c0) (h : lease_Lease_46.f l0 = some r) :
  Calls Tryd.prog 46 #[.slice (some A0) l0.length c0] w fun e w' => ∃ v0_ : Value, e = .returned (v0_) ∧ Kd.R k34 34 w' w.heap.size (fun _ => True) v0_ r ∧ Below w.heap.size w w' := by
 have HR0 := Aside0.mk hr0
 have HC0 := Aside0.mk hc0
 clear hr0 hc0
 have HB := Aside0.mk (Below.refl w.heap.size w)
 have H : ((some (([] : List (S34)) : List (S34))).bind fun y200 => (if y200.length + l0.length < 2932031007402 then (some (y200 ++ l0)) else (none))) = some r := h
 clear h
 obtain ⟨y200, hy200⟩ : ∃ y_ : List (S34), y_ = (([] : List (S34))) := ⟨_, rfl⟩
 replace H : (if y200.length + l0.length < 2932031007402 then (some (y200 ++ l0)) else (none)) = some r := zH hy200 H
 have Ny200 := Aside0.mk hy200
 clear hy200
 by_cases c2 : y200.length + l0.length < 2932031007402
 ·rw [if_pos c2] at H
  have LMc2 := Aside0.mk c2
  clear c2
  obtain ⟨y203, hy203⟩ : ∃ y_ : List (S34), y_ = (y200 ++ l0) := ⟨_, rfl⟩
  replace H : (some y203) = some r := zH hy203 H
  have Ny203 := Aside0.mk hy203
  clear hy203
  obtain rfl := Option.some.inj H
  have xq_ : ∀ (w : World) (a : Option Addr) (n c n' c' : Nat), (Go.binOp .eql 24 (.slice a n c) (.slice none n' c')).run Tryd.prog w = Result.ok (Value.bool a.isNone) w := fun w a n c n' c' => Lib.run_eql_slice_nil w _ _ a n c n' c' Tryd.underlying24
  go_enter Tryd.func46, Tryd.ntmps46
  go_wp2_with (first | ((with_reducible refine gate_dst (N := 5) rfl ?_); refine Kd.R_lit k34 _ 34 ?hg (N := 5) ?hd (xs := ([] : List (S34))) (inner := []) (ok := fun _ => True) (okp := fun _ => True) ?hr ?hp (fun _ hk => hk) trivial (Below.refl _ _) (Nat.le_refl _) (by simp) ?_; (case hd => rfl); (case hg => rfl); (case hr => first | (go_simp; done) | (go_simp; rfl)); (case hp => exact (Reps.none _ _)); intro v201 w3 ho4 hb hg_ hnew_; clear hg_ hnew_; (first | rw [← Ny200.out] at ho4 | (simp only [Int.reduceToNat] at ho4; rw [← Ny200.out] at ho4)); have n0_ := Aside0.mk (Kd.R_lower ho4 (below_size (zL HB.out))); have n1_ := Aside0.mk (below_step (zL HB.out) hb); revert n0_ n1_; clear HB; intro HO202 HB; clear hb ho4) | ((with_reducible refine gate_builtin (b := .append) (xs := #[.tmp 5, .tmp 6]) rfl ?_); at_builtin; refine Kd.R_append_rows k34 (w0 := w) w.heap.size rfl (.tmp 5) (.tmp 6) 24 34 (.agg #[(.int .i64 0), (.string ⟨#[]⟩), (.bool false), (.int .i64 0), (.int .i64 0)]) 48 rfl Tryd.underlying24 info34 rfl (by decide) (by omega) v201 y200 l0 _ _ _ (fun _ => True) (fun _ => False) rfl rfl ?aO ?aR (fun _ _ h => h) (fun _ h => h.elim) ?aF ?aB ?aS ?aL ?_; (case aR => repeat (first | exact (Kd.C_below HR0.out HB.out) | (with_reducible refine Kd.C_alloc ?_ _) | (with_reducible refine Kd.C_drewN ?_ _) | (with_reducible refine Kd.C_drew ?_))); (case aB => exact (zL HB.out)); (case aF => exact (fun _ _ => trivial)); (case aO => exact (zR HO202.out)); (case aS => exact (below_size (zL HB.out))); (case aL => have := LMc2.out; omega); intro v204 w5 ho hb hg hat; rw [← Ny203.out] at ho; have n0_ := Aside0.mk (hb); have n1_ := Aside0.mk (ho); revert n0_ n1_; clear HB HO202; intro HB HO205; clear ho hb hg hat))
  go_ret
  exact ⟨_, zE, by (with_reducible repeat (first | apply Kd.R_alloc | apply Kd.R_drewN | apply Kd.R_drew)); exact HO205.out, zL HB.out⟩
 ·rw [if_neg c2] at H
  exact absurd H (by simp)
set_option maxHeartbeats 8000000 in
set_option maxRecDepth 100000 in
theorem lease_Lease_46.calls (A0 : Option Addr) (c0 : Nat) (l0 : List (S34)) (r : List (S34)) (w : World) (hr0 : Kd.C k34 w A0 l0.length l0) (hc0 : l0.length ≤ c0) (h : lease_Lease_46.f l0 = some r) :
    Calls Tryd.prog 46 #[.slice A0 l0.length c0] w fun e w' => ∃ v0_ : Value, e = .returned (v0_) ∧ Kd.R k34 34 w' w.heap.size (fun _ => True) v0_ r ∧ Below w.heap.size w w' := by
  cases A0 with
  | some ad => exact lease_Lease_46.calls_some ad c0 l0 r w hr0 hc0 h
  | none =>
    obtain rfl : l0 = [] := by
      cases l0 with
      | nil => rfl
      | cons x l =>
        obtain ⟨ad, e, _⟩ := hr0.2.2 (by simp)
        cases e
    obtain rfl : r = [] := by
      have h2 := h
      simp [lease_Lease_46.f] at h2
      first | exact h2 | exact h2.symm | simp_all
    clear h hr0 hc0
    simp only [List.length_nil]
    have xq_ : ∀ (w : World) (a : Option Addr) (n c n' c' : Nat), (Go.binOp .eql 24 (.slice a n c) (.slice none n' c')).run Tryd.prog w = Result.ok (Value.bool a.isNone) w := fun w a n c n' c' => Lib.run_eql_slice_nil w _ _ a n c n' c' Tryd.underlying24
    go_enter Tryd.func46, Tryd.ntmps46
    go_wp2
    go_ret
    exact ⟨.slice none 0 0, rfl, Kd.R_nil _ _ _ _ _, (by repeat (first | exact Below.refl _ _ | apply below_alloc | apply pw_below_drewN | apply below_drew1))⟩

-- NOT PRINTED: function 54 (lease_Lease_54)

-- NOT PRINTED: function 44 (lease_Lease_44)

-- NOT PRINTED: function 64 (lease_Ask_64)

-- NOT PRINTED: function 58 (lease_Ask_58)

/-! ### lease_Table_blocked_1: function 56 -/
def lease_Table_blocked_1.f (a0_0 : Int) (a0_1 : ByteArray) (a0_2 : Bool) (a0_3 : Int) (a0_4 : Int) (a1_0 : Int) (a1_1 : ByteArray) (a1_2 : Bool) (a1_3 : Int) : Option (Bool) := if a0_1.toList = a1_1.toList then (if a0_2 = true then (some true) else (some a1_2)) else (some false)
set_option maxHeartbeats 8000000 in
set_option maxRecDepth 100000 in
theorem lease_Table_blocked_1.calls (a0_0 : Int) (a0_1 : ByteArray) (a0_2 : Bool) (a0_3 : Int) (a0_4 : Int) (g1_0 : Nat) (a1_0 : Int) (a1_1 : ByteArray) (a1_2 : Bool) (a1_3 : Int) (r : Bool) (w : World) (hb1_0 : w.heap[g1_0]? = some (.cells #[.int .i64 a1_0, .string a1_1, .bool a1_2, .int .i64 a1_3] 32 (0, 0))) (h : lease_Table_blocked_1.f a0_0 a0_1 a0_2 a0_3 a0_4 a1_0 a1_1 a1_2 a1_3 = some r) :
  Calls Tryd.prog 56 #[.agg #[.int .i64 a0_0, .string a0_1, .bool a0_2, .int .i64 a0_3, .int .i64 a0_4], .pointer (some ⟨g1_0, 0, none⟩)] w fun e w' => e = .returned (.bool r) ∧ Below w.heap.size w w' := by
 have hu34 := Tryd.underlying34
 have BK216 := Aside0.mk hb1_0
 clear hb1_0
 have HB := Aside0.mk (Below.refl w.heap.size w)
 have H : (if a0_1.toList = a1_1.toList then (if a0_2 = true then (some true) else (some a1_2)) else (some false)) = some r := h
 clear h
 by_cases c3 : a0_1.toList = a1_1.toList
 ·rw [if_pos c3] at H
  have c3b0 : (a0_1.toList == a1_1.toList) = true := beq_iff_eq.mpr c3
  have c3b1 : (a0_1.toList != a1_1.toList) = false := bne_eq_false_iff_eq.mpr c3
  clear c3
  by_cases c4 : a0_2 = true
  ·subst c4
   have H1 : (some true) = some r := by rw [if_pos rfl] at H; exact H
   clear H
   have H := H1
   clear H1
   obtain rfl := Option.some.inj H
   go_enter Tryd.func56, Tryd.ntmps56
   go_wp2_with (first | ((with_reducible refine gate_dst (N := 2) rfl ?_); refine box_event ?hg (N := 2) ?hd (cs := #[.int .i64 a0_0, .string a0_1, .bool true, .int .i64 a0_3, .int .i64 a0_4]) (t := 34) ?hr ?_; (case hd => rfl); (case hg => rfl); (case hr => first | (go_simp; done) | (go_simp; rfl)); intro gb217 hg w5 hbox hb; have n0_ := Aside0.mk (blk_below (g := g1_0) (o := .cells #[.int .i64 a1_0, .string a1_1, .bool a1_2, .int .i64 a1_3] 32 (0, 0)) (zK BK216.out) hb); have n1_ := Aside0.mk (below_step (zL HB.out) hb); have n2_ := Aside0.mk (hbox); have n3_ := Aside0.mk (zG hg (zL HB.out)); have n4_ := Aside0.mk (zG hg (zL HB.out)); have n5_ := Aside0.mk (zN (g := g1_0) (o := .cells #[.int .i64 a1_0, .string a1_1, .bool a1_2, .int .i64 a1_3] 32 (0, 0)) hg (zK BK216.out)); have n6_ := Aside0.mk (zO (g := g1_0) (o := .cells #[.int .i64 a1_0, .string a1_1, .bool a1_2, .int .i64 a1_3] 32 (0, 0)) hg (zK BK216.out)); revert n0_ n1_ n2_ n3_ n4_ n5_ n6_; clear BK216 HB; intro BK216 HB BK217 GW217 GE217 NB216_217 NB217_216; clear hb hbox hg; have hnb6 := NB217_216.out; have hnc6 := NB216_217.out; obtain ⟨hcz7_0, hcz7_1, hcz7_2, hcz7_3, hcz7_4, hfz7_0, hfz7_1, hfz7_2, hfz7_3, hfz7_4⟩ := zC5 BK217.out; obtain ⟨hcz8_0, hcz8_1, hcz8_2, hcz8_3, hfz8_0, hfz8_1, hfz8_2, hfz8_3⟩ := zC4 BK216.out))
   go_ret
   exact ⟨zE, zL HB.out⟩
  ·replace c4 := Bool.eq_false_iff.mpr c4
   subst c4
   have H1 : (some a1_2) = some r := by rw [if_neg (show ¬ (false = true) by decide)] at H; exact H
   clear H
   have H := H1
   clear H1
   obtain rfl := Option.some.inj H
   go_enter Tryd.func56, Tryd.ntmps56
   go_wp2_with (first | ((with_reducible refine gate_dst (N := 2) rfl ?_); refine box_event ?hg (N := 2) ?hd (cs := #[.int .i64 a0_0, .string a0_1, .bool false, .int .i64 a0_3, .int .i64 a0_4]) (t := 34) ?hr ?_; (case hd => rfl); (case hg => rfl); (case hr => first | (go_simp; done) | (go_simp; rfl)); intro gb217 hg w9 hbox hb; have n0_ := Aside0.mk (blk_below (g := g1_0) (o := .cells #[.int .i64 a1_0, .string a1_1, .bool a1_2, .int .i64 a1_3] 32 (0, 0)) (zK BK216.out) hb); have n1_ := Aside0.mk (below_step (zL HB.out) hb); have n2_ := Aside0.mk (hbox); have n3_ := Aside0.mk (zG hg (zL HB.out)); have n4_ := Aside0.mk (zG hg (zL HB.out)); have n5_ := Aside0.mk (zN (g := g1_0) (o := .cells #[.int .i64 a1_0, .string a1_1, .bool a1_2, .int .i64 a1_3] 32 (0, 0)) hg (zK BK216.out)); have n6_ := Aside0.mk (zO (g := g1_0) (o := .cells #[.int .i64 a1_0, .string a1_1, .bool a1_2, .int .i64 a1_3] 32 (0, 0)) hg (zK BK216.out)); revert n0_ n1_ n2_ n3_ n4_ n5_ n6_; clear BK216 HB; intro BK216 HB BK217 GW217 GE217 NB216_217 NB217_216; clear hb hbox hg; have hnb10 := NB217_216.out; have hnc10 := NB216_217.out; obtain ⟨hcz11_0, hcz11_1, hcz11_2, hcz11_3, hcz11_4, hfz11_0, hfz11_1, hfz11_2, hfz11_3, hfz11_4⟩ := zC5 BK217.out; obtain ⟨hcz12_0, hcz12_1, hcz12_2, hcz12_3, hfz12_0, hfz12_1, hfz12_2, hfz12_3⟩ := zC4 BK216.out))
   go_ret
   exact ⟨zE, zL HB.out⟩
 ·rw [if_neg c3] at H
  have c3b0 : (a0_1.toList == a1_1.toList) = false := beq_eq_false_iff_ne.mpr c3
  have c3b1 : (a0_1.toList != a1_1.toList) = true := bne_iff_ne.mpr c3
  obtain rfl := Option.some.inj H
  go_enter Tryd.func56, Tryd.ntmps56
  go_wp2_with (first | ((with_reducible refine gate_dst (N := 2) rfl ?_); refine box_event ?hg (N := 2) ?hd (cs := #[.int .i64 a0_0, .string a0_1, .bool a0_2, .int .i64 a0_3, .int .i64 a0_4]) (t := 34) ?hr ?_; (case hd => rfl); (case hg => rfl); (case hr => first | (go_simp; done) | (go_simp; rfl)); intro gb217 hg w13 hbox hb; have n0_ := Aside0.mk (blk_below (g := g1_0) (o := .cells #[.int .i64 a1_0, .string a1_1, .bool a1_2, .int .i64 a1_3] 32 (0, 0)) (zK BK216.out) hb); have n1_ := Aside0.mk (below_step (zL HB.out) hb); have n2_ := Aside0.mk (hbox); have n3_ := Aside0.mk (zG hg (zL HB.out)); have n4_ := Aside0.mk (zG hg (zL HB.out)); have n5_ := Aside0.mk (zN (g := g1_0) (o := .cells #[.int .i64 a1_0, .string a1_1, .bool a1_2, .int .i64 a1_3] 32 (0, 0)) hg (zK BK216.out)); have n6_ := Aside0.mk (zO (g := g1_0) (o := .cells #[.int .i64 a1_0, .string a1_1, .bool a1_2, .int .i64 a1_3] 32 (0, 0)) hg (zK BK216.out)); revert n0_ n1_ n2_ n3_ n4_ n5_ n6_; clear BK216 HB; intro BK216 HB BK217 GW217 GE217 NB216_217 NB217_216; clear hb hbox hg; have hnb14 := NB217_216.out; have hnc14 := NB216_217.out; obtain ⟨hcz15_0, hcz15_1, hcz15_2, hcz15_3, hcz15_4, hfz15_0, hfz15_1, hfz15_2, hfz15_3, hfz15_4⟩ := zC5 BK217.out; obtain ⟨hcz16_0, hcz16_1, hcz16_2, hcz16_3, hfz16_0, hfz16_1, hfz16_2, hfz16_3⟩ := zC4 BK216.out))
  go_ret
  exact ⟨zE, zL HB.out⟩

end Go.Proofs.YtgcghjkaomgloaaDoor.PLease
