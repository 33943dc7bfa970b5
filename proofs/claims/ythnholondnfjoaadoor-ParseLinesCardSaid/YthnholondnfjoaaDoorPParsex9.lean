-- Written by a program of this session (wip/tools/ext.py, over the kit's printer); not trusted: Lean checks it.
import Derived.Test.YthnholondnfjoaaDoorPParsex0
namespace Go.Proofs.YthnholondnfjoaaDoor.PParse
open Go.RowKit Go.Proofs.YthnholondnfjoaaDoorW.PrintWords Go.Proofs.YthnholondnfjoaaDoorW.PrintLast Go.Proofs.YthnholondnfjoaaDoorW.PrintMore
attribute [local go_sem] max2_int min2_int max_two min_two max_three min_three max_four min_four   -- for this text's walks alone
set_option linter.unusedVariables false
set_option linter.unusedSimpArgs false

/-! ### cooperagelaw9_as: function 11 -/
def cooperagelaw9_as.l0 : Nat → List (S43) → List (S53) → Int → Option ((List (S53)) × Bool)
 | 0, _, _, _ => none
 | k + 1, x0, x4, x5 => if x5 < (x0.length : Int) then (if 0 ≤ x5 then (if (((rd_T43 x0 x5).f2).size : Int) > 400 then (some (([] : List (S53)), false)) else (if x4.length < 4398046511104 then (cooperagelaw9_as.l0 k x0 (x4 ++ [(⟨(rd_T43 x0 x5).f0, (rd_T43 x0 x5).f1, (rd_T43 x0 x5).f2⟩ : S53)]) (wrap64 (x5 + 1))) else (none))) else (none)) else (some (x4, true))
def cooperagelaw9_as.f (k : Nat) (l0 : List (S43)) : Option ((List (S53)) × Bool) := if (l0.length : Int) > 60 then (some (([] : List (S53)), false)) else (cooperagelaw9_as.l0 k l0 ([] : List (S53)) 0)
theorem cooperagelaw9_as.mono_l : ∀ k, (∀ y0 y1 y2, LeO (cooperagelaw9_as.l0 k y0 y1 y2) (cooperagelaw9_as.l0 (k + 1) y0 y1 y2))
 | 0 => fun _ _ _ r h => by simp [cooperagelaw9_as.l0] at h
 | k + 1 => by
  have ih0 := cooperagelaw9_as.mono_l k
  ·intro y0 y1 y2
   unfold cooperagelaw9_as.l0
   repeat' first
   | (with_reducible exact ih0 _ _ _)
   | (with_reducible exact LeO.refl _)
   | (with_reducible exact LeO.none _)
   | (with_reducible refine LeO.ite ?_ ?_)
   | (with_reducible refine LeO.bind ?_ (fun _ => ?_))
   | exact ih0 _ _ _
   | exact LeO.none _
   | refine LeO.ite ?_ ?_
   | refine LeO.bind ?_ (fun _ => ?_)
theorem cooperagelaw9_as.mono : ∀ a0 k, LeO (cooperagelaw9_as.f k a0) (cooperagelaw9_as.f (k + 1) a0) := by
 intro a0 k
 have ih0 := cooperagelaw9_as.mono_l k
 unfold cooperagelaw9_as.f
 repeat' first
   | (with_reducible exact ih0 _ _ _)
   | (with_reducible exact LeO.refl _)
   | (with_reducible exact LeO.none _)
   | (with_reducible refine LeO.ite ?_ ?_)
   | (with_reducible refine LeO.bind ?_ (fun _ => ?_))
   | exact ih0 _ _ _
   | exact LeO.none _
   | refine LeO.ite ?_ ?_
   | refine LeO.bind ?_ (fun _ => ?_)
def cooperagelaw9_as.T9 : Bool × List (List Nat × List Nat) := (true, [([], []), ([], []), ([], []), ([1, 2], [1, 2]), ([3], [3]), ([4], [4]), ([], []), ([], []), ([6, 7], [6, 7]), ([8], [8]), ([9], [9]), ([], []), ([], []), ([11, 12], [11, 12]), ([13], [13]), ([14], [14]), ([5, 10, 15], [5, 10, 15]), ([16], [16]), ([0, 17], [0, 17]), ([18, 18, 0, 1, 2, 3, 4, 5, 6, 7, 8, 9, 10, 11, 12, 13, 14, 15, 16, 17, 18], [0, 18])])
def cooperagelaw9_as.B9 : List Nat := [0, 0, 0, 6, 14, 30, 0, 0, 192, 448, 960, 0, 0, 6144, 14336, 30720, 65534, 131070, 262143, 524287]
theorem cooperagelaw9_as.tab9 : rtab .any (opsOf Tryd.f11 9) = cooperagelaw9_as.T9 := by kernel_rfl
theorem cooperagelaw9_as.bits9 : waitsOk cooperagelaw9_as.T9.2 cooperagelaw9_as.B9 = true := by kernel_rfl
set_option maxHeartbeats 8000000 in
set_option maxRecDepth 100000 in
theorem cooperagelaw9_as.calls (k : Nat) (A0 : Option Addr) (c0 : Nat) (l0 : List (S43)) (r1 : List (S53)) (r2 : Bool) (w : World) (hr0 : Kd.C k43 w A0 l0.length l0) (hc0 : l0.length ≤ c0) (h : cooperagelaw9_as.f k l0 = some (r1, r2)) :
  Calls Tryd.prog 11 #[.slice A0 l0.length c0] w fun e w' => ∃ v0_ : Value, e = .returned (.tuple #[v0_, .bool r2]) ∧ Kd.R k53 53 w' w.heap.size (fun _ => True) v0_ r1 ∧ Below w.heap.size w w' := by
 have hu53 := Tryd.underlying53
 have HR0 := Aside0.mk hr0
 have HC0 := Aside0.mk hc0
 clear hr0 hc0
 have HB := Aside0.mk (Below.refl w.heap.size w)
 have H : (if (l0.length : Int) > 60 then (some (([] : List (S53)), false)) else (cooperagelaw9_as.l0 k l0 ([] : List (S53)) 0)) = some (r1, r2) := h
 clear h
 by_cases c2 : (l0.length : Int) > 60
 ·rw [if_pos c2] at H
  have c2b0 : decide (60 < (l0.length : Int)) = true := decide_eq_true c2
  have c2b1 : decide (60 < l0.length) = true := decide_eq_true (by omega)
  clear c2
  simp only [Option.some.injEq, Prod.mk.injEq] at H
  obtain ⟨rfl, rfl⟩ := H
  go_enter Tryd.func11, Tryd.ntmps11
  go_wp2
  go_ret2
  exact ⟨_, zE, by first | exact Kd.R_nil _ _ _ _ _ | exact Kd.N_nil _ _ _ _ _ | exact Kd.V_nil _ _ _ _ _ | exact Kd.Q_nil _ _ _ _ _ | exact Kd.S_nil _ _ _ _ _, zL HB.out⟩
 rw [if_neg c2] at H
 have c2b0 : decide (60 < (l0.length : Int)) = false := decide_eq_false c2
 have c2b1 : decide (60 < l0.length) = false := decide_eq_false (by omega)
 clear c2
 have H' := Aside0.mk H
 clear H
 go_enter Tryd.func11, Tryd.ntmps11
 go_wp2
 go_loopg [4, 5] k (fun kq v4 v5 w' => ∃ (x4_1 : List (S53)) (x5_1 : Int), v5 = .int .i64 x5_1 ∧ Aside0 (cooperagelaw9_as.l0 kq l0 x4_1 x5_1 = some (r1, r2)) ∧ Aside0 (kq ≤ k) ∧ Aside0 (Kd.R k53 53 w' w.heap.size (fun _ => True) v4 x4_1) ∧ Aside0 (Below w.heap.size w w'))
 case atStart => exact ⟨(([] : List (S53))), (0), zS, H', ⟨Nat.le_refl _⟩, ⟨by first | exact Kd.R_nil _ _ _ _ _ | exact Kd.N_nil _ _ _ _ _ | exact Kd.V_nil _ _ _ _ _ | exact Kd.Q_nil _ _ _ _ _ | exact Kd.S_nil _ _ _ _ _⟩, ⟨zL HB.out⟩⟩
 case round =>
  clear H'
  try clear c2
  try clear c2b0
  try clear c2b1
  obtain ⟨x4_1, x5_1, rfl, HA, HK1, HO_4, HB⟩ := hrel
  cases gk with
  | zero => exact absurd HA.out (by simp [cooperagelaw9_as.l0])
  | succ k1 =>
   have H := HA.out
   clear HA
   simp only [cooperagelaw9_as.l0] at H
   by_cases c3 : x5_1 < (l0.length : Int)
   ·rw [if_pos c3] at H
    have c3b0 := decide_eq_true c3
    clear c3
    by_cases c4 : 0 ≤ x5_1
    ·rw [if_pos c4] at H
     have c4b0 := decide_eq_true c4
     clear c4
     by_cases c5 : (((rd_T43 l0 x5_1).f2).size : Int) > 400
     ·rw [if_pos c5] at H
      have c5b0 : decide (400 < (((rd_T43 l0 x5_1).f2).size : Int)) = true := decide_eq_true c5
      have c5b1 : decide (400 < ((rd_T43 l0 x5_1).f2).size) = true := decide_eq_true (by omega)
      clear c5
      simp only [Option.some.injEq, Prod.mk.injEq] at H
      obtain ⟨rfl, rfl⟩ := H
      have p266 : 0 ≤ (x5_1 : Int) := zD
      have q266 : x5_1 < (l0.length : Int) := zD
      obtain ⟨ad266, e266, hx266_0, hx266_1, hx266_2⟩ := at_T43 HR0.out x5_1 p266 q266
      cases e266
      replace hx266_0 := zX HB.out hx266_0
      replace hx266_1 := zX HB.out hx266_1
      replace hx266_2 := zX HB.out hx266_2
      replace p266 := eq_true p266
      replace q266 := eq_true q266
      go_wp2
      go_ret2
      exact ⟨_, zE, by first | exact Kd.R_nil _ _ _ _ _ | exact Kd.N_nil _ _ _ _ _ | exact Kd.V_nil _ _ _ _ _ | exact Kd.Q_nil _ _ _ _ _ | exact Kd.S_nil _ _ _ _ _, zL HB.out⟩
     rw [if_neg c5] at H
     have c5b0 : decide (400 < (((rd_T43 l0 x5_1).f2).size : Int)) = false := decide_eq_false c5
     have c5b1 : decide (400 < ((rd_T43 l0 x5_1).f2).size) = false := decide_eq_false (by omega)
     clear c5
     by_cases c6 : x4_1.length < 4398046511104
     ·rw [if_pos c6] at H
      have LMc6 := Aside0.mk c6
      clear c6
      obtain ⟨y270, hy270⟩ : ∃ y_ : List (S53), y_ = (x4_1 ++ [(⟨(rd_T43 l0 x5_1).f0, (rd_T43 l0 x5_1).f1, (rd_T43 l0 x5_1).f2⟩ : S53)]) := ⟨_, rfl⟩
      replace H : (cooperagelaw9_as.l0 k1 l0 y270 (wrap64 (x5_1 + 1))) = some (r1, r2) := zH hy270 H
      have Ny270 := Aside0.mk hy270
      clear hy270
      have H' := Aside0.mk H
      clear H
      have p266 : 0 ≤ (x5_1 : Int) := zD
      have q266 : x5_1 < (l0.length : Int) := zD
      obtain ⟨ad266, e266, hx266_0, hx266_1, hx266_2⟩ := at_T43 HR0.out x5_1 p266 q266
      cases e266
      replace hx266_0 := zX HB.out hx266_0
      replace hx266_1 := zX HB.out hx266_1
      replace hx266_2 := zX HB.out hx266_2
      replace p266 := eq_true p266
      replace q266 := eq_true q266
      try go_wp2
      have n0_ := Aside0.mk (Kd.R_drew HO_4.out)
      have n1_ := Aside0.mk (below_drew1 HB.out)
      clear HO_4
      clear HB
      have HO_4 := n0_
      have HB := n1_
      clear n0_ n1_
      have p267 : 0 ≤ (x5_1 : Int) := zD
      have q267 : x5_1 < (l0.length : Int) := zD
      obtain ⟨ad267, e267, hx267_0, hx267_1, hx267_2⟩ := at_T43 HR0.out x5_1 p267 q267
      have hw267_2 := hx267_2
      have hw267_1 := hx267_1
      have hw267_0 := hx267_0
      obtain rfl : ad266 = ad267 := (by injection e267)
      replace hx267_0 := zX HB.out hx267_0
      replace hx267_1 := zX HB.out hx267_1
      replace hx267_2 := zX HB.out hx267_2
      replace p267 := eq_true p267
      replace q267 := eq_true q267
      have p268 : 0 ≤ (x5_1 : Int) := zD
      have q268 : x5_1 < (l0.length : Int) := zD
      obtain ⟨ad268, e268, hx268_0, hx268_1, hx268_2⟩ := at_T43 HR0.out x5_1 p268 q268
      have hw268_2 := hx268_2
      have hw268_1 := hx268_1
      have hw268_0 := hx268_0
      obtain rfl : ad266 = ad268 := (by injection e268)
      replace hx268_0 := zX HB.out hx268_0
      replace hx268_1 := zX HB.out hx268_1
      replace hx268_2 := zX HB.out hx268_2
      replace p268 := eq_true p268
      replace q268 := eq_true q268
      have p269 : 0 ≤ (x5_1 : Int) := zD
      have q269 : x5_1 < (l0.length : Int) := zD
      obtain ⟨ad269, e269, hx269_0, hx269_1, hx269_2⟩ := at_T43 HR0.out x5_1 p269 q269
      have hw269_2 := hx269_2
      have hw269_1 := hx269_1
      have hw269_0 := hx269_0
      obtain rfl : ad266 = ad269 := (by injection e269)
      replace hx269_0 := zX HB.out hx269_0
      replace hx269_1 := zX HB.out hx269_1
      replace hx269_2 := zX HB.out hx269_2
      replace p269 := eq_true p269
      replace q269 := eq_true q269
      refine start_ (n := 20) (S := fun w' => w'.cell? (ad266.add ((x5_1).toNat * 3)) = some (.int .i64 ((rd_T43 l0 x5_1).f0)) ∧ w'.cell? ⟨(ad266.add ((x5_1).toNat * 3)).block, (ad266.add ((x5_1).toNat * 3)).off + 1, none⟩ = some (.bool ((rd_T43 l0 x5_1).f1)) ∧ w'.cell? ⟨(ad266.add ((x5_1).toNat * 3)).block, (ad266.add ((x5_1).toNat * 3)).off + 2, none⟩ = some (.string ((rd_T43 l0 x5_1).f2)) ∧ w'.cell? (ad266.add ((x5_1).toNat * 3)) = some (.int .i64 ((rd_T43 l0 x5_1).f0)) ∧ w'.cell? ⟨(ad266.add ((x5_1).toNat * 3)).block, (ad266.add ((x5_1).toNat * 3)).off + 1, none⟩ = some (.bool ((rd_T43 l0 x5_1).f1)) ∧ w'.cell? ⟨(ad266.add ((x5_1).toNat * 3)).block, (ad266.add ((x5_1).toNat * 3)).off + 2, none⟩ = some (.string ((rd_T43 l0 x5_1).f2)) ∧ w'.cell? (ad266.add ((x5_1).toNat * 3)) = some (.int .i64 ((rd_T43 l0 x5_1).f0)) ∧ w'.cell? ⟨(ad266.add ((x5_1).toNat * 3)).block, (ad266.add ((x5_1).toNat * 3)).off + 1, none⟩ = some (.bool ((rd_T43 l0 x5_1).f1)) ∧ w'.cell? ⟨(ad266.add ((x5_1).toNat * 3)).block, (ad266.add ((x5_1).toNat * 3)).off + 2, none⟩ = some (.string ((rd_T43 l0 x5_1).f2))) (ds := []) #[false, false, false, false, false, false, false, false, false, false, false, false, false, false, false, false, false, false, false, false] (by kernel_rfl) rfl rfl ⟨(zX HB.out hw267_0), (zX HB.out hw267_1), (zX HB.out hw267_2), (zX HB.out hw268_0), (zX HB.out hw268_1), (zX HB.out hw268_2), (zX HB.out hw269_0), (zX HB.out hw269_1), (zX HB.out hw269_2)⟩ (fun hHeld => ?_); refine with_tabW cooperagelaw9_as.tab9 cooperagelaw9_as.bits9 (fun HT_ HW_ => ?_)
      generalize wr.drew = w7 at HO_4 HB hx267_0 hx267_1 hx267_2 hx268_0 hx268_1 hx268_2 hx269_0 hx269_1 hx269_2 hHeld ⊢
      refine pure_ (i := 0) (N := some 22) (v := ?_) (a' := ?_) #[true, false, false, false, false, false, false, false, false, false, false, false, false, false, false, false, false, false, false, false] rfl rfl (any_of HT_.out (by kernel_rfl)) (fun _ _ _ h => h) (Or.inl ⟨by rfl, ?_⟩) ?_ ?_
      rotate_left
      ·intro w'
       go_simp
       with_reducible rfl
      rotate_left
      ·simp only [Act.put, List.setIfInBounds_toArray, List.set_cons_zero, List.set_cons_succ, i64_w, i32_w]
       rfl
      refine pure_ (i := 1) (N := some 23) (v := ?_) (a' := ?_) #[true, true, false, false, false, false, false, false, false, false, false, false, false, false, false, false, false, false, false, false] rfl rfl (any_of HT_.out (by kernel_rfl)) (fun _ _ _ h => h) (Or.inl ⟨by rfl, ?_⟩) ?_ ?_
      rotate_left
      ·intro w'
       go_simp
       with_reducible rfl
      rotate_left
      ·simp only [Act.put, List.setIfInBounds_toArray, List.set_cons_zero, List.set_cons_succ, i64_w, i32_w]
       rfl
      refine pure_ (i := 2) (N := some 24) (v := ?_) (a' := ?_) #[true, true, true, false, false, false, false, false, false, false, false, false, false, false, false, false, false, false, false, false] rfl rfl (any_of HT_.out (by kernel_rfl)) (fun _ _ _ h => h) (Or.inl ⟨by rfl, ?_⟩) ?_ ?_
      rotate_left
      ·intro w'
       go_simp
       with_reducible rfl
      rotate_left
      ·simp only [Act.put, List.setIfInBounds_toArray, List.set_cons_zero, List.set_cons_succ, i64_w, i32_w]
       rfl
      refine pure_ (i := 3) (N := some 25) (v := ?_) (a' := ?_) #[true, true, true, true, false, false, false, false, false, false, false, false, false, false, false, false, false, false, false, false] rfl rfl (any_of HT_.out (by kernel_rfl)) (fun _ _ _ h => h) (Or.inl ⟨by rfl, ?_⟩) ?_ ?_
      rotate_left
      ·intro w'
       go_simp
       with_reducible rfl
      rotate_left
      ·simp only [Act.put, List.setIfInBounds_toArray, List.set_cons_zero, List.set_cons_succ, i64_w, i32_w]
       rfl
      refine pure_ (i := 4) (N := some 26) (v := ?_) (a' := ?_) #[true, true, true, true, true, false, false, false, false, false, false, false, false, false, false, false, false, false, false, false] rfl rfl (any_of HT_.out (by kernel_rfl)) (fun _ _ _ h => h) (Or.inl ⟨by rfl, ?_⟩) ?_ ?_
      rotate_left
      ·intro w'
       go_simp
       with_reducible rfl
      rotate_left
      ·simp only [Act.put, List.setIfInBounds_toArray, List.set_cons_zero, List.set_cons_succ, i64_w, i32_w]
       rfl
      refine pure_ (i := 6) (N := some 28) (v := ?_) (a' := ?_) #[true, true, true, true, true, false, true, false, false, false, false, false, false, false, false, false, false, false, false, false] rfl rfl (any_of HT_.out (by kernel_rfl)) (fun _ _ _ h => h) (Or.inl ⟨by rfl, ?_⟩) ?_ ?_
      rotate_left
      ·intro w'
       go_simp
       with_reducible rfl
      rotate_left
      ·simp only [Act.put, List.setIfInBounds_toArray, List.set_cons_zero, List.set_cons_succ, i64_w, i32_w]
       rfl
      refine pure_ (i := 7) (N := some 29) (v := ?_) (a' := ?_) #[true, true, true, true, true, false, true, true, false, false, false, false, false, false, false, false, false, false, false, false] rfl rfl (any_of HT_.out (by kernel_rfl)) (fun _ _ _ h => h) (Or.inl ⟨by rfl, ?_⟩) ?_ ?_
      rotate_left
      ·intro w'
       go_simp
       with_reducible rfl
      rotate_left
      ·simp only [Act.put, List.setIfInBounds_toArray, List.set_cons_zero, List.set_cons_succ, i64_w, i32_w]
       rfl
      refine pure_ (i := 8) (N := some 30) (v := ?_) (a' := ?_) #[true, true, true, true, true, false, true, true, true, false, false, false, false, false, false, false, false, false, false, false] rfl rfl (any_of HT_.out (by kernel_rfl)) (fun _ _ _ h => h) (Or.inl ⟨by rfl, ?_⟩) ?_ ?_
      rotate_left
      ·intro w'
       go_simp
       with_reducible rfl
      rotate_left
      ·simp only [Act.put, List.setIfInBounds_toArray, List.set_cons_zero, List.set_cons_succ, i64_w, i32_w]
       rfl
      refine pure_ (i := 9) (N := some 31) (v := ?_) (a' := ?_) #[true, true, true, true, true, false, true, true, true, true, false, false, false, false, false, false, false, false, false, false] rfl rfl (any_of HT_.out (by kernel_rfl)) (fun _ _ _ h => h) (Or.inl ⟨by rfl, ?_⟩) ?_ ?_
      rotate_left
      ·intro w'
       go_simp
       with_reducible rfl
      rotate_left
      ·simp only [Act.put, List.setIfInBounds_toArray, List.set_cons_zero, List.set_cons_succ, i64_w, i32_w]
       rfl
      refine pure_ (i := 11) (N := some 33) (v := ?_) (a' := ?_) #[true, true, true, true, true, false, true, true, true, true, false, true, false, false, false, false, false, false, false, false] rfl rfl (any_of HT_.out (by kernel_rfl)) (fun _ _ _ h => h) (Or.inl ⟨by rfl, ?_⟩) ?_ ?_
      rotate_left
      ·intro w'
       go_simp
       with_reducible rfl
      rotate_left
      ·simp only [Act.put, List.setIfInBounds_toArray, List.set_cons_zero, List.set_cons_succ, i64_w, i32_w]
       rfl
      refine pure_ (i := 12) (N := some 34) (v := ?_) (a' := ?_) #[true, true, true, true, true, false, true, true, true, true, false, true, true, false, false, false, false, false, false, false] rfl rfl (any_of HT_.out (by kernel_rfl)) (fun _ _ _ h => h) (Or.inl ⟨by rfl, ?_⟩) ?_ ?_
      rotate_left
      ·intro w'
       go_simp
       with_reducible rfl
      rotate_left
      ·simp only [Act.put, List.setIfInBounds_toArray, List.set_cons_zero, List.set_cons_succ, i64_w, i32_w]
       rfl
      refine pure_ (i := 13) (N := some 35) (v := ?_) (a' := ?_) #[true, true, true, true, true, false, true, true, true, true, false, true, true, true, false, false, false, false, false, false] rfl rfl (any_of HT_.out (by kernel_rfl)) (fun _ _ _ h => h) (Or.inl ⟨by rfl, ?_⟩) ?_ ?_
      rotate_left
      ·intro w'
       go_simp
       with_reducible rfl
      rotate_left
      ·simp only [Act.put, List.setIfInBounds_toArray, List.set_cons_zero, List.set_cons_succ, i64_w, i32_w]
       rfl
      refine pure_ (i := 14) (N := some 36) (v := ?_) (a' := ?_) #[true, true, true, true, true, false, true, true, true, true, false, true, true, true, true, false, false, false, false, false] rfl rfl (any_of HT_.out (by kernel_rfl)) (fun _ _ _ h => h) (Or.inl ⟨by rfl, ?_⟩) ?_ ?_
      rotate_left
      ·intro w'
       go_simp
       with_reducible rfl
      rotate_left
      ·simp only [Act.put, List.setIfInBounds_toArray, List.set_cons_zero, List.set_cons_succ, i64_w, i32_w]
       rfl
      refine take_ (i := 5) (N := some 27) (v := ?_) (a' := ?_) #[true, true, true, true, true, true, true, true, true, true, false, true, true, true, true, false, false, false, false, false] rfl rfl (take_ofW HT_.out HW_.out (by kernel_rfl)) (fun _ _ _ h => h) (Or.inl ⟨by rfl, ?_⟩) hHeld ?_ ?_
      rotate_left
      ·rintro w' ⟨s0, s1, s2, s3, s4, s5, s6, s7, s8⟩
       go_simp
       with_reducible rfl
      rotate_left
      ·simp only [Act.put, List.setIfInBounds_toArray, List.set_cons_zero, List.set_cons_succ, i64_w, i32_w]
       rfl
      refine take_ (i := 10) (N := some 32) (v := ?_) (a' := ?_) #[true, true, true, true, true, true, true, true, true, true, true, true, true, true, true, false, false, false, false, false] rfl rfl (take_ofW HT_.out HW_.out (by kernel_rfl)) (fun _ _ _ h => h) (Or.inl ⟨by rfl, ?_⟩) hHeld ?_ ?_
      rotate_left
      ·rintro w' ⟨s0, s1, s2, s3, s4, s5, s6, s7, s8⟩
       go_simp
       with_reducible rfl
      rotate_left
      ·simp only [Act.put, List.setIfInBounds_toArray, List.set_cons_zero, List.set_cons_succ, i64_w, i32_w]
       rfl
      refine take_ (i := 15) (N := some 37) (v := ?_) (a' := ?_) #[true, true, true, true, true, true, true, true, true, true, true, true, true, true, true, true, false, false, false, false] rfl rfl (take_ofW HT_.out HW_.out (by kernel_rfl)) (fun _ _ _ h => h) (Or.inl ⟨by rfl, ?_⟩) hHeld ?_ ?_
      rotate_left
      ·rintro w' ⟨s0, s1, s2, s3, s4, s5, s6, s7, s8⟩
       go_simp
       with_reducible rfl
      rotate_left
      ·simp only [Act.put, List.setIfInBounds_toArray, List.set_cons_zero, List.set_cons_succ, i64_w, i32_w]
       rfl
      refine pure_ (i := 16) (N := some 38) (v := ?_) (a' := ?_) #[true, true, true, true, true, true, true, true, true, true, true, true, true, true, true, true, true, false, false, false] rfl rfl (any_of HT_.out (by kernel_rfl)) (fun _ _ _ h => h) (Or.inl ⟨by rfl, ?_⟩) ?_ ?_
      rotate_left
      ·intro w'
       go_simp
       with_reducible rfl
      rotate_left
      ·simp only [Act.put, List.setIfInBounds_toArray, List.set_cons_zero, List.set_cons_succ, i64_w, i32_w]
       rfl
      refine one_ (i := 17) (N := some 39) #[true, true, true, true, true, true, true, true, true, true, true, true, true, true, true, true, true, true, false, false] rfl rfl (one_of HT_.out (by kernel_rfl)) (by decide) (fun K hK => ?_)
      refine value_ (w1 := ?_) (v := ?_) (by rfl) rfl ?_ ?_
      rotate_left 2
      ·go_simp
       constructor
       ·rfl
       ·rfl
      refine hK.out _ _ ⟨(World.cell?_alloc_lt _ _ _ (World.block_lt_of_cell? _ _ ((zX HB.out hw267_0)))).trans ((zX HB.out hw267_0)), (World.cell?_alloc_lt _ _ _ (World.block_lt_of_cell? _ _ ((zX HB.out hw267_1)))).trans ((zX HB.out hw267_1)), (World.cell?_alloc_lt _ _ _ (World.block_lt_of_cell? _ _ ((zX HB.out hw267_2)))).trans ((zX HB.out hw267_2)), (World.cell?_alloc_lt _ _ _ (World.block_lt_of_cell? _ _ ((zX HB.out hw268_0)))).trans ((zX HB.out hw268_0)), (World.cell?_alloc_lt _ _ _ (World.block_lt_of_cell? _ _ ((zX HB.out hw268_1)))).trans ((zX HB.out hw268_1)), (World.cell?_alloc_lt _ _ _ (World.block_lt_of_cell? _ _ ((zX HB.out hw268_2)))).trans ((zX HB.out hw268_2)), (World.cell?_alloc_lt _ _ _ (World.block_lt_of_cell? _ _ ((zX HB.out hw269_0)))).trans ((zX HB.out hw269_0)), (World.cell?_alloc_lt _ _ _ (World.block_lt_of_cell? _ _ ((zX HB.out hw269_1)))).trans ((zX HB.out hw269_1)), (World.cell?_alloc_lt _ _ _ (World.block_lt_of_cell? _ _ ((zX HB.out hw269_2)))).trans ((zX HB.out hw269_2))⟩ (fun hHeld => ?_)
      clear hK K
      refine norm_ (a' := ?_) ?_ ?_
      rotate_left
      ·show Act.put _ (some 39) _ = _
       simp only [Act.put, List.setIfInBounds_toArray, List.set_cons_zero, List.set_cons_succ, i64_w, i32_w]
       rfl
      refine one_ (i := 18) (N := some 40) #[true, true, true, true, true, true, true, true, true, true, true, true, true, true, true, true, true, true, true, false] rfl rfl (one_of HT_.out (by kernel_rfl)) (by decide) (fun K hK => ?_)
      refine Kd.R_append_step k53 (w0 := w) w.heap.size (by rfl) (.tmp 22) (.tmp 39) 24 53 (.agg #[(.int .i64 0), (.bool false), (.string ⟨#[]⟩)]) 32 rfl Tryd.underlying24 info53 rfl (by decide) (by omega) u4 x4_1 (⟨(rd_T43 l0 x5_1).f0, (rd_T43 l0 x5_1).f1, (rd_T43 l0 x5_1).f2⟩ : S53) [.int .i64 ((rd_T43 l0 x5_1).f0), .bool ((rd_T43 l0 x5_1).f1), .string ((rd_T43 l0 x5_1).f2)] (fun _ => True) (fun _ => False) rfl rfl ?aP (fun _ hk => hk.elim) ?aF ?aO ?aB ?aS ?aL ?_
      (case aP => exact k53_mkM _ _ _ (⟨(rd_T43 l0 x5_1).f0, (rd_T43 l0 x5_1).f1, (rd_T43 l0 x5_1).f2⟩ : S53))
      (case aB => exact (zL HB.out))
      (case aF => exact (fun _ _ => trivial))
      (case aO => exact (zR HO_4.out))
      (case aS => exact (below_size (zL HB.out)))
      (case aL => have := LMc6.out; omega)
      intro v271 w8 ho hb hg hat
      rw [← Ny270.out] at ho
      have n0_ := Aside0.mk (hb)
      have n1_ := Aside0.mk (ho)
      clear HB
      clear HO_4
      have HB := n0_
      have HO272 := n1_
      clear n0_ n1_
      clear ho hb hg hat
      refine hK.out _ _ ⟨(zX HB.out hw267_0), (zX HB.out hw267_1), (zX HB.out hw267_2), (zX HB.out hw268_0), (zX HB.out hw268_1), (zX HB.out hw268_2), (zX HB.out hw269_0), (zX HB.out hw269_1), (zX HB.out hw269_2)⟩ (fun hHeld => ?_)
      clear hK K
      refine norm_ (a' := ?_) ?_ ?_
      rotate_left
      ·show Act.put _ (some 40) _ = _
       simp only [Act.put, List.setIfInBounds_toArray, List.set_cons_zero, List.set_cons_succ, i64_w, i32_w]
       rfl
      refine pure_ (i := 19) (N := some 4) (v := ?_) (a' := ?_) #[true, true, true, true, true, true, true, true, true, true, true, true, true, true, true, true, true, true, true, true] rfl rfl (any_of HT_.out (by kernel_rfl)) (fun _ _ _ h => h) (Or.inl ⟨by rfl, ?_⟩) ?_ ?_
      rotate_left
      ·intro w'
       go_simp
       with_reducible rfl
      rotate_left
      ·simp only [Act.put, List.setIfInBounds_toArray, List.set_cons_zero, List.set_cons_succ, i64_w, i32_w]
       rfl
      refine done_ (done_of HT_.out (by kernel_rfl)) ?_
      try go_wp2
      go_roundg k1
      case measure => have := HK1.out; omega
      case rel => exact ⟨(y270), (wrap64 (x5_1 + 1)), zS, H', ⟨by have := HK1.out; omega⟩, ⟨by (with_reducible repeat (first | apply Kd.R_alloc | apply Kd.R_drewN | apply Kd.R_drew)); exact HO272.out⟩, ⟨zL HB.out⟩⟩
     rw [if_neg c6] at H
     exact absurd H (by simp)
    rw [if_neg c4] at H
    exact absurd H (by simp)
   rw [if_neg c3] at H
   have c3b0 := decide_eq_false c3
   clear c3
   simp only [Option.some.injEq, Prod.mk.injEq] at H
   obtain ⟨rfl, rfl⟩ := H
   go_wp2
   go_ret2
   exact ⟨_, zE, by (with_reducible repeat (first | apply Kd.R_alloc | apply Kd.R_drewN | apply Kd.R_drew)); exact HO_4.out, zL HB.out⟩

end Go.Proofs.YthnholondnfjoaaDoor.PParse
