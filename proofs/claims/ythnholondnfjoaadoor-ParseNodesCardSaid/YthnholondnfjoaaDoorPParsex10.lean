-- Written by a program of this session (wip/tools/ext.py, over the kit's printer); not trusted: Lean checks it.
import Derived.Test.YthnholondnfjoaaDoorPParsex0
namespace Go.Proofs.YthnholondnfjoaaDoor.PParse
open Go.RowKit Go.Proofs.YthnholondnfjoaaDoorW.PrintWords Go.Proofs.YthnholondnfjoaaDoorW.PrintLast Go.Proofs.YthnholondnfjoaaDoorW.PrintMore
attribute [local go_sem] max2_int min2_int max_two min_two max_three min_three max_four min_four
set_option linter.unusedVariables false
set_option linter.unusedSimpArgs false
set_option maxHeartbeats 8000000
set_option maxRecDepth 100000

/-! ### cooperageref9_outside: function 29 -/
mutual
def cooperageref9_outside.l0 : Nat → ByteArray → List Bool → List Int → Int → Option (List Bool)
 | 0, _, _, _, _ => none
 | k + 1, x0, x3, x4, x5 => if x5 < (x0.size : Int) then (if 0 ≤ x5 then (if (bt x0 x5) = 36 then (if (wrap64 (x5 + 1)) < (x0.size : Int) then (if 0 ≤ (wrap64 (x5 + 1)) then (if (bt x0 (wrap64 (x5 + 1))) = 40 then (cooperageref9_outside.j1 k x0 x3 x4 x5 true) else (cooperageref9_outside.j1 k x0 x3 x4 x5 ((bt x0 (wrap64 (x5 + 1))) == 123))) else (none)) else (cooperageref9_outside.j1 k x0 x3 x4 x5 false)) else (cooperageref9_outside.j1 k x0 x3 x4 x5 false)) else (none)) else (some x3)
def cooperageref9_outside.j1 : Nat → ByteArray → List Bool → List Int → Int → Bool → Option (List Bool)
 | 0, _, _, _, _, _ => none
 | k + 1, x0, x3, x4, x5, x40 => if x40 = true then (if 0 ≤ (wrap64 (x5 + 1)) then (if (wrap64 (x5 + 1)) < (x0.size : Int) then (if (bt x0 (wrap64 (x5 + 1))) = 123 then (if x4.length < 140737488355328 then (cooperageref9_outside.l0 k x0 x3 (x4 ++ [125]) (wrap64 ((wrap64 (x5 + 1)) + 1))) else (none)) else (if x4.length < 140737488355328 then (cooperageref9_outside.l0 k x0 x3 (x4 ++ [41]) (wrap64 ((wrap64 (x5 + 1)) + 1))) else (none))) else (none)) else (none)) else (if (x4.length : Int) > 0 then (if 0 ≤ x5 then (if x5 < (x0.size : Int) then (if 0 ≤ (wrap64 ((x4.length : Int) - 1)) then (if (wrap64 ((x4.length : Int) - 1)) < (x4.length : Int) then (if (bt x0 x5) = (rd x4 (wrap64 ((x4.length : Int) - 1))) then (if (wrap64 ((x4.length : Int) - 1)) ≤ (x4.length : Int) then (cooperageref9_outside.l0 k x0 x3 (x4.take ((wrap64 ((x4.length : Int) - 1)) : Int).toNat) (wrap64 (x5 + 1))) else (none)) else (if x5 < (x3.length : Int) then (cooperageref9_outside.l0 k x0 (x3.set (x5 : Int).toNat ((x4.length : Int) == 0)) x4 (wrap64 (x5 + 1))) else (none))) else (none)) else (none)) else (none)) else (none)) else (if 0 ≤ x5 then (if x5 < (x3.length : Int) then (cooperageref9_outside.l0 k x0 (x3.set (x5 : Int).toNat ((x4.length : Int) == 0)) x4 (wrap64 (x5 + 1))) else (none)) else (none)))
end
def cooperageref9_outside.f (k : Nat) (a0 : ByteArray) : Option (List Bool) := if 0 ≤ (a0.size : Int) then (if ((a0.size : Int) : Int).toNat ≤ 281474976710656 then (cooperageref9_outside.l0 k a0 (List.replicate ((a0.size : Int) : Int).toNat false) ([] : List Int) 0) else (none)) else (none)
theorem cooperageref9_outside.mono_l : ∀ k, (∀ y0 y1 y2 y3, LeO (cooperageref9_outside.l0 k y0 y1 y2 y3) (cooperageref9_outside.l0 (k + 1) y0 y1 y2 y3)) ∧ (∀ y0 y1 y2 y3 y4, LeO (cooperageref9_outside.j1 k y0 y1 y2 y3 y4) (cooperageref9_outside.j1 (k + 1) y0 y1 y2 y3 y4))
 | 0 => ⟨fun _ _ _ _ r h => by simp [cooperageref9_outside.l0] at h, fun _ _ _ _ _ r h => by simp [cooperageref9_outside.j1] at h⟩
 | k + 1 => by
  obtain ⟨ih0, ih1⟩ := cooperageref9_outside.mono_l k
  refine ⟨?_, ?_⟩
  ·intros
   unfold cooperageref9_outside.l0
   exact zLe
  ·intros
   unfold cooperageref9_outside.j1
   exact zLe
theorem cooperageref9_outside.mono : ∀ a0 k, LeO (cooperageref9_outside.f k a0) (cooperageref9_outside.f (k + 1) a0) := by
 intro a0 k
 obtain ⟨ih0, ih1⟩ := cooperageref9_outside.mono_l k
 unfold cooperageref9_outside.f
 exact zLe
theorem cooperageref9_outside.calls (k : Nat) (a0 : ByteArray) (r : List Bool) (w : World) (h : cooperageref9_outside.f k a0 = some r) :
  Calls Tryd.prog 29 #[.string a0] w fun e w' => ∃ v0_ : Value, e = .returned (v0_) ∧ Kd.R Kd.bool 4 w' w.heap.size (fun _ => True) v0_ r ∧ Below w.heap.size w w' := by
 have HB := ka (Below.refl w.heap.size w)
 have H : (if 0 ≤ (a0.size : Int) then (if ((a0.size : Int) : Int).toNat ≤ 281474976710656 then (cooperageref9_outside.l0 k a0 (List.replicate ((a0.size : Int) : Int).toNat false) ([] : List Int) 0) else (none)) else (none)) = some r := h
 clear h
 replace H := zif H
 obtain ⟨c2, H⟩ := H
 have c2b0 := eq_true c2
 have c2b1 := zdt c2
 clear c2
 replace H := zif H
 obtain ⟨c3, H⟩ := H
 have c3b0 := eq_true c3
 try (have c3b0s := c3b0; simp only [ByteArray.size_append, Int.natCast_add, Int.toNat_natCast] at c3b0s)
 have c3b1 := zdt c3
 try (have c3b1s := c3b1; simp only [ByteArray.size_append, Int.natCast_add, Int.toNat_natCast] at c3b1s)
 clear c3
 obtain ⟨y266, hy266⟩ : ∃ y_ : List Bool, y_ = (List.replicate ((a0.size : Int) : Int).toNat false) := ⟨_, rfl⟩
 replace H : (cooperageref9_outside.l0 k a0 y266 ([] : List Int) 0) = some r := zH hy266 H
 have Ny266 := ka hy266
 clear hy266
 have H' := ka H
 clear H
 go_enter Tryd.func29, Tryd.ntmps29
 have F_ := trivial
 repeat ((first | clear F_ | go_quiet (fail)); try go_wp2_with (first | ((with_reducible refine gate_dst (N := 9) rfl ?_); (try (refine gate_guard (by rfl) ?_; dsimp only)); refine Kd.R_make Kd.bool _ 4 rfl (N := 9) rfl 54 _ _ rfl (a0.size : Int) rfl rfl Tryd.underlying54 (.bool false) 1 info4 rfl (by decide) (by omega) false (ok := fun _ => True) (okp := fun _ => True) rfl (fun _ hk => hk) trivial zD (Nat.le_trans (Nat.mul_le_mul_right _ (zD : (a0.size : Int).toNat ≤ 281474976710656)) (by omega)) (Below.refl _ _) (Nat.le_refl _) ?_; intro v267 w4 ho5 hb hg_ hnew_; clear hg_ hnew_; (first | rw [← Ny266.out] at ho5 | (simp only [Int.reduceToNat] at ho5; rw [← Ny266.out] at ho5)); have HO268 := ka (Kd.R_lower ho5 (below_size (zL HB.out))); replace HB := ka (below_step (zL HB.out) hb); clear hb ho5)))
 go_loopg [4, 5] k (fun kq v4 v5 w' => ∃ (x3_1 : List Bool) (x4_1 : List Int) (x5_1 : Int), v5 = .int .i64 x5_1 ∧ Aside0 (cooperageref9_outside.l0 kq a0 x3_1 x4_1 x5_1 = some r) ∧ Aside0 (kq ≤ k) ∧ Aside0 (Kd.R Kd.bool 4 w' w.heap.size (fun _ => True) v267 x3_1) ∧ Aside0 (Kd.R (Kd.int .u8) 5 w' w.heap.size (fun _ => True) v4 x4_1) ∧ Aside0 (Below w.heap.size w w'))
 case atStart => exact ⟨(y266), (([] : List Int)), (0), zS, H', ⟨Nat.le_refl _⟩, ⟨zR HO268.out⟩, ⟨zNl⟩, ⟨zL HB.out⟩⟩
 case round =>
  clear H'
  try clear c2
  try clear c2b0
  try clear c2b1
  try clear c3
  try clear c3b0
  try clear c3b1
  obtain ⟨x3_1, x4_1, x5_1, rfl, HA, HK1, HO_3, HO_4, HB⟩ := hrel
  cases gk with
  | zero => exact absurd HA.out (by simp [cooperageref9_outside.l0])
  | succ k1 =>
   have H := HA.out
   clear HA
   simp only [cooperageref9_outside.l0] at H
   by_cases c6 : x5_1 < (a0.size : Int)
   ·rw [if_pos c6] at H
    have c6b0 := zdt c6
    clear c6
    have HC7 := ka H
    clear H
    go_upto_region 6 with (fail)
    repeat (go_quiet (fail); go_upto_region 6 with (fail))
    go_cut [40] (fun v40 wc => ∃ (kq : Nat) (x40_6 : Bool), v40 = .bool x40_6 ∧ Aside0 (cooperageref9_outside.j1 kq a0 x3_1 x4_1 x5_1 x40_6 = some r) ∧ Aside0 (kq ≤ k1) ∧ Aside0 (Kd.R Kd.bool 4 wc w.heap.size (fun _ => True) v267 x3_1) ∧ Aside0 (Kd.R (Kd.int .u8) 5 wc w.heap.size (fun _ => True) u4 x4_1) ∧ Aside0 (Below w.heap.size w wc))
    case first =>
     have H := HC7.out
     clear HC7
     by_cases c8 : 0 ≤ x5_1
     case neg =>
      rw [if_neg c8] at H
      exact absurd H (by simp)
     case' pos =>
      rw [if_pos c8] at H
      have c8b0 := zdt c8
      clear c8
      (first | rw [c8b0] | (simp only [i64_w, i32_w]; rw [c8b0]) | rw [isE_ c8b0] | skip)
      by_cases c10 : (bt a0 x5_1) = 36
      case' neg =>
       rw [if_neg c10] at H
       have c10b0 := zn0 c10
       have c10b1 := zn1 c10
      case' pos =>
       rw [if_pos c10] at H
       have c10b0 := zb0 c10
       have c10b1 := zb1 c10
       clear c10
       by_cases c11 : (wrap64 (x5_1 + 1)) < (a0.size : Int)
       case pos =>
        rw [if_pos c11] at H
        have c11b0 := zdt c11
        clear c11
        obtain ⟨ji12, hji12⟩ : ∃ j_ : Int, (wrap64 (x5_1 + 1)) = j_ := ⟨_, rfl⟩
        replace H : (if 0 ≤ (ji12) then (if (bt a0 (ji12)) = 40 then (cooperageref9_outside.j1 k1 a0 x3_1 x4_1 x5_1 true) else (cooperageref9_outside.j1 k1 a0 x3_1 x4_1 x5_1 ((bt a0 (ji12)) == 123))) else (none)) = some r := by first | (rw [hji12] at H; exact H) | (simp only [hji12] at H ⊢; exact H)
        (try rw [hji12] at c11b0)
        have hji12w : (IntKind.i64.wrap (x5_1 + 1)) = ji12 := (i64_w _).trans hji12
        by_cases c13 : 0 ≤ (ji12)
        ·rw [if_pos c13] at H
         have c13b0 := zdt c13
         clear c13
         by_cases c15 : (bt a0 (ji12)) = 40
         ·rw [if_pos c15] at H
          have c15b0 := zb0 c15
          have c15b1 := zb1 c15
          clear c15
          have H' := ka H
          clear H
          have p9 : 0 ≤ (x5_1 : Int) := zD
          have q9 : x5_1 < (a0.size : Int) := zD
          have hx9 := bt_at a0 x5_1
          replace p9 := eq_true p9
          replace q9 := eq_true q9
          have p14 : 0 ≤ ((ji12) : Int) := zD
          have q14 : (ji12) < (a0.size : Int) := zD
          have hx14 := bt_at a0 (ji12)
          replace p14 := eq_true p14
          replace q14 := eq_true q14
          go_wp2
          repeat (go_quiet (fail); try go_wp2)
          go_meet
          case rel => exact ⟨_, (true), zS, H', ⟨by have := HK1.out; first | omega | exact Nat.le_refl _⟩, ⟨zR HO_3.out⟩, ⟨zR HO_4.out⟩, ⟨zL HB.out⟩⟩
         ·rw [if_neg c15] at H
          have c15b0 := zn0 c15
          have c15b1 := zn1 c15
          have H' := ka H
          clear H
          have p9 : 0 ≤ (x5_1 : Int) := zD
          have q9 : x5_1 < (a0.size : Int) := zD
          have hx9 := bt_at a0 x5_1
          replace p9 := eq_true p9
          replace q9 := eq_true q9
          have p14 : 0 ≤ ((ji12) : Int) := zD
          have q14 : (ji12) < (a0.size : Int) := zD
          have hx14 := bt_at a0 (ji12)
          replace p14 := eq_true p14
          replace q14 := eq_true q14
          have p16 : 0 ≤ ((ji12) : Int) := zD
          have q16 : (ji12) < (a0.size : Int) := zD
          have hx16 := bt_at a0 (ji12)
          replace p16 := eq_true p16
          replace q16 := eq_true q16
          go_wp2
          repeat (go_quiet (fail); try go_wp2)
          go_meet
          case rel => exact ⟨_, (((bt a0 (ji12)) == 123)), (by first | rfl | (simp; done) | (simp only [← hji12] <;> (first | rfl | simp)) | (simp [*]; done)), H', ⟨by have := HK1.out; first | omega | exact Nat.le_refl _⟩, ⟨zR HO_3.out⟩, ⟨zR HO_4.out⟩, ⟨zL HB.out⟩⟩
        ·rw [if_neg c13] at H
         exact absurd H (by simp)
       case' neg =>
        rw [if_neg c11] at H
        have c11b0 := zdf c11
        clear c11
     all_goals
      have H' := ka H
      clear H
      have p9 : 0 ≤ (x5_1 : Int) := zD
      have q9 : x5_1 < (a0.size : Int) := zD
      have hx9 := bt_at a0 x5_1
      replace p9 := eq_true p9
      replace q9 := eq_true q9
      go_wp2
      repeat (go_quiet (fail); try go_wp2)
      go_meet
      case rel => exact ⟨_, (false), zS, H', ⟨by have := HK1.out; first | omega | exact Nat.le_refl _⟩, ⟨zR HO_3.out⟩, ⟨zR HO_4.out⟩, ⟨zL HB.out⟩⟩
    case rest =>
     clear HC7
     try clear c2
     try clear c2b0
     try clear c2b1
     try clear c3
     try clear c3b0
     try clear c3b1
     try clear c6
     try clear c6b0
     obtain ⟨kq, x40_6, rfl, HA, HJ6, HO_3, HO_4, HB⟩ := hcut
     cases kq with
     | zero => exact absurd HA.out (by simp [cooperageref9_outside.j1])
     | succ kj6 =>
      have H := HA.out
      clear HA
      simp only [cooperageref9_outside.j1] at H
      by_cases c17 : x40_6 = true
      ·subst c17
       rw [if_pos rfl] at H
       obtain ⟨ji18, hji18⟩ : ∃ j_ : Int, (wrap64 (x5_1 + 1)) = j_ := ⟨_, rfl⟩
       replace H : (if 0 ≤ (ji18) then (if (ji18) < (a0.size : Int) then (if (bt a0 (ji18)) = 123 then (if x4_1.length < 140737488355328 then (cooperageref9_outside.l0 kj6 a0 x3_1 (x4_1 ++ [125]) (wrap64 ((ji18) + 1))) else (none)) else (if x4_1.length < 140737488355328 then (cooperageref9_outside.l0 kj6 a0 x3_1 (x4_1 ++ [41]) (wrap64 ((ji18) + 1))) else (none))) else (none)) else (none)) = some r := by first | (rw [hji18] at H; exact H) | (simp only [hji18] at H ⊢; exact H)
       have hji18w : (IntKind.i64.wrap (x5_1 + 1)) = ji18 := (i64_w _).trans hji18
       replace H := zif H
       obtain ⟨c19, H⟩ := H
       have c19b0 := zdt c19
       clear c19
       replace H := zif H
       obtain ⟨c20, H⟩ := H
       have c20b0 := zdt c20
       clear c20
       by_cases c22 : (bt a0 (ji18)) = 123
       ·rw [if_pos c22] at H
        have c22b0 := zb0 c22
        have c22b1 := zb1 c22
        clear c22
        replace H := zif H
        obtain ⟨c23, H⟩ := H
        have LMc23 := ka c23
        clear c23
        obtain ⟨y269, hy269⟩ : ∃ y_ : List Int, y_ = (x4_1 ++ [125]) := ⟨_, rfl⟩
        replace H : (cooperageref9_outside.l0 kj6 a0 x3_1 y269 (wrap64 ((ji18) + 1))) = some r := zH hy269 H
        have Ny269 := ka hy269
        clear hy269
        have H' := ka H
        clear H
        have p21 : 0 ≤ ((ji18) : Int) := zD
        have q21 : (ji18) < (a0.size : Int) := zD
        have hx21 := bt_at a0 (ji18)
        replace p21 := eq_true p21
        replace q21 := eq_true q21
        have F_ := trivial
        repeat ((first | clear F_ | go_quiet (fail)); try go_wp2_with (first | ((with_reducible refine gate_builtin (b := .append) (xs := #[.tmp 46, .tmp 48]) rfl ?_); (try (refine gate_guard (by rfl) ?_; dsimp only)); at_builtin; refine Kd.R_append (Kd.int .u8) (w0 := w) w.heap.size rfl (.tmp 46) (.tmp 48) 67 5 (.int .u8 0) 1 rfl Tryd.underlying67 info5 rfl (by decide) (by omega) u4 x4_1 125 [.int .u8 125] (fun _ => True) (fun _ => False) rfl rfl ?aP (fun _ hk => hk.elim) ?aF ?aO ?aB ?aS ?aL ?_; (case aP => exact rfl); (case aB => exact (zL HB.out)); (case aF => exact (fun _ _ => trivial)); (case aO => exact (zR HO_4.out)); (case aS => exact (below_size (zL HB.out))); (case aL => have := LMc23.out; omega); intro v270 w24 ho hb hg hat; rw [← Ny269.out] at ho; replace HO_3 := ka (Kd.R_over' (zR HO_3.out) (Kd.R_typed (zR HO_4.out)) (by decide) hg); replace HB := ka (hb); have HO271 := ka (ho); clear HO_4; clear ho hb hg hat)))
        go_roundg kj6
        case measure => have := HK1.out; have := HJ6.out; omega
        case rel => exact ⟨(x3_1), (y269), (wrap64 ((ji18) + 1)), (by first | rfl | (simp; done) | (simp only [← hji18] <;> (first | rfl | simp)) | (simp [*]; done)), H', ⟨by have := HK1.out; have := HJ6.out; omega⟩, ⟨zR HO_3.out⟩, ⟨zR HO271.out⟩, ⟨zL HB.out⟩⟩
       rw [if_neg c22] at H
       have c22b0 := zn0 c22
       have c22b1 := zn1 c22
       replace H := zif H
       obtain ⟨c25, H⟩ := H
       have LMc25 := ka c25
       clear c25
       obtain ⟨y272, hy272⟩ : ∃ y_ : List Int, y_ = (x4_1 ++ [41]) := ⟨_, rfl⟩
       replace H : (cooperageref9_outside.l0 kj6 a0 x3_1 y272 (wrap64 ((ji18) + 1))) = some r := zH hy272 H
       have Ny272 := ka hy272
       clear hy272
       have H' := ka H
       clear H
       have p21 : 0 ≤ ((ji18) : Int) := zD
       have q21 : (ji18) < (a0.size : Int) := zD
       have hx21 := bt_at a0 (ji18)
       replace p21 := eq_true p21
       replace q21 := eq_true q21
       have F_ := trivial
       repeat ((first | clear F_ | go_quiet (fail)); try go_wp2_with (first | ((with_reducible refine gate_builtin (b := .append) (xs := #[.tmp 46, .tmp 48]) rfl ?_); (try (refine gate_guard (by rfl) ?_; dsimp only)); at_builtin; refine Kd.R_append (Kd.int .u8) (w0 := w) w.heap.size rfl (.tmp 46) (.tmp 48) 67 5 (.int .u8 0) 1 rfl Tryd.underlying67 info5 rfl (by decide) (by omega) u4 x4_1 41 [.int .u8 41] (fun _ => True) (fun _ => False) rfl rfl ?aP (fun _ hk => hk.elim) ?aF ?aO ?aB ?aS ?aL ?_; (case aP => exact rfl); (case aB => exact (zL HB.out)); (case aF => exact (fun _ _ => trivial)); (case aO => exact (zR HO_4.out)); (case aS => exact (below_size (zL HB.out))); (case aL => have := LMc25.out; omega); intro v273 w26 ho hb hg hat; rw [← Ny272.out] at ho; replace HO_3 := ka (Kd.R_over' (zR HO_3.out) (Kd.R_typed (zR HO_4.out)) (by decide) hg); replace HB := ka (hb); have HO274 := ka (ho); clear HO_4; clear ho hb hg hat)))
       go_roundg kj6
       case measure => have := HK1.out; have := HJ6.out; omega
       case rel => exact ⟨(x3_1), (y272), (wrap64 ((ji18) + 1)), (by first | rfl | (simp; done) | (simp only [← hji18] <;> (first | rfl | simp)) | (simp [*]; done)), H', ⟨by have := HK1.out; have := HJ6.out; omega⟩, ⟨zR HO_3.out⟩, ⟨zR HO274.out⟩, ⟨zL HB.out⟩⟩
      replace c17 := Bool.eq_false_iff.mpr c17
      subst c17
      rw [if_neg (show ¬ (false = true) by decide)] at H
      by_cases c27 : (x4_1.length : Int) > 0
      ·rw [if_pos c27] at H
       have c27b0 : decide (0 < (x4_1.length : Int)) = true := zdt c27
       have c27b1 : decide (0 < x4_1.length) = true := decide_eq_true (by omega)
       clear c27
       replace H := zif H
       obtain ⟨c28, H⟩ := H
       have c28b0 := zdt c28
       clear c28
       replace H := zif H
       obtain ⟨c29, H⟩ := H
       have c29b0 := zdt c29
       clear c29
       obtain ⟨ji31, hji31⟩ : ∃ j_ : Int, (wrap64 ((x4_1.length : Int) - 1)) = j_ := ⟨_, rfl⟩
       replace H : (if 0 ≤ (ji31) then (if (ji31) < (x4_1.length : Int) then (if (bt a0 x5_1) = (rd x4_1 (ji31)) then (if (ji31) ≤ (x4_1.length : Int) then (cooperageref9_outside.l0 kj6 a0 x3_1 (x4_1.take ((ji31) : Int).toNat) (wrap64 (x5_1 + 1))) else (none)) else (if x5_1 < (x3_1.length : Int) then (cooperageref9_outside.l0 kj6 a0 (x3_1.set (x5_1 : Int).toNat ((x4_1.length : Int) == 0)) x4_1 (wrap64 (x5_1 + 1))) else (none))) else (none)) else (none)) = some r := by first | (rw [hji31] at H; exact H) | (simp only [hji31] at H ⊢; exact H)
       have hji31w : (IntKind.i64.wrap ((x4_1.length : Int) - 1)) = ji31 := (i64_w _).trans hji31
       replace H := zif H
       obtain ⟨c32, H⟩ := H
       have c32b0 := zdt c32
       clear c32
       replace H := zif H
       obtain ⟨c33, H⟩ := H
       have c33b0 := zdt c33
       clear c33
       by_cases c34 : (bt a0 x5_1) = (rd x4_1 (ji31))
       ·rw [if_pos c34] at H
        have c34b0 := zb0 c34
        have c34b1 := zb1 c34
        clear c34
        replace H := zif H
        obtain ⟨c35, H⟩ := H
        have c35b0 := eq_true c35
        have c35b1 := zdt c35
        clear c35
        obtain ⟨y276, hy276⟩ : ∃ y_ : List Int, y_ = (x4_1.take ((ji31) : Int).toNat) := ⟨_, rfl⟩
        replace H : (cooperageref9_outside.l0 kj6 a0 x3_1 y276 (wrap64 (x5_1 + 1))) = some r := zH hy276 H
        have Ny276 := ka hy276
        clear hy276
        have H' := ka H
        clear H
        obtain ⟨Ao36, co36, eo36⟩ := Kd.R_slice HO_4.out
        subst eo36
        have p30 : 0 ≤ (x5_1 : Int) := zD
        have q30 : x5_1 < (a0.size : Int) := zD
        have hx30 := bt_at a0 x5_1
        replace p30 := eq_true p30
        replace q30 := eq_true q30
        have p275 : 0 ≤ ((ji31) : Int) := zD
        have q275 : (ji31) < (x4_1.length : Int) := zD
        obtain ⟨ad275, e275, hx275_0⟩ := Kd.at_int (Kd.R_reads' HO_4.out).2.2 (ji31) p275 q275
        cases e275
        replace p275 := eq_true p275
        replace q275 := eq_true q275
        have q37 : ((ji31) : Int) ≤ ((x4_1.length : Int) : Int) := zD
        obtain ⟨i037, hi037, _, hsz37, _⟩ := info_parts info5
        have hcut37 := cut_to (P := Tryd.prog) 67 5 .i64 Tryd.underlying67 hi037 (some ad275) x4_1.length co36 (ji31) zD q37 (Kd.R_reads' HO_4.out).2.1
        have hr37 := Kd.R_take (m := ((ji31) : Int).toNat) HO_4.out (by omega)
        have hy37 : y276.length = ((ji31) : Int).toNat := (by rw [Ny276.out, List.length_take]; omega)
        rw [← Ny276.out] at hr37
        rw [← hy37] at hr37 hcut37
        clear hy37 hi037 hsz37 HO_4
        have HO278 := ka hr37
        clear hr37
        replace q37 := eq_true q37
        go_wp2
        repeat (go_quiet (fail); try go_wp2)
        go_roundg kj6
        case measure => have := HK1.out; have := HJ6.out; omega
        case rel => exact ⟨(x3_1), (y276), (wrap64 (x5_1 + 1)), zS, H', ⟨by have := HK1.out; have := HJ6.out; omega⟩, ⟨zR HO_3.out⟩, ⟨zR HO278.out⟩, ⟨zL HB.out⟩⟩
       rw [if_neg c34] at H
       have c34b0 := zn0 c34
       have c34b1 := zn1 c34
       replace H := zif H
       obtain ⟨c38, H⟩ := H
       have c38b0 := zdt c38
       clear c38
       obtain ⟨y279, hy279⟩ : ∃ y_ : List Bool, y_ = (x3_1.set (x5_1 : Int).toNat ((x4_1.length : Int) == 0)) := ⟨_, rfl⟩
       replace H : (cooperageref9_outside.l0 kj6 a0 y279 x4_1 (wrap64 (x5_1 + 1))) = some r := zH hy279 H
       have Ny279 := ka hy279
       clear hy279
       have H' := ka H
       clear H
       obtain ⟨Ao40, co40, eo40⟩ := Kd.R_slice HO_4.out
       subst eo40
       have p30 : 0 ≤ (x5_1 : Int) := zD
       have q30 : x5_1 < (a0.size : Int) := zD
       have hx30 := bt_at a0 x5_1
       replace p30 := eq_true p30
       replace q30 := eq_true q30
       have p275 : 0 ≤ ((ji31) : Int) := zD
       have q275 : (ji31) < (x4_1.length : Int) := zD
       obtain ⟨ad275, e275, hx275_0⟩ := Kd.at_int (Kd.R_reads' HO_4.out).2.2 (ji31) p275 q275
       cases e275
       replace p275 := eq_true p275
       replace q275 := eq_true q275
       have p39 : 0 ≤ (x5_1 : Int) := zD
       have q39 : (x5_1 : Int) < ((x3_1.length : Int) : Int) := zD
       obtain ⟨go39, co39, eo39, gb39, gl39, cl39, HG39⟩ := Kd.R_form HO_3.out (by omega)
       (first | cases eo39 | (injection eo39 with ea_ en_ ec_; (first | subst ea_ | (injection ea_ with ea_; subst ea_)); subst ec_; clear en_))
       have GB39 := ka gb39
       have GG39 := ka HG39
       clear gb39 gl39 HG39
       obtain ⟨hx39_0, hf39_0⟩ := Kd.R_celln false HO_3.out (x5_1 : Int) p39 q39
       replace p39 := eq_true p39
       replace q39 := eq_true q39
       have HP41 := Kd.R_putg HO_3.out (x5_1 : Int) ((x4_1.length : Int) == 0)
       have F_ := trivial
       repeat ((first | clear F_ | go_quiet (fail)); try go_wp2_with (first | ((with_reducible refine gate_store (t := 4) (p := 77) rfl ?_); (try (rw [drewN_self wc]; generalize hq_ : World.drewN wc _ = wc; have n0_ := ka (Kd.R_at hq_ HO_3.out); have n1_ := ka (Kd.R_at hq_ HO_4.out); have n2_ := ka (below_at hq_ HB.out); clear hq_ HO_3 HO_4 HB; have HO_3 := n0_; have HO_4 := n1_; have HB := n2_; clear n0_ n1_ n2_; (try (have HP41 := Kd.R_putg HO_3.out (x5_1 : Int) ((x4_1.length : Int) == 0))); (try (obtain ⟨hx39_0, hf39_0⟩ := Kd.R_celln false HO_3.out (x5_1 : Int) (of_eq_true p39) (of_eq_true q39))))); refine store_event (t := 4) (p := 77) (v := ?vo_w42) (w1 := (wc.setCell ⟨go39, (x5_1 : Int).toNat, none⟩ (.bool ((x4_1.length : Int) == 0)))) ?hg ?ho ?hn ?hr ?_; (case ho => rfl); (case hg => rfl); (case hn => rfl); (case hr => (go_simp; try rfl)); intro w42 hw; have hg : wc.grownBy w42 (some go39) := (by rw [hw]; exact HP41.2); have hp_ : Kd.R Kd.bool 4 w42 w.heap.size (fun _ => True) (.slice (some ⟨go39, 0, none⟩) x3_1.length co39) y279 := (by rw [hw, Ny279.out]; exact HP41.1); clear HP41; replace HO_4 := ka (Kd.R_over' (v := (.slice (some ⟨go39, 0, none⟩) x3_1.length co39)) (zR HO_4.out) (Kd.R_typed HO_3.out) (by decide) hg); replace HO_3 := ka (hp_); replace HB := ka ((by rw [hw]; exact below_set (HB.out) GB39.out : Below w.heap.size w w42)); clear hg hw hp_)))
       go_roundg kj6
       case measure => have := HK1.out; have := HJ6.out; omega
       case rel => exact ⟨(y279), (x4_1), (wrap64 (x5_1 + 1)), zS, H', ⟨by have := HK1.out; have := HJ6.out; omega⟩, ⟨zR HO_3.out⟩, ⟨zR HO_4.out⟩, ⟨zL HB.out⟩⟩
      rw [if_neg c27] at H
      have c27b0 : decide (0 < (x4_1.length : Int)) = false := zdf c27
      have c27b1 : decide (0 < x4_1.length) = false := decide_eq_false (by omega)
      clear c27
      replace H := zif H
      obtain ⟨c43, H⟩ := H
      have c43b0 := zdt c43
      clear c43
      replace H := zif H
      obtain ⟨c44, H⟩ := H
      have c44b0 := zdt c44
      clear c44
      obtain ⟨y280, hy280⟩ : ∃ y_ : List Bool, y_ = (x3_1.set (x5_1 : Int).toNat ((x4_1.length : Int) == 0)) := ⟨_, rfl⟩
      replace H : (cooperageref9_outside.l0 kj6 a0 y280 x4_1 (wrap64 (x5_1 + 1))) = some r := zH hy280 H
      have Ny280 := ka hy280
      clear hy280
      have H' := ka H
      clear H
      obtain ⟨Ao46, co46, eo46⟩ := Kd.R_slice HO_4.out
      subst eo46
      have p45 : 0 ≤ (x5_1 : Int) := zD
      have q45 : (x5_1 : Int) < ((x3_1.length : Int) : Int) := zD
      obtain ⟨go45, co45, eo45, gb45, gl45, cl45, HG45⟩ := Kd.R_form HO_3.out (by omega)
      (first | cases eo45 | (injection eo45 with ea_ en_ ec_; (first | subst ea_ | (injection ea_ with ea_; subst ea_)); subst ec_; clear en_))
      have GB45 := ka gb45
      have GG45 := ka HG45
      clear gb45 gl45 HG45
      obtain ⟨hx45_0, hf45_0⟩ := Kd.R_celln false HO_3.out (x5_1 : Int) p45 q45
      replace p45 := eq_true p45
      replace q45 := eq_true q45
      have HP47 := Kd.R_putg HO_3.out (x5_1 : Int) ((x4_1.length : Int) == 0)
      have F_ := trivial
      repeat ((first | clear F_ | go_quiet (fail)); try go_wp2_with (first | ((with_reducible refine gate_store (t := 4) (p := 77) rfl ?_); (try (rw [drewN_self wc]; generalize hq_ : World.drewN wc _ = wc; have n0_ := ka (Kd.R_at hq_ HO_3.out); have n1_ := ka (Kd.R_at hq_ HO_4.out); have n2_ := ka (below_at hq_ HB.out); clear hq_ HO_3 HO_4 HB; have HO_3 := n0_; have HO_4 := n1_; have HB := n2_; clear n0_ n1_ n2_; (try (have HP47 := Kd.R_putg HO_3.out (x5_1 : Int) ((x4_1.length : Int) == 0))); (try (obtain ⟨hx45_0, hf45_0⟩ := Kd.R_celln false HO_3.out (x5_1 : Int) (of_eq_true p45) (of_eq_true q45))))); refine store_event (t := 4) (p := 77) (v := ?vo_w48) (w1 := (wc.setCell ⟨go45, (x5_1 : Int).toNat, none⟩ (.bool ((x4_1.length : Int) == 0)))) ?hg ?ho ?hn ?hr ?_; (case ho => rfl); (case hg => rfl); (case hn => rfl); (case hr => (go_simp; try rfl)); intro w48 hw; have hg : wc.grownBy w48 (some go45) := (by rw [hw]; exact HP47.2); have hp_ : Kd.R Kd.bool 4 w48 w.heap.size (fun _ => True) (.slice (some ⟨go45, 0, none⟩) x3_1.length co45) y280 := (by rw [hw, Ny280.out]; exact HP47.1); clear HP47; replace HO_4 := ka (Kd.R_over' (v := (.slice (some ⟨go45, 0, none⟩) x3_1.length co45)) (zR HO_4.out) (Kd.R_typed HO_3.out) (by decide) hg); replace HO_3 := ka (hp_); replace HB := ka ((by rw [hw]; exact below_set (HB.out) GB45.out : Below w.heap.size w w48)); clear hg hw hp_)))
      go_roundg kj6
      case measure => have := HK1.out; have := HJ6.out; omega
      case rel => exact ⟨(y280), (x4_1), (wrap64 (x5_1 + 1)), zS, H', ⟨by have := HK1.out; have := HJ6.out; omega⟩, ⟨zR HO_3.out⟩, ⟨zR HO_4.out⟩, ⟨zL HB.out⟩⟩
   rw [if_neg c6] at H
   have c6b0 := zdf c6
   clear c6
   obtain rfl := Option.some.inj H
   go_wp2
   repeat (go_quiet (fail); try go_wp2)
   go_ret
   exact ⟨_, zE, by (with_reducible repeat (first | apply Kd.R_alloc | apply Kd.R_drewN | apply Kd.R_drew)); exact HO_3.out, zL HB.out⟩

/-! ### cooperageref9_Cut: function 18 -/
mutual
def cooperageref9_Cut.l0 : Nat → ByteArray → List ByteArray → List Bool → Int → Option (ByteArray × ByteArray × ByteArray)
 | 0, _, _, _, _ => none
 | k + 1, x0, x1, x7, x8 => if x8 < (x0.size : Int) then (if 0 ≤ x8 then (if x8 < (x7.length : Int) then (if rdOf false x7 x8 = true then (cooperageref9_Cut.l1 k x0 x1 x7 x8 0) else (cooperageref9_Cut.l0 k x0 x1 x7 (wrap64 (x8 + 1)))) else (none)) else (none)) else (some (x0, (⟨#[]⟩ : ByteArray), (⟨#[]⟩ : ByteArray)))
def cooperageref9_Cut.l1 : Nat → ByteArray → List ByteArray → List Bool → Int → Int → Option (ByteArray × ByteArray × ByteArray)
 | 0, _, _, _, _, _ => none
 | k + 1, x0, x1, x7, x8, x9 => if x9 < (x1.length : Int) then (if 0 ≤ x9 then (if ((rdOf ByteArray.empty x1 x9).size : Int) > 0 then (if (wrap64 (x8 + ((rdOf ByteArray.empty x1 x9).size : Int))) ≤ (x0.size : Int) then (if 0 ≤ x8 then (if x8 ≤ (wrap64 (x8 + ((rdOf ByteArray.empty x1 x9).size : Int))) then (if (x0.extract (x8 : Int).toNat ((wrap64 (x8 + ((rdOf ByteArray.empty x1 x9).size : Int))) : Int).toNat).toList = (rdOf ByteArray.empty x1 x9).toList then (if x8 ≤ (x0.size : Int) then (if 0 ≤ (wrap64 (x8 + ((rdOf ByteArray.empty x1 x9).size : Int))) then (some (x0.extract 0 (x8 : Int).toNat, rdOf ByteArray.empty x1 x9, x0.extract ((wrap64 (x8 + ((rdOf ByteArray.empty x1 x9).size : Int))) : Int).toNat x0.size)) else (none)) else (none)) else (cooperageref9_Cut.l1 k x0 x1 x7 x8 (wrap64 (x9 + 1)))) else (none)) else (none)) else (cooperageref9_Cut.l1 k x0 x1 x7 x8 (wrap64 (x9 + 1)))) else (cooperageref9_Cut.l1 k x0 x1 x7 x8 (wrap64 (x9 + 1)))) else (none)) else (cooperageref9_Cut.l0 k x0 x1 x7 (wrap64 (x8 + 1)))
end
def cooperageref9_Cut.f (k : Nat) (a0 : ByteArray) (l1 : List ByteArray) : Option (ByteArray × ByteArray × ByteArray) := (cooperageref9_outside.f k a0).bind fun t281 => (cooperageref9_Cut.l0 k a0 l1 t281 0)
theorem cooperageref9_Cut.mono_l : ∀ k, (∀ y0 y1 y2 y3, LeO (cooperageref9_Cut.l0 k y0 y1 y2 y3) (cooperageref9_Cut.l0 (k + 1) y0 y1 y2 y3)) ∧ (∀ y0 y1 y2 y3 y4, LeO (cooperageref9_Cut.l1 k y0 y1 y2 y3 y4) (cooperageref9_Cut.l1 (k + 1) y0 y1 y2 y3 y4))
 | 0 => ⟨fun _ _ _ _ r h => by simp [cooperageref9_Cut.l0] at h, fun _ _ _ _ _ r h => by simp [cooperageref9_Cut.l1] at h⟩
 | k + 1 => by
  obtain ⟨ih0, ih1⟩ := cooperageref9_Cut.mono_l k
  have m0 := @cooperageref9_outside.mono
  refine ⟨?_, ?_⟩
  ·intros
   unfold cooperageref9_Cut.l0
   exact zLe
  ·intros
   unfold cooperageref9_Cut.l1
   exact zLe
theorem cooperageref9_Cut.mono : ∀ a0 a1 k, LeO (cooperageref9_Cut.f k a0 a1) (cooperageref9_Cut.f (k + 1) a0 a1) := by
 intro a0 a1 k
 obtain ⟨ih0, ih1⟩ := cooperageref9_Cut.mono_l k
 unfold cooperageref9_Cut.f
 have m0 := @cooperageref9_outside.mono
 exact zLe
theorem cooperageref9_Cut.calls (k : Nat) (a0 : ByteArray) (A1 : Option Addr) (c1 : Nat) (l1 : List ByteArray) (r1 : ByteArray) (r2 : ByteArray) (r3 : ByteArray) (w : World) (hr1 : Kd.C Kd.string w A1 l1.length l1) (hc1 : l1.length ≤ c1) (h : cooperageref9_Cut.f k a0 l1 = some (r1, r2, r3)) :
  Calls Tryd.prog 18 #[.string a0, .slice A1 l1.length c1] w fun e w' => e = .returned (.tuple #[.string r1, .string r2, .string r3]) ∧ Below w.heap.size w w' := by
 have HR1 := ka hr1
 have HC1 := ka hc1
 clear hr1 hc1
 have HB := ka (Below.refl w.heap.size w)
 have H : ((cooperageref9_outside.f k a0).bind fun t281 => (cooperageref9_Cut.l0 k a0 l1 t281 0)) = some (r1, r2, r3) := h
 clear h
 replace H := Option.bind_eq_some_iff.mp H
 obtain ⟨t281, A30, H⟩ := H
 try dsimp only at H
 have A3 := ka A30
 clear A30
 have H' := ka H
 clear H
 go_enter Tryd.func18, Tryd.ntmps18
 have F_ := trivial
 repeat ((first | clear F_ | go_quiet (first | (go_at_call 29; (with_reducible refine (cooperageref9_outside.calls k a0 t281 _ A3.out).mono ?_); rintro e w4 ⟨v282, rfl, ho0, hb⟩; have HO283 := ka (Kd.R_lower ho0 (below_size (zL HB.out))); replace HB := ka (below_step (zL HB.out) hb); (try clear hb); (try clear hb2); (try clear hk); (try clear hi); (try clear ho0)))); try go_wp2_with (first | (go_at_call 29; (with_reducible refine (cooperageref9_outside.calls k a0 t281 _ A3.out).mono ?_); rintro e w4 ⟨v282, rfl, ho0, hb⟩; have HO283 := ka (Kd.R_lower ho0 (below_size (zL HB.out))); replace HB := ka (below_step (zL HB.out) hb); (try clear hb); (try clear hb2); (try clear hk); (try clear hi); (try clear ho0))))
 go_loopg [8] k (fun kq v8 w' => ∃ (x8_1 : Int), v8 = .int .i64 x8_1 ∧ Aside0 (cooperageref9_Cut.l0 kq a0 l1 t281 x8_1 = some (r1, r2, r3)) ∧ Aside0 (kq ≤ k) ∧ Aside0 (Kd.R Kd.bool 4 w' w.heap.size (fun _ => True) v282 t281) ∧ Aside0 (Below w.heap.size w w'))
 case atStart => exact ⟨(0), zS, H', ⟨Nat.le_refl _⟩, ⟨zR HO283.out⟩, ⟨zL HB.out⟩⟩
 case round =>
  clear H'
  obtain ⟨x8_1, rfl, HA, HK1, HO_7, HB⟩ := hrel
  cases gk with
  | zero => exact absurd HA.out (by simp [cooperageref9_Cut.l0])
  | succ k1 =>
   have H := HA.out
   clear HA
   simp only [cooperageref9_Cut.l0] at H
   by_cases c5 : x8_1 < (a0.size : Int)
   ·rw [if_pos c5] at H
    have c5b0 := zdt c5
    clear c5
    replace H := zif H
    obtain ⟨c6, H⟩ := H
    have c6b0 := zdt c6
    clear c6
    replace H := zif H
    obtain ⟨c7, H⟩ := H
    have c7b0 := zdt c7
    clear c7
    obtain ⟨bq8, hbq8⟩ : ∃ b_ : Bool, b_ = (rdOf false t281 x8_1) := ⟨_, rfl⟩
    replace H : (if bq8 = true then (cooperageref9_Cut.l1 k1 a0 l1 t281 x8_1 0) else (cooperageref9_Cut.l0 k1 a0 l1 t281 (wrap64 (x8_1 + 1)))) = some (r1, r2, r3) := by rw [← hbq8] at H; exact H
    have Nbq8 := ka hbq8
    clear hbq8
    by_cases c9 : bq8 = true
    ·subst c9
     rw [if_pos rfl] at H
     have H' := ka H
     clear H
     obtain ⟨Ao10, co10, eo10⟩ := Kd.R_slice HO_7.out
     subst eo10
     have p284 : 0 ≤ (x8_1 : Int) := zD
     have q284 : x8_1 < (t281.length : Int) := zD
     obtain ⟨ad284, e284, hx284_0⟩ := Kd.at_bool (Kd.R_reads' HO_7.out).2.2 x8_1 p284 q284
     (try rw [← Nbq8.out] at hx284_0)
     cases e284
     replace p284 := eq_true p284
     replace q284 := eq_true q284
     go_wp2
     repeat (go_quiet (fail); try go_wp2)
     go_loopg [9] k1 (fun kq v9 w' => ∃ (x9_2 : Int), v9 = .int .i64 x9_2 ∧ Aside0 (cooperageref9_Cut.l1 kq a0 l1 t281 x8_1 x9_2 = some (r1, r2, r3)) ∧ Aside0 (kq ≤ k1) ∧ Aside0 (Kd.R Kd.bool 4 w' w.heap.size (fun _ => True) (.slice (some ad284) t281.length co10) t281) ∧ Aside0 (Below w.heap.size w w'))
     case atStart => exact ⟨(0), zS, H', ⟨Nat.le_refl _⟩, ⟨zR HO_7.out⟩, ⟨zL HB.out⟩⟩
     case round =>
      clear H'
      try clear c5
      try clear c5b0
      try clear c6
      try clear c6b0
      try clear c7
      try clear c7b0
      try clear c9
      try clear hx284_0
      try clear p284
      try clear q284
      obtain ⟨x9_2, rfl, HA, HK2, HO_7, HB⟩ := hrel
      cases gk with
      | zero => exact absurd HA.out (by simp [cooperageref9_Cut.l1])
      | succ k2 =>
       have H := HA.out
       clear HA
       simp only [cooperageref9_Cut.l1] at H
       by_cases c11 : x9_2 < (l1.length : Int)
       ·rw [if_pos c11] at H
        have c11b0 := zdt c11
        clear c11
        replace H := zif H
        obtain ⟨c12, H⟩ := H
        have c12b0 := zdt c12
        clear c12
        by_cases c13 : ((rdOf ByteArray.empty l1 x9_2).size : Int) > 0
        ·rw [if_pos c13] at H
         have c13b0 : decide (0 < ((rdOf ByteArray.empty l1 x9_2).size : Int)) = true := zdt c13
         have c13b1 : decide (0 < (rdOf ByteArray.empty l1 x9_2).size) = true := decide_eq_true (by omega)
         clear c13
         by_cases c14 : (wrap64 (x8_1 + ((rdOf ByteArray.empty l1 x9_2).size : Int))) ≤ (a0.size : Int)
         ·rw [if_pos c14] at H
          have c14b0 := zdt c14
          clear c14
          replace H := zif H
          obtain ⟨c15, H⟩ := H
          have c15b0 := eq_true c15
          have c15b1 := zdt c15
          clear c15
          replace H := zif H
          obtain ⟨c16, H⟩ := H
          have c16b0 := eq_true c16
          have c16b1 := zdt c16
          have c17b0 := eq_true (zD : (wrap64 (x8_1 + ((rdOf ByteArray.empty l1 x9_2).size : Int))) ≤ (a0.size : Int))
          by_cases c18 : (a0.extract (x8_1 : Int).toNat ((wrap64 (x8_1 + ((rdOf ByteArray.empty l1 x9_2).size : Int))) : Int).toNat).toList = (rdOf ByteArray.empty l1 x9_2).toList
          ·rw [if_pos c18] at H
           have c18b0 := zb0 c18
           have c18b1 := zb1 c18
           clear c18
           have c19b0 := eq_true (zD : 0 ≤ x8_1)
           replace H := zif H
           obtain ⟨c20, H⟩ := H
           have c20b0 := eq_true c20
           have c20b1 := zdt c20
           clear c20
           obtain ⟨ji21, hji21⟩ : ∃ j_ : Int, (wrap64 (x8_1 + ((rdOf ByteArray.empty l1 x9_2).size : Int))) = j_ := ⟨_, rfl⟩
           replace H : (if 0 ≤ (ji21) then (some (a0.extract 0 (x8_1 : Int).toNat, rdOf ByteArray.empty l1 x9_2, a0.extract ((ji21) : Int).toNat a0.size)) else (none)) = some (r1, r2, r3) := by first | (rw [hji21] at H; exact H) | (simp only [hji21] at H ⊢; exact H)
           (try rw [hji21] at c14b0)
           (try rw [hji21] at c16b0)
           (try rw [hji21] at c16b1)
           (try rw [hji21] at c16)
           (try rw [hji21] at c18b0)
           (try rw [hji21] at c18b1)
           have hji21w : (IntKind.i64.wrap (x8_1 + ((rdOf ByteArray.empty l1 x9_2).size : Int))) = ji21 := (i64_w _).trans hji21
           replace H := zif H
           obtain ⟨c22, H⟩ := H
           have c22b0 := eq_true c22
           have c22b1 := zdt c22
           clear c22
           have c23b0 := eq_true (zD : (ji21) ≤ (a0.size : Int))
           replace H := zs3 H
           obtain ⟨rfl, rfl, rfl⟩ := H
           have p285 : 0 ≤ (x9_2 : Int) := zD
           have q285 : x9_2 < (l1.length : Int) := zD
           obtain ⟨ad285, e285, hx285_0⟩ := Kd.at_string HR1.out x9_2 p285 q285
           cases e285
           replace hx285_0 := zX HB.out hx285_0
           replace p285 := eq_true p285
           replace q285 := eq_true q285
           have p286 : 0 ≤ (x9_2 : Int) := zD
           have q286 : x9_2 < (l1.length : Int) := zD
           obtain ⟨ad286, e286, hx286_0⟩ := Kd.at_string HR1.out x9_2 p286 q286
           obtain rfl : ad285 = ad286 := (by injection e286)
           replace hx286_0 := zX HB.out hx286_0
           replace p286 := eq_true p286
           replace q286 := eq_true q286
           have p287 : 0 ≤ (x9_2 : Int) := zD
           have q287 : x9_2 < (l1.length : Int) := zD
           obtain ⟨ad287, e287, hx287_0⟩ := Kd.at_string HR1.out x9_2 p287 q287
           obtain rfl : ad285 = ad287 := (by injection e287)
           replace hx287_0 := zX HB.out hx287_0
           replace p287 := eq_true p287
           replace q287 := eq_true q287
           go_wp2
           repeat (go_quiet (fail); try go_wp2)
           go_ret3
           exact ⟨by first | rfl | (simp [errW_none, errW_some] <;> rfl) | (simp only [← hji21]; first | rfl | (simp [errW_none, errW_some] <;> rfl)) | (simp [*, errW_none, errW_some] <;> rfl), zL HB.out⟩
          rw [if_neg c18] at H
          have c18b0 := zn0 c18
          have c18b1 := zn1 c18
          have H' := ka H
          clear H
          have p285 : 0 ≤ (x9_2 : Int) := zD
          have q285 : x9_2 < (l1.length : Int) := zD
          obtain ⟨ad285, e285, hx285_0⟩ := Kd.at_string HR1.out x9_2 p285 q285
          cases e285
          replace hx285_0 := zX HB.out hx285_0
          replace p285 := eq_true p285
          replace q285 := eq_true q285
          have p286 : 0 ≤ (x9_2 : Int) := zD
          have q286 : x9_2 < (l1.length : Int) := zD
          obtain ⟨ad286, e286, hx286_0⟩ := Kd.at_string HR1.out x9_2 p286 q286
          obtain rfl : ad285 = ad286 := (by injection e286)
          replace hx286_0 := zX HB.out hx286_0
          replace p286 := eq_true p286
          replace q286 := eq_true q286
          go_wp2
          repeat (go_quiet (fail); try go_wp2)
          go_roundg k2
          case measure => have := HK1.out; have := HK2.out; omega
          case rel => exact ⟨(wrap64 (x9_2 + 1)), zS, H', ⟨by have := HK1.out; have := HK2.out; omega⟩, ⟨zR HO_7.out⟩, ⟨zL HB.out⟩⟩
         rw [if_neg c14] at H
         have c14b0 := zdf c14
         clear c14
         have H' := ka H
         clear H
         have p285 : 0 ≤ (x9_2 : Int) := zD
         have q285 : x9_2 < (l1.length : Int) := zD
         obtain ⟨ad285, e285, hx285_0⟩ := Kd.at_string HR1.out x9_2 p285 q285
         cases e285
         replace hx285_0 := zX HB.out hx285_0
         replace p285 := eq_true p285
         replace q285 := eq_true q285
         go_wp2
         repeat (go_quiet (fail); try go_wp2)
         go_roundg k2
         case measure => have := HK1.out; have := HK2.out; omega
         case rel => exact ⟨(wrap64 (x9_2 + 1)), zS, H', ⟨by have := HK1.out; have := HK2.out; omega⟩, ⟨zR HO_7.out⟩, ⟨zL HB.out⟩⟩
        rw [if_neg c13] at H
        have c13b0 : decide (0 < ((rdOf ByteArray.empty l1 x9_2).size : Int)) = false := zdf c13
        have c13b1 : decide (0 < (rdOf ByteArray.empty l1 x9_2).size) = false := decide_eq_false (by omega)
        clear c13
        have H' := ka H
        clear H
        have p285 : 0 ≤ (x9_2 : Int) := zD
        have q285 : x9_2 < (l1.length : Int) := zD
        obtain ⟨ad285, e285, hx285_0⟩ := Kd.at_string HR1.out x9_2 p285 q285
        cases e285
        replace hx285_0 := zX HB.out hx285_0
        replace p285 := eq_true p285
        replace q285 := eq_true q285
        go_wp2
        repeat (go_quiet (fail); try go_wp2)
        go_roundg k2
        case measure => have := HK1.out; have := HK2.out; omega
        case rel => exact ⟨(wrap64 (x9_2 + 1)), zS, H', ⟨by have := HK1.out; have := HK2.out; omega⟩, ⟨zR HO_7.out⟩, ⟨zL HB.out⟩⟩
       rw [if_neg c11] at H
       have c11b0 := zdf c11
       clear c11
       have H' := ka H
       clear H
       go_wp2
       repeat (go_quiet (fail); try go_wp2)
       go_roundg k2
       case measure => have := HK1.out; have := HK2.out; omega
       case rel => exact ⟨(wrap64 (x8_1 + 1)), zS, H', ⟨by have := HK1.out; have := HK2.out; omega⟩, ⟨zR HO_7.out⟩, ⟨zL HB.out⟩⟩
    replace c9 := Bool.eq_false_iff.mpr c9
    subst c9
    rw [if_neg (show ¬ (false = true) by decide)] at H
    have H' := ka H
    clear H
    obtain ⟨Ao24, co24, eo24⟩ := Kd.R_slice HO_7.out
    subst eo24
    have p284 : 0 ≤ (x8_1 : Int) := zD
    have q284 : x8_1 < (t281.length : Int) := zD
    obtain ⟨ad284, e284, hx284_0⟩ := Kd.at_bool (Kd.R_reads' HO_7.out).2.2 x8_1 p284 q284
    (try rw [← Nbq8.out] at hx284_0)
    cases e284
    replace p284 := eq_true p284
    replace q284 := eq_true q284
    go_wp2
    repeat (go_quiet (fail); try go_wp2)
    go_roundg k1
    case measure => have := HK1.out; omega
    case rel => exact ⟨(wrap64 (x8_1 + 1)), zS, H', ⟨by have := HK1.out; omega⟩, ⟨zR HO_7.out⟩, ⟨zL HB.out⟩⟩
   rw [if_neg c5] at H
   have c5b0 := zdf c5
   clear c5
   replace H := zs3 H
   obtain ⟨rfl, rfl, rfl⟩ := H
   go_wp2
   repeat (go_quiet (fail); try go_wp2)
   go_ret3
   exact ⟨zE, zL HB.out⟩

end Go.Proofs.YthnholondnfjoaaDoor.PParse
