-- Written by a program of this session (wip/tools/ext.py, over the kit's printer); not trusted: Lean checks it.
import Derived.Test.YtlfagipdhdcjlaaPGlobx0
import Derived.Test.YtlfagipdhdcjlaaPGlobx1
import Derived.Test.YtlfagipdhdcjlaaPGlobx2
import Derived.Test.YtlfagipdhdcjlaaPGlobx4
namespace Go.Proofs.Ytlfagipdhdcjlaa.PGlob
open Go.RowKit Go.Proofs.YtlfagipdhdcjlaaW.PrintWords Go.Proofs.YtlfagipdhdcjlaaW.PrintLast Go.Proofs.YtlfagipdhdcjlaaW.PrintMore
attribute [local go_sem] max2_int min2_int max_two min_two max_three min_three max_four min_four   -- for this text's walks alone
set_option linter.unusedVariables false
set_option linter.unusedSimpArgs false

/-! ### cooperageref2_Any: function 22 -/
def cooperageref2_Any.l0 : Nat → List ByteArray → ByteArray → Int → Option (Bool)
  | 0, _, _, _ => none
  | k + 1, x0, x1, x5 => if x5 < (x0.length : Int) then (if 0 ≤ x5 then ((cooperageref2_Match.f k (rdOf ByteArray.empty x0 x5) x1).bind fun bt179 => (if bt179.2 = true then (some true) else (cooperageref2_Any.l0 k x0 x1 (wrap64 (x5 + 1))))) else (none)) else (some false)
def cooperageref2_Any.f (k : Nat) (l0 : List ByteArray) (a1 : ByteArray) : Option (Bool) := cooperageref2_Any.l0 k l0 a1 0
theorem cooperageref2_Any.mono_l : ∀ k, (∀ y0 y1 y2, LeO (cooperageref2_Any.l0 k y0 y1 y2) (cooperageref2_Any.l0 (k + 1) y0 y1 y2))
  | 0 => fun _ _ _ r h => by simp [cooperageref2_Any.l0] at h
  | k + 1 => by
    have ih0 := cooperageref2_Any.mono_l k
    · intro y0 y1 y2
      unfold cooperageref2_Any.l0
      repeat' first
      | (with_reducible exact ih0 _ _ _)
      | (with_reducible exact cooperageref2_Match.mono _ _ _)
      | (with_reducible exact LeO.refl _)
      | (with_reducible exact LeO.none _)
      | (with_reducible refine LeO.ite ?_ ?_)
      | (with_reducible refine LeO.bind ?_ (fun _ => ?_))
      | exact ih0 _ _ _
      | exact cooperageref2_Match.mono _ _ _
      | exact LeO.none _
      | refine LeO.ite ?_ ?_
      | refine LeO.bind ?_ (fun _ => ?_)
theorem cooperageref2_Any.mono : ∀ a0 a1 k, LeO (cooperageref2_Any.f k a0 a1) (cooperageref2_Any.f (k + 1) a0 a1) := by
  intro a0 a1 k
  have ih0 := cooperageref2_Any.mono_l k
  unfold cooperageref2_Any.f
  repeat' first
      | (with_reducible exact ih0 _ _ _)
      | (with_reducible exact cooperageref2_Match.mono _ _ _)
      | (with_reducible exact LeO.refl _)
      | (with_reducible exact LeO.none _)
      | (with_reducible refine LeO.ite ?_ ?_)
      | (with_reducible refine LeO.bind ?_ (fun _ => ?_))
      | exact ih0 _ _ _
      | exact cooperageref2_Match.mono _ _ _
      | exact LeO.none _
      | refine LeO.ite ?_ ?_
      | refine LeO.bind ?_ (fun _ => ?_)
set_option maxHeartbeats 8000000 in
set_option maxRecDepth 100000 in
theorem cooperageref2_Any.calls (k : Nat) (A0 : Option Addr) (c0 : Nat) (l0 : List ByteArray) (a1 : ByteArray) (r : Bool) (w : World) (hr0 : Kd.C Kd.string w A0 l0.length l0) (hc0 : l0.length ≤ c0) (h : cooperageref2_Any.f k l0 a1 = some r) :
    Calls Try.prog 22 #[.slice A0 l0.length c0, .string a1] w fun e w' => e = .returned (.bool r) ∧ Drawn0 w w' := by
  have HR0 := Aside0.mk hr0
  have HC0 := Aside0.mk hc0
  clear hr0 hc0
  have H : (cooperageref2_Any.l0 k l0 a1 0) = some r := h
  clear h
  have H' := Aside0.mk H
  clear H
  go_enter Try.func22, Try.ntmps22
  go_wp2
  go_loopg [5] k (fun kq v5 w' => ∃ (x5_1 : Int), v5 = .int .i64 x5_1 ∧ Aside0 (cooperageref2_Any.l0 kq l0 a1 x5_1 = some r) ∧ Aside0 (kq ≤ k) ∧ Drawn0 w w')
  case atStart => exact ⟨(0), (by first | rfl | (simp; done) | (simp [*]; done)), H', ⟨Nat.le_refl _⟩, by repeat (first | exact Drawn0.refl _ | apply Drawn0.step)⟩
  case round =>
    clear H'
    try clear c2
    try clear p2
    obtain ⟨x5_1, rfl, HA, HK1, ⟨m1, rfl⟩⟩ := hrel
    cases gk with
    | zero => exact absurd HA.out (by simp [cooperageref2_Any.l0])
    | succ k1 =>
      have H := HA.out
      clear HA
      simp only [cooperageref2_Any.l0] at H
      by_cases c3 : x5_1 < (l0.length : Int)
      · rw [if_pos c3] at H
        have c3b0 : decide (x5_1 < (l0.length : Int)) = true := decide_eq_true c3
        clear c3
        by_cases c4 : 0 ≤ x5_1
        · rw [if_pos c4] at H
          have c4b0 : decide (0 ≤ x5_1) = true := decide_eq_true c4
          clear c4
          replace H := Option.bind_eq_some_iff.mp H
          obtain ⟨⟨t179, t180⟩, A50, H⟩ := H
          replace H : (if t180 = true then (some true) else (cooperageref2_Any.l0 k1 l0 a1 (wrap64 (x5_1 + 1)))) = some r := H
          have A5 := Aside0.mk A50
          clear A50
          by_cases c6 : t180 = true
          · subst c6
            have H1 : (some true) = some r := by rw [if_pos rfl] at H; exact H
            clear H
            have H := H1
            clear H1
            obtain rfl := Option.some.inj H
            have p178 : 0 ≤ (x5_1 : Int) := of_decide_eq_true (by first | (with_reducible assumption) | assumption)
            have q178 : x5_1 < (l0.length : Int) := of_decide_eq_true (by first | (with_reducible assumption) | assumption)
            obtain ⟨ad178, e178, hx178_0⟩ := Kd.at_string HR0.out x5_1 p178 q178
            cases e178
            replace p178 := eq_true p178
            replace q178 := eq_true q178
            go_wp2_with (first | ((with_reducible refine gate_callee (f := 18) rfl ?_); refine goesL_ (some 20) rfl rfl Try.func18 (by kernel_rfl) rfl #[.string (rdOf ByteArray.empty l0 x5_1), .string a1] rfl (by (try simp only [List.map_toArray, List.map_cons, List.map_nil]); first | done | rfl | (simp only [List.length_drop, List.length_take]; rfl)) ?_; (with_reducible refine (cooperageref2_Match.calls k1 (rdOf ByteArray.empty l0 x5_1) a1 t179 true _ A5.out).mono ?_); rintro e w' ⟨rfl, ⟨nd, rfl⟩⟩; refine ⟨_, rfl, ?_⟩))
            go_ret
            exact ⟨by first | rfl | (simp; done) | (simp [*]; done), by repeat (first | exact Drawn0.refl _ | apply Drawn0.step)⟩
          · replace c6 := Bool.eq_false_iff.mpr c6
            subst c6
            have H1 : (cooperageref2_Any.l0 k1 l0 a1 (wrap64 (x5_1 + 1))) = some r := by rw [if_neg (show ¬ (false = true) by decide)] at H; exact H
            clear H
            have H := H1
            clear H1
            have H' := Aside0.mk H
            clear H
            have p178 : 0 ≤ (x5_1 : Int) := of_decide_eq_true (by first | (with_reducible assumption) | assumption)
            have q178 : x5_1 < (l0.length : Int) := of_decide_eq_true (by first | (with_reducible assumption) | assumption)
            obtain ⟨ad178, e178, hx178_0⟩ := Kd.at_string HR0.out x5_1 p178 q178
            cases e178
            replace p178 := eq_true p178
            replace q178 := eq_true q178
            go_wp2_with (first | ((with_reducible refine gate_callee (f := 18) rfl ?_); refine goesL_ (some 20) rfl rfl Try.func18 (by kernel_rfl) rfl #[.string (rdOf ByteArray.empty l0 x5_1), .string a1] rfl (by (try simp only [List.map_toArray, List.map_cons, List.map_nil]); first | done | rfl | (simp only [List.length_drop, List.length_take]; rfl)) ?_; (with_reducible refine (cooperageref2_Match.calls k1 (rdOf ByteArray.empty l0 x5_1) a1 t179 false _ A5.out).mono ?_); rintro e w' ⟨rfl, ⟨nd, rfl⟩⟩; refine ⟨_, rfl, ?_⟩))
            go_roundg k1
            case measure => have := HK1.out; omega
            case rel => exact ⟨(wrap64 (x5_1 + 1)), (by first | rfl | (simp; done) | (simp [*]; done)), H', ⟨by have := HK1.out; omega⟩, by repeat (first | exact Drawn0.refl _ | apply Drawn0.step)⟩
        · rw [if_neg c4] at H
          exact absurd H (by simp)
      · rw [if_neg c3] at H
        have c3b0 : decide (x5_1 < (l0.length : Int)) = false := decide_eq_false c3
        clear c3
        obtain rfl := Option.some.inj H
        go_wp2
        go_ret
        exact ⟨by first | rfl | (simp; done) | (simp [*]; done), by repeat (first | exact Drawn0.refl _ | apply Drawn0.step)⟩

/-! ### cooperagelaw2_GlobMatches: function 6 -/
def cooperagelaw2_GlobMatches.j0 : Nat → ByteArray → ByteArray → List ByteArray → Bool → Bool → Option (Bool)
  | 0, _, _, _, _, _ => none
  | k + 1, x0, x1, x2, x7, x27 => if x27 = true then (some x7) else ((glob_Match.f x0 x1).bind fun bt195 => ((cooperageref2_Match.f k x0 x1).bind fun bt197 => (if bt195.1.toList = bt197.1.toList then (if (bt195.2 == bt197.2) = true then ((glob_Right.f x0).bind fun t199 => ((cooperageref2_Right.f k x0).bind fun t200 => (if (t199 == t200) = true then ((glob_Open.f x0).bind fun t201 => ((cooperageref2_Open.f k x0).bind fun t202 => (if (t201 == t202) = true then ((glob_Any.f k x2 x1).bind fun t203 => ((cooperageref2_Any.f k x2 x1).bind fun t204 => (some (t203 == t204)))) else (some false)))) else (some false)))) else (some false)) else (some false))))
def cooperagelaw2_GlobMatches.f (k : Nat) (a0 : ByteArray) (a1 : ByteArray) (l2 : List ByteArray) : Option (Bool) := (cooperagelaw2_shown.f).bind fun t181 => ((some (([] : List ByteArray) : List ByteArray)).bind fun y182 => (if y182.length + l2.length < 8796093022208 then ((some (y182 ++ l2 : List ByteArray)).bind fun y185 => ((some (([a0, a1] : List ByteArray) : List ByteArray)).bind fun y188 => (if y185.length + y188.length < 8796093022208 then ((cooperagelaw2_small.f k (y185 ++ y188)).bind fun t194 => (if t181 = true then (cooperagelaw2_GlobMatches.j0 k a0 a1 l2 t181 (!t194)) else (cooperagelaw2_GlobMatches.j0 k a0 a1 l2 t181 true))) else (none)))) else (none)))
theorem cooperagelaw2_GlobMatches.mono_l : ∀ k, (∀ y0 y1 y2 y3 y4, LeO (cooperagelaw2_GlobMatches.j0 k y0 y1 y2 y3 y4) (cooperagelaw2_GlobMatches.j0 (k + 1) y0 y1 y2 y3 y4))
  | 0 => fun _ _ _ _ _ r h => by simp [cooperagelaw2_GlobMatches.j0] at h
  | k + 1 => by
    have ih0 := cooperagelaw2_GlobMatches.mono_l k
    · intro y0 y1 y2 y3 y4
      unfold cooperagelaw2_GlobMatches.j0
      repeat' first
      | (with_reducible exact ih0 _ _ _ _ _)
      | (with_reducible exact cooperagelaw2_small.mono _ _)
      | (with_reducible exact cooperageref2_Any.mono _ _ _)
      | (with_reducible exact cooperageref2_Match.mono _ _ _)
      | (with_reducible exact cooperageref2_Open.mono _ _)
      | (with_reducible exact cooperageref2_Right.mono _ _)
      | (with_reducible exact glob_Any.mono _ _ _)
      | (with_reducible exact LeO.refl _)
      | (with_reducible exact LeO.none _)
      | (with_reducible refine LeO.ite ?_ ?_)
      | (with_reducible refine LeO.bind ?_ (fun _ => ?_))
      | exact ih0 _ _ _ _ _
      | exact cooperagelaw2_small.mono _ _
      | exact cooperageref2_Any.mono _ _ _
      | exact cooperageref2_Match.mono _ _ _
      | exact cooperageref2_Open.mono _ _
      | exact cooperageref2_Right.mono _ _
      | exact glob_Any.mono _ _ _
      | exact LeO.none _
      | refine LeO.ite ?_ ?_
      | refine LeO.bind ?_ (fun _ => ?_)
theorem cooperagelaw2_GlobMatches.mono : ∀ a0 a1 a2 k, LeO (cooperagelaw2_GlobMatches.f k a0 a1 a2) (cooperagelaw2_GlobMatches.f (k + 1) a0 a1 a2) := by
  intro a0 a1 a2 k
  have ih0 := cooperagelaw2_GlobMatches.mono_l k
  unfold cooperagelaw2_GlobMatches.f
  repeat' first
      | (with_reducible exact ih0 _ _ _ _ _)
      | (with_reducible exact cooperagelaw2_small.mono _ _)
      | (with_reducible exact cooperageref2_Any.mono _ _ _)
      | (with_reducible exact cooperageref2_Match.mono _ _ _)
      | (with_reducible exact cooperageref2_Open.mono _ _)
      | (with_reducible exact cooperageref2_Right.mono _ _)
      | (with_reducible exact glob_Any.mono _ _ _)
      | (with_reducible exact LeO.refl _)
      | (with_reducible exact LeO.none _)
      | (with_reducible refine LeO.ite ?_ ?_)
      | (with_reducible refine LeO.bind ?_ (fun _ => ?_))
      | exact ih0 _ _ _ _ _
      | exact cooperagelaw2_small.mono _ _
      | exact cooperageref2_Any.mono _ _ _
      | exact cooperageref2_Match.mono _ _ _
      | exact cooperageref2_Open.mono _ _
      | exact cooperageref2_Right.mono _ _
      | exact glob_Any.mono _ _ _
      | exact LeO.none _
      | refine LeO.ite ?_ ?_
      | refine LeO.bind ?_ (fun _ => ?_)
set_option maxHeartbeats 8000000 in
set_option maxRecDepth 100000 in
theorem cooperagelaw2_GlobMatches.calls (k : Nat) (a0 : ByteArray) (a1 : ByteArray) (A2 : Option Addr) (c2 : Nat) (l2 : List ByteArray) (r : Bool) (w : World) (hr2 : Kd.C Kd.string w A2 l2.length l2) (hc2 : l2.length ≤ c2) (h : cooperagelaw2_GlobMatches.f k a0 a1 l2 = some r) :
    Calls Try.prog 6 #[.string a0, .string a1, .slice A2 l2.length c2] w fun e w' => e = .returned (.bool r) ∧ Below w.heap.size w w' := by
  have HR2 := Aside0.mk hr2
  have HC2 := Aside0.mk hc2
  clear hr2 hc2
  have HB := Aside0.mk (Below.refl w.heap.size w)
  have H : ((cooperagelaw2_shown.f).bind fun t181 => ((some (([] : List ByteArray) : List ByteArray)).bind fun y182 => (if y182.length + l2.length < 8796093022208 then ((some (y182 ++ l2 : List ByteArray)).bind fun y185 => ((some (([a0, a1] : List ByteArray) : List ByteArray)).bind fun y188 => (if y185.length + y188.length < 8796093022208 then ((cooperagelaw2_small.f k (y185 ++ y188)).bind fun t194 => (if t181 = true then (cooperagelaw2_GlobMatches.j0 k a0 a1 l2 t181 (!t194)) else (cooperagelaw2_GlobMatches.j0 k a0 a1 l2 t181 true))) else (none)))) else (none)))) = some r := h
  clear h
  replace H := Option.bind_eq_some_iff.mp H
  obtain ⟨t181, A40, H⟩ := H
  replace H : ((some (([] : List ByteArray) : List ByteArray)).bind fun y182 => (if y182.length + l2.length < 8796093022208 then ((some (y182 ++ l2 : List ByteArray)).bind fun y185 => ((some (([a0, a1] : List ByteArray) : List ByteArray)).bind fun y188 => (if y185.length + y188.length < 8796093022208 then ((cooperagelaw2_small.f k (y185 ++ y188)).bind fun t194 => (if t181 = true then (cooperagelaw2_GlobMatches.j0 k a0 a1 l2 t181 (!t194)) else (cooperagelaw2_GlobMatches.j0 k a0 a1 l2 t181 true))) else (none)))) else (none))) = some r := H
  have A4 := Aside0.mk A40
  clear A40
  obtain ⟨y182, hy182⟩ : ∃ y_ : List ByteArray, y_ = (([] : List ByteArray)) := ⟨_, rfl⟩
  replace H : (if y182.length + l2.length < 8796093022208 then ((some (y182 ++ l2 : List ByteArray)).bind fun y185 => ((some (([a0, a1] : List ByteArray) : List ByteArray)).bind fun y188 => (if y185.length + y188.length < 8796093022208 then ((cooperagelaw2_small.f k (y185 ++ y188)).bind fun t194 => (if t181 = true then (cooperagelaw2_GlobMatches.j0 k a0 a1 l2 t181 (!t194)) else (cooperagelaw2_GlobMatches.j0 k a0 a1 l2 t181 true))) else (none)))) else (none)) = some r := by first | (rw [hy182]; with_reducible exact H) | (have H2_ := (Option.bind_some _ _).symm.trans H; rw [hy182]; with_reducible exact H2_) | (have H2_ := (Option.bind_some _ _).symm.trans H; with_reducible exact H2_) | with_reducible exact H | (rw [hy182]; exact H) | exact H
  have Ny182 := Aside0.mk hy182
  clear hy182
  by_cases c5 : y182.length + l2.length < 8796093022208
  · rw [if_pos c5] at H
    have LMc5 := Aside0.mk c5
    clear c5
    obtain ⟨y185, hy185⟩ : ∃ y_ : List ByteArray, y_ = (y182 ++ l2) := ⟨_, rfl⟩
    replace H : ((some (([a0, a1] : List ByteArray) : List ByteArray)).bind fun y188 => (if y185.length + y188.length < 8796093022208 then ((cooperagelaw2_small.f k (y185 ++ y188)).bind fun t194 => (if t181 = true then (cooperagelaw2_GlobMatches.j0 k a0 a1 l2 t181 (!t194)) else (cooperagelaw2_GlobMatches.j0 k a0 a1 l2 t181 true))) else (none))) = some r := by first | (rw [hy185]; with_reducible exact H) | (have H2_ := (Option.bind_some _ _).symm.trans H; rw [hy185]; with_reducible exact H2_) | (have H2_ := (Option.bind_some _ _).symm.trans H; with_reducible exact H2_) | with_reducible exact H | (rw [hy185]; exact H) | exact H
    have Ny185 := Aside0.mk hy185
    clear hy185
    obtain ⟨y188, hy188⟩ : ∃ y_ : List ByteArray, y_ = (([a0, a1] : List ByteArray)) := ⟨_, rfl⟩
    replace H : (if y185.length + y188.length < 8796093022208 then ((cooperagelaw2_small.f k (y185 ++ y188)).bind fun t194 => (if t181 = true then (cooperagelaw2_GlobMatches.j0 k a0 a1 l2 t181 (!t194)) else (cooperagelaw2_GlobMatches.j0 k a0 a1 l2 t181 true))) else (none)) = some r := by first | (rw [hy188]; with_reducible exact H) | (have H2_ := (Option.bind_some _ _).symm.trans H; rw [hy188]; with_reducible exact H2_) | (have H2_ := (Option.bind_some _ _).symm.trans H; with_reducible exact H2_) | with_reducible exact H | (rw [hy188]; exact H) | exact H
    have Ny188 := Aside0.mk hy188
    clear hy188
    by_cases c6 : y185.length + y188.length < 8796093022208
    · rw [if_pos c6] at H
      have LMc6 := Aside0.mk c6
      clear c6
      obtain ⟨y191, hy191⟩ : ∃ y_ : List ByteArray, y_ = (y185 ++ y188) := ⟨_, rfl⟩
      replace H : ((cooperagelaw2_small.f k y191).bind fun t194 => (if t181 = true then (cooperagelaw2_GlobMatches.j0 k a0 a1 l2 t181 (!t194)) else (cooperagelaw2_GlobMatches.j0 k a0 a1 l2 t181 true))) = some r := by first | (rw [hy191]; with_reducible exact H) | (have H2_ := (Option.bind_some _ _).symm.trans H; rw [hy191]; with_reducible exact H2_) | (have H2_ := (Option.bind_some _ _).symm.trans H; with_reducible exact H2_) | with_reducible exact H | (rw [hy191]; exact H) | exact H
      have Ny191 := Aside0.mk hy191
      clear hy191
      replace H := Option.bind_eq_some_iff.mp H
      obtain ⟨t194, A70, H⟩ := H
      replace H : (if t181 = true then (cooperagelaw2_GlobMatches.j0 k a0 a1 l2 t181 (!t194)) else (cooperagelaw2_GlobMatches.j0 k a0 a1 l2 t181 true)) = some r := H
      have A7 := Aside0.mk A70
      clear A70
      have HC8 := Aside0.mk H
      clear H
      go_enter Try.func6, Try.ntmps6
      go_upto_region 3 with (first | ((with_reducible refine gate_callee (f := 9) rfl ?_); refine goesL_ (some 13) rfl rfl Try.func9 (by kernel_rfl) rfl #[] rfl (by (try simp only [List.map_toArray, List.map_cons, List.map_nil]); first | done | rfl | (simp only [List.length_drop, List.length_take]; rfl)) ?_; (with_reducible refine (cooperagelaw2_shown.calls  t181 _ A4.out).mono ?_); rintro e w' ⟨rfl, ⟨nd, rfl⟩⟩; refine ⟨_, rfl, ?_⟩) | ((with_reducible refine gate_dst (N := 14) rfl ?_); refine Kd.R_lit Kd.string _ 9 ?hg (N := 14) ?hd (xs := ([] : List ByteArray)) (inner := []) (ok := fun _ => True) (okp := fun _ => True) ?hr ?hp (fun _ hk => hk) trivial (Below.refl _ _) (Nat.le_refl _) (by simp) ?_; (case hd => rfl); (case hg => rfl); (case hr => first | (go_simp; done) | (go_simp; rfl)); (case hp => exact (Reps.none _ _)); intro v183 w9 ho10 hb hg_ hnew_; clear hg_ hnew_; (first | rw [← Ny182.out] at ho10 | (simp only [Int.reduceToNat] at ho10; rw [← Ny182.out] at ho10)); have n0_ := Aside0.mk (Kd.R_lower ho10 (below_size (by repeat (first | (with_reducible first | exact HB.out | apply below_alloc | apply pw_below_drewN | apply below_drew1) | exact HB.out)))); have n1_ := Aside0.mk (below_step (by repeat (first | (with_reducible first | exact HB.out | apply below_alloc | apply pw_below_drewN | apply below_drew1) | exact HB.out)) hb); clear HB; have HO184 := n0_; have HB := n1_; clear n0_ n1_; clear hb ho10) | ((with_reducible refine gate_builtin (b := .append) (xs := #[.tmp 14, .tmp 15]) rfl ?_); at_builtin; refine Kd.R_append_rows Kd.string (w0 := w) w.heap.size rfl (.tmp 14) (.tmp 15) 24 9 (.string ⟨#[]⟩) 16 rfl Try.underlying24 info9 rfl (by decide) (by omega) v183 y182 l2 _ _ _ (fun _ => True) (fun _ => False) rfl rfl ?aO ?aR (fun _ _ h => h) (fun _ h => h.elim) ?aF ?aB ?aS ?aL ?_; (case aR => repeat (first | exact (Kd.C_below HR2.out HB.out) | (with_reducible refine Kd.C_alloc ?_ _) | (with_reducible refine Kd.C_drewN ?_ _) | (with_reducible refine Kd.C_drew ?_))); (case aB => exact (by repeat (first | (with_reducible first | exact HB.out | apply below_alloc | apply pw_below_drewN | apply below_drew1) | exact HB.out))); (case aF => exact (fun _ _ => trivial)); (case aO => exact (by (with_reducible repeat (first | apply Kd.R_alloc | apply Kd.R_drewN | apply Kd.R_drew)); exact HO184.out)); (case aS => exact (below_size (by repeat (first | (with_reducible first | exact HB.out | apply below_alloc | apply pw_below_drewN | apply below_drew1) | exact HB.out)))); (case aL => have := LMc5.out; omega); intro v186 w11 ho hb hg hat; rw [← Ny185.out] at ho; have n0_ := Aside0.mk (hb); have n1_ := Aside0.mk (ho); clear HB; clear HO184; have HB := n0_; have HO187 := n1_; clear n0_ n1_; clear ho hb hg hat) | ((with_reducible refine gate_dst (N := 19) rfl ?_); refine Kd.R_lit Kd.string _ 9 ?hg (N := 19) ?hd (xs := ([a0, a1] : List ByteArray)) (inner := [.string a0, .string a1]) (ok := fun _ => True) (okp := fun _ => True) ?hr ?hp (fun _ hk => hk) trivial (Below.refl _ _) (Nat.le_refl _) (by simp) ?_; (case hd => rfl); (case hg => rfl); (case hr => first | (go_simp; done) | (go_simp; rfl)); (case hp => exact (Reps.one (show Kd.M Kd.string _ _ _ a0 [.string a0] from rfl) (Reps.one (show Kd.M Kd.string _ _ _ a1 [.string a1] from rfl) (Reps.none _ _)))); intro v189 w12 ho13 hb hg_ hnew_; clear hg_ hnew_; (first | rw [← Ny188.out] at ho13 | (simp only [Int.reduceToNat] at ho13; rw [← Ny188.out] at ho13)); have n0_ := Aside0.mk (Kd.R_elder' (by (with_reducible repeat (first | apply Kd.R_alloc | apply Kd.R_drewN | apply Kd.R_drew)); exact HO187.out) (Kd.R_base ho13) hb); have n1_ := Aside0.mk (Kd.R_lower (Kd.R_new' ho13 (Kd.R_lt (by (with_reducible repeat (first | apply Kd.R_alloc | apply Kd.R_drewN | apply Kd.R_drew)); exact HO187.out))) (below_size (by repeat (first | (with_reducible first | exact HB.out | apply below_alloc | apply pw_below_drewN | apply below_drew1) | exact HB.out)))); have n2_ := Aside0.mk (below_step (by repeat (first | (with_reducible first | exact HB.out | apply below_alloc | apply pw_below_drewN | apply below_drew1) | exact HB.out)) hb); clear HO187; clear HB; have HO187 := n0_; have HO190 := n1_; have HB := n2_; clear n0_ n1_ n2_; clear hb ho13; obtain ⟨Ao15, co15, eo15⟩ := Kd.R_slice HO190.out; subst eo15) | ((with_reducible refine gate_builtin (b := .append) (xs := #[.tmp 16, .tmp 19]) rfl ?_); at_builtin; refine Kd.R_append_rows Kd.string (w0 := w) w.heap.size rfl (.tmp 16) (.tmp 19) 24 9 (.string ⟨#[]⟩) 16 rfl Try.underlying24 info9 rfl (by decide) (by omega) v186 y185 y188 _ _ _ (fun k_ => some k_ ≠ (.slice Ao15 y188.length co15 : Value).ownBlock) (fun _ => False) rfl rfl ?aO ?aR (fun _ _ h => h) (fun _ h => h.elim) ?aF ?aB ?aS ?aL ?_; (case aR => repeat (first | exact (Kd.R_reads' HO190.out).2.2 | (with_reducible refine Kd.C_alloc ?_ _) | (with_reducible refine Kd.C_drewN ?_ _) | (with_reducible refine Kd.C_drew ?_))); (case aB => exact (by repeat (first | (with_reducible first | exact HB.out | apply below_alloc | apply pw_below_drewN | apply below_drew1) | exact HB.out))); (case aF => exact (fun k_ hk => Kd.fresh' (Kd.R_lt (by (with_reducible repeat (first | apply Kd.R_alloc | apply Kd.R_drewN | apply Kd.R_drew)); exact HO190.out)) k_ hk)); (case aO => exact (by (with_reducible repeat (first | apply Kd.R_alloc | apply Kd.R_drewN | apply Kd.R_drew)); exact Kd.R_mono HO187.out (fun _ hk => hk.2))); (case aS => exact (below_size (by repeat (first | (with_reducible first | exact HB.out | apply below_alloc | apply pw_below_drewN | apply below_drew1) | exact HB.out)))); (case aL => have := LMc6.out; omega); intro v192 w14 ho hb hg hat; rw [← Ny191.out] at ho; have n0_ := Aside0.mk (Kd.R_after (ok := (fun _ => True)) (by (with_reducible repeat (first | apply Kd.R_alloc | apply Kd.R_drewN | apply Kd.R_drew)); exact HO190.out) hg hat); have n1_ := Aside0.mk (hb); have n2_ := Aside0.mk (ho); clear HO190; clear HB; clear HO187; have HO190 := n0_; have HB := n1_; have HO193 := n2_; clear n0_ n1_ n2_; clear ho hb hg hat; obtain ⟨Ao16, co16, eo16⟩ := Kd.R_slice HO193.out; subst eo16) | ((with_reducible refine gate_callee (f := 10) rfl ?_); refine goesL_ (some 21) rfl rfl Try.func10 (by kernel_rfl) rfl #[.slice Ao16 y191.length co16] rfl (by (try simp only [List.map_toArray, List.map_cons, List.map_nil]); first | done | rfl | (simp only [List.length_drop, List.length_take]; rfl)) ?_; (with_reducible refine (cooperagelaw2_small.calls k _ _ y191 t194 _ ?side1 ?side2 A7.out).mono ?_); (case side1 => repeat (first | exact (Kd.R_reads' HO193.out).2.2 | (with_reducible refine Kd.C_alloc ?_ _) | (with_reducible refine Kd.C_drewN ?_ _) | (with_reducible refine Kd.C_drew ?_))); (case side2 => exact (Kd.R_reads' HO193.out).2.1); rintro e w' ⟨rfl, ⟨nd, rfl⟩⟩; refine ⟨_, rfl, ?_⟩))
      (try simp only [Act.put, List.setIfInBounds_toArray, List.set_cons_zero, List.set_cons_succ])
      go_cut [27] (fun v27 wc => ∃ (kq : Nat) (x27_7 : Bool), v27 = .bool x27_7 ∧ Aside0 (cooperagelaw2_GlobMatches.j0 kq a0 a1 l2 t181 x27_7 = some r) ∧ Aside0 (kq ≤ k) ∧ Aside0 (Below w.heap.size w wc))
      case first =>
        have H := HC8.out
        clear HC8
        by_cases c17 : t181 = true
        · subst c17
          have H1 : (cooperagelaw2_GlobMatches.j0 k a0 a1 l2 true (!t194)) = some r := by rw [if_pos rfl] at H; exact H
          clear H
          have H := H1
          clear H1
          have H' := Aside0.mk H
          clear H
          go_wp2
          go_meet
          case rel => exact ⟨_, (!t194), (by first | rfl | (simp; done) | (simp [*]; done)), H', ⟨by first | omega | exact Nat.le_refl _⟩, ⟨by repeat (first | (with_reducible first | exact HB.out | apply below_alloc | apply pw_below_drewN | apply below_drew1) | exact HB.out)⟩⟩
        · replace c17 := Bool.eq_false_iff.mpr c17
          subst c17
          have H1 : (cooperagelaw2_GlobMatches.j0 k a0 a1 l2 false true) = some r := by rw [if_neg (show ¬ (false = true) by decide)] at H; exact H
          clear H
          have H := H1
          clear H1
          have H' := Aside0.mk H
          clear H
          go_wp2
          go_meet
          case rel => exact ⟨_, (true), (by first | rfl | (simp; done) | (simp [*]; done)), H', ⟨by first | omega | exact Nat.le_refl _⟩, ⟨by repeat (first | (with_reducible first | exact HB.out | apply below_alloc | apply pw_below_drewN | apply below_drew1) | exact HB.out)⟩⟩
      case rest =>
        clear HC8
        try clear c1
        try clear c2
        try clear p2
        try clear c5
        try clear c6
        try clear c9
        try clear c10
        try clear c17
        obtain ⟨kq, x27_7, rfl, HA, HJ7, HB⟩ := hcut
        cases kq with
        | zero => exact absurd HA.out (by simp [cooperagelaw2_GlobMatches.j0])
        | succ kj7 =>
          have H := HA.out
          clear HA
          simp only [cooperagelaw2_GlobMatches.j0] at H
          by_cases c18 : x27_7 = true
          · subst c18
            have H1 : (some t181) = some r := by rw [if_pos rfl] at H; exact H
            clear H
            have H := H1
            clear H1
            obtain rfl := Option.some.inj H
            go_wp2
            go_ret
            exact ⟨by first | rfl | (simp [errW_none, errW_some] <;> rfl) | (simp [*, errW_none, errW_some] <;> rfl), by repeat (first | (with_reducible first | exact HB.out | apply below_alloc | apply pw_below_drewN | apply below_drew1) | exact HB.out)⟩
          · replace c18 := Bool.eq_false_iff.mpr c18
            subst c18
            have H1 : ((glob_Match.f a0 a1).bind fun bt195 => ((cooperageref2_Match.f kj7 a0 a1).bind fun bt197 => (if bt195.1.toList = bt197.1.toList then (if (bt195.2 == bt197.2) = true then ((glob_Right.f a0).bind fun t199 => ((cooperageref2_Right.f kj7 a0).bind fun t200 => (if (t199 == t200) = true then ((glob_Open.f a0).bind fun t201 => ((cooperageref2_Open.f kj7 a0).bind fun t202 => (if (t201 == t202) = true then ((glob_Any.f kj7 l2 a1).bind fun t203 => ((cooperageref2_Any.f kj7 l2 a1).bind fun t204 => (some (t203 == t204)))) else (some false)))) else (some false)))) else (some false)) else (some false)))) = some r := by rw [if_neg (show ¬ (false = true) by decide)] at H; exact H
            clear H
            have H := H1
            clear H1
            replace H := Option.bind_eq_some_iff.mp H
            obtain ⟨⟨t195, t196⟩, A190, H⟩ := H
            replace H : ((cooperageref2_Match.f kj7 a0 a1).bind fun bt197 => (if t195.toList = bt197.1.toList then (if (t196 == bt197.2) = true then ((glob_Right.f a0).bind fun t199 => ((cooperageref2_Right.f kj7 a0).bind fun t200 => (if (t199 == t200) = true then ((glob_Open.f a0).bind fun t201 => ((cooperageref2_Open.f kj7 a0).bind fun t202 => (if (t201 == t202) = true then ((glob_Any.f kj7 l2 a1).bind fun t203 => ((cooperageref2_Any.f kj7 l2 a1).bind fun t204 => (some (t203 == t204)))) else (some false)))) else (some false)))) else (some false)) else (some false))) = some r := H
            have A19 := Aside0.mk A190
            clear A190
            replace H := Option.bind_eq_some_iff.mp H
            obtain ⟨⟨t197, t198⟩, A200, H⟩ := H
            replace H : (if t195.toList = t197.toList then (if (t196 == t198) = true then ((glob_Right.f a0).bind fun t199 => ((cooperageref2_Right.f kj7 a0).bind fun t200 => (if (t199 == t200) = true then ((glob_Open.f a0).bind fun t201 => ((cooperageref2_Open.f kj7 a0).bind fun t202 => (if (t201 == t202) = true then ((glob_Any.f kj7 l2 a1).bind fun t203 => ((cooperageref2_Any.f kj7 l2 a1).bind fun t204 => (some (t203 == t204)))) else (some false)))) else (some false)))) else (some false)) else (some false)) = some r := H
            have A20 := Aside0.mk A200
            clear A200
            by_cases c21 : t195.toList = t197.toList
            · rw [if_pos c21] at H
              have c21b0 : (t195.toList == t197.toList) = true := beq_iff_eq.mpr c21
              have c21b1 : (t195.toList != t197.toList) = false := bne_eq_false_iff_eq.mpr c21
              clear c21
              by_cases c22 : (t196 == t198) = true
              · rw [if_pos c22] at H
                have c22b0 : (t196 == t198) = true := c22
                (try (have c22b1 : decide (t196 = t198) = true := by simpa using c22))
                (try (have c22b2 : (t196 == t198) = true := by simpa using c22))
                clear c22
                replace H := Option.bind_eq_some_iff.mp H
                obtain ⟨t199, A230, H⟩ := H
                replace H : ((cooperageref2_Right.f kj7 a0).bind fun t200 => (if (t199 == t200) = true then ((glob_Open.f a0).bind fun t201 => ((cooperageref2_Open.f kj7 a0).bind fun t202 => (if (t201 == t202) = true then ((glob_Any.f kj7 l2 a1).bind fun t203 => ((cooperageref2_Any.f kj7 l2 a1).bind fun t204 => (some (t203 == t204)))) else (some false)))) else (some false))) = some r := H
                have A23 := Aside0.mk A230
                clear A230
                replace H := Option.bind_eq_some_iff.mp H
                obtain ⟨t200, A240, H⟩ := H
                replace H : (if (t199 == t200) = true then ((glob_Open.f a0).bind fun t201 => ((cooperageref2_Open.f kj7 a0).bind fun t202 => (if (t201 == t202) = true then ((glob_Any.f kj7 l2 a1).bind fun t203 => ((cooperageref2_Any.f kj7 l2 a1).bind fun t204 => (some (t203 == t204)))) else (some false)))) else (some false)) = some r := H
                have A24 := Aside0.mk A240
                clear A240
                by_cases c25 : (t199 == t200) = true
                · rw [if_pos c25] at H
                  have c25b0 : (t199 == t200) = true := c25
                  (try (have c25b1 : decide (t199 = t200) = true := by simpa using c25))
                  (try (have c25b2 : (t199 == t200) = true := by simpa using c25))
                  clear c25
                  replace H := Option.bind_eq_some_iff.mp H
                  obtain ⟨t201, A260, H⟩ := H
                  replace H : ((cooperageref2_Open.f kj7 a0).bind fun t202 => (if (t201 == t202) = true then ((glob_Any.f kj7 l2 a1).bind fun t203 => ((cooperageref2_Any.f kj7 l2 a1).bind fun t204 => (some (t203 == t204)))) else (some false))) = some r := H
                  have A26 := Aside0.mk A260
                  clear A260
                  replace H := Option.bind_eq_some_iff.mp H
                  obtain ⟨t202, A270, H⟩ := H
                  replace H : (if (t201 == t202) = true then ((glob_Any.f kj7 l2 a1).bind fun t203 => ((cooperageref2_Any.f kj7 l2 a1).bind fun t204 => (some (t203 == t204)))) else (some false)) = some r := H
                  have A27 := Aside0.mk A270
                  clear A270
                  by_cases c28 : (t201 == t202) = true
                  · rw [if_pos c28] at H
                    have c28b0 : (t201 == t202) = true := c28
                    (try (have c28b1 : decide (t201 = t202) = true := by simpa using c28))
                    (try (have c28b2 : (t201 == t202) = true := by simpa using c28))
                    clear c28
                    replace H := Option.bind_eq_some_iff.mp H
                    obtain ⟨t203, A290, H⟩ := H
                    replace H : ((cooperageref2_Any.f kj7 l2 a1).bind fun t204 => (some (t203 == t204))) = some r := H
                    have A29 := Aside0.mk A290
                    clear A290
                    replace H := Option.bind_eq_some_iff.mp H
                    obtain ⟨t204, A300, H⟩ := H
                    replace H : (some (t203 == t204)) = some r := H
                    have A30 := Aside0.mk A300
                    clear A300
                    obtain rfl := Option.some.inj H
                    go_wp2_with (first | ((with_reducible refine gate_callee (f := 16) rfl ?_); refine goesL_ (some 32) rfl rfl Try.func16 (by kernel_rfl) rfl #[.string a0, .string a1] rfl (by (try simp only [List.map_toArray, List.map_cons, List.map_nil]); first | done | rfl | (simp only [List.length_drop, List.length_take]; rfl)) ?_; (with_reducible refine (glob_Match.calls a0 a1 t195 t196 _ A19.out).mono ?_); rintro e w' ⟨rfl, ⟨nd, rfl⟩⟩; refine ⟨_, rfl, ?_⟩) | ((with_reducible refine gate_callee (f := 18) rfl ?_); refine goesL_ (some 38) rfl rfl Try.func18 (by kernel_rfl) rfl #[.string a0, .string a1] rfl (by (try simp only [List.map_toArray, List.map_cons, List.map_nil]); first | done | rfl | (simp only [List.length_drop, List.length_take]; rfl)) ?_; (with_reducible refine (cooperageref2_Match.calls kj7 a0 a1 t197 t198 _ A20.out).mono ?_); rintro e w' ⟨rfl, ⟨nd, rfl⟩⟩; refine ⟨_, rfl, ?_⟩) | (go_at_call 17; (with_reducible refine (glob_Right.calls a0 t199 _ A23.out).mono ?_); rintro e w' ⟨rfl, ⟨nd, rfl⟩⟩) | (go_at_call 19; (with_reducible refine (cooperageref2_Right.calls kj7 a0 t200 _ A24.out).mono ?_); rintro e w' ⟨rfl, ⟨nd, rfl⟩⟩) | (go_at_call 15; (with_reducible refine (glob_Open.calls a0 t201 _ A26.out).mono ?_); rintro e w' ⟨rfl, ⟨nd, rfl⟩⟩) | (go_at_call 20; (with_reducible refine (cooperageref2_Open.calls kj7 a0 t202 _ A27.out).mono ?_); rintro e w' ⟨rfl, ⟨nd, rfl⟩⟩) | (go_at_call 21; (with_reducible refine (glob_Any.calls kj7 _ _ l2 a1 t203 _ ?side1 ?side2 A29.out).mono ?_); (case side1 => repeat (first | exact (Kd.C_below HR2.out (by repeat (first | (with_reducible first | exact HB.out | apply below_alloc | apply pw_below_drewN | apply below_drew1) | exact HB.out))) | (with_reducible refine Kd.C_alloc ?_ _) | (with_reducible refine Kd.C_drewN ?_ _) | (with_reducible refine Kd.C_drew ?_))); (case side2 => exact HC2.out); rintro e w' ⟨rfl, ⟨nd, rfl⟩⟩) | (go_at_call 22; (with_reducible refine (cooperageref2_Any.calls kj7 _ _ l2 a1 t204 _ ?side1 ?side2 A30.out).mono ?_); (case side1 => repeat (first | exact (Kd.C_below HR2.out (by repeat (first | (with_reducible first | exact HB.out | apply below_alloc | apply pw_below_drewN | apply below_drew1) | exact HB.out))) | (with_reducible refine Kd.C_alloc ?_ _) | (with_reducible refine Kd.C_drewN ?_ _) | (with_reducible refine Kd.C_drew ?_))); (case side2 => exact HC2.out); rintro e w' ⟨rfl, ⟨nd, rfl⟩⟩))
                    go_ret
                    exact ⟨by first | rfl | (simp [errW_none, errW_some] <;> rfl) | (simp [*, errW_none, errW_some] <;> rfl), by repeat (first | (with_reducible first | exact HB.out | apply below_alloc | apply pw_below_drewN | apply below_drew1) | exact HB.out)⟩
                  · rw [if_neg c28] at H
                    have c28b0 : (t201 == t202) = false := by simpa using c28
                    (try (have c28b1 : decide (t201 = t202) = false := by simpa using c28))
                    (try (have c28b2 : (t201 == t202) = false := by simpa using c28))
                    (try (have c28b3 : ¬ (t201 = t202) := by simpa using c28))
                    clear c28
                    obtain rfl := Option.some.inj H
                    go_wp2_with (first | ((with_reducible refine gate_callee (f := 16) rfl ?_); refine goesL_ (some 32) rfl rfl Try.func16 (by kernel_rfl) rfl #[.string a0, .string a1] rfl (by (try simp only [List.map_toArray, List.map_cons, List.map_nil]); first | done | rfl | (simp only [List.length_drop, List.length_take]; rfl)) ?_; (with_reducible refine (glob_Match.calls a0 a1 t195 t196 _ A19.out).mono ?_); rintro e w' ⟨rfl, ⟨nd, rfl⟩⟩; refine ⟨_, rfl, ?_⟩) | ((with_reducible refine gate_callee (f := 18) rfl ?_); refine goesL_ (some 38) rfl rfl Try.func18 (by kernel_rfl) rfl #[.string a0, .string a1] rfl (by (try simp only [List.map_toArray, List.map_cons, List.map_nil]); first | done | rfl | (simp only [List.length_drop, List.length_take]; rfl)) ?_; (with_reducible refine (cooperageref2_Match.calls kj7 a0 a1 t197 t198 _ A20.out).mono ?_); rintro e w' ⟨rfl, ⟨nd, rfl⟩⟩; refine ⟨_, rfl, ?_⟩) | (go_at_call 17; (with_reducible refine (glob_Right.calls a0 t199 _ A23.out).mono ?_); rintro e w' ⟨rfl, ⟨nd, rfl⟩⟩) | (go_at_call 19; (with_reducible refine (cooperageref2_Right.calls kj7 a0 t200 _ A24.out).mono ?_); rintro e w' ⟨rfl, ⟨nd, rfl⟩⟩) | (go_at_call 15; (with_reducible refine (glob_Open.calls a0 t201 _ A26.out).mono ?_); rintro e w' ⟨rfl, ⟨nd, rfl⟩⟩) | (go_at_call 20; (with_reducible refine (cooperageref2_Open.calls kj7 a0 t202 _ A27.out).mono ?_); rintro e w' ⟨rfl, ⟨nd, rfl⟩⟩))
                    go_ret
                    exact ⟨by first | rfl | (simp [errW_none, errW_some] <;> rfl) | (simp [*, errW_none, errW_some] <;> rfl), by repeat (first | (with_reducible first | exact HB.out | apply below_alloc | apply pw_below_drewN | apply below_drew1) | exact HB.out)⟩
                · rw [if_neg c25] at H
                  have c25b0 : (t199 == t200) = false := by simpa using c25
                  (try (have c25b1 : decide (t199 = t200) = false := by simpa using c25))
                  (try (have c25b2 : (t199 == t200) = false := by simpa using c25))
                  (try (have c25b3 : ¬ (t199 = t200) := by simpa using c25))
                  clear c25
                  obtain rfl := Option.some.inj H
                  go_wp2_with (first | ((with_reducible refine gate_callee (f := 16) rfl ?_); refine goesL_ (some 32) rfl rfl Try.func16 (by kernel_rfl) rfl #[.string a0, .string a1] rfl (by (try simp only [List.map_toArray, List.map_cons, List.map_nil]); first | done | rfl | (simp only [List.length_drop, List.length_take]; rfl)) ?_; (with_reducible refine (glob_Match.calls a0 a1 t195 t196 _ A19.out).mono ?_); rintro e w' ⟨rfl, ⟨nd, rfl⟩⟩; refine ⟨_, rfl, ?_⟩) | ((with_reducible refine gate_callee (f := 18) rfl ?_); refine goesL_ (some 38) rfl rfl Try.func18 (by kernel_rfl) rfl #[.string a0, .string a1] rfl (by (try simp only [List.map_toArray, List.map_cons, List.map_nil]); first | done | rfl | (simp only [List.length_drop, List.length_take]; rfl)) ?_; (with_reducible refine (cooperageref2_Match.calls kj7 a0 a1 t197 t198 _ A20.out).mono ?_); rintro e w' ⟨rfl, ⟨nd, rfl⟩⟩; refine ⟨_, rfl, ?_⟩) | (go_at_call 17; (with_reducible refine (glob_Right.calls a0 t199 _ A23.out).mono ?_); rintro e w' ⟨rfl, ⟨nd, rfl⟩⟩) | (go_at_call 19; (with_reducible refine (cooperageref2_Right.calls kj7 a0 t200 _ A24.out).mono ?_); rintro e w' ⟨rfl, ⟨nd, rfl⟩⟩))
                  go_ret
                  exact ⟨by first | rfl | (simp [errW_none, errW_some] <;> rfl) | (simp [*, errW_none, errW_some] <;> rfl), by repeat (first | (with_reducible first | exact HB.out | apply below_alloc | apply pw_below_drewN | apply below_drew1) | exact HB.out)⟩
              · rw [if_neg c22] at H
                have c22b0 : (t196 == t198) = false := by simpa using c22
                (try (have c22b1 : decide (t196 = t198) = false := by simpa using c22))
                (try (have c22b2 : (t196 == t198) = false := by simpa using c22))
                (try (have c22b3 : ¬ (t196 = t198) := by simpa using c22))
                clear c22
                obtain rfl := Option.some.inj H
                go_wp2_with (first | ((with_reducible refine gate_callee (f := 16) rfl ?_); refine goesL_ (some 32) rfl rfl Try.func16 (by kernel_rfl) rfl #[.string a0, .string a1] rfl (by (try simp only [List.map_toArray, List.map_cons, List.map_nil]); first | done | rfl | (simp only [List.length_drop, List.length_take]; rfl)) ?_; (with_reducible refine (glob_Match.calls a0 a1 t195 t196 _ A19.out).mono ?_); rintro e w' ⟨rfl, ⟨nd, rfl⟩⟩; refine ⟨_, rfl, ?_⟩) | ((with_reducible refine gate_callee (f := 18) rfl ?_); refine goesL_ (some 38) rfl rfl Try.func18 (by kernel_rfl) rfl #[.string a0, .string a1] rfl (by (try simp only [List.map_toArray, List.map_cons, List.map_nil]); first | done | rfl | (simp only [List.length_drop, List.length_take]; rfl)) ?_; (with_reducible refine (cooperageref2_Match.calls kj7 a0 a1 t197 t198 _ A20.out).mono ?_); rintro e w' ⟨rfl, ⟨nd, rfl⟩⟩; refine ⟨_, rfl, ?_⟩))
                go_ret
                exact ⟨by first | rfl | (simp [errW_none, errW_some] <;> rfl) | (simp [*, errW_none, errW_some] <;> rfl), by repeat (first | (with_reducible first | exact HB.out | apply below_alloc | apply pw_below_drewN | apply below_drew1) | exact HB.out)⟩
            · rw [if_neg c21] at H
              have c21b0 : (t195.toList == t197.toList) = false := beq_eq_false_iff_ne.mpr c21
              have c21b1 : (t195.toList != t197.toList) = true := bne_iff_ne.mpr c21
              obtain rfl := Option.some.inj H
              go_wp2_with (first | ((with_reducible refine gate_callee (f := 16) rfl ?_); refine goesL_ (some 32) rfl rfl Try.func16 (by kernel_rfl) rfl #[.string a0, .string a1] rfl (by (try simp only [List.map_toArray, List.map_cons, List.map_nil]); first | done | rfl | (simp only [List.length_drop, List.length_take]; rfl)) ?_; (with_reducible refine (glob_Match.calls a0 a1 t195 t196 _ A19.out).mono ?_); rintro e w' ⟨rfl, ⟨nd, rfl⟩⟩; refine ⟨_, rfl, ?_⟩) | ((with_reducible refine gate_callee (f := 18) rfl ?_); refine goesL_ (some 38) rfl rfl Try.func18 (by kernel_rfl) rfl #[.string a0, .string a1] rfl (by (try simp only [List.map_toArray, List.map_cons, List.map_nil]); first | done | rfl | (simp only [List.length_drop, List.length_take]; rfl)) ?_; (with_reducible refine (cooperageref2_Match.calls kj7 a0 a1 t197 t198 _ A20.out).mono ?_); rintro e w' ⟨rfl, ⟨nd, rfl⟩⟩; refine ⟨_, rfl, ?_⟩))
              go_ret
              exact ⟨by first | rfl | (simp [errW_none, errW_some] <;> rfl) | (simp [*, errW_none, errW_some] <;> rfl), by repeat (first | (with_reducible first | exact HB.out | apply below_alloc | apply pw_below_drewN | apply below_drew1) | exact HB.out)⟩
    · rw [if_neg c6] at H
      exact absurd H (by simp)
  · rw [if_neg c5] at H
    exact absurd H (by simp)

/-- THE ONE PURE STATEMENT of cooperagelaw2_GlobMatches. -/
def cooperagelaw2_GlobMatches.Pure : Prop := ∀ (a0 : ByteArray) (a1 : ByteArray) (l2 : List ByteArray), a0.size ≤ 140737488351232 → a1.size ≤ 140737488351232 → l2.length ≤ 9223372036854775807 → l2.length * 16 ≤ 140737488351232 → (∀ x ∈ l2, x.size ≤ 9223372036854775807) → ∃ k, cooperagelaw2_GlobMatches.f k a0 a1 l2 = some true
theorem cooperagelaw2_GlobMatches.walk (P : cooperagelaw2_GlobMatches.Pure) (a0 : ByteArray) (a1 : ByteArray) (A2 : Option Addr) (c2 : Nat) (l2 : List ByteArray) (w : World) (w0 : a0.size ≤ 140737488351232) (w1 : a1.size ≤ 140737488351232) (r2 : Kd.C Kd.string w A2 l2.length l2) (q2 : l2.length ≤ c2) (m2 : l2.length ≤ 9223372036854775807) (y2 : l2.length * 16 ≤ 140737488351232) (e2 : ∀ x ∈ l2, x.size ≤ 9223372036854775807) :
    Calls Try.prog 6 #[.string a0, .string a1, .slice A2 l2.length c2] w fun e w' => e = .returned (.bool true) ∧ Below w.heap.size w w' := by
  obtain ⟨k, h⟩ := P a0 a1 l2 w0 w1 m2 y2 e2
  refine (cooperagelaw2_GlobMatches.calls k a0 a1 _ _ l2 true w r2 q2 h).mono ?_
  rintro e w' ⟨rfl, hd⟩
  exact ⟨rfl, hd⟩

/-! ### cooperagelaw2_GlobTurns: function 7 -/
def cooperagelaw2_GlobTurns.j0 : Nat → ByteArray → ByteArray → ByteArray → Bool → Bool → Option (Bool)
  | 0, _, _, _, _, _ => none
  | k + 1, x0, x1, x2, x7, x27 => if x27 = true then (some x7) else ((glob_Subst.f x0 x0 x2).bind fun t206 => (if t206.toList = x2.toList then ((glob_Match.f x0 x2).bind fun bt207 => (if bt207.2 = true then ((glob_Open.f x0).bind fun t214 => (if t214 = true then ((glob_Open.f x1).bind fun t215 => (if t215 = true then ((glob_Subst.f x0 x1 x2).bind fun t216 => ((glob_Subst.f x1 x0 t216).bind fun t217 => (some (t217.toList == x2.toList)))) else (some true))) else (some true))) else ((glob_Subst.f x0 x1 x2).bind fun t209 => (if t209.toList = x2.toList then ((glob_Any.f k (([x0] : List ByteArray)) x2).bind fun t213 => (some (!t213))) else (some false))))) else (some false)))
def cooperagelaw2_GlobTurns.f (k : Nat) (a0 : ByteArray) (a1 : ByteArray) (a2 : ByteArray) : Option (Bool) := (cooperagelaw2_shown.f).bind fun t205 => (if t205 = true then (if (a0.size : Int) > 300 then (cooperagelaw2_GlobTurns.j0 k a0 a1 a2 t205 true) else (if (a1.size : Int) > 300 then (cooperagelaw2_GlobTurns.j0 k a0 a1 a2 t205 true) else (cooperagelaw2_GlobTurns.j0 k a0 a1 a2 t205 (decide ((a2.size : Int) > 300))))) else (cooperagelaw2_GlobTurns.j0 k a0 a1 a2 t205 true))
theorem cooperagelaw2_GlobTurns.mono_l : ∀ k, (∀ y0 y1 y2 y3 y4, LeO (cooperagelaw2_GlobTurns.j0 k y0 y1 y2 y3 y4) (cooperagelaw2_GlobTurns.j0 (k + 1) y0 y1 y2 y3 y4))
  | 0 => fun _ _ _ _ _ r h => by simp [cooperagelaw2_GlobTurns.j0] at h
  | k + 1 => by
    have ih0 := cooperagelaw2_GlobTurns.mono_l k
    · intro y0 y1 y2 y3 y4
      unfold cooperagelaw2_GlobTurns.j0
      repeat' first
      | (with_reducible exact ih0 _ _ _ _ _)
      | (with_reducible exact glob_Any.mono _ _ _)
      | (with_reducible exact LeO.refl _)
      | (with_reducible exact LeO.none _)
      | (with_reducible refine LeO.ite ?_ ?_)
      | (with_reducible refine LeO.bind ?_ (fun _ => ?_))
      | exact ih0 _ _ _ _ _
      | exact glob_Any.mono _ _ _
      | exact LeO.none _
      | refine LeO.ite ?_ ?_
      | refine LeO.bind ?_ (fun _ => ?_)
theorem cooperagelaw2_GlobTurns.mono : ∀ a0 a1 a2 k, LeO (cooperagelaw2_GlobTurns.f k a0 a1 a2) (cooperagelaw2_GlobTurns.f (k + 1) a0 a1 a2) := by
  intro a0 a1 a2 k
  have ih0 := cooperagelaw2_GlobTurns.mono_l k
  unfold cooperagelaw2_GlobTurns.f
  repeat' first
      | (with_reducible exact ih0 _ _ _ _ _)
      | (with_reducible exact glob_Any.mono _ _ _)
      | (with_reducible exact LeO.refl _)
      | (with_reducible exact LeO.none _)
      | (with_reducible refine LeO.ite ?_ ?_)
      | (with_reducible refine LeO.bind ?_ (fun _ => ?_))
      | exact ih0 _ _ _ _ _
      | exact glob_Any.mono _ _ _
      | exact LeO.none _
      | refine LeO.ite ?_ ?_
      | refine LeO.bind ?_ (fun _ => ?_)
set_option maxHeartbeats 8000000 in
set_option maxRecDepth 100000 in
theorem cooperagelaw2_GlobTurns.calls (k : Nat) (a0 : ByteArray) (a1 : ByteArray) (a2 : ByteArray) (r : Bool) (w : World) (h : cooperagelaw2_GlobTurns.f k a0 a1 a2 = some r) :
    Calls Try.prog 7 #[.string a0, .string a1, .string a2] w fun e w' => e = .returned (.bool r) ∧ Below w.heap.size w w' := by
  have HB := Aside0.mk (Below.refl w.heap.size w)
  have H : ((cooperagelaw2_shown.f).bind fun t205 => (if t205 = true then (if (a0.size : Int) > 300 then (cooperagelaw2_GlobTurns.j0 k a0 a1 a2 t205 true) else (if (a1.size : Int) > 300 then (cooperagelaw2_GlobTurns.j0 k a0 a1 a2 t205 true) else (cooperagelaw2_GlobTurns.j0 k a0 a1 a2 t205 (decide ((a2.size : Int) > 300))))) else (cooperagelaw2_GlobTurns.j0 k a0 a1 a2 t205 true))) = some r := h
  clear h
  replace H := Option.bind_eq_some_iff.mp H
  obtain ⟨t205, A40, H⟩ := H
  replace H : (if t205 = true then (if (a0.size : Int) > 300 then (cooperagelaw2_GlobTurns.j0 k a0 a1 a2 t205 true) else (if (a1.size : Int) > 300 then (cooperagelaw2_GlobTurns.j0 k a0 a1 a2 t205 true) else (cooperagelaw2_GlobTurns.j0 k a0 a1 a2 t205 (decide ((a2.size : Int) > 300))))) else (cooperagelaw2_GlobTurns.j0 k a0 a1 a2 t205 true)) = some r := H
  have A4 := Aside0.mk A40
  clear A40
  have HC5 := Aside0.mk H
  clear H
  go_enter Try.func7, Try.ntmps7
  go_upto_region 2 with (first | ((with_reducible refine gate_callee (f := 9) rfl ?_); refine goesL_ (some 10) rfl rfl Try.func9 (by kernel_rfl) rfl #[] rfl (by (try simp only [List.map_toArray, List.map_cons, List.map_nil]); first | done | rfl | (simp only [List.length_drop, List.length_take]; rfl)) ?_; (with_reducible refine (cooperagelaw2_shown.calls  t205 _ A4.out).mono ?_); rintro e w' ⟨rfl, ⟨nd, rfl⟩⟩; refine ⟨_, rfl, ?_⟩))
  (try simp only [Act.put, List.setIfInBounds_toArray, List.set_cons_zero, List.set_cons_succ])
  go_cut [27] (fun v27 wc => ∃ (kq : Nat) (x27_4 : Bool), v27 = .bool x27_4 ∧ Aside0 (cooperagelaw2_GlobTurns.j0 kq a0 a1 a2 t205 x27_4 = some r) ∧ Aside0 (kq ≤ k) ∧ Aside0 (Below w.heap.size w wc))
  case first =>
    have H := HC5.out
    clear HC5
    by_cases c6 : t205 = true
    · subst c6
      have H1 : (if (a0.size : Int) > 300 then (cooperagelaw2_GlobTurns.j0 k a0 a1 a2 true true) else (if (a1.size : Int) > 300 then (cooperagelaw2_GlobTurns.j0 k a0 a1 a2 true true) else (cooperagelaw2_GlobTurns.j0 k a0 a1 a2 true (decide ((a2.size : Int) > 300))))) = some r := by rw [if_pos rfl] at H; exact H
      clear H
      have H := H1
      clear H1
      by_cases c7 : (a0.size : Int) > 300
      · rw [if_pos c7] at H
        have c7b0 : decide (300 < (a0.size : Int)) = true := decide_eq_true c7
        have c7b1 : decide (300 < a0.size) = true := decide_eq_true (by omega)
        clear c7
        (first | rw [c7b0] | (simp only [i64_w, i32_w]; rw [c7b0]) | skip)
        have H' := Aside0.mk H
        clear H
        go_wp2
        go_meet
        case rel => exact ⟨_, (true), (by first | rfl | (simp; done) | (simp [*]; done)), H', ⟨by first | omega | exact Nat.le_refl _⟩, ⟨by repeat (first | (with_reducible first | exact HB.out | apply below_alloc | apply pw_below_drewN | apply below_drew1) | exact HB.out)⟩⟩
      · rw [if_neg c7] at H
        have c7b0 : decide (300 < (a0.size : Int)) = false := decide_eq_false c7
        have c7b1 : decide (300 < a0.size) = false := decide_eq_false (by omega)
        clear c7
        (first | rw [c7b0] | (simp only [i64_w, i32_w]; rw [c7b0]) | skip)
        by_cases c8 : (a1.size : Int) > 300
        · rw [if_pos c8] at H
          have c8b0 : decide (300 < (a1.size : Int)) = true := decide_eq_true c8
          have c8b1 : decide (300 < a1.size) = true := decide_eq_true (by omega)
          clear c8
          have H' := Aside0.mk H
          clear H
          go_wp2
          go_meet
          case rel => exact ⟨_, (true), (by first | rfl | (simp; done) | (simp [*]; done)), H', ⟨by first | omega | exact Nat.le_refl _⟩, ⟨by repeat (first | (with_reducible first | exact HB.out | apply below_alloc | apply pw_below_drewN | apply below_drew1) | exact HB.out)⟩⟩
        · rw [if_neg c8] at H
          have c8b0 : decide (300 < (a1.size : Int)) = false := decide_eq_false c8
          have c8b1 : decide (300 < a1.size) = false := decide_eq_false (by omega)
          clear c8
          have H' := Aside0.mk H
          clear H
          go_wp2
          go_meet
          case rel => exact ⟨_, (decide ((a2.size : Int) > 300)), (by first | rfl | (simp; done) | (simp [*]; done)), H', ⟨by first | omega | exact Nat.le_refl _⟩, ⟨by repeat (first | (with_reducible first | exact HB.out | apply below_alloc | apply pw_below_drewN | apply below_drew1) | exact HB.out)⟩⟩
    · replace c6 := Bool.eq_false_iff.mpr c6
      subst c6
      have H1 : (cooperagelaw2_GlobTurns.j0 k a0 a1 a2 false true) = some r := by rw [if_neg (show ¬ (false = true) by decide)] at H; exact H
      clear H
      have H := H1
      clear H1
      have H' := Aside0.mk H
      clear H
      go_wp2
      go_meet
      case rel => exact ⟨_, (true), (by first | rfl | (simp; done) | (simp [*]; done)), H', ⟨by first | omega | exact Nat.le_refl _⟩, ⟨by repeat (first | (with_reducible first | exact HB.out | apply below_alloc | apply pw_below_drewN | apply below_drew1) | exact HB.out)⟩⟩
  case rest =>
    clear HC5
    try clear p2
    try clear c6
    try clear c7
    try clear c7b0
    try clear c7b1
    try clear c8
    try clear c8b0
    try clear c8b1
    obtain ⟨kq, x27_4, rfl, HA, HJ4, HB⟩ := hcut
    cases kq with
    | zero => exact absurd HA.out (by simp [cooperagelaw2_GlobTurns.j0])
    | succ kj4 =>
      have H := HA.out
      clear HA
      simp only [cooperagelaw2_GlobTurns.j0] at H
      by_cases c9 : x27_4 = true
      · subst c9
        have H1 : (some t205) = some r := by rw [if_pos rfl] at H; exact H
        clear H
        have H := H1
        clear H1
        obtain rfl := Option.some.inj H
        go_wp2
        go_ret
        exact ⟨by first | rfl | (simp [errW_none, errW_some] <;> rfl) | (simp [*, errW_none, errW_some] <;> rfl), by repeat (first | (with_reducible first | exact HB.out | apply below_alloc | apply pw_below_drewN | apply below_drew1) | exact HB.out)⟩
      · replace c9 := Bool.eq_false_iff.mpr c9
        subst c9
        have H1 : ((glob_Subst.f a0 a0 a2).bind fun t206 => (if t206.toList = a2.toList then ((glob_Match.f a0 a2).bind fun bt207 => (if bt207.2 = true then ((glob_Open.f a0).bind fun t214 => (if t214 = true then ((glob_Open.f a1).bind fun t215 => (if t215 = true then ((glob_Subst.f a0 a1 a2).bind fun t216 => ((glob_Subst.f a1 a0 t216).bind fun t217 => (some (t217.toList == a2.toList)))) else (some true))) else (some true))) else ((glob_Subst.f a0 a1 a2).bind fun t209 => (if t209.toList = a2.toList then ((glob_Any.f kj4 (([a0] : List ByteArray)) a2).bind fun t213 => (some (!t213))) else (some false))))) else (some false))) = some r := by rw [if_neg (show ¬ (false = true) by decide)] at H; exact H
        clear H
        have H := H1
        clear H1
        replace H := Option.bind_eq_some_iff.mp H
        obtain ⟨t206, A100, H⟩ := H
        replace H : (if t206.toList = a2.toList then ((glob_Match.f a0 a2).bind fun bt207 => (if bt207.2 = true then ((glob_Open.f a0).bind fun t214 => (if t214 = true then ((glob_Open.f a1).bind fun t215 => (if t215 = true then ((glob_Subst.f a0 a1 a2).bind fun t216 => ((glob_Subst.f a1 a0 t216).bind fun t217 => (some (t217.toList == a2.toList)))) else (some true))) else (some true))) else ((glob_Subst.f a0 a1 a2).bind fun t209 => (if t209.toList = a2.toList then ((glob_Any.f kj4 (([a0] : List ByteArray)) a2).bind fun t213 => (some (!t213))) else (some false))))) else (some false)) = some r := H
        have A10 := Aside0.mk A100
        clear A100
        by_cases c11 : t206.toList = a2.toList
        · rw [if_pos c11] at H
          have c11b0 : (t206.toList == a2.toList) = true := beq_iff_eq.mpr c11
          have c11b1 : (t206.toList != a2.toList) = false := bne_eq_false_iff_eq.mpr c11
          clear c11
          replace H := Option.bind_eq_some_iff.mp H
          obtain ⟨⟨t207, t208⟩, A120, H⟩ := H
          replace H : (if t208 = true then ((glob_Open.f a0).bind fun t214 => (if t214 = true then ((glob_Open.f a1).bind fun t215 => (if t215 = true then ((glob_Subst.f a0 a1 a2).bind fun t216 => ((glob_Subst.f a1 a0 t216).bind fun t217 => (some (t217.toList == a2.toList)))) else (some true))) else (some true))) else ((glob_Subst.f a0 a1 a2).bind fun t209 => (if t209.toList = a2.toList then ((glob_Any.f kj4 (([a0] : List ByteArray)) a2).bind fun t213 => (some (!t213))) else (some false)))) = some r := H
          have A12 := Aside0.mk A120
          clear A120
          by_cases c13 : t208 = true
          · subst c13
            have H1 : ((glob_Open.f a0).bind fun t214 => (if t214 = true then ((glob_Open.f a1).bind fun t215 => (if t215 = true then ((glob_Subst.f a0 a1 a2).bind fun t216 => ((glob_Subst.f a1 a0 t216).bind fun t217 => (some (t217.toList == a2.toList)))) else (some true))) else (some true))) = some r := by rw [if_pos rfl] at H; exact H
            clear H
            have H := H1
            clear H1
            replace H := Option.bind_eq_some_iff.mp H
            obtain ⟨t214, A140, H⟩ := H
            replace H : (if t214 = true then ((glob_Open.f a1).bind fun t215 => (if t215 = true then ((glob_Subst.f a0 a1 a2).bind fun t216 => ((glob_Subst.f a1 a0 t216).bind fun t217 => (some (t217.toList == a2.toList)))) else (some true))) else (some true)) = some r := H
            have A14 := Aside0.mk A140
            clear A140
            by_cases c15 : t214 = true
            · subst c15
              have H1 : ((glob_Open.f a1).bind fun t215 => (if t215 = true then ((glob_Subst.f a0 a1 a2).bind fun t216 => ((glob_Subst.f a1 a0 t216).bind fun t217 => (some (t217.toList == a2.toList)))) else (some true))) = some r := by rw [if_pos rfl] at H; exact H
              clear H
              have H := H1
              clear H1
              replace H := Option.bind_eq_some_iff.mp H
              obtain ⟨t215, A160, H⟩ := H
              replace H : (if t215 = true then ((glob_Subst.f a0 a1 a2).bind fun t216 => ((glob_Subst.f a1 a0 t216).bind fun t217 => (some (t217.toList == a2.toList)))) else (some true)) = some r := H
              have A16 := Aside0.mk A160
              clear A160
              by_cases c17 : t215 = true
              · subst c17
                have H1 : ((glob_Subst.f a0 a1 a2).bind fun t216 => ((glob_Subst.f a1 a0 t216).bind fun t217 => (some (t217.toList == a2.toList)))) = some r := by rw [if_pos rfl] at H; exact H
                clear H
                have H := H1
                clear H1
                replace H := Option.bind_eq_some_iff.mp H
                obtain ⟨t216, A180, H⟩ := H
                replace H : ((glob_Subst.f a1 a0 t216).bind fun t217 => (some (t217.toList == a2.toList))) = some r := H
                have A18 := Aside0.mk A180
                clear A180
                replace H := Option.bind_eq_some_iff.mp H
                obtain ⟨t217, A190, H⟩ := H
                replace H : (some (t217.toList == a2.toList)) = some r := H
                have A19 := Aside0.mk A190
                clear A190
                obtain rfl := Option.some.inj H
                go_wp2_with (first | ((with_reducible refine gate_callee (f := 13) rfl ?_); refine goesL_ (some 32) rfl rfl Try.func13 (by kernel_rfl) rfl #[.string a0, .string a0, .string a2] rfl (by (try simp only [List.map_toArray, List.map_cons, List.map_nil]); first | done | rfl | (simp only [List.length_drop, List.length_take]; rfl)) ?_; (with_reducible refine (glob_Subst.calls a0 a0 a2 t206 _ A10.out).mono ?_); rintro e w' ⟨rfl, ⟨nd, rfl⟩⟩; refine ⟨_, rfl, ?_⟩) | ((with_reducible refine gate_callee (f := 16) rfl ?_); refine goesL_ (some 38) rfl rfl Try.func16 (by kernel_rfl) rfl #[.string a0, .string a2] rfl (by (try simp only [List.map_toArray, List.map_cons, List.map_nil]); first | done | rfl | (simp only [List.length_drop, List.length_take]; rfl)) ?_; (with_reducible refine (glob_Match.calls a0 a2 t207 true _ A12.out).mono ?_); rintro e w' ⟨rfl, ⟨nd, rfl⟩⟩; refine ⟨_, rfl, ?_⟩) | ((with_reducible refine gate_callee (f := 15) rfl ?_); refine goesL_ (some 57) rfl rfl Try.func15 (by kernel_rfl) rfl #[.string a0] rfl (by (try simp only [List.map_toArray, List.map_cons, List.map_nil]); first | done | rfl | (simp only [List.length_drop, List.length_take]; rfl)) ?_; (with_reducible refine (glob_Open.calls a0 true _ A14.out).mono ?_); rintro e w' ⟨rfl, ⟨nd, rfl⟩⟩; refine ⟨_, rfl, ?_⟩) | (go_at_call 15; (with_reducible refine (glob_Open.calls a1 true _ A16.out).mono ?_); rintro e w' ⟨rfl, ⟨nd, rfl⟩⟩) | (go_at_call 13; (with_reducible refine (glob_Subst.calls a0 a1 a2 t216 _ A18.out).mono ?_); rintro e w' ⟨rfl, ⟨nd, rfl⟩⟩) | (go_at_call 13; (with_reducible refine (glob_Subst.calls a1 a0 t216 t217 _ A19.out).mono ?_); rintro e w' ⟨rfl, ⟨nd, rfl⟩⟩))
                go_ret
                exact ⟨by first | rfl | (simp [errW_none, errW_some] <;> rfl) | (simp [*, errW_none, errW_some] <;> rfl), by repeat (first | (with_reducible first | exact HB.out | apply below_alloc | apply pw_below_drewN | apply below_drew1) | exact HB.out)⟩
              · replace c17 := Bool.eq_false_iff.mpr c17
                subst c17
                have H1 : (some true) = some r := by rw [if_neg (show ¬ (false = true) by decide)] at H; exact H
                clear H
                have H := H1
                clear H1
                obtain rfl := Option.some.inj H
                go_wp2_with (first | ((with_reducible refine gate_callee (f := 13) rfl ?_); refine goesL_ (some 32) rfl rfl Try.func13 (by kernel_rfl) rfl #[.string a0, .string a0, .string a2] rfl (by (try simp only [List.map_toArray, List.map_cons, List.map_nil]); first | done | rfl | (simp only [List.length_drop, List.length_take]; rfl)) ?_; (with_reducible refine (glob_Subst.calls a0 a0 a2 t206 _ A10.out).mono ?_); rintro e w' ⟨rfl, ⟨nd, rfl⟩⟩; refine ⟨_, rfl, ?_⟩) | ((with_reducible refine gate_callee (f := 16) rfl ?_); refine goesL_ (some 38) rfl rfl Try.func16 (by kernel_rfl) rfl #[.string a0, .string a2] rfl (by (try simp only [List.map_toArray, List.map_cons, List.map_nil]); first | done | rfl | (simp only [List.length_drop, List.length_take]; rfl)) ?_; (with_reducible refine (glob_Match.calls a0 a2 t207 true _ A12.out).mono ?_); rintro e w' ⟨rfl, ⟨nd, rfl⟩⟩; refine ⟨_, rfl, ?_⟩) | ((with_reducible refine gate_callee (f := 15) rfl ?_); refine goesL_ (some 57) rfl rfl Try.func15 (by kernel_rfl) rfl #[.string a0] rfl (by (try simp only [List.map_toArray, List.map_cons, List.map_nil]); first | done | rfl | (simp only [List.length_drop, List.length_take]; rfl)) ?_; (with_reducible refine (glob_Open.calls a0 true _ A14.out).mono ?_); rintro e w' ⟨rfl, ⟨nd, rfl⟩⟩; refine ⟨_, rfl, ?_⟩) | (go_at_call 15; (with_reducible refine (glob_Open.calls a1 false _ A16.out).mono ?_); rintro e w' ⟨rfl, ⟨nd, rfl⟩⟩))
                go_ret
                exact ⟨by first | rfl | (simp [errW_none, errW_some] <;> rfl) | (simp [*, errW_none, errW_some] <;> rfl), by repeat (first | (with_reducible first | exact HB.out | apply below_alloc | apply pw_below_drewN | apply below_drew1) | exact HB.out)⟩
            · replace c15 := Bool.eq_false_iff.mpr c15
              subst c15
              have H1 : (some true) = some r := by rw [if_neg (show ¬ (false = true) by decide)] at H; exact H
              clear H
              have H := H1
              clear H1
              obtain rfl := Option.some.inj H
              go_wp2_with (first | ((with_reducible refine gate_callee (f := 13) rfl ?_); refine goesL_ (some 32) rfl rfl Try.func13 (by kernel_rfl) rfl #[.string a0, .string a0, .string a2] rfl (by (try simp only [List.map_toArray, List.map_cons, List.map_nil]); first | done | rfl | (simp only [List.length_drop, List.length_take]; rfl)) ?_; (with_reducible refine (glob_Subst.calls a0 a0 a2 t206 _ A10.out).mono ?_); rintro e w' ⟨rfl, ⟨nd, rfl⟩⟩; refine ⟨_, rfl, ?_⟩) | ((with_reducible refine gate_callee (f := 16) rfl ?_); refine goesL_ (some 38) rfl rfl Try.func16 (by kernel_rfl) rfl #[.string a0, .string a2] rfl (by (try simp only [List.map_toArray, List.map_cons, List.map_nil]); first | done | rfl | (simp only [List.length_drop, List.length_take]; rfl)) ?_; (with_reducible refine (glob_Match.calls a0 a2 t207 true _ A12.out).mono ?_); rintro e w' ⟨rfl, ⟨nd, rfl⟩⟩; refine ⟨_, rfl, ?_⟩) | ((with_reducible refine gate_callee (f := 15) rfl ?_); refine goesL_ (some 57) rfl rfl Try.func15 (by kernel_rfl) rfl #[.string a0] rfl (by (try simp only [List.map_toArray, List.map_cons, List.map_nil]); first | done | rfl | (simp only [List.length_drop, List.length_take]; rfl)) ?_; (with_reducible refine (glob_Open.calls a0 false _ A14.out).mono ?_); rintro e w' ⟨rfl, ⟨nd, rfl⟩⟩; refine ⟨_, rfl, ?_⟩))
              go_ret
              exact ⟨by first | rfl | (simp [errW_none, errW_some] <;> rfl) | (simp [*, errW_none, errW_some] <;> rfl), by repeat (first | (with_reducible first | exact HB.out | apply below_alloc | apply pw_below_drewN | apply below_drew1) | exact HB.out)⟩
          · replace c13 := Bool.eq_false_iff.mpr c13
            subst c13
            have H1 : ((glob_Subst.f a0 a1 a2).bind fun t209 => (if t209.toList = a2.toList then ((glob_Any.f kj4 (([a0] : List ByteArray)) a2).bind fun t213 => (some (!t213))) else (some false))) = some r := by rw [if_neg (show ¬ (false = true) by decide)] at H; exact H
            clear H
            have H := H1
            clear H1
            replace H := Option.bind_eq_some_iff.mp H
            obtain ⟨t209, A200, H⟩ := H
            replace H : (if t209.toList = a2.toList then ((glob_Any.f kj4 (([a0] : List ByteArray)) a2).bind fun t213 => (some (!t213))) else (some false)) = some r := H
            have A20 := Aside0.mk A200
            clear A200
            by_cases c21 : t209.toList = a2.toList
            · rw [if_pos c21] at H
              have c21b0 : (t209.toList == a2.toList) = true := beq_iff_eq.mpr c21
              have c21b1 : (t209.toList != a2.toList) = false := bne_eq_false_iff_eq.mpr c21
              clear c21
              obtain ⟨y210, hy210⟩ : ∃ y_ : List ByteArray, y_ = (([a0] : List ByteArray)) := ⟨_, rfl⟩
              replace H : ((glob_Any.f kj4 y210 a2).bind fun t213 => (some (!t213))) = some r := by first | (rw [hy210]; with_reducible exact H) | (have H2_ := (Option.bind_some _ _).symm.trans H; rw [hy210]; with_reducible exact H2_) | (have H2_ := (Option.bind_some _ _).symm.trans H; with_reducible exact H2_) | with_reducible exact H | (rw [hy210]; exact H) | exact H
              have Ny210 := Aside0.mk hy210
              clear hy210
              replace H := Option.bind_eq_some_iff.mp H
              obtain ⟨t213, A220, H⟩ := H
              replace H : (some (!t213)) = some r := H
              have A22 := Aside0.mk A220
              clear A220
              obtain rfl := Option.some.inj H
              go_wp2_with (first | ((with_reducible refine gate_callee (f := 13) rfl ?_); refine goesL_ (some 32) rfl rfl Try.func13 (by kernel_rfl) rfl #[.string a0, .string a0, .string a2] rfl (by (try simp only [List.map_toArray, List.map_cons, List.map_nil]); first | done | rfl | (simp only [List.length_drop, List.length_take]; rfl)) ?_; (with_reducible refine (glob_Subst.calls a0 a0 a2 t206 _ A10.out).mono ?_); rintro e w' ⟨rfl, ⟨nd, rfl⟩⟩; refine ⟨_, rfl, ?_⟩) | ((with_reducible refine gate_callee (f := 16) rfl ?_); refine goesL_ (some 38) rfl rfl Try.func16 (by kernel_rfl) rfl #[.string a0, .string a2] rfl (by (try simp only [List.map_toArray, List.map_cons, List.map_nil]); first | done | rfl | (simp only [List.length_drop, List.length_take]; rfl)) ?_; (with_reducible refine (glob_Match.calls a0 a2 t207 false _ A12.out).mono ?_); rintro e w' ⟨rfl, ⟨nd, rfl⟩⟩; refine ⟨_, rfl, ?_⟩) | ((with_reducible refine gate_callee (f := 13) rfl ?_); refine goesL_ (some 46) rfl rfl Try.func13 (by kernel_rfl) rfl #[.string a0, .string a1, .string a2] rfl (by (try simp only [List.map_toArray, List.map_cons, List.map_nil]); first | done | rfl | (simp only [List.length_drop, List.length_take]; rfl)) ?_; (with_reducible refine (glob_Subst.calls a0 a1 a2 t209 _ A20.out).mono ?_); rintro e w' ⟨rfl, ⟨nd, rfl⟩⟩; refine ⟨_, rfl, ?_⟩) | ((with_reducible refine gate_dst (N := 51) rfl ?_); (try (refine gate_guard (by rfl) ?_; dsimp only)); refine Kd.R_lit Kd.string _ 9 ?hg (N := 51) ?hd (xs := ([a0] : List ByteArray)) (inner := [.string a0]) (ok := fun _ => True) (okp := fun _ => True) ?hr ?hp (fun _ hk => hk) trivial (Below.refl _ _) (Nat.le_refl _) (by simp) ?_; (case hd => rfl); (case hg => rfl); (case hr => first | (go_simp; done) | (go_simp; rfl)); (case hp => exact (Reps.one (show Kd.M Kd.string _ _ _ a0 [.string a0] from rfl) (Reps.none _ _))); intro v211 w23 ho24 hb hg_ hnew_; clear hg_ hnew_; (first | rw [← Ny210.out] at ho24 | (simp only [Int.reduceToNat] at ho24; rw [← Ny210.out] at ho24)); have n0_ := Aside0.mk (Kd.R_lower ho24 (below_size (by repeat (first | (with_reducible first | exact HB.out | apply below_alloc | apply pw_below_drewN | apply below_drew1) | exact HB.out)))); have n1_ := Aside0.mk (below_step (by repeat (first | (with_reducible first | exact HB.out | apply below_alloc | apply pw_below_drewN | apply below_drew1) | exact HB.out)) hb); clear HB; have HO212 := n0_; have HB := n1_; clear n0_ n1_; clear hb ho24; obtain ⟨Ao25, co25, eo25⟩ := Kd.R_slice HO212.out; subst eo25) | (go_at_call 21; (with_reducible refine (glob_Any.calls kj4 _ _ y210 a2 t213 _ ?side1 ?side2 A22.out).mono ?_); (case side1 => repeat (first | exact (Kd.R_reads' HO212.out).2.2 | (with_reducible refine Kd.C_alloc ?_ _) | (with_reducible refine Kd.C_drewN ?_ _) | (with_reducible refine Kd.C_drew ?_))); (case side2 => exact (Kd.R_reads' HO212.out).2.1); rintro e w' ⟨rfl, ⟨nd, rfl⟩⟩))
              go_ret
              exact ⟨by first | rfl | (simp [errW_none, errW_some] <;> rfl) | (simp [*, errW_none, errW_some] <;> rfl), by repeat (first | (with_reducible first | exact HB.out | apply below_alloc | apply pw_below_drewN | apply below_drew1) | exact HB.out)⟩
            · rw [if_neg c21] at H
              have c21b0 : (t209.toList == a2.toList) = false := beq_eq_false_iff_ne.mpr c21
              have c21b1 : (t209.toList != a2.toList) = true := bne_iff_ne.mpr c21
              obtain rfl := Option.some.inj H
              go_wp2_with (first | ((with_reducible refine gate_callee (f := 13) rfl ?_); refine goesL_ (some 32) rfl rfl Try.func13 (by kernel_rfl) rfl #[.string a0, .string a0, .string a2] rfl (by (try simp only [List.map_toArray, List.map_cons, List.map_nil]); first | done | rfl | (simp only [List.length_drop, List.length_take]; rfl)) ?_; (with_reducible refine (glob_Subst.calls a0 a0 a2 t206 _ A10.out).mono ?_); rintro e w' ⟨rfl, ⟨nd, rfl⟩⟩; refine ⟨_, rfl, ?_⟩) | ((with_reducible refine gate_callee (f := 16) rfl ?_); refine goesL_ (some 38) rfl rfl Try.func16 (by kernel_rfl) rfl #[.string a0, .string a2] rfl (by (try simp only [List.map_toArray, List.map_cons, List.map_nil]); first | done | rfl | (simp only [List.length_drop, List.length_take]; rfl)) ?_; (with_reducible refine (glob_Match.calls a0 a2 t207 false _ A12.out).mono ?_); rintro e w' ⟨rfl, ⟨nd, rfl⟩⟩; refine ⟨_, rfl, ?_⟩) | ((with_reducible refine gate_callee (f := 13) rfl ?_); refine goesL_ (some 46) rfl rfl Try.func13 (by kernel_rfl) rfl #[.string a0, .string a1, .string a2] rfl (by (try simp only [List.map_toArray, List.map_cons, List.map_nil]); first | done | rfl | (simp only [List.length_drop, List.length_take]; rfl)) ?_; (with_reducible refine (glob_Subst.calls a0 a1 a2 t209 _ A20.out).mono ?_); rintro e w' ⟨rfl, ⟨nd, rfl⟩⟩; refine ⟨_, rfl, ?_⟩))
              go_ret
              exact ⟨by first | rfl | (simp [errW_none, errW_some] <;> rfl) | (simp [*, errW_none, errW_some] <;> rfl), by repeat (first | (with_reducible first | exact HB.out | apply below_alloc | apply pw_below_drewN | apply below_drew1) | exact HB.out)⟩
        · rw [if_neg c11] at H
          have c11b0 : (t206.toList == a2.toList) = false := beq_eq_false_iff_ne.mpr c11
          have c11b1 : (t206.toList != a2.toList) = true := bne_iff_ne.mpr c11
          obtain rfl := Option.some.inj H
          go_wp2_with (first | ((with_reducible refine gate_callee (f := 13) rfl ?_); refine goesL_ (some 32) rfl rfl Try.func13 (by kernel_rfl) rfl #[.string a0, .string a0, .string a2] rfl (by (try simp only [List.map_toArray, List.map_cons, List.map_nil]); first | done | rfl | (simp only [List.length_drop, List.length_take]; rfl)) ?_; (with_reducible refine (glob_Subst.calls a0 a0 a2 t206 _ A10.out).mono ?_); rintro e w' ⟨rfl, ⟨nd, rfl⟩⟩; refine ⟨_, rfl, ?_⟩))
          go_ret
          exact ⟨by first | rfl | (simp [errW_none, errW_some] <;> rfl) | (simp [*, errW_none, errW_some] <;> rfl), by repeat (first | (with_reducible first | exact HB.out | apply below_alloc | apply pw_below_drewN | apply below_drew1) | exact HB.out)⟩

/-- THE ONE PURE STATEMENT of cooperagelaw2_GlobTurns. -/
def cooperagelaw2_GlobTurns.Pure : Prop := ∀ (a0 : ByteArray) (a1 : ByteArray) (a2 : ByteArray), a0.size ≤ 140737488351232 → a1.size ≤ 140737488351232 → a2.size ≤ 140737488351232 → ∃ k, cooperagelaw2_GlobTurns.f k a0 a1 a2 = some true
theorem cooperagelaw2_GlobTurns.walk (P : cooperagelaw2_GlobTurns.Pure) (a0 : ByteArray) (a1 : ByteArray) (a2 : ByteArray) (w : World) (w0 : a0.size ≤ 140737488351232) (w1 : a1.size ≤ 140737488351232) (w2 : a2.size ≤ 140737488351232) :
    Calls Try.prog 7 #[.string a0, .string a1, .string a2] w fun e w' => e = .returned (.bool true) ∧ Below w.heap.size w w' := by
  obtain ⟨k, h⟩ := P a0 a1 a2 w0 w1 w2
  refine (cooperagelaw2_GlobTurns.calls k a0 a1 a2 true w h).mono ?_
  rintro e w' ⟨rfl, hd⟩
  exact ⟨rfl, hd⟩

end Go.Proofs.Ytlfagipdhdcjlaa.PGlob
