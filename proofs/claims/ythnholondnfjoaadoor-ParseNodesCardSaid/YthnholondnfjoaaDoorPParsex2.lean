-- Written by a program of this session (wip/tools/ext.py, over the kit's printer); not trusted: Lean checks it.
import Derived.Test.YthnholondnfjoaaDoorPParsex0
namespace Go.Proofs.YthnholondnfjoaaDoor.PParse
open Go.RowKit Go.Proofs.YthnholondnfjoaaDoorW.PrintWords Go.Proofs.YthnholondnfjoaaDoorW.PrintLast Go.Proofs.YthnholondnfjoaaDoorW.PrintMore
attribute [local go_sem] max2_int min2_int max_two min_two max_three min_three max_four min_four
set_option linter.unusedVariables false
set_option linter.unusedSimpArgs false
set_option maxHeartbeats 8000000
set_option maxRecDepth 100000

/-! ### parse_Name: function 15 -/
def parse_Name.ok (c : Int) : Bool := decide ((65 ≤ c ∧ c ≤ 90) ∨ (97 ≤ c ∧ c ≤ 122) ∨ (48 ≤ c ∧ c ≤ 57) ∨ c = 95 ∨ c = 45 ∨ c = 46)
def parse_Name.l0 : Nat → ByteArray → Int → Option (Bool)
  | 0, _, _ => none
  | k + 1, x0, x11 => if x11 < (x0.size : Int) then (if 0 ≤ x11 then (if parse_Name.ok (bt x0 x11) = true then (parse_Name.l0 k x0 (wrap64 (x11 + 1))) else (some false)) else (none)) else (some true)
/-- parse.Name: its loop, then its two tests. -/
def parse_Name.f (k : Nat) (a0 : ByteArray) : Option (Bool) := if a0.size ≤ 9223372036854775807 then ((parse_Name.l0 k a0 0).bind fun t1 => (if t1 = true then (if a0.toList = ([] : List UInt8) then (some false) else (some (decide ((a0.size : Int) ≤ 40)))) else (some false))) else (none)
theorem parse_Name.mono_l0 : ∀ k, (∀ y0 y1, LeO (parse_Name.l0 k y0 y1) (parse_Name.l0 (k + 1) y0 y1))
  | 0 => fun _ _ r h => by simp [parse_Name.l0] at h
  | k + 1 => by
    have ih0 := parse_Name.mono_l0 k
    intro y0 y1
    unfold parse_Name.l0
    repeat' first
    | (with_reducible exact ih0 _ _)
    | (with_reducible exact LeO.refl _)
    | (with_reducible exact LeO.none _)
    | (with_reducible refine LeO.ite ?_ ?_)
theorem parse_Name.mono : ∀ a0 k, LeO (parse_Name.f k a0) (parse_Name.f (k + 1) a0) := by
  intro a0 k
  have ih0 := parse_Name.mono_l0 k
  unfold parse_Name.f
  exact zLe
theorem parse_Name.calls (k : Nat) (a0 : ByteArray) (r : Bool) (w : World) (h : parse_Name.f k a0 = some r) :
    Calls Tryd.prog 15 #[.string a0] w fun e w' => e = .returned (.bool r) ∧ Below w.heap.size w w' := by
  unfold parse_Name.f at h
  by_cases hsz : a0.size ≤ 9223372036854775807
  case neg => rw [if_neg hsz] at h; exact absurd h (by simp)
  rw [if_pos hsz] at h
  replace h := Option.bind_eq_some_iff.mp h
  obtain ⟨t1, A10, H⟩ := h
  have A1 := ka A10
  clear A10
  have H0 := ka H
  clear H
  have hcv := print_bytes (P := Tryd.prog) 9 67 5 Tryd.underlying9 Tryd.underlying67 Tryd.underlying5 a0 w
  have hrd := ka (bytes_reads w 5 a0 hsz)
  have hbl := ka (bytes_below (Below.refl w.heap.size w) (Nat.le_refl _) 5 a0)
  obtain ⟨cp, hcp⟩ : ∃ cp, cp = grownCap w a0.size 0 5 := ⟨_, rfl⟩
  obtain ⟨W1, hW1⟩ : ∃ W1, W1 = Lib.bytesWorld w 5 a0 := ⟨_, rfl⟩
  rw [← hcp, ← hW1] at hcv
  rw [← hW1] at hrd hbl
  clear hcp hW1 hsz
  obtain ⟨bB, hbB⟩ : ∃ bB, bB = w.heap.size := ⟨_, rfl⟩
  rw [← hbB] at hcv hrd
  clear hbB
  go_enter Tryd.func15, Tryd.ntmps15
  go_wp2
  clear hcv
  go_loopg [8] k (fun kq v8 w' => ∃ (x11_1 : Int), v8 = .int .i64 x11_1 ∧ Aside0 (parse_Name.l0 kq a0 x11_1 = some t1) ∧ Aside0 (kq ≤ k) ∧ Drawn0 W1 w')
  case atStart => exact ⟨(0), rfl, A1, ⟨Nat.le_refl _⟩, Drawn0.refl _⟩
  case round =>
    clear A1
    obtain ⟨x11_1, rfl, HA, HK1, ⟨m1, rfl⟩⟩ := hrel
    cases gk with
    | zero => exact absurd HA.out (by simp [parse_Name.l0])
    | succ k1 =>
      have H := HA.out
      clear HA
      simp only [parse_Name.l0] at H
      by_cases c2 : x11_1 < (a0.size : Int)
      · rw [if_pos c2] at H
        have c2b0 : decide (x11_1 < (a0.size : Int)) = true := zdt c2
        by_cases c3 : 0 ≤ x11_1
        case neg => rw [if_neg c3] at H; exact absurd H (by simp)
        rw [if_pos c3] at H
        have c3b0 : decide (0 ≤ x11_1) = true := zdt c3
        obtain ⟨ad, e1, hx⟩ := hrd.out.at_ x11_1 c3 c2
        obtain rfl := Option.some.inj e1
        clear e1
        rw [rd_bytesOf, add_plain] at hx
        replace c2 := eq_true c2
        replace c3 := eq_true c3
        generalize bt a0 x11_1 = c at hx H
        have hreg : c < 45 ∨ c = 45 ∨ c = 46 ∨ c = 47 ∨ (48 ≤ c ∧ c ≤ 57) ∨ (58 ≤ c ∧ c ≤ 64) ∨ (65 ≤ c ∧ c ≤ 90) ∨ (91 ≤ c ∧ c ≤ 94) ∨ c = 95 ∨ c = 96 ∨ (97 ≤ c ∧ c ≤ 122) ∨ 123 ≤ c := by omega
        rcases hreg with g | g | g | g | g | g | g | g | g | g | g | g
        · -- c < 45
          have d0 : decide (65 ≤ c) = false := decide_eq_false (by omega)
          have d1 : decide (97 ≤ c) = false := decide_eq_false (by omega)
          have d2 : decide (48 ≤ c) = false := decide_eq_false (by omega)
          have u0 : decide (c ≤ 90) = true := decide_eq_true (by omega)
          have u1 : decide (c ≤ 122) = true := decide_eq_true (by omega)
          have u2 : decide (c ≤ 57) = true := decide_eq_true (by omega)
          have e0 : (c == 95) = false := beq_eq_false_iff_ne.mpr (by omega)
          have e1 : (c == 45) = false := beq_eq_false_iff_ne.mpr (by omega)
          have e2 : (c == 46) = false := beq_eq_false_iff_ne.mpr (by omega)
          have hok : parse_Name.ok c = false := by simp only [parse_Name.ok, decide_eq_true_eq, decide_eq_false_iff_not]; omega
          clear g
          rw [hok] at H
          rw [if_neg (show ¬ (false = true) by decide)] at H
          obtain rfl := Option.some.inj H
          clear H
          have H1 := H0.out
          clear H0
          rw [if_neg (show ¬ (false = true) by decide)] at H1
          obtain rfl := Option.some.inj H1
          clear H1
          go_wp2
          go_ret
          exact ⟨by first | rfl | (simp; done) | (simp [*]; done), by repeat (first | exact hbl.out | apply pw_below_drewN | apply below_drew1)⟩
        · -- c = 45
          have d0 : decide (65 ≤ c) = false := decide_eq_false (by omega)
          have d1 : decide (97 ≤ c) = false := decide_eq_false (by omega)
          have d2 : decide (48 ≤ c) = false := decide_eq_false (by omega)
          have u0 : decide (c ≤ 90) = true := decide_eq_true (by omega)
          have u1 : decide (c ≤ 122) = true := decide_eq_true (by omega)
          have u2 : decide (c ≤ 57) = true := decide_eq_true (by omega)
          have e0 : (c == 95) = false := beq_eq_false_iff_ne.mpr (by omega)
          have e1 : (c == 45) = true := beq_iff_eq.mpr (by omega)
          have e2 : (c == 46) = false := beq_eq_false_iff_ne.mpr (by omega)
          have hok : parse_Name.ok c = true := by simp only [parse_Name.ok, decide_eq_true_eq, decide_eq_false_iff_not]; omega
          clear g
          rw [hok] at H
          rw [if_pos rfl] at H
          have H' := ka H
          clear H H0
          go_wp2
          go_roundg k1
          case measure => have := HK1.out; omega
          case rel => exact ⟨(wrap64 (x11_1 + 1)), (by first | rfl | (simp; done) | (simp [*]; done)), H', ⟨by have := HK1.out; omega⟩, zd0⟩
        · -- c = 46
          have d0 : decide (65 ≤ c) = false := decide_eq_false (by omega)
          have d1 : decide (97 ≤ c) = false := decide_eq_false (by omega)
          have d2 : decide (48 ≤ c) = false := decide_eq_false (by omega)
          have u0 : decide (c ≤ 90) = true := decide_eq_true (by omega)
          have u1 : decide (c ≤ 122) = true := decide_eq_true (by omega)
          have u2 : decide (c ≤ 57) = true := decide_eq_true (by omega)
          have e0 : (c == 95) = false := beq_eq_false_iff_ne.mpr (by omega)
          have e1 : (c == 45) = false := beq_eq_false_iff_ne.mpr (by omega)
          have e2 : (c == 46) = true := beq_iff_eq.mpr (by omega)
          have hok : parse_Name.ok c = true := by simp only [parse_Name.ok, decide_eq_true_eq, decide_eq_false_iff_not]; omega
          clear g
          rw [hok] at H
          rw [if_pos rfl] at H
          have H' := ka H
          clear H H0
          go_wp2
          go_roundg k1
          case measure => have := HK1.out; omega
          case rel => exact ⟨(wrap64 (x11_1 + 1)), (by first | rfl | (simp; done) | (simp [*]; done)), H', ⟨by have := HK1.out; omega⟩, zd0⟩
        · -- c = 47
          have d0 : decide (65 ≤ c) = false := decide_eq_false (by omega)
          have d1 : decide (97 ≤ c) = false := decide_eq_false (by omega)
          have d2 : decide (48 ≤ c) = false := decide_eq_false (by omega)
          have u0 : decide (c ≤ 90) = true := decide_eq_true (by omega)
          have u1 : decide (c ≤ 122) = true := decide_eq_true (by omega)
          have u2 : decide (c ≤ 57) = true := decide_eq_true (by omega)
          have e0 : (c == 95) = false := beq_eq_false_iff_ne.mpr (by omega)
          have e1 : (c == 45) = false := beq_eq_false_iff_ne.mpr (by omega)
          have e2 : (c == 46) = false := beq_eq_false_iff_ne.mpr (by omega)
          have hok : parse_Name.ok c = false := by simp only [parse_Name.ok, decide_eq_true_eq, decide_eq_false_iff_not]; omega
          clear g
          rw [hok] at H
          rw [if_neg (show ¬ (false = true) by decide)] at H
          obtain rfl := Option.some.inj H
          clear H
          have H1 := H0.out
          clear H0
          rw [if_neg (show ¬ (false = true) by decide)] at H1
          obtain rfl := Option.some.inj H1
          clear H1
          go_wp2
          go_ret
          exact ⟨by first | rfl | (simp; done) | (simp [*]; done), by repeat (first | exact hbl.out | apply pw_below_drewN | apply below_drew1)⟩
        · -- 48 ≤ c ∧ c ≤ 57
          have d0 : decide (65 ≤ c) = false := decide_eq_false (by omega)
          have d1 : decide (97 ≤ c) = false := decide_eq_false (by omega)
          have d2 : decide (48 ≤ c) = true := decide_eq_true (by omega)
          have u0 : decide (c ≤ 90) = true := decide_eq_true (by omega)
          have u1 : decide (c ≤ 122) = true := decide_eq_true (by omega)
          have u2 : decide (c ≤ 57) = true := decide_eq_true (by omega)
          have e0 : (c == 95) = false := beq_eq_false_iff_ne.mpr (by omega)
          have e1 : (c == 45) = false := beq_eq_false_iff_ne.mpr (by omega)
          have e2 : (c == 46) = false := beq_eq_false_iff_ne.mpr (by omega)
          have hok : parse_Name.ok c = true := by simp only [parse_Name.ok, decide_eq_true_eq, decide_eq_false_iff_not]; omega
          clear g
          rw [hok] at H
          rw [if_pos rfl] at H
          have H' := ka H
          clear H H0
          go_wp2
          go_roundg k1
          case measure => have := HK1.out; omega
          case rel => exact ⟨(wrap64 (x11_1 + 1)), (by first | rfl | (simp; done) | (simp [*]; done)), H', ⟨by have := HK1.out; omega⟩, zd0⟩
        · -- 58 ≤ c ∧ c ≤ 64
          have d0 : decide (65 ≤ c) = false := decide_eq_false (by omega)
          have d1 : decide (97 ≤ c) = false := decide_eq_false (by omega)
          have d2 : decide (48 ≤ c) = true := decide_eq_true (by omega)
          have u0 : decide (c ≤ 90) = true := decide_eq_true (by omega)
          have u1 : decide (c ≤ 122) = true := decide_eq_true (by omega)
          have u2 : decide (c ≤ 57) = false := decide_eq_false (by omega)
          have e0 : (c == 95) = false := beq_eq_false_iff_ne.mpr (by omega)
          have e1 : (c == 45) = false := beq_eq_false_iff_ne.mpr (by omega)
          have e2 : (c == 46) = false := beq_eq_false_iff_ne.mpr (by omega)
          have hok : parse_Name.ok c = false := by simp only [parse_Name.ok, decide_eq_true_eq, decide_eq_false_iff_not]; omega
          clear g
          rw [hok] at H
          rw [if_neg (show ¬ (false = true) by decide)] at H
          obtain rfl := Option.some.inj H
          clear H
          have H1 := H0.out
          clear H0
          rw [if_neg (show ¬ (false = true) by decide)] at H1
          obtain rfl := Option.some.inj H1
          clear H1
          go_wp2
          go_ret
          exact ⟨by first | rfl | (simp; done) | (simp [*]; done), by repeat (first | exact hbl.out | apply pw_below_drewN | apply below_drew1)⟩
        · -- 65 ≤ c ∧ c ≤ 90
          have d0 : decide (65 ≤ c) = true := decide_eq_true (by omega)
          have d1 : decide (97 ≤ c) = false := decide_eq_false (by omega)
          have d2 : decide (48 ≤ c) = true := decide_eq_true (by omega)
          have u0 : decide (c ≤ 90) = true := decide_eq_true (by omega)
          have u1 : decide (c ≤ 122) = true := decide_eq_true (by omega)
          have u2 : decide (c ≤ 57) = false := decide_eq_false (by omega)
          have e0 : (c == 95) = false := beq_eq_false_iff_ne.mpr (by omega)
          have e1 : (c == 45) = false := beq_eq_false_iff_ne.mpr (by omega)
          have e2 : (c == 46) = false := beq_eq_false_iff_ne.mpr (by omega)
          have hok : parse_Name.ok c = true := by simp only [parse_Name.ok, decide_eq_true_eq, decide_eq_false_iff_not]; omega
          clear g
          rw [hok] at H
          rw [if_pos rfl] at H
          have H' := ka H
          clear H H0
          go_wp2
          go_roundg k1
          case measure => have := HK1.out; omega
          case rel => exact ⟨(wrap64 (x11_1 + 1)), (by first | rfl | (simp; done) | (simp [*]; done)), H', ⟨by have := HK1.out; omega⟩, zd0⟩
        · -- 91 ≤ c ∧ c ≤ 94
          have d0 : decide (65 ≤ c) = true := decide_eq_true (by omega)
          have d1 : decide (97 ≤ c) = false := decide_eq_false (by omega)
          have d2 : decide (48 ≤ c) = true := decide_eq_true (by omega)
          have u0 : decide (c ≤ 90) = false := decide_eq_false (by omega)
          have u1 : decide (c ≤ 122) = true := decide_eq_true (by omega)
          have u2 : decide (c ≤ 57) = false := decide_eq_false (by omega)
          have e0 : (c == 95) = false := beq_eq_false_iff_ne.mpr (by omega)
          have e1 : (c == 45) = false := beq_eq_false_iff_ne.mpr (by omega)
          have e2 : (c == 46) = false := beq_eq_false_iff_ne.mpr (by omega)
          have hok : parse_Name.ok c = false := by simp only [parse_Name.ok, decide_eq_true_eq, decide_eq_false_iff_not]; omega
          clear g
          rw [hok] at H
          rw [if_neg (show ¬ (false = true) by decide)] at H
          obtain rfl := Option.some.inj H
          clear H
          have H1 := H0.out
          clear H0
          rw [if_neg (show ¬ (false = true) by decide)] at H1
          obtain rfl := Option.some.inj H1
          clear H1
          go_wp2
          go_ret
          exact ⟨by first | rfl | (simp; done) | (simp [*]; done), by repeat (first | exact hbl.out | apply pw_below_drewN | apply below_drew1)⟩
        · -- c = 95
          have d0 : decide (65 ≤ c) = true := decide_eq_true (by omega)
          have d1 : decide (97 ≤ c) = false := decide_eq_false (by omega)
          have d2 : decide (48 ≤ c) = true := decide_eq_true (by omega)
          have u0 : decide (c ≤ 90) = false := decide_eq_false (by omega)
          have u1 : decide (c ≤ 122) = true := decide_eq_true (by omega)
          have u2 : decide (c ≤ 57) = false := decide_eq_false (by omega)
          have e0 : (c == 95) = true := beq_iff_eq.mpr (by omega)
          have e1 : (c == 45) = false := beq_eq_false_iff_ne.mpr (by omega)
          have e2 : (c == 46) = false := beq_eq_false_iff_ne.mpr (by omega)
          have hok : parse_Name.ok c = true := by simp only [parse_Name.ok, decide_eq_true_eq, decide_eq_false_iff_not]; omega
          clear g
          rw [hok] at H
          rw [if_pos rfl] at H
          have H' := ka H
          clear H H0
          go_wp2
          go_roundg k1
          case measure => have := HK1.out; omega
          case rel => exact ⟨(wrap64 (x11_1 + 1)), (by first | rfl | (simp; done) | (simp [*]; done)), H', ⟨by have := HK1.out; omega⟩, zd0⟩
        · -- c = 96
          have d0 : decide (65 ≤ c) = true := decide_eq_true (by omega)
          have d1 : decide (97 ≤ c) = false := decide_eq_false (by omega)
          have d2 : decide (48 ≤ c) = true := decide_eq_true (by omega)
          have u0 : decide (c ≤ 90) = false := decide_eq_false (by omega)
          have u1 : decide (c ≤ 122) = true := decide_eq_true (by omega)
          have u2 : decide (c ≤ 57) = false := decide_eq_false (by omega)
          have e0 : (c == 95) = false := beq_eq_false_iff_ne.mpr (by omega)
          have e1 : (c == 45) = false := beq_eq_false_iff_ne.mpr (by omega)
          have e2 : (c == 46) = false := beq_eq_false_iff_ne.mpr (by omega)
          have hok : parse_Name.ok c = false := by simp only [parse_Name.ok, decide_eq_true_eq, decide_eq_false_iff_not]; omega
          clear g
          rw [hok] at H
          rw [if_neg (show ¬ (false = true) by decide)] at H
          obtain rfl := Option.some.inj H
          clear H
          have H1 := H0.out
          clear H0
          rw [if_neg (show ¬ (false = true) by decide)] at H1
          obtain rfl := Option.some.inj H1
          clear H1
          go_wp2
          go_ret
          exact ⟨by first | rfl | (simp; done) | (simp [*]; done), by repeat (first | exact hbl.out | apply pw_below_drewN | apply below_drew1)⟩
        · -- 97 ≤ c ∧ c ≤ 122
          have d0 : decide (65 ≤ c) = true := decide_eq_true (by omega)
          have d1 : decide (97 ≤ c) = true := decide_eq_true (by omega)
          have d2 : decide (48 ≤ c) = true := decide_eq_true (by omega)
          have u0 : decide (c ≤ 90) = false := decide_eq_false (by omega)
          have u1 : decide (c ≤ 122) = true := decide_eq_true (by omega)
          have u2 : decide (c ≤ 57) = false := decide_eq_false (by omega)
          have e0 : (c == 95) = false := beq_eq_false_iff_ne.mpr (by omega)
          have e1 : (c == 45) = false := beq_eq_false_iff_ne.mpr (by omega)
          have e2 : (c == 46) = false := beq_eq_false_iff_ne.mpr (by omega)
          have hok : parse_Name.ok c = true := by simp only [parse_Name.ok, decide_eq_true_eq, decide_eq_false_iff_not]; omega
          clear g
          rw [hok] at H
          rw [if_pos rfl] at H
          have H' := ka H
          clear H H0
          go_wp2
          go_roundg k1
          case measure => have := HK1.out; omega
          case rel => exact ⟨(wrap64 (x11_1 + 1)), (by first | rfl | (simp; done) | (simp [*]; done)), H', ⟨by have := HK1.out; omega⟩, zd0⟩
        · -- 123 ≤ c
          have d0 : decide (65 ≤ c) = true := decide_eq_true (by omega)
          have d1 : decide (97 ≤ c) = true := decide_eq_true (by omega)
          have d2 : decide (48 ≤ c) = true := decide_eq_true (by omega)
          have u0 : decide (c ≤ 90) = false := decide_eq_false (by omega)
          have u1 : decide (c ≤ 122) = false := decide_eq_false (by omega)
          have u2 : decide (c ≤ 57) = false := decide_eq_false (by omega)
          have e0 : (c == 95) = false := beq_eq_false_iff_ne.mpr (by omega)
          have e1 : (c == 45) = false := beq_eq_false_iff_ne.mpr (by omega)
          have e2 : (c == 46) = false := beq_eq_false_iff_ne.mpr (by omega)
          have hok : parse_Name.ok c = false := by simp only [parse_Name.ok, decide_eq_true_eq, decide_eq_false_iff_not]; omega
          clear g
          rw [hok] at H
          rw [if_neg (show ¬ (false = true) by decide)] at H
          obtain rfl := Option.some.inj H
          clear H
          have H1 := H0.out
          clear H0
          rw [if_neg (show ¬ (false = true) by decide)] at H1
          obtain rfl := Option.some.inj H1
          clear H1
          go_wp2
          go_ret
          exact ⟨by first | rfl | (simp; done) | (simp [*]; done), by repeat (first | exact hbl.out | apply pw_below_drewN | apply below_drew1)⟩
      · rw [if_neg c2] at H
        have c2b0 : decide (x11_1 < (a0.size : Int)) = false := zdf c2
        clear c2
        obtain rfl := Option.some.inj H
        clear H
        have H := H0.out
        clear H0
        rw [if_pos rfl] at H
        clear hrd
        by_cases c5 : a0.toList = ([] : List UInt8)
        · rw [if_pos c5] at H
          have c5b0 : (a0.toList == ([] : List UInt8)) = true := zb0 c5
          clear c5
          obtain rfl := Option.some.inj H
          clear H
          go_wp2
          go_ret
          exact ⟨by first | rfl | (simp; done) | (simp [*]; done), by repeat (first | exact hbl.out | apply pw_below_drewN | apply below_drew1)⟩
        · rw [if_neg c5] at H
          have c5b0 : (a0.toList == ([] : List UInt8)) = false := zn0 c5
          clear c5
          by_cases c7 : (a0.size : Int) ≤ 40
          · have c7b0 : decide ((a0.size : Int) ≤ 40) = true := zdt c7
            have c7b1 : decide (a0.size ≤ 40) = true := decide_eq_true (by omega)
            clear c7
            rw [c7b0] at H
            obtain rfl := Option.some.inj H
            clear H
            go_wp2
            go_ret
            exact ⟨by first | rfl | (simp; done) | (simp [*]; done), by repeat (first | exact hbl.out | apply pw_below_drewN | apply below_drew1)⟩
          · have c7b0 : decide ((a0.size : Int) ≤ 40) = false := zdf c7
            have c7b1 : decide (a0.size ≤ 40) = false := decide_eq_false (by omega)
            clear c7
            rw [c7b0] at H
            obtain rfl := Option.some.inj H
            clear H
            go_wp2
            go_ret
            exact ⟨by first | rfl | (simp; done) | (simp [*]; done), by repeat (first | exact hbl.out | apply pw_below_drewN | apply below_drew1)⟩




/-! ### stringslite_HasPrefix: function 51 -/
def stringslite_HasPrefix.f (a0 : ByteArray) (a1 : ByteArray) : Option (Bool) := if (a0.size : Int) ≥ (a1.size : Int) then (if 0 ≤ (a1.size : Int) then (if (a1.size : Int) ≤ (a0.size : Int) then (some ((a0.extract 0 ((a1.size : Int) : Int).toNat).toList == a1.toList)) else (none)) else (none)) else (some false)
theorem stringslite_HasPrefix.calls (a0 : ByteArray) (a1 : ByteArray) (r : Bool) (w : World) (h : stringslite_HasPrefix.f a0 a1 = some r) :
  Calls Tryd.prog 51 #[.string a0, .string a1] w fun e w' => e = .returned (.bool r) ∧ Drawn0 w w' := by
 have H : (if (a0.size : Int) ≥ (a1.size : Int) then (if 0 ≤ (a1.size : Int) then (if (a1.size : Int) ≤ (a0.size : Int) then (some ((a0.extract 0 ((a1.size : Int) : Int).toNat).toList == a1.toList)) else (none)) else (none)) else (some false)) = some r := h
 clear h
 by_cases c3 : (a0.size : Int) ≥ (a1.size : Int)
 ·rw [if_pos c3] at H
  have c3b0 : decide ((a1.size : Int) ≤ (a0.size : Int)) = true := zdt c3
  have c3b1 : decide (a1.size ≤ a0.size) = true := decide_eq_true (Int.ofNat_le.mp c3)
  clear c3
  replace H := zif H
  obtain ⟨c4, H⟩ := H
  have c4b0 := eq_true c4
  have c4b1 := zdt c4
  clear c4
  replace H := zif H
  obtain ⟨c5, H⟩ := H
  have c5b0 := eq_true c5
  have c5b1 := zdt c5
  clear c5
  obtain rfl := Option.some.inj H
  go_enter Tryd.func51, Tryd.ntmps51
  go_wp2
  go_ret
  exact ⟨by first | rfl | (simp; done) | (simp [*]; done), zd0⟩
 rw [if_neg c3] at H
 have c3b0 : decide ((a1.size : Int) ≤ (a0.size : Int)) = false := zdf c3
 have c3b1 : decide (a1.size ≤ a0.size) = false := decide_eq_false (fun h => c3 (Int.ofNat_le.mpr h))
 clear c3
 obtain rfl := Option.some.inj H
 go_enter Tryd.func51, Tryd.ntmps51
 go_wp2
 go_ret
 exact ⟨by first | rfl | (simp; done) | (simp [*]; done), zd0⟩

/-! ### strings_HasPrefix: function 28 -/
def strings_HasPrefix.f (a0 : ByteArray) (a1 : ByteArray) : Option (Bool) := (stringslite_HasPrefix.f a0 a1).bind fun t101 => (some t101)
theorem strings_HasPrefix.calls (a0 : ByteArray) (a1 : ByteArray) (r : Bool) (w : World) (h : strings_HasPrefix.f a0 a1 = some r) :
  Calls Tryd.prog 28 #[.string a0, .string a1] w fun e w' => e = .returned (.bool r) ∧ Drawn0 w w' := by
 have H : ((stringslite_HasPrefix.f a0 a1).bind fun t101 => (some t101)) = some r := h
 clear h
 replace H := Option.bind_eq_some_iff.mp H
 obtain ⟨t101, A30, H⟩ := H
 try dsimp only at H
 have A3 := ka A30
 clear A30
 obtain rfl := Option.some.inj H
 go_enter Tryd.func28, Tryd.ntmps28
 go_wp2_with (first | ((with_reducible refine gate_callee (f := 51) rfl ?_); refine goesL_ (some 7) rfl rfl Tryd.func51 (by kernel_rfl) rfl #[.string a0, .string a1] rfl zA ?_; (with_reducible refine (stringslite_HasPrefix.calls a0 a1 t101 _ A3.out).mono ?_); rintro e w' ⟨rfl, ⟨nd, rfl⟩⟩; refine ⟨_, rfl, ?_⟩))
 go_ret
 exact ⟨by first | rfl | (simp; done) | (simp [*]; done), zd0⟩

/-! ### parse_stack_push: function 50 -/
/-- A stack with one more, in a block of its own. -/
def parse_stack_push.f (a0 : List Int) (a1 : Int) : Option (List Int) := if a0.length < 4398046511104 then some (a0 ++ [a1]) else none
/-- An append of one cell to a full row that is only read: a new block. -/
theorem parse_stack_push.copies {P : Program} {ops : Array Oper} {rest : List Oper} {o : Oper} {a : Act} {Q : Exit → Act → World → Prop} (w0 w : World) (hgd : o.guard = none) (s x : Operand) (t e : TypeId) (i : TypeInfo) (z : Value)
    (ho : o.op = .call { callee := .builtin .append, args := #[s, x], argTypes := #[t, t] }) (ht : P.underlying t = some (.slice e)) (hi : P.info? e = some i) (hz : i.zero = some z) (hsize : i.size = 1) (hby : i.bytes = 1) (hzs : z.cells.size = 1)
    (A0 : Option Addr) (xs : List Value) (y : Value) (ad : Addr) (hs : a.eval s = .slice A0 xs.length xs.length) (hx : a.eval x = .slice (some ad) 1 1)
    (hr : ∀ b, A0 = some b → ∀ (j : Nat) (u : Value), xs[j]? = some u → w.cell? (b.add j) = some u) (hn : A0 = none → xs = []) (hnew : w.cell? (ad.add 0) = some y) (hl : xs.length < 4398046511104) (hB : Below w0.heap.size w0 w) (hle : w0.heap.size ≤ w.heap.size)
    (h : ∀ v' w', w'.ownsRow w0.heap.size e 1 v' (xs ++ [y]).length (xs ++ [y]) → Below w0.heap.size w0 w' → wpList P ops Q rest (a.put o.dst v') w') : wpList P ops Q (o :: rest) a w := by
  have hnews : ∀ (j : Nat) (u : Value), [y][j]? = some u → w.cell? (ad.add j) = some u := by
    intro j u hj
    cases j with
    | zero => simp at hj; rw [← hj]; exact hnew
    | succ j => simp at hj
  have hrun : (Builtin.append_ #[t, t] o.type #[.slice A0 xs.length xs.length, .slice (some ad) 1 1]).run P w =
      .ok (.slice (some ⟨w.heap.size, 0, none⟩) (xs.length + 1) (grownCap w (xs.length + 1) xs.length e)) (w.drew.alloc (.cells (xs.toArray ++ [y].toArray ++ Builtin.zeroCells z.cells (grownCap w (xs.length + 1) xs.length e - (xs.length + 1))) e)) := by
    cases A0 with
    | none =>
      obtain rfl := hn rfl
      have h1 := run_append_nil (P := P) w t o.type e i z ht hi hz ad 1 1 [y] (by rw [hsize]; rfl) hnews (by omega) (by omega) (by rw [hby]; omega)
      simpa using h1
    | some b => exact run_append_grow (P := P) w t o.type e i z ht hi hz b xs.length xs.length xs (by rw [hsize]; omega) (hr b rfl) ad 1 1 [y] (by rw [hsize]; rfl) hnews (by omega) (by omega) (growslice_fits_succ (by rw [hby]; omega) (by rw [hby]; omega))
  refine wpList_plain hgd fun _ hK => ?_
  unfold Oper.wp execOp
  simp only [ho, resolve, invoke, builtin, Sem.run_bind, Sem.run_pure, Result.andThen_ok, List.map_toArray, List.map_cons, List.map_nil, hs, hx, hrun]
  have hge := grownCap_ge w (xs.length + 1) xs.length e
  have hcm : grownCap w (xs.length + 1) xs.length e ≤ maxLen := grownCap_le_maxLen w (xs.length + 1) xs.length e (by simp only [maxLen]; omega)
  refine hK _ _ (h _ _ ⟨by simp, .inr ⟨w.heap.size, _, _, by rw [List.length_append]; rfl, hle, heap_alloc_new w.drew _, ?_, hcm, ?_, ?_⟩⟩ ?_)
  · rw [List.length_append]; exact hge
  · simp only [Array.size_append, List.size_toArray, size_zeroCells, hzs]
    simp
    omega
  · simp only [Array.toList_append, List.append_assoc]
    rw [← List.append_assoc, Nat.mul_one]
    exact List.take_left
  · exact (hB.drew).alloc hle _
set_option maxHeartbeats 1000000 in
theorem parse_stack_push.calls (A0 : Option Addr) (c0 : Nat) (l0 : List Int) (a1 : Int) (r : List Int) (w : World) (hr0 : Kd.C (Kd.int .u8) w A0 l0.length l0) (hc0 : l0.length ≤ c0) (h : parse_stack_push.f l0 a1 = some r) :
    Calls Tryd.prog 50 #[.slice A0 l0.length c0, .int .u8 a1] w fun e w' => ∃ v0_ : Value, e = .returned (v0_) ∧ Kd.R (Kd.int .u8) 5 w' w.heap.size (fun _ => True) v0_ r ∧ Below w.heap.size w w' := by
  unfold parse_stack_push.f at h
  by_cases c : l0.length < 4398046511104
  · rw [if_pos c] at h
    obtain rfl := Option.some.inj h
    clear h
    have hrd := Kd.reads_of_C (d := 0) hr0
    obtain ⟨xs, hxs⟩ : ∃ xs, xs = encs (fun z : Int => Value.int .u8 z) l0 := ⟨_, rfl⟩
    have hxl : xs.length = l0.length := by rw [hxs, encs_length]
    have hcells : ∀ b, A0 = some b → ∀ (j : Nat) (u : Value), xs[j]? = some u → w.cell? (b.add j) = some u := by
      intro b hb j u hj
      have hjl : j < l0.length := by
        have := (List.getElem?_eq_some_iff.1 hj).1
        omega
      obtain ⟨ad, e, hc⟩ := hrd.2.2 (by omega)
      rw [hb] at e
      obtain rfl := Option.some.inj e
      rw [hc j hjl]
      rw [hxs] at hj
      simp only [encs, List.getElem?_map, List.getElem?_eq_getElem hjl, Option.map_some] at hj
      rw [← hj]
      simp [List.getD_eq_getElem?_getD, List.getElem?_eq_getElem hjl]
    have hnone : A0 = none → xs = [] := by
      intro e
      rcases Nat.eq_zero_or_pos l0.length with h0 | h0
      · exact List.eq_nil_of_length_eq_zero (by omega)
      · obtain ⟨ad, e2, _⟩ := hrd.2.2 h0
        rw [e] at e2
        exact absurd e2 (by simp)
    have hB : Below w.heap.size w (w.alloc (.cells #[.int .u8 a1] 5)) := (Below.refl _ w).alloc (Nat.le_refl _) _
    have hcells' : ∀ b, A0 = some b → ∀ (j : Nat) (u : Value), xs[j]? = some u → (w.alloc (.cells #[.int .u8 a1] 5)).cell? (b.add j) = some u := fun b hb j u hj =>
      (World.cell?_of_block (heap_alloc_old w _ (World.block_lt_of_cell? w _ (hcells b hb j u hj)))).trans (hcells b hb j u hj)
    have hnew : (w.alloc (.cells #[.int .u8 a1] 5)).cell? ((⟨w.heap.size, 0, none⟩ : Addr).add 0) = some (.int .u8 a1) := by
      rw [Addr.add_lit]
      exact cell_of_row _ _ _ _ _ (0, 0) (heap_alloc_new w _)
    have hle : w.heap.size ≤ (w.alloc (.cells #[.int .u8 a1] 5)).heap.size := by simp
    have hend : encs (fun z : Int => Value.int .u8 z) (l0 ++ [a1]) = xs ++ [.int .u8 a1] := by rw [hxs]; simp [encs]
    have hll : (l0 ++ [a1]).length = (xs ++ [Value.int .u8 a1]).length := by simp [hxl]
    have hl' : xs.length < 4398046511104 := by omega
    clear hrd hr0 hcells hxs c
    go_enter Tryd.func50, Tryd.ntmps50
    go_wp2_with (first | (at_builtin; refine parse_stack_push.copies w _ rfl _ _ 68 5 _ (.int .u8 0) rfl rfl rfl rfl rfl rfl rfl A0 xs (.int .u8 a1) ⟨w.heap.size, 0, none⟩ (by rw [hxl]; rfl) rfl hcells' hnone hnew hl' hB hle ?_; intro v1 w1 hown hB1))
    go_ret
    exact ⟨v1, rfl, Kd.R_of_own (by rw [hll, hend]; exact hown) (fun _ _ => trivial), hB1⟩
  · rw [if_neg c] at h
    exact absurd h (by simp)


/-! ### parse_stack_step: function 27 -/
def parse_stack_step.f (l0 : List Int) (a1 : ByteArray) : Option (List Int × Int × Bool) := (strings_HasPrefix.f a1 (⟨#[36, 40]⟩ : ByteArray)).bind fun t102 => (if t102 = true then ((parse_stack_push.f l0 41).bind fun t103 => (some (t103, 2, false))) else ((strings_HasPrefix.f a1 (⟨#[36, 123]⟩ : ByteArray)).bind fun t106 => (if t106 = true then ((parse_stack_push.f l0 125).bind fun t107 => (some (t107, 2, false))) else (if (l0.length : Int) > 0 then (if 0 < (a1.size : Int) then (if 0 ≤ (wrap64 ((l0.length : Int) - 1)) then (if (wrap64 ((l0.length : Int) - 1)) < (l0.length : Int) then (if (bt a1 0) = (rd l0 (wrap64 ((l0.length : Int) - 1))) then (if (wrap64 ((l0.length : Int) - 1)) ≤ (l0.length : Int) then (some ((l0.take ((wrap64 ((l0.length : Int) - 1)) : Int).toNat), 1, false)) else (none)) else (some (l0, 1, ((l0.length : Int) == 0)))) else (none)) else (none)) else (none)) else (some (l0, 1, ((l0.length : Int) == 0)))))))
theorem parse_stack_step.calls (P0_ : Nat → Prop) (A0 : Option Addr) (c0 : Nat) (l0 : List Int) (a1 : ByteArray) (r1 : List Int) (r2 : Int) (r3 : Bool) (w : World) (hs0 : Kd.V (Kd.int .u8) 5 w w.heap.size (fun k_ => P0_ k_) (.slice A0 l0.length c0) l0) (h : parse_stack_step.f l0 a1 = some (r1, r2, r3)) :
  Calls Tryd.prog 27 #[.slice A0 l0.length c0, .string a1] w fun e w' => ∃ v0_ : Value, e = .returned (.tuple #[v0_, .int .i64 r2, .bool r3]) ∧ Kd.V (Kd.int .u8) 5 w' w.heap.size (fun k_ => (P0_ k_ ∨ w.heap.size ≤ k_)) v0_ r1 ∧ Below w.heap.size w w' := by
 have HO0 := ka (show Kd.V (Kd.int .u8) 5 w w.heap.size (fun k_ => (P0_ k_ ∨ w.heap.size ≤ k_)) (.slice A0 l0.length c0) l0 from Kd.V_mono hs0 (fun k_ hk => .inl hk))
 have HB := ka (Below.refl w.heap.size w)
 have H : ((strings_HasPrefix.f a1 (⟨#[36, 40]⟩ : ByteArray)).bind fun t102 => (if t102 = true then ((parse_stack_push.f l0 41).bind fun t103 => (some (t103, 2, false))) else ((strings_HasPrefix.f a1 (⟨#[36, 123]⟩ : ByteArray)).bind fun t106 => (if t106 = true then ((parse_stack_push.f l0 125).bind fun t107 => (some (t107, 2, false))) else (if (l0.length : Int) > 0 then (if 0 < (a1.size : Int) then (if 0 ≤ (wrap64 ((l0.length : Int) - 1)) then (if (wrap64 ((l0.length : Int) - 1)) < (l0.length : Int) then (if (bt a1 0) = (rd l0 (wrap64 ((l0.length : Int) - 1))) then (if (wrap64 ((l0.length : Int) - 1)) ≤ (l0.length : Int) then (some ((l0.take ((wrap64 ((l0.length : Int) - 1)) : Int).toNat), 1, false)) else (none)) else (some (l0, 1, ((l0.length : Int) == 0)))) else (none)) else (none)) else (none)) else (some (l0, 1, ((l0.length : Int) == 0)))))))) = some (r1, r2, r3) := h
 clear h
 replace H := Option.bind_eq_some_iff.mp H
 obtain ⟨t102, A30, H⟩ := H
 try dsimp only at H
 have A3 := ka A30
 clear A30
 by_cases c4 : t102 = true
 ·subst c4
  rw [if_pos rfl] at H
  replace H := Option.bind_eq_some_iff.mp H
  obtain ⟨t103, A50, H⟩ := H
  try dsimp only at H
  have A5 := ka A50
  clear A50
  replace H := zs3 H
  obtain ⟨rfl, rfl, rfl⟩ := H
  go_enter Tryd.func27, Tryd.ntmps27
  have F_ := trivial
  repeat ((first | clear F_ | go_quiet (first | (go_at_call 28; (with_reducible refine (strings_HasPrefix.calls a1 (⟨#[36, 40]⟩ : ByteArray) true _ A3.out).mono ?_); rintro e w' ⟨rfl, ⟨nd, rfl⟩⟩; (try exact zDr)) | (go_at_call 50; (with_reducible refine (parse_stack_push.calls _ _ l0 41 t103 _ ?side1 ?side2 A5.out).mono ?_); (case side1 => exact zCS (Kd.V_reads' HO0.out).2.2); (case side2 => exact (Kd.V_reads' HO0.out).2.1); rintro e w6 ⟨v104, rfl, ho0, hb⟩; replace HO0 := ka (Kd.V_elder' (zV HO0.out) (Kd.R_base ho0) hb); have HO105 := ka (Kd.R_lower (Kd.R_newM (M := fun k_ => (w.heap.size ≤ k_)) ho0 (below_size (zL HB.out)) (fun k_ h_ => h_)) (below_size (zL HB.out))); replace HB := ka (below_step (zL HB.out) hb); (try clear hb); (try clear hb2); (try clear hk); (try clear hi); (try clear ho0)))); try go_wp2_with (first | (go_at_call 28; (with_reducible refine (strings_HasPrefix.calls a1 (⟨#[36, 40]⟩ : ByteArray) true _ A3.out).mono ?_); rintro e w' ⟨rfl, ⟨nd, rfl⟩⟩; (try exact zDr)) | (go_at_call 50; (with_reducible refine (parse_stack_push.calls _ _ l0 41 t103 _ ?side1 ?side2 A5.out).mono ?_); (case side1 => exact zCS (Kd.V_reads' HO0.out).2.2); (case side2 => exact (Kd.V_reads' HO0.out).2.1); rintro e w6 ⟨v104, rfl, ho0, hb⟩; replace HO0 := ka (Kd.V_elder' (zV HO0.out) (Kd.R_base ho0) hb); have HO105 := ka (Kd.R_lower (Kd.R_newM (M := fun k_ => (w.heap.size ≤ k_)) ho0 (below_size (zL HB.out)) (fun k_ h_ => h_)) (below_size (zL HB.out))); replace HB := ka (below_step (zL HB.out) hb); (try clear hb); (try clear hb2); (try clear hk); (try clear hi); (try clear ho0))))
  go_ret3
  exact ⟨_, zE, Kd.V_mono (Kd.R_V (by (with_reducible repeat (first | apply Kd.R_alloc | apply Kd.R_drewN | apply Kd.R_drew)); exact Kd.R_mono HO105.out (fun _ hk => hk.1))) (fun k_ hk => by first | exact ⟨(.inr (hk.1)), hk.2⟩ | exact (.inr (hk))), zL HB.out⟩
 replace c4 := Bool.eq_false_iff.mpr c4
 subst c4
 rw [if_neg (show ¬ (false = true) by decide)] at H
 replace H := Option.bind_eq_some_iff.mp H
 obtain ⟨t106, A70, H⟩ := H
 try dsimp only at H
 have A7 := ka A70
 clear A70
 by_cases c8 : t106 = true
 ·subst c8
  rw [if_pos rfl] at H
  replace H := Option.bind_eq_some_iff.mp H
  obtain ⟨t107, A90, H⟩ := H
  try dsimp only at H
  have A9 := ka A90
  clear A90
  replace H := zs3 H
  obtain ⟨rfl, rfl, rfl⟩ := H
  go_enter Tryd.func27, Tryd.ntmps27
  have F_ := trivial
  repeat ((first | clear F_ | go_quiet (first | (go_at_call 28; (with_reducible refine (strings_HasPrefix.calls a1 (⟨#[36, 40]⟩ : ByteArray) false _ A3.out).mono ?_); rintro e w' ⟨rfl, ⟨nd, rfl⟩⟩; (try exact zDr)) | (go_at_call 28; (with_reducible refine (strings_HasPrefix.calls a1 (⟨#[36, 123]⟩ : ByteArray) true _ A7.out).mono ?_); rintro e w' ⟨rfl, ⟨nd, rfl⟩⟩; (try exact zDr)) | (go_at_call 50; (with_reducible refine (parse_stack_push.calls _ _ l0 125 t107 _ ?side1 ?side2 A9.out).mono ?_); (case side1 => exact zCS (Kd.V_reads' HO0.out).2.2); (case side2 => exact (Kd.V_reads' HO0.out).2.1); rintro e w10 ⟨v108, rfl, ho0, hb⟩; replace HO0 := ka (Kd.V_elder' (zV HO0.out) (Kd.R_base ho0) hb); have HO109 := ka (Kd.R_lower (Kd.R_newM (M := fun k_ => (w.heap.size ≤ k_)) ho0 (below_size (zL HB.out)) (fun k_ h_ => h_)) (below_size (zL HB.out))); replace HB := ka (below_step (zL HB.out) hb); (try clear hb); (try clear hb2); (try clear hk); (try clear hi); (try clear ho0)))); try go_wp2_with (first | (go_at_call 28; (with_reducible refine (strings_HasPrefix.calls a1 (⟨#[36, 40]⟩ : ByteArray) false _ A3.out).mono ?_); rintro e w' ⟨rfl, ⟨nd, rfl⟩⟩; (try exact zDr)) | (go_at_call 28; (with_reducible refine (strings_HasPrefix.calls a1 (⟨#[36, 123]⟩ : ByteArray) true _ A7.out).mono ?_); rintro e w' ⟨rfl, ⟨nd, rfl⟩⟩; (try exact zDr)) | (go_at_call 50; (with_reducible refine (parse_stack_push.calls _ _ l0 125 t107 _ ?side1 ?side2 A9.out).mono ?_); (case side1 => exact zCS (Kd.V_reads' HO0.out).2.2); (case side2 => exact (Kd.V_reads' HO0.out).2.1); rintro e w10 ⟨v108, rfl, ho0, hb⟩; replace HO0 := ka (Kd.V_elder' (zV HO0.out) (Kd.R_base ho0) hb); have HO109 := ka (Kd.R_lower (Kd.R_newM (M := fun k_ => (w.heap.size ≤ k_)) ho0 (below_size (zL HB.out)) (fun k_ h_ => h_)) (below_size (zL HB.out))); replace HB := ka (below_step (zL HB.out) hb); (try clear hb); (try clear hb2); (try clear hk); (try clear hi); (try clear ho0))))
  go_ret3
  exact ⟨_, zE, Kd.V_mono (Kd.R_V (by (with_reducible repeat (first | apply Kd.R_alloc | apply Kd.R_drewN | apply Kd.R_drew)); exact Kd.R_mono HO109.out (fun _ hk => hk.1))) (fun k_ hk => by first | exact ⟨(.inr (hk.1)), hk.2⟩ | exact (.inr (hk))), zL HB.out⟩
 replace c8 := Bool.eq_false_iff.mpr c8
 subst c8
 rw [if_neg (show ¬ (false = true) by decide)] at H
 by_cases c11 : (l0.length : Int) > 0
 ·rw [if_pos c11] at H
  have c11b0 : decide (0 < (l0.length : Int)) = true := zdt c11
  have c11b1 : decide (0 < l0.length) = true := decide_eq_true (by omega)
  clear c11
  replace H := zif H
  obtain ⟨c12, H⟩ := H
  have c12b0 := zdt c12
  have c12b1 : decide (0 < a1.size) = true := decide_eq_true (by omega)
  clear c12
  obtain ⟨ji14, hji14⟩ : ∃ j_ : Int, (wrap64 ((l0.length : Int) - 1)) = j_ := ⟨_, rfl⟩
  replace H : (if 0 ≤ (ji14) then (if (ji14) < (l0.length : Int) then (if (bt a1 0) = (rd l0 (ji14)) then (if (ji14) ≤ (l0.length : Int) then (some ((l0.take ((ji14) : Int).toNat), 1, false)) else (none)) else (some (l0, 1, ((l0.length : Int) == 0)))) else (none)) else (none)) = some (r1, r2, r3) := by first | (rw [hji14] at H; exact H) | (simp only [hji14] at H ⊢; exact H)
  (try rw [hji14] at A3)
  (try rw [hji14] at A7)
  have hji14w : (IntKind.i64.wrap ((l0.length : Int) - 1)) = ji14 := (i64_w _).trans hji14
  replace H := zif H
  obtain ⟨c15, H⟩ := H
  have c15b0 := zdt c15
  clear c15
  replace H := zif H
  obtain ⟨c16, H⟩ := H
  have c16b0 := zdt c16
  clear c16
  by_cases c17 : (bt a1 0) = (rd l0 (ji14))
  ·rw [if_pos c17] at H
   have c17b0 := zb0 c17
   have c17b1 := zb1 c17
   clear c17
   have c18b0 := eq_true (zD : 0 ≤ (ji14))
   replace H := zif H
   obtain ⟨c19, H⟩ := H
   have c19b0 := eq_true c19
   have c19b1 := zdt c19
   clear c19
   obtain ⟨y111, hy111⟩ : ∃ y_ : List Int, y_ = (l0.take ((ji14) : Int).toNat) := ⟨_, rfl⟩
   replace H : (some (y111, 1, false)) = some (r1, r2, r3) := zH hy111 H
   have Ny111 := ka hy111
   clear hy111
   replace H := zs3 H
   obtain ⟨rfl, rfl, rfl⟩ := H
   go_enter Tryd.func27, Tryd.ntmps27
   have F_ := trivial
   repeat ((first | clear F_ | go_quiet (first | (go_at_call 28; (with_reducible refine (strings_HasPrefix.calls a1 (⟨#[36, 40]⟩ : ByteArray) false _ A3.out).mono ?_); rintro e w' ⟨rfl, ⟨nd, rfl⟩⟩; (try exact zDr)) | (go_at_call 28; (with_reducible refine (strings_HasPrefix.calls a1 (⟨#[36, 123]⟩ : ByteArray) false _ A7.out).mono ?_); rintro e w' ⟨rfl, ⟨nd, rfl⟩⟩; (try exact zDr); have p13 : 0 ≤ (0 : Int) := (by omega); have q13 : 0 < a1.size := (by have : (0 : Int) < (a1.size : Int) := zD; omega); have hx13 : ∀ h : 0 < a1.size, ((a1[0]'h).toNat : Int) = bt a1 0 := bt_at a1 0; clear p13; have qi13 : (0 < (a1.size : Int)) = True := eq_true zD; replace q13 := eq_true q13; have p110 : 0 ≤ ((ji14) : Int) := zD; have q110 : (ji14) < (l0.length : Int) := zD; obtain ⟨ad110, e110, hx110_0⟩ := Kd.at_int (Kd.V_reads' HO0.out).2.2 (ji14) p110 q110; cases e110; replace p110 := eq_true p110; replace q110 := eq_true q110; have q20 : ((ji14) : Int) ≤ ((l0.length : Int) : Int) := zD; obtain ⟨i020, hi020, _, hsz20, _⟩ := info_parts info5; have hroom20 : l0.length ≤ c0 := (Kd.V_reads' HO0.out).2.1; have hC20 : Kd.F (Kd.int .u8) _ _ (some ad110) l0.length l0 := (Kd.V_at (base := w.heap.size) HO0.out).2.2; have hcut20 := cut_to (P := Tryd.prog) 68 5 .i64 Tryd.underlying68 hi020 (some ad110) l0.length c0 (ji14) zD q20 hroom20; have hr20 := Kd.F_take (m := ((ji14) : Int).toNat) hC20 (by omega); have hy20 : y111.length = ((ji14) : Int).toNat := (by rw [Ny111.out, List.length_take]; omega); rw [← Ny111.out] at hr20; rw [← hy20] at hcut20; have HO115 := ka (show Kd.V (Kd.int .u8) 5 _ w.heap.size _ (.slice (some ad110) y111.length c0) y111 from Kd.V_mk (by omega) hr20); have HC115 := ka (show y111.length ≤ c0 from by omega); clear hr20 hC20 hroom20 hi020 hsz20; have KY20 := ka hy20; clear hy20; replace q20 := eq_true q20))); try go_wp2_with (first | (go_at_call 28; (with_reducible refine (strings_HasPrefix.calls a1 (⟨#[36, 40]⟩ : ByteArray) false _ A3.out).mono ?_); rintro e w' ⟨rfl, ⟨nd, rfl⟩⟩; (try exact zDr)) | (go_at_call 28; (with_reducible refine (strings_HasPrefix.calls a1 (⟨#[36, 123]⟩ : ByteArray) false _ A7.out).mono ?_); rintro e w' ⟨rfl, ⟨nd, rfl⟩⟩; (try exact zDr); have p13 : 0 ≤ (0 : Int) := (by omega); have q13 : 0 < a1.size := (by have : (0 : Int) < (a1.size : Int) := zD; omega); have hx13 : ∀ h : 0 < a1.size, ((a1[0]'h).toNat : Int) = bt a1 0 := bt_at a1 0; clear p13; have qi13 : (0 < (a1.size : Int)) = True := eq_true zD; replace q13 := eq_true q13; have p110 : 0 ≤ ((ji14) : Int) := zD; have q110 : (ji14) < (l0.length : Int) := zD; obtain ⟨ad110, e110, hx110_0⟩ := Kd.at_int (Kd.V_reads' HO0.out).2.2 (ji14) p110 q110; cases e110; replace p110 := eq_true p110; replace q110 := eq_true q110; have q20 : ((ji14) : Int) ≤ ((l0.length : Int) : Int) := zD; obtain ⟨i020, hi020, _, hsz20, _⟩ := info_parts info5; have hroom20 : l0.length ≤ c0 := (Kd.V_reads' HO0.out).2.1; have hC20 : Kd.F (Kd.int .u8) _ _ (some ad110) l0.length l0 := (Kd.V_at (base := w.heap.size) HO0.out).2.2; have hcut20 := cut_to (P := Tryd.prog) 68 5 .i64 Tryd.underlying68 hi020 (some ad110) l0.length c0 (ji14) zD q20 hroom20; have hr20 := Kd.F_take (m := ((ji14) : Int).toNat) hC20 (by omega); have hy20 : y111.length = ((ji14) : Int).toNat := (by rw [Ny111.out, List.length_take]; omega); rw [← Ny111.out] at hr20; rw [← hy20] at hcut20; have HO115 := ka (show Kd.V (Kd.int .u8) 5 _ w.heap.size _ (.slice (some ad110) y111.length c0) y111 from Kd.V_mk (by omega) hr20); have HC115 := ka (show y111.length ≤ c0 from by omega); clear hr20 hC20 hroom20 hi020 hsz20; have KY20 := ka hy20; clear hy20; replace q20 := eq_true q20)))
   go_ret3
   exact ⟨_, by first | rfl | (simp [errW_none, errW_some] <;> rfl) | (simp only [← hji14]; first | rfl | (simp [errW_none, errW_some] <;> rfl)) | (simp [*, errW_none, errW_some] <;> rfl), by (with_reducible repeat (first | apply Kd.V_alloc | apply Kd.V_drewN | apply Kd.V_drew)); exact HO115.out, zL HB.out⟩
  rw [if_neg c17] at H
  have c17b0 := zn0 c17
  have c17b1 := zn1 c17
  replace H := zs3 H
  obtain ⟨rfl, rfl, rfl⟩ := H
  go_enter Tryd.func27, Tryd.ntmps27
  have F_ := trivial
  repeat ((first | clear F_ | go_quiet (first | (go_at_call 28; (with_reducible refine (strings_HasPrefix.calls a1 (⟨#[36, 40]⟩ : ByteArray) false _ A3.out).mono ?_); rintro e w' ⟨rfl, ⟨nd, rfl⟩⟩; (try exact zDr)) | (go_at_call 28; (with_reducible refine (strings_HasPrefix.calls a1 (⟨#[36, 123]⟩ : ByteArray) false _ A7.out).mono ?_); rintro e w' ⟨rfl, ⟨nd, rfl⟩⟩; (try exact zDr); have p13 : 0 ≤ (0 : Int) := (by omega); have q13 : 0 < a1.size := (by have : (0 : Int) < (a1.size : Int) := zD; omega); have hx13 : ∀ h : 0 < a1.size, ((a1[0]'h).toNat : Int) = bt a1 0 := bt_at a1 0; clear p13; have qi13 : (0 < (a1.size : Int)) = True := eq_true zD; replace q13 := eq_true q13; have p110 : 0 ≤ ((ji14) : Int) := zD; have q110 : (ji14) < (l0.length : Int) := zD; obtain ⟨ad110, e110, hx110_0⟩ := Kd.at_int (Kd.V_reads' HO0.out).2.2 (ji14) p110 q110; cases e110; replace p110 := eq_true p110; replace q110 := eq_true q110))); try go_wp2_with (first | (go_at_call 28; (with_reducible refine (strings_HasPrefix.calls a1 (⟨#[36, 40]⟩ : ByteArray) false _ A3.out).mono ?_); rintro e w' ⟨rfl, ⟨nd, rfl⟩⟩; (try exact zDr)) | (go_at_call 28; (with_reducible refine (strings_HasPrefix.calls a1 (⟨#[36, 123]⟩ : ByteArray) false _ A7.out).mono ?_); rintro e w' ⟨rfl, ⟨nd, rfl⟩⟩; (try exact zDr); have p13 : 0 ≤ (0 : Int) := (by omega); have q13 : 0 < a1.size := (by have : (0 : Int) < (a1.size : Int) := zD; omega); have hx13 : ∀ h : 0 < a1.size, ((a1[0]'h).toNat : Int) = bt a1 0 := bt_at a1 0; clear p13; have qi13 : (0 < (a1.size : Int)) = True := eq_true zD; replace q13 := eq_true q13; have p110 : 0 ≤ ((ji14) : Int) := zD; have q110 : (ji14) < (l0.length : Int) := zD; obtain ⟨ad110, e110, hx110_0⟩ := Kd.at_int (Kd.V_reads' HO0.out).2.2 (ji14) p110 q110; cases e110; replace p110 := eq_true p110; replace q110 := eq_true q110)))
  go_ret3
  exact ⟨_, by first | rfl | (simp [errW_none, errW_some] <;> rfl) | (simp only [← hji14]; first | rfl | (simp [errW_none, errW_some] <;> rfl)) | (simp [*, errW_none, errW_some] <;> rfl), by (with_reducible repeat (first | apply Kd.V_alloc | apply Kd.V_drewN | apply Kd.V_drew)); exact HO0.out, zL HB.out⟩
 rw [if_neg c11] at H
 have c11b0 : decide (0 < (l0.length : Int)) = false := zdf c11
 have c11b1 : decide (0 < l0.length) = false := decide_eq_false (by omega)
 clear c11
 replace H := zs3 H
 obtain ⟨rfl, rfl, rfl⟩ := H
 go_enter Tryd.func27, Tryd.ntmps27
 have F_ := trivial
 repeat ((first | clear F_ | go_quiet (first | (go_at_call 28; (with_reducible refine (strings_HasPrefix.calls a1 (⟨#[36, 40]⟩ : ByteArray) false _ A3.out).mono ?_); rintro e w' ⟨rfl, ⟨nd, rfl⟩⟩; (try exact zDr)) | (go_at_call 28; (with_reducible refine (strings_HasPrefix.calls a1 (⟨#[36, 123]⟩ : ByteArray) false _ A7.out).mono ?_); rintro e w' ⟨rfl, ⟨nd, rfl⟩⟩; (try exact zDr)))); try go_wp2_with (first | (go_at_call 28; (with_reducible refine (strings_HasPrefix.calls a1 (⟨#[36, 40]⟩ : ByteArray) false _ A3.out).mono ?_); rintro e w' ⟨rfl, ⟨nd, rfl⟩⟩; (try exact zDr)) | (go_at_call 28; (with_reducible refine (strings_HasPrefix.calls a1 (⟨#[36, 123]⟩ : ByteArray) false _ A7.out).mono ?_); rintro e w' ⟨rfl, ⟨nd, rfl⟩⟩; (try exact zDr))))
 go_ret3
 exact ⟨_, zE, by (with_reducible repeat (first | apply Kd.V_alloc | apply Kd.V_drewN | apply Kd.V_drew)); exact HO0.out, zL HB.out⟩

end Go.Proofs.YthnholondnfjoaaDoor.PParse
