-- Written by a program of this session (wip/tools/ext.py, over the kit's printer); not trusted: Lean checks it.
import Derived.Test.YtjdadmjomjhpcaaDoorPLeasex2
namespace Go.Proofs.YtjdadmjomjhpcaaDoor.PLease
open Go.RowKit Go.Proofs.YtjdadmjomjhpcaaDoorW.PrintWords Go.Proofs.YtjdadmjomjhpcaaDoorW.PrintLast Go.Proofs.YtjdadmjomjhpcaaDoorW.PrintMore
attribute [local go_sem] max2_int min2_int max_two min_two max_three min_three max_four min_four
set_option linter.unusedVariables false
set_option linter.unusedSimpArgs false
set_option maxHeartbeats 8000000
set_option maxRecDepth 100000

/-! ### text_Path: function 32 -/
/-- text.Path: its two loops. -/
def text_Path.l0 : Nat → ByteArray → Int → Option (Bool)
  | 0, _, _ => none
  | k + 1, x0, x11 => if x11 < (x0.size : Int) then (if 0 ≤ x11 then ((text_plain.f k (bt x0 x11)).bind fun t1 => (if t1 = true then (text_Path.l0 k x0 (wrap64 (x11 + 1))) else (some false))) else (none)) else (some true)
def text_Path.l1 : Nat → List ByteArray → Int → Option (Bool)
  | 0, _, _ => none
  | k + 1, x21, x23 => if x23 < (x21.length : Int) then (if 0 ≤ x23 then (if (rdOf ByteArray.empty x21 x23).toList = ([] : List UInt8) then (some false) else (if (rdOf ByteArray.empty x21 x23).toList = ([46] : List UInt8) then (some false) else (if (rdOf ByteArray.empty x21 x23).toList = ([46, 46] : List UInt8) then (some false) else (text_Path.l1 k x21 (wrap64 (x23 + 1)))))) else (none)) else (some true)
def text_Path.f (k : Nat) (a0 : ByteArray) : Option (Bool) := if a0.size ≤ 9223372036854775807 then ((text_Path.l0 k a0 0).bind fun t1 => (if t1 = true then ((strings_Split.f k a0 (⟨#[47]⟩ : ByteArray)).bind fun t2 => ((text_Path.l1 k t2 0).bind fun t3 => (if t3 = true then (if (a0.size : Int) ≤ 100 then (some (decide ((t2.length : Int) ≤ 8))) else (some false)) else (some false)))) else (some false))) else (none)
theorem text_Path.mono_l0 : ∀ k, (∀ y0 y1, LeO (text_Path.l0 k y0 y1) (text_Path.l0 (k + 1) y0 y1))
  | 0 => fun _ _ r h => by simp [text_Path.l0] at h
  | k + 1 => by
    have ih0 := text_Path.mono_l0 k
    intro y0 y1
    unfold text_Path.l0
    have m0 := @text_plain.mono
    exact zLe
theorem text_Path.mono_l1 : ∀ k, (∀ y0 y1, LeO (text_Path.l1 k y0 y1) (text_Path.l1 (k + 1) y0 y1))
  | 0 => fun _ _ r h => by simp [text_Path.l1] at h
  | k + 1 => by
    have ih0 := text_Path.mono_l1 k
    intro y0 y1
    unfold text_Path.l1
    repeat' first
    | (with_reducible exact ih0 _ _)
    | (with_reducible exact LeO.refl _)
    | (with_reducible exact LeO.none _)
    | (with_reducible refine LeO.ite ?_ ?_)
theorem text_Path.mono : ∀ a0 k, LeO (text_Path.f k a0) (text_Path.f (k + 1) a0) := by
  intro a0 k
  have ih0 := text_Path.mono_l0 k
  have ih1 := text_Path.mono_l1 k
  unfold text_Path.f
  have m0 := @strings_Split.mono
  exact zLe
theorem text_Path.calls (k : Nat) (a0 : ByteArray) (r : Bool) (w : World) (h : text_Path.f k a0 = some r) :
    Calls Tryd.prog 32 #[.string a0] w fun e w' => e = .returned (.bool r) ∧ Below w.heap.size w w' := by
  unfold text_Path.f at h
  by_cases hsz : a0.size ≤ 9223372036854775807
  case neg => rw [if_neg hsz] at h; exact absurd h (by simp)
  rw [if_pos hsz] at h
  replace h := Option.bind_eq_some_iff.mp h
  obtain ⟨t1, A10, H⟩ := h
  have A1 := ka A10
  clear A10
  have H0 := ka H
  clear H
  have hcv := print_bytes (P := Tryd.prog) 9 83 5 Tryd.underlying9 Tryd.underlying83 Tryd.underlying5 a0 w
  have hrd := ka (bytes_reads w 5 a0 hsz)
  have hbl := ka (bytes_below (Below.refl w.heap.size w) (Nat.le_refl _) 5 a0)
  obtain ⟨cp, hcp⟩ : ∃ cp, cp = grownCap w a0.size 0 5 := ⟨_, rfl⟩
  obtain ⟨W1, hW1⟩ : ∃ W1, W1 = Lib.bytesWorld w 5 a0 := ⟨_, rfl⟩
  rw [← hcp, ← hW1] at hcv
  rw [← hW1] at hrd hbl
  clear hcp hW1 hsz
  obtain ⟨bB, hbB⟩ : ∃ bB, bB = w.heap.size := ⟨_, rfl⟩
  rw [← hbB] at hcv hrd
  clear hbB
  go_enter Tryd.func32, Tryd.ntmps32
  go_wp2
  clear hcv
  go_loopg [4, 11] k (fun kq v4 v11 w' => ∃ (x11_1 : Int), v11 = .int .i64 x11_1 ∧ Aside0 (text_Path.l0 kq a0 x11_1 = some t1) ∧ Aside0 (kq ≤ k) ∧ Drawn0 W1 w')
  case atStart => exact ⟨(0), rfl, A1, ⟨Nat.le_refl _⟩, Drawn0.refl _⟩
  case round =>
    clear A1
    obtain ⟨x11_1, rfl, HA, HK1, ⟨m1, rfl⟩⟩ := hrel
    cases gk with
    | zero => exact absurd HA.out (by simp [text_Path.l0])
    | succ k1 =>
      have H := HA.out
      clear HA
      simp only [text_Path.l0] at H
      by_cases c2 : x11_1 < (a0.size : Int)
      · rw [if_pos c2] at H
        have c2b0 : decide (x11_1 < (a0.size : Int)) = true := zdt c2
        by_cases c3 : 0 ≤ x11_1
        · rw [if_pos c3] at H
          have c3b0 : decide (0 ≤ x11_1) = true := zdt c3
          replace H := Option.bind_eq_some_iff.mp H
          obtain ⟨t2, A20, H⟩ := H
          have A2 := ka A20
          clear A20
          obtain ⟨ad, e1, hx⟩ := hrd.out.at_ x11_1 c3 c2
          obtain rfl := Option.some.inj e1
          clear e1
          rw [rd_bytesOf, add_plain] at hx
          replace c2 := eq_true c2
          replace c3 := eq_true c3
          by_cases c4 : t2 = true
          · subst c4
            rw [if_pos rfl] at H
            have H' := ka H
            clear H
            go_wp2_with (first | (go_at_call 47; (with_reducible refine (text_plain.calls k1 _ true _ A2.out).mono ?_); rintro e w' ⟨rfl, ⟨nd, rfl⟩⟩))
            go_roundg k1
            case measure => have := HK1.out; omega
            case rel => exact ⟨(wrap64 (x11_1 + 1)), (by first | rfl | (simp; done) | (simp [*]; done)), H', ⟨by have := HK1.out; omega⟩, zd0⟩
          · replace c4 := Bool.eq_false_iff.mpr c4
            subst c4
            rw [if_neg (show ¬ (false = true) by decide)] at H
            obtain rfl := Option.some.inj H
            clear H
            have H1 := H0.out
            clear H0
            rw [if_neg (show ¬ (false = true) by decide)] at H1
            obtain rfl := Option.some.inj H1
            clear H1
            go_wp2_with (first | (go_at_call 47; (with_reducible refine (text_plain.calls k1 _ false _ A2.out).mono ?_); rintro e w' ⟨rfl, ⟨nd, rfl⟩⟩))
            go_ret
            exact ⟨by first | rfl | (simp; done) | (simp [*]; done), by repeat (first | exact hbl.out | apply pw_below_drewN | apply below_drew1)⟩
        · rw [if_neg c3] at H
          exact absurd H (by simp)
      · rw [if_neg c2] at H
        have c2b0 : decide (x11_1 < (a0.size : Int)) = false := zdf c2
        clear c2
        obtain rfl := Option.some.inj H
        clear H
        have H := H0.out
        clear H0
        rw [if_pos rfl] at H
        replace H := Option.bind_eq_some_iff.mp H
        obtain ⟨t2, A20, H⟩ := H
        have A2 := ka A20
        clear A20
        replace H := Option.bind_eq_some_iff.mp H
        obtain ⟨t3, A30, H⟩ := H
        have A3 := ka A30
        clear A30
        have H3 := ka H
        clear H
        clear hrd
        go_wp2_with (first | (go_at_call 48; (with_reducible refine (strings_Split.calls k a0 _ t2 _ A2.out).mono ?_); rintro e w2 ⟨v2, rfl, ho2, hb2⟩; obtain ⟨A2_, c2_, rfl, hc2_, hr2_⟩ := Kd.R_reads ho2; have HR2 := ka hr2_; clear hr2_ ho2; have HB2 := ka (show Below w.heap.size w w2 from below_step (by repeat (first | exact hbl.out | apply pw_below_drewN | apply below_drew1)) hb2); clear hb2))
        clear hbl
        go_loopg [7, 23] k (fun kq v7 v23 w' => ∃ (x23_1 : Int), v23 = .int .i64 x23_1 ∧ Aside0 (text_Path.l1 kq t2 x23_1 = some t3) ∧ Aside0 (kq ≤ k) ∧ Drawn0 w2 w')
        case atStart => exact ⟨(0), rfl, A3, ⟨Nat.le_refl _⟩, Drawn0.refl _⟩
        case round =>
          clear A3
          obtain ⟨x23_1, rfl, HA, HK2, ⟨m2, rfl⟩⟩ := hrel
          cases gk with
          | zero => exact absurd HA.out (by simp [text_Path.l1])
          | succ k2 =>
            have H := HA.out
            clear HA
            simp only [text_Path.l1] at H
            by_cases c2 : x23_1 < (t2.length : Int)
            · rw [if_pos c2] at H
              have c2b0' : decide (x23_1 < (t2.length : Int)) = true := decide_eq_true c2
              by_cases c3 : 0 ≤ x23_1
              · rw [if_pos c3] at H
                have c3b0' : decide (0 ≤ x23_1) = true := decide_eq_true c3
                obtain ⟨ad9, e9, hx9⟩ := Kd.at_string HR2.out x23_1 c3 c2
                cases e9
                replace c2 := eq_true c2
                replace c3 := eq_true c3
                by_cases c4 : (rdOf ByteArray.empty t2 x23_1).toList = ([] : List UInt8)
                · rw [if_pos c4] at H
                  have c4b0 : ((rdOf ByteArray.empty t2 x23_1).toList == ([] : List UInt8)) = true := zb0 c4
                  clear c4
                  obtain rfl := Option.some.inj H
                  clear H
                  have H1 := H3.out
                  clear H3
                  rw [if_neg (show ¬ (false = true) by decide)] at H1
                  obtain rfl := Option.some.inj H1
                  clear H1
                  go_wp2
                  go_ret
                  exact ⟨by first | rfl | (simp; done) | (simp [*]; done), by repeat (first | exact HB2.out | apply pw_below_drewN | apply below_drew1)⟩
                · rw [if_neg c4] at H
                  have c4b0 : ((rdOf ByteArray.empty t2 x23_1).toList == ([] : List UInt8)) = false := zn0 c4
                  by_cases c5 : (rdOf ByteArray.empty t2 x23_1).toList = ([46] : List UInt8)
                  · rw [if_pos c5] at H
                    have c5b0 : ((rdOf ByteArray.empty t2 x23_1).toList == ([46] : List UInt8)) = true := zb0 c5
                    clear c5
                    obtain rfl := Option.some.inj H
                    clear H
                    have H1 := H3.out
                    clear H3
                    rw [if_neg (show ¬ (false = true) by decide)] at H1
                    obtain rfl := Option.some.inj H1
                    clear H1
                    go_wp2
                    go_ret
                    exact ⟨by first | rfl | (simp; done) | (simp [*]; done), by repeat (first | exact HB2.out | apply pw_below_drewN | apply below_drew1)⟩
                  · rw [if_neg c5] at H
                    have c5b0 : ((rdOf ByteArray.empty t2 x23_1).toList == ([46] : List UInt8)) = false := zn0 c5
                    by_cases c6 : (rdOf ByteArray.empty t2 x23_1).toList = ([46, 46] : List UInt8)
                    · rw [if_pos c6] at H
                      have c6b0 : ((rdOf ByteArray.empty t2 x23_1).toList == ([46, 46] : List UInt8)) = true := zb0 c6
                      clear c6
                      obtain rfl := Option.some.inj H
                      clear H
                      have H1 := H3.out
                      clear H3
                      rw [if_neg (show ¬ (false = true) by decide)] at H1
                      obtain rfl := Option.some.inj H1
                      clear H1
                      go_wp2
                      go_ret
                      exact ⟨by first | rfl | (simp; done) | (simp [*]; done), by repeat (first | exact HB2.out | apply pw_below_drewN | apply below_drew1)⟩
                    · rw [if_neg c6] at H
                      have c6b0 : ((rdOf ByteArray.empty t2 x23_1).toList == ([46, 46] : List UInt8)) = false := zn0 c6
                      have H' := ka H
                      clear H
                      go_wp2
                      go_roundg k2
                      case measure => have := HK2.out; omega
                      case rel => exact ⟨(wrap64 (x23_1 + 1)), (by first | rfl | (simp; done) | (simp [*]; done)), H', ⟨by have := HK2.out; omega⟩, zd0⟩
              · rw [if_neg c3] at H
                exact absurd H (by simp)
            · rw [if_neg c2] at H
              have c2b0' : decide (x23_1 < (t2.length : Int)) = false := decide_eq_false c2
              clear c2
              obtain rfl := Option.some.inj H
              clear H
              have H := H3.out
              clear H3
              rw [if_pos rfl] at H
              by_cases c7 : (a0.size : Int) ≤ 100
              · rw [if_pos c7] at H
                have c7b0 : decide ((a0.size : Int) ≤ 100) = true := zdt c7
                have c7b1 : decide (a0.size ≤ 100) = true := decide_eq_true (by omega)
                clear c7
                obtain rfl := Option.some.inj H
                clear H
                go_wp2
                go_ret
                exact ⟨by first | rfl | (simp; done) | (simp [*]; done), by repeat (first | exact HB2.out | apply pw_below_drewN | apply below_drew1)⟩
              · rw [if_neg c7] at H
                have c7b0 : decide ((a0.size : Int) ≤ 100) = false := zdf c7
                have c7b1 : decide (a0.size ≤ 100) = false := decide_eq_false (by omega)
                clear c7
                obtain rfl := Option.some.inj H
                clear H
                go_wp2
                go_ret
                exact ⟨by first | rfl | (simp; done) | (simp [*]; done), by repeat (first | exact HB2.out | apply pw_below_drewN | apply below_drew1)⟩



/-! ### lease_lives: function 33 -/
def lease_lives.f (a0 : Int) : Option (Bool) := if a0 ≥ 1 then (some (decide (a0 ≤ 1048576))) else (some false)
theorem lease_lives.calls (a0 : Int) (r : Bool) (w : World) (h : lease_lives.f a0 = some r) :
  Calls Tryd.prog 33 #[.int .i64 a0] w fun e w' => e = .returned (.bool r) ∧ Drawn0 w w' := by
 have H : (if a0 ≥ 1 then (some (decide (a0 ≤ 1048576))) else (some false)) = some r := h
 clear h
 by_cases c2 : a0 ≥ 1
 ·rw [if_pos c2] at H
  have c2b0 : decide (1 ≤ a0) = true := zdt c2
  clear c2
  obtain rfl := Option.some.inj H
  go_enter Tryd.func33, Tryd.ntmps33
  go_wp2
  go_ret
  exact ⟨by first | rfl | (simp; done) | (simp [*]; done), zd0⟩
 rw [if_neg c2] at H
 have c2b0 : decide (1 ≤ a0) = false := zdf c2
 clear c2
 obtain rfl := Option.some.inj H
 go_enter Tryd.func33, Tryd.ntmps33
 go_wp2
 go_ret
 exact ⟨by first | rfl | (simp; done) | (simp [*]; done), zd0⟩

/-! ### lease_time: function 34 -/
def lease_time.f (a0 : Int) : Option (Bool) := if a0 ≥ 0 then (some (decide (a0 ≤ 1099511627776))) else (some false)
theorem lease_time.calls (a0 : Int) (r : Bool) (w : World) (h : lease_time.f a0 = some r) :
  Calls Tryd.prog 34 #[.int .i64 a0] w fun e w' => e = .returned (.bool r) ∧ Drawn0 w w' := by
 have H : (if a0 ≥ 0 then (some (decide (a0 ≤ 1099511627776))) else (some false)) = some r := h
 clear h
 by_cases c2 : a0 ≥ 0
 ·rw [if_pos c2] at H
  have c2b0 : decide (0 ≤ a0) = true := zdt c2
  clear c2
  obtain rfl := Option.some.inj H
  go_enter Tryd.func34, Tryd.ntmps34
  go_wp2
  go_ret
  exact ⟨by first | rfl | (simp; done) | (simp [*]; done), zd0⟩
 rw [if_neg c2] at H
 have c2b0 : decide (0 ≤ a0) = false := zdf c2
 clear c2
 obtain rfl := Option.some.inj H
 go_enter Tryd.func34, Tryd.ntmps34
 go_wp2
 go_ret
 exact ⟨by first | rfl | (simp; done) | (simp [*]; done), zd0⟩

/-! ### lease_Ask_35: function 35 -/
def lease_Ask_35.f (l0 : List (S49)) : Option ((List (S49))) := (some (([] : List (S49)) : List (S49))).bind fun y232 => (if y232.length + l0.length < 3518437208883 then (some (y232 ++ l0)) else (none))
theorem lease_Ask_35.calls_some (A0 : Addr) (c0 : Nat) (l0 : List (S49)) (r : List (S49)) (w : World) (hr0 : Kd.C k49 w (some A0) l0.length l0) (hc0 : l0.length ≤ c0) (h : lease_Ask_35.f l0 = some r) :
  Calls Tryd.prog 35 #[.slice (some A0) l0.length c0] w fun e w' => ∃ v0_ : Value, e = .returned (v0_) ∧ Kd.R k49 49 w' w.heap.size (fun _ => True) v0_ r ∧ Below w.heap.size w w' := by
 have HR0 := ka hr0
 have HC0 := ka hc0
 clear hr0 hc0
 have HB := ka (Below.refl w.heap.size w)
 have H : ((some (([] : List (S49)) : List (S49))).bind fun y232 => (if y232.length + l0.length < 3518437208883 then (some (y232 ++ l0)) else (none))) = some r := h
 clear h
 obtain ⟨y232, hy232⟩ : ∃ y_ : List (S49), y_ = (([] : List (S49))) := ⟨_, rfl⟩
 replace H : (if y232.length + l0.length < 3518437208883 then (some (y232 ++ l0)) else (none)) = some r := zH hy232 H
 have Ny232 := ka hy232
 clear hy232
 replace H := zif H
 obtain ⟨c2, H⟩ := H
 have LMc2 := ka c2
 clear c2
 obtain ⟨y235, hy235⟩ : ∃ y_ : List (S49), y_ = (y232 ++ l0) := ⟨_, rfl⟩
 replace H : (some y235) = some r := zH hy235 H
 have Ny235 := ka hy235
 clear hy235
 obtain rfl := Option.some.inj H
 have xq_ : ∀ (w : World) (a : Option Addr) (n c n' c' : Nat), (Go.binOp .eql 26 (.slice a n c) (.slice none n' c')).run Tryd.prog w = Result.ok (Value.bool a.isNone) w := fun w a n c n' c' => Lib.run_eql_slice_nil w _ _ a n c n' c' Tryd.underlying26
 go_enter Tryd.func35, Tryd.ntmps35
 go_wp2_with (first | ((with_reducible refine gate_dst (N := 5) rfl ?_); refine Kd.R_lit k49 _ 49 ?hg (N := 5) ?hd (xs := ([] : List (S49))) (inner := []) (ok := fun _ => True) (okp := fun _ => True) ?hr ?hp (fun _ hk => hk) trivial (Below.refl _ _) (Nat.le_refl _) (by simp) ?_; (case hd => rfl); (case hg => rfl); (case hr => (go_simp; try rfl)); (case hp => exact (Reps.none _ _)); intro v233 w3 ho4 hb hg_ hnew_; clear hg_ hnew_; (first | rw [← Ny232.out] at ho4 | (simp only [Int.reduceToNat] at ho4; rw [← Ny232.out] at ho4)); have HO234 := ka (Kd.R_lower ho4 (below_size (zL HB.out))); replace HB := ka (below_step (zL HB.out) hb); clear hb ho4) | ((with_reducible refine gate_builtin (b := .append) (xs := #[.tmp 5, .tmp 6]) rfl ?_); at_builtin; refine Kd.R_append_rows k49 (w0 := w) w.heap.size rfl (.tmp 5) (.tmp 6) 26 49 (.agg #[(.int .i64 0), (.string ⟨#[]⟩), (.bool false), (.int .i64 0)]) 40 rfl Tryd.underlying26 info49 rfl (by decide) (by omega) v233 y232 l0 _ _ _ (fun _ => True) (fun _ => False) rfl rfl ?aO ?aR (fun _ _ h => h) (fun _ h => h.elim) ?aF ?aB ?aS ?aL ?_; (case aR => repeat (first | exact (Kd.C_below HR0.out HB.out) | (with_reducible refine Kd.C_alloc ?_ _) | (with_reducible refine Kd.C_drewN ?_ _) | (with_reducible refine Kd.C_drew ?_))); (case aB => exact (zL HB.out)); (case aF => exact (fun _ _ => trivial)); (case aO => exact (zR HO234.out)); (case aS => exact (below_size (zL HB.out))); (case aL => have := LMc2.out; omega); intro v236 w5 ho hb hg hat; rw [← Ny235.out] at ho; replace HB := ka (hb); have HO237 := ka (ho); clear HO234; clear ho hb hg hat))
 go_ret
 exact ⟨_, zE, by (with_reducible repeat (first | apply Kd.R_alloc | apply Kd.R_drewN | apply Kd.R_drew)); exact HO237.out, zL HB.out⟩
theorem lease_Ask_35.calls (A0 : Option Addr) (c0 : Nat) (l0 : List (S49)) (r : List (S49)) (w : World) (hr0 : Kd.C k49 w A0 l0.length l0) (hc0 : l0.length ≤ c0) (h : lease_Ask_35.f l0 = some r) :
    Calls Tryd.prog 35 #[.slice A0 l0.length c0] w fun e w' => ∃ v0_ : Value, e = .returned (v0_) ∧ Kd.R k49 49 w' w.heap.size (fun _ => True) v0_ r ∧ Below w.heap.size w w' := by
  cases A0 with
  | some ad => exact lease_Ask_35.calls_some ad c0 l0 r w hr0 hc0 h
  | none =>
    obtain rfl : l0 = [] := by
      cases l0 with
      | nil => rfl
      | cons x l =>
        obtain ⟨ad, e, _⟩ := hr0.2.2 (by simp)
        cases e
    obtain rfl : r = [] := by
      have h2 := h
      simp [lease_Ask_35.f] at h2
      first | exact h2 | exact h2.symm | simp_all
    clear h hr0 hc0
    simp only [List.length_nil]
    have xq_ : ∀ (w : World) (a : Option Addr) (n c n' c' : Nat), (Go.binOp .eql 26 (.slice a n c) (.slice none n' c')).run Tryd.prog w = Result.ok (Value.bool a.isNone) w := fun w a n c n' c' => Lib.run_eql_slice_nil w _ _ a n c n' c' Tryd.underlying26
    go_enter Tryd.func35, Tryd.ntmps35
    go_wp2
    go_ret
    exact ⟨.slice none 0 0, rfl, Kd.R_nil _ _ _ _ _, (by repeat (first | exact Below.refl _ _ | apply below_alloc | apply pw_below_drewN | apply below_drew1))⟩

/-! ### lease_Lease_38: function 38 -/
def lease_Lease_38.f (l0 : List (S42)) : Option ((List (S42))) := (some (([] : List (S42)) : List (S42))).bind fun y238 => (if y238.length + l0.length < 2932031007402 then (some (y238 ++ l0)) else (none))
theorem lease_Lease_38.calls_some (A0 : Addr) (c0 : Nat) (l0 : List (S42)) (r : List (S42)) (w : World) (hr0 : Kd.C k42 w (some A0) l0.length l0) (hc0 : l0.length ≤ c0) (h : lease_Lease_38.f l0 = some r) :
  Calls Tryd.prog 38 #[.slice (some A0) l0.length c0] w fun e w' => ∃ v0_ : Value, e = .returned (v0_) ∧ Kd.R k42 42 w' w.heap.size (fun _ => True) v0_ r ∧ Below w.heap.size w w' := by
 have HR0 := ka hr0
 have HC0 := ka hc0
 clear hr0 hc0
 have HB := ka (Below.refl w.heap.size w)
 have H : ((some (([] : List (S42)) : List (S42))).bind fun y238 => (if y238.length + l0.length < 2932031007402 then (some (y238 ++ l0)) else (none))) = some r := h
 clear h
 obtain ⟨y238, hy238⟩ : ∃ y_ : List (S42), y_ = (([] : List (S42))) := ⟨_, rfl⟩
 replace H : (if y238.length + l0.length < 2932031007402 then (some (y238 ++ l0)) else (none)) = some r := zH hy238 H
 have Ny238 := ka hy238
 clear hy238
 replace H := zif H
 obtain ⟨c2, H⟩ := H
 have LMc2 := ka c2
 clear c2
 obtain ⟨y241, hy241⟩ : ∃ y_ : List (S42), y_ = (y238 ++ l0) := ⟨_, rfl⟩
 replace H : (some y241) = some r := zH hy241 H
 have Ny241 := ka hy241
 clear hy241
 obtain rfl := Option.some.inj H
 have xq_ : ∀ (w : World) (a : Option Addr) (n c n' c' : Nat), (Go.binOp .eql 25 (.slice a n c) (.slice none n' c')).run Tryd.prog w = Result.ok (Value.bool a.isNone) w := fun w a n c n' c' => Lib.run_eql_slice_nil w _ _ a n c n' c' Tryd.underlying25
 go_enter Tryd.func38, Tryd.ntmps38
 go_wp2_with (first | ((with_reducible refine gate_dst (N := 5) rfl ?_); refine Kd.R_lit k42 _ 42 ?hg (N := 5) ?hd (xs := ([] : List (S42))) (inner := []) (ok := fun _ => True) (okp := fun _ => True) ?hr ?hp (fun _ hk => hk) trivial (Below.refl _ _) (Nat.le_refl _) (by simp) ?_; (case hd => rfl); (case hg => rfl); (case hr => (go_simp; try rfl)); (case hp => exact (Reps.none _ _)); intro v239 w3 ho4 hb hg_ hnew_; clear hg_ hnew_; (first | rw [← Ny238.out] at ho4 | (simp only [Int.reduceToNat] at ho4; rw [← Ny238.out] at ho4)); have HO240 := ka (Kd.R_lower ho4 (below_size (zL HB.out))); replace HB := ka (below_step (zL HB.out) hb); clear hb ho4) | ((with_reducible refine gate_builtin (b := .append) (xs := #[.tmp 5, .tmp 6]) rfl ?_); at_builtin; refine Kd.R_append_rows k42 (w0 := w) w.heap.size rfl (.tmp 5) (.tmp 6) 25 42 (.agg #[(.int .i64 0), (.string ⟨#[]⟩), (.bool false), (.int .i64 0), (.int .i64 0)]) 48 rfl Tryd.underlying25 info42 rfl (by decide) (by omega) v239 y238 l0 _ _ _ (fun _ => True) (fun _ => False) rfl rfl ?aO ?aR (fun _ _ h => h) (fun _ h => h.elim) ?aF ?aB ?aS ?aL ?_; (case aR => repeat (first | exact (Kd.C_below HR0.out HB.out) | (with_reducible refine Kd.C_alloc ?_ _) | (with_reducible refine Kd.C_drewN ?_ _) | (with_reducible refine Kd.C_drew ?_))); (case aB => exact (zL HB.out)); (case aF => exact (fun _ _ => trivial)); (case aO => exact (zR HO240.out)); (case aS => exact (below_size (zL HB.out))); (case aL => have := LMc2.out; omega); intro v242 w5 ho hb hg hat; rw [← Ny241.out] at ho; replace HB := ka (hb); have HO243 := ka (ho); clear HO240; clear ho hb hg hat))
 go_ret
 exact ⟨_, zE, by (with_reducible repeat (first | apply Kd.R_alloc | apply Kd.R_drewN | apply Kd.R_drew)); exact HO243.out, zL HB.out⟩
theorem lease_Lease_38.calls (A0 : Option Addr) (c0 : Nat) (l0 : List (S42)) (r : List (S42)) (w : World) (hr0 : Kd.C k42 w A0 l0.length l0) (hc0 : l0.length ≤ c0) (h : lease_Lease_38.f l0 = some r) :
    Calls Tryd.prog 38 #[.slice A0 l0.length c0] w fun e w' => ∃ v0_ : Value, e = .returned (v0_) ∧ Kd.R k42 42 w' w.heap.size (fun _ => True) v0_ r ∧ Below w.heap.size w w' := by
  cases A0 with
  | some ad => exact lease_Lease_38.calls_some ad c0 l0 r w hr0 hc0 h
  | none =>
    obtain rfl : l0 = [] := by
      cases l0 with
      | nil => rfl
      | cons x l =>
        obtain ⟨ad, e, _⟩ := hr0.2.2 (by simp)
        cases e
    obtain rfl : r = [] := by
      have h2 := h
      simp [lease_Lease_38.f] at h2
      first | exact h2 | exact h2.symm | simp_all
    clear h hr0 hc0
    simp only [List.length_nil]
    have xq_ : ∀ (w : World) (a : Option Addr) (n c n' c' : Nat), (Go.binOp .eql 25 (.slice a n c) (.slice none n' c')).run Tryd.prog w = Result.ok (Value.bool a.isNone) w := fun w a n c n' c' => Lib.run_eql_slice_nil w _ _ a n c n' c' Tryd.underlying25
    go_enter Tryd.func38, Tryd.ntmps38
    go_wp2
    go_ret
    exact ⟨.slice none 0 0, rfl, Kd.R_nil _ _ _ _ _, (by repeat (first | exact Below.refl _ _ | apply below_alloc | apply pw_below_drewN | apply below_drew1))⟩

-- NOT PRINTED: function 60 (lease_Ask_60)

-- NOT PRINTED: function 55 (lease_Ask_55)

/-! ### lease_Table_blocked_1: function 53 -/
def lease_Table_blocked_1.f (a0_0 : Int) (a0_1 : ByteArray) (a0_2 : Bool) (a0_3 : Int) (a0_4 : Int) (a1_0 : Int) (a1_1 : ByteArray) (a1_2 : Bool) (a1_3 : Int) : Option (Bool) := if a0_1.toList = a1_1.toList then (if a0_2 = true then (some true) else (some a1_2)) else (some false)
theorem lease_Table_blocked_1.calls (a0_0 : Int) (a0_1 : ByteArray) (a0_2 : Bool) (a0_3 : Int) (a0_4 : Int) (g1_0 : Nat) (a1_0 : Int) (a1_1 : ByteArray) (a1_2 : Bool) (a1_3 : Int) (r : Bool) (w : World) (hb1_0 : w.heap[g1_0]? = some (.cells #[.int .i64 a1_0, .string a1_1, .bool a1_2, .int .i64 a1_3] 49 (0, 0))) (h : lease_Table_blocked_1.f a0_0 a0_1 a0_2 a0_3 a0_4 a1_0 a1_1 a1_2 a1_3 = some r) :
  Calls Tryd.prog 53 #[.agg #[.int .i64 a0_0, .string a0_1, .bool a0_2, .int .i64 a0_3, .int .i64 a0_4], .pointer (some ⟨g1_0, 0, none⟩)] w fun e w' => e = .returned (.bool r) ∧ Below w.heap.size w w' := by
 have hu42 := Tryd.underlying42
 have BK254 := ka hb1_0
 clear hb1_0
 have HB := ka (Below.refl w.heap.size w)
 have H : (if a0_1.toList = a1_1.toList then (if a0_2 = true then (some true) else (some a1_2)) else (some false)) = some r := h
 clear h
 by_cases c3 : a0_1.toList = a1_1.toList
 ·rw [if_pos c3] at H
  have c3b0 := zb0 c3
  have c3b1 := zb1 c3
  clear c3
  by_cases c4 : a0_2 = true
  ·subst c4
   rw [if_pos rfl] at H
   obtain rfl := Option.some.inj H
   go_enter Tryd.func53, Tryd.ntmps53
   go_wp2_with (first | ((with_reducible refine gate_dst (N := 2) rfl ?_); refine box_event ?hg (N := 2) ?hd (cs := #[.int .i64 a0_0, .string a0_1, .bool true, .int .i64 a0_3, .int .i64 a0_4]) (t := 42) ?hr ?_; (case hd => rfl); (case hg => rfl); (case hr => (go_simp; try rfl)); intro gb255 hg w5 hbox hb; have BK255 := ka (hbox); have GW255 := ka (zG hg (zL HB.out)); replace HB := ka (below_step (zL HB.out) hb); have NB254_255 := ka (zNK hg BK254.out); have NB255_254 := ka (zOK hg BK254.out); replace BK254 := ka (zB BK254.out hb); clear hb hbox hg; have hnb6 := NB255_254.out; have hnc6 := NB254_255.out; obtain ⟨z7_0, z7_1, z7_2, z7_3, z7_4, y7_0, y7_1, y7_2, y7_3, y7_4⟩ := zC5 BK255.out; obtain ⟨z8_0, z8_1, z8_2, z8_3, y8_0, y8_1, y8_2, y8_3⟩ := zC4 BK254.out))
   go_ret
   exact ⟨zE, zL HB.out⟩
  replace c4 := Bool.eq_false_iff.mpr c4
  subst c4
  rw [if_neg (show ¬ (false = true) by decide)] at H
  obtain rfl := Option.some.inj H
  go_enter Tryd.func53, Tryd.ntmps53
  go_wp2_with (first | ((with_reducible refine gate_dst (N := 2) rfl ?_); refine box_event ?hg (N := 2) ?hd (cs := #[.int .i64 a0_0, .string a0_1, .bool false, .int .i64 a0_3, .int .i64 a0_4]) (t := 42) ?hr ?_; (case hd => rfl); (case hg => rfl); (case hr => (go_simp; try rfl)); intro gb255 hg w9 hbox hb; have BK255 := ka (hbox); have GW255 := ka (zG hg (zL HB.out)); replace HB := ka (below_step (zL HB.out) hb); have NB254_255 := ka (zNK hg BK254.out); have NB255_254 := ka (zOK hg BK254.out); replace BK254 := ka (zB BK254.out hb); clear hb hbox hg; have hnb10 := NB255_254.out; have hnc10 := NB254_255.out; obtain ⟨z11_0, z11_1, z11_2, z11_3, z11_4, y11_0, y11_1, y11_2, y11_3, y11_4⟩ := zC5 BK255.out; obtain ⟨z12_0, z12_1, z12_2, z12_3, y12_0, y12_1, y12_2, y12_3⟩ := zC4 BK254.out))
  go_ret
  exact ⟨zE, zL HB.out⟩
 rw [if_neg c3] at H
 have c3b0 := zn0 c3
 have c3b1 := zn1 c3
 obtain rfl := Option.some.inj H
 go_enter Tryd.func53, Tryd.ntmps53
 go_wp2_with (first | ((with_reducible refine gate_dst (N := 2) rfl ?_); refine box_event ?hg (N := 2) ?hd (cs := #[.int .i64 a0_0, .string a0_1, .bool a0_2, .int .i64 a0_3, .int .i64 a0_4]) (t := 42) ?hr ?_; (case hd => rfl); (case hg => rfl); (case hr => (go_simp; try rfl)); intro gb255 hg w13 hbox hb; have BK255 := ka (hbox); have GW255 := ka (zG hg (zL HB.out)); replace HB := ka (below_step (zL HB.out) hb); have NB254_255 := ka (zNK hg BK254.out); have NB255_254 := ka (zOK hg BK254.out); replace BK254 := ka (zB BK254.out hb); clear hb hbox hg; have hnb14 := NB255_254.out; have hnc14 := NB254_255.out; obtain ⟨z15_0, z15_1, z15_2, z15_3, z15_4, y15_0, y15_1, y15_2, y15_3, y15_4⟩ := zC5 BK255.out; obtain ⟨z16_0, z16_1, z16_2, z16_3, y16_0, y16_1, y16_2, y16_3⟩ := zC4 BK254.out))
 go_ret
 exact ⟨zE, zL HB.out⟩

/-! ### lease_Lease_46_at53: function 46 -/
def lease_Lease_46_at53.l0 : Nat → List (S42) → Int → Int → Int → ByteArray → Bool → Int → Option (Int)
 | 0, _, _, _, _, _, _, _ => none
 | k + 1, x0, x7, x8, x258000, x258001, x258002, x258003 => if x8 < x7 then (if 0 ≤ x8 then (if x8 < (x0.length : Int) then ((lease_Table_blocked_1.f ((rd_T42 x0 x8).f0) ((rd_T42 x0 x8).f1) ((rd_T42 x0 x8).f2) ((rd_T42 x0 x8).f3) ((rd_T42 x0 x8).f4) x258000 x258001 x258002 x258003).bind fun t259 => (if t259 = true then (some x8) else (lease_Lease_46_at53.l0 k x0 x7 (wrap64 (x8 + 1)) x258000 x258001 x258002 x258003))) else (none)) else (none)) else (some (-1))
def lease_Lease_46_at53.f (k : Nat) (l0 : List (S42)) (a1_0 : Int) (a1_1 : ByteArray) (a1_2 : Bool) (a1_3 : Int) : Option (Int) := lease_Lease_46_at53.l0 k l0 (l0.length : Int) 0 a1_0 a1_1 a1_2 a1_3
theorem lease_Lease_46_at53.mono_l : ∀ k, (∀ y0 y1 y2 y3 y4 y5 y6, LeO (lease_Lease_46_at53.l0 k y0 y1 y2 y3 y4 y5 y6) (lease_Lease_46_at53.l0 (k + 1) y0 y1 y2 y3 y4 y5 y6))
 | 0 => fun _ _ _ _ _ _ _ r h => by simp [lease_Lease_46_at53.l0] at h
 | k + 1 => by
  have ih0 := lease_Lease_46_at53.mono_l k
  ·intro y0 y1 y2 y3 y4 y5 y6
   unfold lease_Lease_46_at53.l0
   exact zLe
theorem lease_Lease_46_at53.mono : ∀ a0 a1 a2 a3 a4 k, LeO (lease_Lease_46_at53.f k a0 a1 a2 a3 a4) (lease_Lease_46_at53.f (k + 1) a0 a1 a2 a3 a4) := by
 intro a0 a1 a2 a3 a4 k
 have ih0 := lease_Lease_46_at53.mono_l k
 unfold lease_Lease_46_at53.f
 exact zLe
theorem lease_Lease_46_at53.calls (k : Nat) (A0 : Option Addr) (c0 : Nat) (l0 : List (S42)) (g1_0 : Nat) (a1_0 : Int) (a1_1 : ByteArray) (a1_2 : Bool) (a1_3 : Int) (r : Int) (w : World) (hr0 : Kd.C k42 w A0 l0.length l0) (hc0 : l0.length ≤ c0) (hb1_0 : w.heap[g1_0]? = some (.cells #[.int .i64 a1_0, .string a1_1, .bool a1_2, .int .i64 a1_3] 49 (0, 0))) (h : lease_Lease_46_at53.f k l0 a1_0 a1_1 a1_2 a1_3 = some r) :
  Calls Tryd.prog 46 #[.slice A0 l0.length c0, .func (.func 53) #[] #[.pointer (some ⟨g1_0, 0, none⟩)]] w fun e w' => e = .returned (.int .i64 r) ∧ Below w.heap.size w w' := by
 have hu42 := Tryd.underlying42
 have HR0 := ka hr0
 have HC0 := ka hc0
 clear hr0 hc0
 have BK257 := ka hb1_0
 clear hb1_0
 have HB := ka (Below.refl w.heap.size w)
 have H : (lease_Lease_46_at53.l0 k l0 (l0.length : Int) 0 a1_0 a1_1 a1_2 a1_3) = some r := h
 clear h
 have H' := ka H
 clear H
 go_enter Tryd.func46, Tryd.ntmps46
 go_wp2
 go_loopg [8] k (fun kq v8 w' => ∃ (x8_1 : Int), v8 = .int .i64 x8_1 ∧ Aside0 (lease_Lease_46_at53.l0 kq l0 (l0.length : Int) x8_1 a1_0 a1_1 a1_2 a1_3 = some r) ∧ Aside0 (kq ≤ k) ∧ Aside0 (w'.heap[g1_0]? = some (.cells #[.int .i64 a1_0, .string a1_1, .bool a1_2, .int .i64 a1_3] 49 (0, 0))) ∧ Aside0 (Below w.heap.size w w'))
 case atStart => exact ⟨(0), zS, H', ⟨Nat.le_refl _⟩, ⟨zK BK257.out⟩, ⟨zL HB.out⟩⟩
 case round =>
  clear H'
  obtain ⟨x8_1, rfl, HA, HK1, BK257, HB⟩ := hrel
  cases gk with
  | zero => exact absurd HA.out (by simp [lease_Lease_46_at53.l0])
  | succ k1 =>
   have H := HA.out
   clear HA
   simp only [lease_Lease_46_at53.l0] at H
   by_cases c3 : x8_1 < (l0.length : Int)
   ·rw [if_pos c3] at H
    have c3b0 := zdt c3
    clear c3
    replace H := zif H
    obtain ⟨c4, H⟩ := H
    have c4b0 := zdt c4
    clear c4
    replace H := zif H
    obtain ⟨c5, H⟩ := H
    have c5b0 := zdt c5
    clear c5
    replace H := Option.bind_eq_some_iff.mp H
    obtain ⟨t259, A60, H⟩ := H
    try dsimp only at H
    have A6 := ka A60
    clear A60
    by_cases c7 : t259 = true
    ·subst c7
     rw [if_pos rfl] at H
     obtain rfl := Option.some.inj H
     have p258 : 0 ≤ (x8_1 : Int) := zD
     have q258 : x8_1 < (l0.length : Int) := zD
     obtain ⟨ad258, e258, hx258_0, hx258_1, hx258_2, hx258_3, hx258_4⟩ := at_T42 HR0.out x8_1 p258 q258
     cases e258
     replace hx258_0 := zX HB.out hx258_0
     replace hx258_1 := zX HB.out hx258_1
     replace hx258_2 := zX HB.out hx258_2
     replace hx258_3 := zX HB.out hx258_3
     replace hx258_4 := zX HB.out hx258_4
     replace p258 := eq_true p258
     replace q258 := eq_true q258
     go_wp2_with (first | (go_at_call 53; (with_reducible refine (lease_Table_blocked_1.calls ((rd_T42 l0 x8_1).f0) ((rd_T42 l0 x8_1).f1) ((rd_T42 l0 x8_1).f2) ((rd_T42 l0 x8_1).f3) ((rd_T42 l0 x8_1).f4) g1_0 a1_0 a1_1 a1_2 a1_3 true _ ?side1 A6.out).mono ?_); (case side1 => exact zK BK257.out); rintro e w8 ⟨rfl, hb⟩; replace BK257 := ka (zB BK257.out hb); replace HB := ka (below_step (zL HB.out) hb); (try clear hb); (try clear hb2); (try clear hk); (try clear hi)))
     go_ret
     exact ⟨zE, zL HB.out⟩
    replace c7 := Bool.eq_false_iff.mpr c7
    subst c7
    rw [if_neg (show ¬ (false = true) by decide)] at H
    have H' := ka H
    clear H
    have p258 : 0 ≤ (x8_1 : Int) := zD
    have q258 : x8_1 < (l0.length : Int) := zD
    obtain ⟨ad258, e258, hx258_0, hx258_1, hx258_2, hx258_3, hx258_4⟩ := at_T42 HR0.out x8_1 p258 q258
    cases e258
    replace hx258_0 := zX HB.out hx258_0
    replace hx258_1 := zX HB.out hx258_1
    replace hx258_2 := zX HB.out hx258_2
    replace hx258_3 := zX HB.out hx258_3
    replace hx258_4 := zX HB.out hx258_4
    replace p258 := eq_true p258
    replace q258 := eq_true q258
    go_wp2_with (first | (go_at_call 53; (with_reducible refine (lease_Table_blocked_1.calls ((rd_T42 l0 x8_1).f0) ((rd_T42 l0 x8_1).f1) ((rd_T42 l0 x8_1).f2) ((rd_T42 l0 x8_1).f3) ((rd_T42 l0 x8_1).f4) g1_0 a1_0 a1_1 a1_2 a1_3 false _ ?side1 A6.out).mono ?_); (case side1 => exact zK BK257.out); rintro e w9 ⟨rfl, hb⟩; replace BK257 := ka (zB BK257.out hb); replace HB := ka (below_step (zL HB.out) hb); (try clear hb); (try clear hb2); (try clear hk); (try clear hi)))
    go_roundg k1
    case measure => have := HK1.out; omega
    case rel => exact ⟨(wrap64 (x8_1 + 1)), zS, H', ⟨by have := HK1.out; omega⟩, ⟨zK BK257.out⟩, ⟨zL HB.out⟩⟩
   rw [if_neg c3] at H
   have c3b0 := zdf c3
   clear c3
   obtain rfl := Option.some.inj H
   go_wp2
   go_ret
   exact ⟨zE, zL HB.out⟩

/-! ### lease_Lease_30_at53: function 30 -/
def lease_Lease_30_at53.f (k : Nat) (l0 : List (S42)) (a1_0 : Int) (a1_1 : ByteArray) (a1_2 : Bool) (a1_3 : Int) : Option (Bool) := (lease_Lease_46_at53.f k l0 a1_0 a1_1 a1_2 a1_3).bind fun t262 => (some (decide (t262 ≥ 0)))
theorem lease_Lease_30_at53.mono : ∀ a0 a1 a2 a3 a4 k, LeO (lease_Lease_30_at53.f k a0 a1 a2 a3 a4) (lease_Lease_30_at53.f (k + 1) a0 a1 a2 a3 a4) := by
 intro a0 a1 a2 a3 a4 k
 unfold lease_Lease_30_at53.f
 have m0 := @lease_Lease_46_at53.mono
 exact zLe
theorem lease_Lease_30_at53.calls (k : Nat) (A0 : Option Addr) (c0 : Nat) (l0 : List (S42)) (g1_0 : Nat) (a1_0 : Int) (a1_1 : ByteArray) (a1_2 : Bool) (a1_3 : Int) (r : Bool) (w : World) (hr0 : Kd.C k42 w A0 l0.length l0) (hc0 : l0.length ≤ c0) (hb1_0 : w.heap[g1_0]? = some (.cells #[.int .i64 a1_0, .string a1_1, .bool a1_2, .int .i64 a1_3] 49 (0, 0))) (h : lease_Lease_30_at53.f k l0 a1_0 a1_1 a1_2 a1_3 = some r) :
  Calls Tryd.prog 30 #[.slice A0 l0.length c0, .func (.func 53) #[] #[.pointer (some ⟨g1_0, 0, none⟩)]] w fun e w' => e = .returned (.bool r) ∧ Below w.heap.size w w' := by
 have HR0 := ka hr0
 have HC0 := ka hc0
 clear hr0 hc0
 have BK261 := ka hb1_0
 clear hb1_0
 have HB := ka (Below.refl w.heap.size w)
 have H : ((lease_Lease_46_at53.f k l0 a1_0 a1_1 a1_2 a1_3).bind fun t262 => (some (decide (t262 ≥ 0)))) = some r := h
 clear h
 replace H := Option.bind_eq_some_iff.mp H
 obtain ⟨t262, A30, H⟩ := H
 try dsimp only at H
 have A3 := ka A30
 clear A30
 obtain rfl := Option.some.inj H
 go_enter Tryd.func30, Tryd.ntmps30
 go_wp2_with (first | ((with_reducible refine gate_callee (f := 46) rfl ?_); refine goesL_ (some 7) rfl rfl Tryd.func46 (by kernel_rfl) rfl #[.slice A0 l0.length c0, .func (.func 53) #[] #[.pointer (some ⟨g1_0, 0, none⟩)]] rfl zA ?_; (with_reducible refine (lease_Lease_46_at53.calls k _ _ l0 g1_0 a1_0 a1_1 a1_2 a1_3 t262 _ ?side1 ?side2 ?side3 A3.out).mono ?_); (case side1 => repeat (first | exact HR0.out | (with_reducible refine Kd.C_alloc ?_ _) | (with_reducible refine Kd.C_drewN ?_ _) | (with_reducible refine Kd.C_drew ?_))); (case side2 => exact HC0.out); (case side3 => exact zK BK261.out); rintro e w4 ⟨rfl, hb⟩; refine ⟨_, rfl, ?_⟩; replace BK261 := ka (zB BK261.out hb); replace HB := ka (below_step (zL HB.out) hb); (try clear hb); (try clear hb2); (try clear hk); (try clear hi)))
 go_ret
 exact ⟨zE, zL HB.out⟩

/-! ### lease_Table_blocked_2: function 54 -/
def lease_Table_blocked_2.f (a0_0 : Int) (a0_1 : ByteArray) (a0_2 : Bool) (a0_3 : Int) (a1_0 : Int) (a1_1 : ByteArray) (a1_2 : Bool) (a1_3 : Int) : Option (Bool) := some (a0_1.toList == a1_1.toList)
theorem lease_Table_blocked_2.calls (a0_0 : Int) (a0_1 : ByteArray) (a0_2 : Bool) (a0_3 : Int) (g1_0 : Nat) (a1_0 : Int) (a1_1 : ByteArray) (a1_2 : Bool) (a1_3 : Int) (r : Bool) (w : World) (hb1_0 : w.heap[g1_0]? = some (.cells #[.int .i64 a1_0, .string a1_1, .bool a1_2, .int .i64 a1_3] 49 (0, 0))) (h : lease_Table_blocked_2.f a0_0 a0_1 a0_2 a0_3 a1_0 a1_1 a1_2 a1_3 = some r) :
  Calls Tryd.prog 54 #[.agg #[.int .i64 a0_0, .string a0_1, .bool a0_2, .int .i64 a0_3], .pointer (some ⟨g1_0, 0, none⟩)] w fun e w' => e = .returned (.bool r) ∧ Below w.heap.size w w' := by
 have hu49 := Tryd.underlying49
 have BK274 := ka hb1_0
 clear hb1_0
 have HB := ka (Below.refl w.heap.size w)
 have H : (some (a0_1.toList == a1_1.toList)) = some r := h
 clear h
 obtain rfl := Option.some.inj H
 go_enter Tryd.func54, Tryd.ntmps54
 go_wp2_with (first | ((with_reducible refine gate_dst (N := 2) rfl ?_); refine box_event ?hg (N := 2) ?hd (cs := #[.int .i64 a0_0, .string a0_1, .bool a0_2, .int .i64 a0_3]) (t := 49) ?hr ?_; (case hd => rfl); (case hg => rfl); (case hr => (go_simp; try rfl)); intro gb275 hg w3 hbox hb; have BK275 := ka (hbox); have GW275 := ka (zG hg (zL HB.out)); replace HB := ka (below_step (zL HB.out) hb); have NB274_275 := ka (zNK hg BK274.out); have NB275_274 := ka (zOK hg BK274.out); replace BK274 := ka (zB BK274.out hb); clear hb hbox hg; have hnb4 := NB275_274.out; have hnc4 := NB274_275.out; obtain ⟨z5_0, z5_1, z5_2, z5_3, y5_0, y5_1, y5_2, y5_3⟩ := zC4 BK275.out; obtain ⟨z6_0, z6_1, z6_2, z6_3, y6_0, y6_1, y6_2, y6_3⟩ := zC4 BK274.out))
 go_ret
 exact ⟨zE, zL HB.out⟩

/-! ### lease_Ask_60_at54: function 60 -/
def lease_Ask_60_at54.l0 : Nat → List (S49) → Int → Int → Int → ByteArray → Bool → Int → Option (Int)
 | 0, _, _, _, _, _, _, _ => none
 | k + 1, x0, x7, x8, x278000, x278001, x278002, x278003 => if x8 < x7 then (if 0 ≤ x8 then (if x8 < (x0.length : Int) then ((lease_Table_blocked_2.f ((rd_T49 x0 x8).f0) ((rd_T49 x0 x8).f1) ((rd_T49 x0 x8).f2) ((rd_T49 x0 x8).f3) x278000 x278001 x278002 x278003).bind fun t279 => (if t279 = true then (some x8) else (lease_Ask_60_at54.l0 k x0 x7 (wrap64 (x8 + 1)) x278000 x278001 x278002 x278003))) else (none)) else (none)) else (some (-1))
def lease_Ask_60_at54.f (k : Nat) (l0 : List (S49)) (a1_0 : Int) (a1_1 : ByteArray) (a1_2 : Bool) (a1_3 : Int) : Option (Int) := lease_Ask_60_at54.l0 k l0 (l0.length : Int) 0 a1_0 a1_1 a1_2 a1_3
theorem lease_Ask_60_at54.mono_l : ∀ k, (∀ y0 y1 y2 y3 y4 y5 y6, LeO (lease_Ask_60_at54.l0 k y0 y1 y2 y3 y4 y5 y6) (lease_Ask_60_at54.l0 (k + 1) y0 y1 y2 y3 y4 y5 y6))
 | 0 => fun _ _ _ _ _ _ _ r h => by simp [lease_Ask_60_at54.l0] at h
 | k + 1 => by
  have ih0 := lease_Ask_60_at54.mono_l k
  ·intro y0 y1 y2 y3 y4 y5 y6
   unfold lease_Ask_60_at54.l0
   exact zLe
theorem lease_Ask_60_at54.mono : ∀ a0 a1 a2 a3 a4 k, LeO (lease_Ask_60_at54.f k a0 a1 a2 a3 a4) (lease_Ask_60_at54.f (k + 1) a0 a1 a2 a3 a4) := by
 intro a0 a1 a2 a3 a4 k
 have ih0 := lease_Ask_60_at54.mono_l k
 unfold lease_Ask_60_at54.f
 exact zLe
theorem lease_Ask_60_at54.calls (k : Nat) (A0 : Option Addr) (c0 : Nat) (l0 : List (S49)) (g1_0 : Nat) (a1_0 : Int) (a1_1 : ByteArray) (a1_2 : Bool) (a1_3 : Int) (r : Int) (w : World) (hr0 : Kd.C k49 w A0 l0.length l0) (hc0 : l0.length ≤ c0) (hb1_0 : w.heap[g1_0]? = some (.cells #[.int .i64 a1_0, .string a1_1, .bool a1_2, .int .i64 a1_3] 49 (0, 0))) (h : lease_Ask_60_at54.f k l0 a1_0 a1_1 a1_2 a1_3 = some r) :
  Calls Tryd.prog 60 #[.slice A0 l0.length c0, .func (.func 54) #[] #[.pointer (some ⟨g1_0, 0, none⟩)]] w fun e w' => e = .returned (.int .i64 r) ∧ Below w.heap.size w w' := by
 have hu49 := Tryd.underlying49
 have HR0 := ka hr0
 have HC0 := ka hc0
 clear hr0 hc0
 have BK277 := ka hb1_0
 clear hb1_0
 have HB := ka (Below.refl w.heap.size w)
 have H : (lease_Ask_60_at54.l0 k l0 (l0.length : Int) 0 a1_0 a1_1 a1_2 a1_3) = some r := h
 clear h
 have H' := ka H
 clear H
 go_enter Tryd.func60, Tryd.ntmps60
 go_wp2
 go_loopg [8] k (fun kq v8 w' => ∃ (x8_1 : Int), v8 = .int .i64 x8_1 ∧ Aside0 (lease_Ask_60_at54.l0 kq l0 (l0.length : Int) x8_1 a1_0 a1_1 a1_2 a1_3 = some r) ∧ Aside0 (kq ≤ k) ∧ Aside0 (w'.heap[g1_0]? = some (.cells #[.int .i64 a1_0, .string a1_1, .bool a1_2, .int .i64 a1_3] 49 (0, 0))) ∧ Aside0 (Below w.heap.size w w'))
 case atStart => exact ⟨(0), zS, H', ⟨Nat.le_refl _⟩, ⟨zK BK277.out⟩, ⟨zL HB.out⟩⟩
 case round =>
  clear H'
  obtain ⟨x8_1, rfl, HA, HK1, BK277, HB⟩ := hrel
  cases gk with
  | zero => exact absurd HA.out (by simp [lease_Ask_60_at54.l0])
  | succ k1 =>
   have H := HA.out
   clear HA
   simp only [lease_Ask_60_at54.l0] at H
   by_cases c3 : x8_1 < (l0.length : Int)
   ·rw [if_pos c3] at H
    have c3b0 := zdt c3
    clear c3
    replace H := zif H
    obtain ⟨c4, H⟩ := H
    have c4b0 := zdt c4
    clear c4
    replace H := zif H
    obtain ⟨c5, H⟩ := H
    have c5b0 := zdt c5
    clear c5
    replace H := Option.bind_eq_some_iff.mp H
    obtain ⟨t279, A60, H⟩ := H
    try dsimp only at H
    have A6 := ka A60
    clear A60
    by_cases c7 : t279 = true
    ·subst c7
     rw [if_pos rfl] at H
     obtain rfl := Option.some.inj H
     have p278 : 0 ≤ (x8_1 : Int) := zD
     have q278 : x8_1 < (l0.length : Int) := zD
     obtain ⟨ad278, e278, hx278_0, hx278_1, hx278_2, hx278_3⟩ := at_T49 HR0.out x8_1 p278 q278
     cases e278
     replace hx278_0 := zX HB.out hx278_0
     replace hx278_1 := zX HB.out hx278_1
     replace hx278_2 := zX HB.out hx278_2
     replace hx278_3 := zX HB.out hx278_3
     replace p278 := eq_true p278
     replace q278 := eq_true q278
     go_wp2_with (first | (go_at_call 54; (with_reducible refine (lease_Table_blocked_2.calls ((rd_T49 l0 x8_1).f0) ((rd_T49 l0 x8_1).f1) ((rd_T49 l0 x8_1).f2) ((rd_T49 l0 x8_1).f3) g1_0 a1_0 a1_1 a1_2 a1_3 true _ ?side1 A6.out).mono ?_); (case side1 => exact zK BK277.out); rintro e w8 ⟨rfl, hb⟩; replace BK277 := ka (zB BK277.out hb); replace HB := ka (below_step (zL HB.out) hb); (try clear hb); (try clear hb2); (try clear hk); (try clear hi)))
     go_ret
     exact ⟨zE, zL HB.out⟩
    replace c7 := Bool.eq_false_iff.mpr c7
    subst c7
    rw [if_neg (show ¬ (false = true) by decide)] at H
    have H' := ka H
    clear H
    have p278 : 0 ≤ (x8_1 : Int) := zD
    have q278 : x8_1 < (l0.length : Int) := zD
    obtain ⟨ad278, e278, hx278_0, hx278_1, hx278_2, hx278_3⟩ := at_T49 HR0.out x8_1 p278 q278
    cases e278
    replace hx278_0 := zX HB.out hx278_0
    replace hx278_1 := zX HB.out hx278_1
    replace hx278_2 := zX HB.out hx278_2
    replace hx278_3 := zX HB.out hx278_3
    replace p278 := eq_true p278
    replace q278 := eq_true q278
    go_wp2_with (first | (go_at_call 54; (with_reducible refine (lease_Table_blocked_2.calls ((rd_T49 l0 x8_1).f0) ((rd_T49 l0 x8_1).f1) ((rd_T49 l0 x8_1).f2) ((rd_T49 l0 x8_1).f3) g1_0 a1_0 a1_1 a1_2 a1_3 false _ ?side1 A6.out).mono ?_); (case side1 => exact zK BK277.out); rintro e w9 ⟨rfl, hb⟩; replace BK277 := ka (zB BK277.out hb); replace HB := ka (below_step (zL HB.out) hb); (try clear hb); (try clear hb2); (try clear hk); (try clear hi)))
    go_roundg k1
    case measure => have := HK1.out; omega
    case rel => exact ⟨(wrap64 (x8_1 + 1)), zS, H', ⟨by have := HK1.out; omega⟩, ⟨zK BK277.out⟩, ⟨zL HB.out⟩⟩
   rw [if_neg c3] at H
   have c3b0 := zdf c3
   clear c3
   obtain rfl := Option.some.inj H
   go_wp2
   go_ret
   exact ⟨zE, zL HB.out⟩

/-! ### lease_Ask_55_at54: function 55 -/
def lease_Ask_55_at54.f (k : Nat) (l0 : List (S49)) (a1_0 : Int) (a1_1 : ByteArray) (a1_2 : Bool) (a1_3 : Int) : Option (Bool) := (lease_Ask_60_at54.f k l0 a1_0 a1_1 a1_2 a1_3).bind fun t282 => (some (decide (t282 ≥ 0)))
theorem lease_Ask_55_at54.mono : ∀ a0 a1 a2 a3 a4 k, LeO (lease_Ask_55_at54.f k a0 a1 a2 a3 a4) (lease_Ask_55_at54.f (k + 1) a0 a1 a2 a3 a4) := by
 intro a0 a1 a2 a3 a4 k
 unfold lease_Ask_55_at54.f
 have m0 := @lease_Ask_60_at54.mono
 exact zLe
theorem lease_Ask_55_at54.calls (k : Nat) (A0 : Option Addr) (c0 : Nat) (l0 : List (S49)) (g1_0 : Nat) (a1_0 : Int) (a1_1 : ByteArray) (a1_2 : Bool) (a1_3 : Int) (r : Bool) (w : World) (hr0 : Kd.C k49 w A0 l0.length l0) (hc0 : l0.length ≤ c0) (hb1_0 : w.heap[g1_0]? = some (.cells #[.int .i64 a1_0, .string a1_1, .bool a1_2, .int .i64 a1_3] 49 (0, 0))) (h : lease_Ask_55_at54.f k l0 a1_0 a1_1 a1_2 a1_3 = some r) :
  Calls Tryd.prog 55 #[.slice A0 l0.length c0, .func (.func 54) #[] #[.pointer (some ⟨g1_0, 0, none⟩)]] w fun e w' => e = .returned (.bool r) ∧ Below w.heap.size w w' := by
 have HR0 := ka hr0
 have HC0 := ka hc0
 clear hr0 hc0
 have BK281 := ka hb1_0
 clear hb1_0
 have HB := ka (Below.refl w.heap.size w)
 have H : ((lease_Ask_60_at54.f k l0 a1_0 a1_1 a1_2 a1_3).bind fun t282 => (some (decide (t282 ≥ 0)))) = some r := h
 clear h
 replace H := Option.bind_eq_some_iff.mp H
 obtain ⟨t282, A30, H⟩ := H
 try dsimp only at H
 have A3 := ka A30
 clear A30
 obtain rfl := Option.some.inj H
 go_enter Tryd.func55, Tryd.ntmps55
 go_wp2_with (first | ((with_reducible refine gate_callee (f := 60) rfl ?_); refine goesL_ (some 7) rfl rfl Tryd.func60 (by kernel_rfl) rfl #[.slice A0 l0.length c0, .func (.func 54) #[] #[.pointer (some ⟨g1_0, 0, none⟩)]] rfl zA ?_; (with_reducible refine (lease_Ask_60_at54.calls k _ _ l0 g1_0 a1_0 a1_1 a1_2 a1_3 t282 _ ?side1 ?side2 ?side3 A3.out).mono ?_); (case side1 => repeat (first | exact HR0.out | (with_reducible refine Kd.C_alloc ?_ _) | (with_reducible refine Kd.C_drewN ?_ _) | (with_reducible refine Kd.C_drew ?_))); (case side2 => exact HC0.out); (case side3 => exact zK BK281.out); rintro e w4 ⟨rfl, hb⟩; refine ⟨_, rfl, ?_⟩; replace BK281 := ka (zB BK281.out hb); replace HB := ka (below_step (zL HB.out) hb); (try clear hb); (try clear hb2); (try clear hk); (try clear hi)))
 go_ret
 exact ⟨zE, zL HB.out⟩

/-! ### lease_Table_blocked: function 49 -/
def lease_Table_blocked.f (k : Nat) (a0_0 : Int) (l0_1 : List (S42)) (l0_2 : List (S49)) (a1_0 : Int) (a1_1 : ByteArray) (a1_2 : Bool) (a1_3 : Int) : Option (Bool) := (lease_Lease_30_at53.f k l0_1 a1_0 a1_1 a1_2 a1_3).bind fun t287 => (if t287 = true then (some true) else ((lease_Ask_55_at54.f k l0_2 a1_0 a1_1 a1_2 a1_3).bind fun t288 => (some t288)))
theorem lease_Table_blocked.mono : ∀ a0 a1 a2 a3 a4 a5 a6 k, LeO (lease_Table_blocked.f k a0 a1 a2 a3 a4 a5 a6) (lease_Table_blocked.f (k + 1) a0 a1 a2 a3 a4 a5 a6) := by
 intro a0 a1 a2 a3 a4 a5 a6 k
 unfold lease_Table_blocked.f
 have m0 := @lease_Ask_55_at54.mono
 have m1 := @lease_Lease_30_at53.mono
 exact zLe
theorem lease_Table_blocked.calls (k : Nat) (a0_0 : Int) (A0_1 : Option Addr) (c0_1 : Nat) (l0_1 : List (S42)) (A0_2 : Option Addr) (c0_2 : Nat) (l0_2 : List (S49)) (a1_0 : Int) (a1_1 : ByteArray) (a1_2 : Bool) (a1_3 : Int) (r : Bool) (w : World) (hr0_1 : Kd.C k42 w A0_1 l0_1.length l0_1) (hc0_1 : l0_1.length ≤ c0_1) (hr0_2 : Kd.C k49 w A0_2 l0_2.length l0_2) (hc0_2 : l0_2.length ≤ c0_2) (h : lease_Table_blocked.f k a0_0 l0_1 l0_2 a1_0 a1_1 a1_2 a1_3 = some r) :
  Calls Tryd.prog 49 #[.agg #[.int .i64 a0_0, .slice A0_1 l0_1.length c0_1, .slice A0_2 l0_2.length c0_2], .agg #[.int .i64 a1_0, .string a1_1, .bool a1_2, .int .i64 a1_3]] w fun e w' => e = .returned (.bool r) ∧ Below w.heap.size w w' := by
 have hu28 := Tryd.underlying28
 have hu49 := Tryd.underlying49
 have HR0_1 := ka hr0_1
 have HC0_1 := ka hc0_1
 clear hr0_1 hc0_1
 have HR0_2 := ka hr0_2
 have HC0_2 := ka hc0_2
 clear hr0_2 hc0_2
 have HB := ka (Below.refl w.heap.size w)
 have H : ((lease_Lease_30_at53.f k l0_1 a1_0 a1_1 a1_2 a1_3).bind fun t287 => (if t287 = true then (some true) else ((lease_Ask_55_at54.f k l0_2 a1_0 a1_1 a1_2 a1_3).bind fun t288 => (some t288)))) = some r := h
 clear h
 replace H := Option.bind_eq_some_iff.mp H
 obtain ⟨t287, A30, H⟩ := H
 try dsimp only at H
 have A3 := ka A30
 clear A30
 by_cases c4 : t287 = true
 ·subst c4
  rw [if_pos rfl] at H
  obtain rfl := Option.some.inj H
  go_enter Tryd.func49, Tryd.ntmps49
  go_wp2_with (first | ((with_reducible refine gate_dst (N := 2) rfl ?_); refine box_event ?hg (N := 2) ?hd (cs := #[.int .i64 a0_0, .slice A0_1 l0_1.length c0_1, .slice A0_2 l0_2.length c0_2]) (t := 28) ?hr ?_; (case hd => rfl); (case hg => rfl); (case hr => (go_simp; try rfl)); intro gb283 hg w5 hbox hb; have BK283 := ka (hbox); have GW283 := ka (zG hg (zL HB.out)); replace HB := ka (below_step (zL HB.out) hb); clear hb hbox hg) | ((with_reducible refine gate_dst (N := 3) rfl ?_); refine box_event ?hg (N := 3) ?hd (cs := #[.int .i64 a1_0, .string a1_1, .bool a1_2, .int .i64 a1_3]) (t := 49) ?hr ?_; (case hd => rfl); (case hg => rfl); (case hr => (go_simp; try rfl)); intro gb284 hg w6 hbox hb; have BK284 := ka (hbox); have GW284 := ka (zG hg (zL HB.out)); replace HB := ka (below_step (zL HB.out) hb); have NB283_284 := ka (zNK hg BK283.out); have NB284_283 := ka (zOK hg BK283.out); replace BK283 := ka (zB BK283.out hb); clear hb hbox hg; have hnb7 := NB283_284.out; have hnc7 := NB284_283.out; obtain ⟨z8_0, z8_1, z8_2, y8_0, y8_1, y8_2⟩ := zC3 BK283.out) | ((with_reducible refine gate_callee (f := 30) rfl ?_); refine goesL_ (some 12) rfl rfl Tryd.func30 (by kernel_rfl) rfl #[.slice A0_1 l0_1.length c0_1, .func (.func 53) #[] #[.pointer (some ⟨gb284, 0, none⟩)]] rfl zA ?_; (with_reducible refine (lease_Lease_30_at53.calls k _ _ l0_1 gb284 a1_0 a1_1 a1_2 a1_3 true _ ?side1 ?side2 ?side3 A3.out).mono ?_); (case side1 => exact zCS (Kd.C_below HR0_1.out HB.out)); (case side2 => exact HC0_1.out); (case side3 => exact zK BK284.out); rintro e w9 ⟨rfl, hb⟩; refine ⟨_, rfl, ?_⟩; replace BK283 := ka (zB BK283.out hb); replace BK284 := ka (zB BK284.out hb); replace HB := ka (below_step (zL HB.out) hb); (try clear hb); (try clear hb2); (try clear hk); (try clear hi)))
  go_ret
  exact ⟨zE, zL HB.out⟩
 replace c4 := Bool.eq_false_iff.mpr c4
 subst c4
 rw [if_neg (show ¬ (false = true) by decide)] at H
 replace H := Option.bind_eq_some_iff.mp H
 obtain ⟨t288, A100, H⟩ := H
 try dsimp only at H
 have A10 := ka A100
 clear A100
 obtain rfl := Option.some.inj H
 go_enter Tryd.func49, Tryd.ntmps49
 go_wp2_with (first | ((with_reducible refine gate_dst (N := 2) rfl ?_); refine box_event ?hg (N := 2) ?hd (cs := #[.int .i64 a0_0, .slice A0_1 l0_1.length c0_1, .slice A0_2 l0_2.length c0_2]) (t := 28) ?hr ?_; (case hd => rfl); (case hg => rfl); (case hr => (go_simp; try rfl)); intro gb283 hg w11 hbox hb; have BK283 := ka (hbox); have GW283 := ka (zG hg (zL HB.out)); replace HB := ka (below_step (zL HB.out) hb); clear hb hbox hg) | ((with_reducible refine gate_dst (N := 3) rfl ?_); refine box_event ?hg (N := 3) ?hd (cs := #[.int .i64 a1_0, .string a1_1, .bool a1_2, .int .i64 a1_3]) (t := 49) ?hr ?_; (case hd => rfl); (case hg => rfl); (case hr => (go_simp; try rfl)); intro gb284 hg w12 hbox hb; have BK284 := ka (hbox); have GW284 := ka (zG hg (zL HB.out)); replace HB := ka (below_step (zL HB.out) hb); have NB283_284 := ka (zNK hg BK283.out); have NB284_283 := ka (zOK hg BK283.out); replace BK283 := ka (zB BK283.out hb); clear hb hbox hg; have hnb13 := NB283_284.out; have hnc13 := NB284_283.out; obtain ⟨z14_0, z14_1, z14_2, y14_0, y14_1, y14_2⟩ := zC3 BK283.out) | ((with_reducible refine gate_callee (f := 30) rfl ?_); refine goesL_ (some 12) rfl rfl Tryd.func30 (by kernel_rfl) rfl #[.slice A0_1 l0_1.length c0_1, .func (.func 53) #[] #[.pointer (some ⟨gb284, 0, none⟩)]] rfl zA ?_; (with_reducible refine (lease_Lease_30_at53.calls k _ _ l0_1 gb284 a1_0 a1_1 a1_2 a1_3 false _ ?side1 ?side2 ?side3 A3.out).mono ?_); (case side1 => exact zCS (Kd.C_below HR0_1.out HB.out)); (case side2 => exact HC0_1.out); (case side3 => exact zK BK284.out); rintro e w15 ⟨rfl, hb⟩; refine ⟨_, rfl, ?_⟩; replace BK283 := ka (zB BK283.out hb); replace BK284 := ka (zB BK284.out hb); replace HB := ka (below_step (zL HB.out) hb); (try clear hb); (try clear hb2); (try clear hk); (try clear hi); obtain ⟨z16_0, z16_1, z16_2, y16_0, y16_1, y16_2⟩ := zC3 BK283.out) | (go_at_call 55; (with_reducible refine (lease_Ask_55_at54.calls k _ _ l0_2 gb284 a1_0 a1_1 a1_2 a1_3 t288 _ ?side1 ?side2 ?side3 A10.out).mono ?_); (case side1 => exact zCS (Kd.C_below HR0_2.out HB.out)); (case side2 => exact HC0_2.out); (case side3 => exact zK BK284.out); rintro e w17 ⟨rfl, hb⟩; replace BK283 := ka (zB BK283.out hb); replace BK284 := ka (zB BK284.out hb); replace HB := ka (below_step (zL HB.out) hb); (try clear hb); (try clear hb2); (try clear hk); (try clear hi)))
 go_ret
 exact ⟨zE, zL HB.out⟩

end Go.Proofs.YtjdadmjomjhpcaaDoor.PLease
