-- Written by a program of this session (wip/tools/ext.py, over the kit's printer); not trusted: Lean checks it.
import Derived.Test.YthnholondnfjoaaDoorPParsex0
namespace Go.Proofs.YthnholondnfjoaaDoor.PParse
open Go.RowKit Go.Proofs.YthnholondnfjoaaDoorW.PrintWords Go.Proofs.YthnholondnfjoaaDoorW.PrintLast Go.Proofs.YthnholondnfjoaaDoorW.PrintMore
attribute [local go_sem] max2_int min2_int max_two min_two max_three min_three max_four min_four
set_option linter.unusedVariables false
set_option linter.unusedSimpArgs false
set_option maxHeartbeats 8000000
set_option maxRecDepth 100000

/-! ### strings_TrimLeft: function 32 -/
/-- strings.TrimLeft at a short cutset of ASCII bytes. -/
def strings_TrimLeft.f (a0 : ByteArray) (a1 : ByteArray) : Option (ByteArray) := if a1.size < 100 ∧ a1.data.toList.all (fun b => decide (b.toNat < 128)) = true then some ⟨(Lib.trimLeftS a0.data.toList a1.data.toList).toArray⟩ else none
def lays161_ren : Go.Shelf.Ren := ⟨fun | 161 => 32 | 231 => 53 | 227 => 54 | 233 => 55 | 235 => 56 | 228 => 70 | 197 => 71 | 151 => 72 | 260 => 79 | 152 => 75 | 137 => 85 | 119 => 86 | 224 => 83 | 225 => 82 | 217 => 81 | 266 => 88 | n => n, fun | 9 => 9 | 4 => 4 | 3 => 3 | 5 => 5 | 117 => 87 | 116 => 86 | 0 => 0 | 124 => 90 | 105 => 94 | 21 => 21 | 119 => 103 | 46 => 101 | 139 => 106 | 138 => 105 | n => n, fun | 3 => 1 | 4 => 2 | n => n⟩
theorem lays161 : Lays.n161 Tryd.prog lays161_ren := {
  mixed := by kernel_rfl,
  f119 := Tryd.func86.trans (congrArg some (by kernel_rfl)),
  f137 := Tryd.func85.trans (congrArg some (by kernel_rfl)),
  f151 := Tryd.func72.trans (congrArg some (by kernel_rfl)),
  f152 := Tryd.func75.trans (congrArg some (by kernel_rfl)),
  f161 := Tryd.func32.trans (congrArg some (by kernel_rfl)),
  f197 := Tryd.func71.trans (congrArg some (by kernel_rfl)),
  f217 := Tryd.func81.trans (congrArg some (by kernel_rfl)),
  f224 := Tryd.func83.trans (congrArg some (by kernel_rfl)),
  f225 := Tryd.func82.trans (congrArg some (by kernel_rfl)),
  f227 := Tryd.func54.trans (congrArg some (by kernel_rfl)),
  f228 := Tryd.func70.trans (congrArg some (by kernel_rfl)),
  f231 := Tryd.func53.trans (congrArg some (by kernel_rfl)),
  f233 := Tryd.func55.trans (congrArg some (by kernel_rfl)),
  f235 := Tryd.func56.trans (congrArg some (by kernel_rfl)),
  f260 := Tryd.func79.trans (congrArg some (by kernel_rfl)),
  f266 := Tryd.func88.trans (congrArg some (by kernel_rfl)),
  t0 := Tryd.underlying0,
  a0 := Tryd.isAgg0,
  z0 := Tryd.sizeOf0,
  v0 := Tryd.zeroValue0,
  t3 := Tryd.underlying3,
  a3 := Tryd.isAgg3,
  z3 := Tryd.sizeOf3,
  v3 := Tryd.zeroValue3,
  t4 := Tryd.underlying4,
  a4 := Tryd.isAgg4,
  z4 := Tryd.sizeOf4,
  v4 := Tryd.zeroValue4,
  t5 := Tryd.underlying5,
  a5 := Tryd.isAgg5,
  z5 := Tryd.sizeOf5,
  v5 := Tryd.zeroValue5,
  t9 := Tryd.underlying9,
  a9 := Tryd.isAgg9,
  z9 := Tryd.sizeOf9,
  v9 := Tryd.zeroValue9,
  t21 := Tryd.underlying21,
  a21 := Tryd.isAgg21,
  z21 := Tryd.sizeOf21,
  v21 := Tryd.zeroValue21,
  t46 := Tryd.underlying101,
  a46 := Tryd.isAgg101,
  z46 := Tryd.sizeOf101,
  v46 := Tryd.zeroValue101,
  t105 := Tryd.underlying94,
  a105 := Tryd.isAgg94,
  z105 := Tryd.sizeOf94,
  v105 := Tryd.zeroValue94,
  t116 := Tryd.underlying86,
  a116 := Tryd.isAgg86,
  z116 := Tryd.sizeOf86,
  t117 := Tryd.underlying87,
  a117 := Tryd.isAgg87,
  z117 := Tryd.sizeOf87,
  v117 := Tryd.zeroValue87,
  t119 := Tryd.underlying103,
  a119 := Tryd.isAgg103,
  z119 := Tryd.sizeOf103,
  t124 := Tryd.underlying90,
  a124 := Tryd.isAgg90,
  z124 := Tryd.sizeOf90,
  v124 := Tryd.zeroValue90,
  t138 := Tryd.underlying105,
  a138 := Tryd.isAgg105,
  z138 := Tryd.sizeOf105,
  v138 := Tryd.zeroValue105,
  t139 := Tryd.underlying106,
  a139 := Tryd.isAgg106,
  z139 := Tryd.sizeOf106,
  v139 := Tryd.zeroValue106,
  g3 := by kernel_rfl,
  g4 := by kernel_rfl }
set_option maxHeartbeats 1000000 in
theorem strings_TrimLeft.calls (a0 : ByteArray) (a1 : ByteArray) (r : ByteArray) (w : World) (h : strings_TrimLeft.f a0 a1 = some r) :
    Calls Tryd.prog 32 #[.string a0, .string a1] w fun e w' => e = .returned (.string r) ∧ Below w.heap.size w w' := by
  unfold strings_TrimLeft.f at h
  by_cases c : a1.size < 100 ∧ a1.data.toList.all (fun b => decide (b.toNat < 128)) = true
  · rw [if_pos c] at h
    obtain rfl := Option.some.inj h
    have hcon := Any.strings_TrimLeft_laid lays161 (by kernel_rfl) a0 a1 w (by omega) (ascii_of_all c.2)
    exact hcon
  · rw [if_neg c] at h
    exact absurd h (by simp)



/-! ### strings_IndexAny: function 63 -/
/-- strings.IndexAny at whatever bytes, and a blank and a tab. -/
def strings_IndexAny.f (a0 : ByteArray) (a1 : ByteArray) : Option (Int) := if a0.size < 4294967281 ∧ a1.data.toList = [32, 9] then some (Lib.indexAny a0.data.toList [32, 9]) else none
def lays153_ren : Go.Shelf.Ren := ⟨fun | 153 => 63 | 152 => 75 | 226 => 76 | 227 => 54 | 228 => 70 | 137 => 85 | 119 => 86 | 224 => 83 | 225 => 82 | 217 => 81 | 266 => 88 | n => n, fun | 9 => 9 | 3 => 3 | 4 => 4 | 5 => 5 | 21 => 21 | 117 => 87 | 116 => 86 | 0 => 0 | 46 => 101 | 124 => 90 | n => n, fun | 3 => 1 | 4 => 2 | n => n⟩
theorem lays153 : Lays.n153 Tryd.prog lays153_ren := {
  mixed := by kernel_rfl,
  f119 := Tryd.func86.trans (congrArg some (by kernel_rfl)),
  f137 := Tryd.func85.trans (congrArg some (by kernel_rfl)),
  f152 := Tryd.func75.trans (congrArg some (by kernel_rfl)),
  f153 := Tryd.func63.trans (congrArg some (by kernel_rfl)),
  f217 := Tryd.func81.trans (congrArg some (by kernel_rfl)),
  f224 := Tryd.func83.trans (congrArg some (by kernel_rfl)),
  f225 := Tryd.func82.trans (congrArg some (by kernel_rfl)),
  f226 := Tryd.func76.trans (congrArg some (by kernel_rfl)),
  f227 := Tryd.func54.trans (congrArg some (by kernel_rfl)),
  f228 := Tryd.func70.trans (congrArg some (by kernel_rfl)),
  f266 := Tryd.func88.trans (congrArg some (by kernel_rfl)),
  t0 := Tryd.underlying0,
  a0 := Tryd.isAgg0,
  z0 := Tryd.sizeOf0,
  v0 := Tryd.zeroValue0,
  t3 := Tryd.underlying3,
  a3 := Tryd.isAgg3,
  z3 := Tryd.sizeOf3,
  v3 := Tryd.zeroValue3,
  t4 := Tryd.underlying4,
  a4 := Tryd.isAgg4,
  z4 := Tryd.sizeOf4,
  v4 := Tryd.zeroValue4,
  t5 := Tryd.underlying5,
  a5 := Tryd.isAgg5,
  z5 := Tryd.sizeOf5,
  v5 := Tryd.zeroValue5,
  t9 := Tryd.underlying9,
  a9 := Tryd.isAgg9,
  z9 := Tryd.sizeOf9,
  v9 := Tryd.zeroValue9,
  t21 := Tryd.underlying21,
  a21 := Tryd.isAgg21,
  z21 := Tryd.sizeOf21,
  v21 := Tryd.zeroValue21,
  t46 := Tryd.underlying101,
  a46 := Tryd.isAgg101,
  z46 := Tryd.sizeOf101,
  v46 := Tryd.zeroValue101,
  t116 := Tryd.underlying86,
  a116 := Tryd.isAgg86,
  z116 := Tryd.sizeOf86,
  t117 := Tryd.underlying87,
  a117 := Tryd.isAgg87,
  z117 := Tryd.sizeOf87,
  v117 := Tryd.zeroValue87,
  t124 := Tryd.underlying90,
  a124 := Tryd.isAgg90,
  z124 := Tryd.sizeOf90,
  v124 := Tryd.zeroValue90 }
/-- A rune that is none of ASCII's: what it is written as. -/
theorem irune_enc (r : Int) (hv : Utf8.valid r = true) (h : 128 ≤ r) : ∃ e : ByteArray, (∀ W : World, (convert 21 9 (.int .i32 r)).run Tryd.prog W = .ok (.string e) W) ∧ ((∃ b : UInt8, e.size = 2 ∧ 128 ≤ b.toNat ∧ ∀ h : 1 < e.size, e[1]'h = b) ∨ e.size = 3 ∨ e.size = 4) := by
  refine ⟨Utf8.encode r, fun W => by simp [convert, run_underlying Tryd.underlying21, run_underlying Tryd.underlying9, Conv.intToString], ?_⟩
  have hc : ¬ r.toNat < 128 := by omega
  unfold Utf8.encode
  simp only [hv, if_true, hc, if_false]
  split
  · refine .inl ⟨UInt8.ofNat (128 + r.toNat % 64), rfl, ?_, fun _ => rfl⟩
    simp
    omega
  · split
    · exact .inr (.inl rfl)
    · exact .inr (.inr rfl)
set_option maxHeartbeats 1000000 in
theorem irune_valid (r : Int) (h1 : 128 ≤ r) (hv : Utf8.valid r = true) (W : World) : Calls Tryd.prog 86 #[.int .i32 r] W fun e w' => e = .returned (.bool true) ∧ w' = W := by
  have c0 : decide (0 ≤ r) = true := decide_eq_true (by omega)
  have hv' : r < 55296 ∨ (57343 < r ∧ r ≤ 1114111) := by
    unfold Utf8.valid at hv
    simp at hv
    omega
  by_cases d : r < 55296
  · have d1 : decide (r < 55296) = true := decide_eq_true d
    clear hv hv' h1 d
    go_enter Tryd.func86, Tryd.ntmps86
    go_wp2
    go_ret
    exact ⟨rfl, rfl⟩
  · have d1 : decide (r < 55296) = false := decide_eq_false d
    have d2 : decide (57343 < r) = true := decide_eq_true (by omega)
    have d3 : decide (r ≤ 1114111) = true := decide_eq_true (by omega)
    clear hv hv' h1 d
    go_enter Tryd.func86, Tryd.ntmps86
    go_wp2
    go_ret
    exact ⟨rfl, rfl⟩
/-- .. is none of a blank and a tab. -/
theorem irune_far (r : Int) (h1 : 128 ≤ r) (hv : Utf8.valid r = true) (h4 : r ≠ 65533) (w : World) :
    Calls Tryd.prog 75 #[.string ⟨#[32, 9]⟩, .int .i32 r] w fun e w' => e = .returned (.int .i64 (-1)) ∧ Below w.heap.size w w' := by
  have c0 : decide (0 ≤ r) = true := decide_eq_true (by omega)
  have c1 : decide (r < 128) = false := decide_eq_false (by omega)
  have c2 : (r == 65533) = false := beq_eq_false_iff_ne.2 h4
  have hvr := irune_valid r h1 hv
  obtain ⟨e, hcv, hsz⟩ := irune_enc r hv h1
  clear hv h1 h4
  rcases hsz with ⟨b, hs, hb, hx0⟩ | hs | hs
  · have hne2 : (((⟨#[32, 9]⟩ : ByteArray)[1].toNat : Int) != (b.toNat : Int)) = true := bne_iff_ne.2 (by show (9 : Int) ≠ _; omega)
    have hx : ∀ h : 1 < e.size, ((e[1]'h).toNat : Int) = (b.toNat : Int) := fun h => by rw [hx0 h]
    clear hx0
    go_enter Tryd.func75, Tryd.ntmps75
    go_wp2_with (first | (go_at_call 86; refine (hvr _).mono ?_; rintro e w' ⟨rfl, hw⟩; rw [hw]))
    go_step3
    go_wp2
    go_loopg [9] 1 (fun _ v9 wr => v9 = .int .i64 1 ∧ Below w.heap.size w wr)
    case atStart => exact ⟨rfl, Below.refl _ _⟩
    case round =>
      obtain ⟨rfl, hB⟩ := hrel
      go_wp2
      go_step3
      go_wp2
      go_quiet (fail)
      go_wp2
      go_quiet (first | (go_at_call 85; refine (Any.strings_IndexByte { lays153 with } _ _ _).mono ?_; rintro e w' ⟨rfl, hw⟩; exact ⟨(rfl : _ = Ending.returned (Value.int .i64 (-1))), _, hw⟩))
      go_wp2
      go_simp
      go_ret
      exact ⟨rfl, by repeat (first | exact hB | apply pw_below_drewN)⟩
  · go_enter Tryd.func75, Tryd.ntmps75
    go_wp2_with (first | (go_at_call 86; refine (hvr _).mono ?_; rintro e w' ⟨rfl, hw⟩; rw [hw]))
    go_step3
    go_wp2
    go_loopg [9] 1 (fun _ v9 wr => v9 = .int .i64 2 ∧ Below w.heap.size w wr)
    case atStart => exact ⟨rfl, Below.refl _ _⟩
    case round =>
      obtain ⟨rfl, hB⟩ := hrel
      go_wp2
      go_simp
      go_ret
      exact ⟨rfl, by repeat (first | exact hB | apply pw_below_drewN)⟩
  · go_enter Tryd.func75, Tryd.ntmps75
    go_wp2_with (first | (go_at_call 86; refine (hvr _).mono ?_; rintro e w' ⟨rfl, hw⟩; rw [hw]))
    go_step3
    go_wp2
    go_loopg [9] 1 (fun _ v9 wr => v9 = .int .i64 3 ∧ Below w.heap.size w wr)
    case atStart => exact ⟨rfl, Below.refl _ _⟩
    case round =>
      obtain ⟨rfl, hB⟩ := hrel
      go_wp2
      go_simp
      go_ret
      exact ⟨rfl, by repeat (first | exact hB | apply pw_below_drewN)⟩
/-- Nor is the rune of a wrong byte. -/
theorem irune_bad (w : World) : Calls Tryd.prog 75 #[.string ⟨#[32, 9]⟩, .int .i32 65533] w fun e w' => e = .returned (.int .i64 (-1)) ∧ Below w.heap.size w w' := by
  have hx0 := fun (W : World) ty => run_next_ascii (P := Tryd.prog) W ⟨#[32, 9]⟩ 0 ty (by decide) (by decide)
  have hx1 := fun (W : World) ty => run_next_ascii (P := Tryd.prog) W ⟨#[32, 9]⟩ 1 ty (by decide) (by decide)
  have hx2 := fun (W : World) ty => run_next_end (P := Tryd.prog) W ⟨#[32, 9]⟩ 2 ty (by decide)
  go_enter Tryd.func75, Tryd.ntmps75
  go_wp2
  go_loopg [5, 6] 2 (fun g _ _ wr => ∃ i : Nat, i + g = 2 ∧ wr = w.iter ⟨#[32, 9]⟩ i)
  case atStart => exact ⟨0, rfl, rfl⟩
  case round =>
    obtain ⟨i, hi, rfl⟩ := hrel
    match gk, i, hi with
    | 2, 0, _ =>
      go_wp2
      go_roundg 1
      case measure => omega
      case rel => exact ⟨1, rfl, rfl⟩
    | 1, 1, _ =>
      go_wp2
      go_roundg 0
      case measure => omega
      case rel => exact ⟨2, rfl, rfl⟩
    | 0, 2, _ =>
      go_wp2
      go_ret
      exact ⟨rfl, (Below.refl _ _).alloc (Nat.le_refl _) _⟩
/-- What stands behind a byte that is none of ASCII's: a rune that is none either, and none of its bytes is. -/
theorem irune_decode (s : ByteArray) (i : Nat) (hi : i < s.size) (hx : 128 ≤ (s[i]'hi).toNat) :
    128 ≤ (Utf8.decode s i).1 ∧ Utf8.valid ((Utf8.decode s i).1 : Int) = true ∧ 1 ≤ (Utf8.decode s i).2 ∧ i + (Utf8.decode s i).2 ≤ s.size ∧ ∀ (j : Nat) (h : j < s.size), i ≤ j → j < i + (Utf8.decode s i).2 → 128 ≤ (s[j]'h).toNat := by
  have hn : ¬ (s[i]'hi).toNat < 128 := by omega
  have hg : ∀ (k : Nat) (h : i + k < s.size), s.get! (i + k) = s[i + k]'h := by
    intro k h
    simp [ByteArray.get!, getElem!_pos, h]
    rfl
  have h0 : s.get! (i + 0) = s[i]'hi := hg 0 hi
  have bad : 128 ≤ (Utf8.runeError, 1).1 ∧ Utf8.valid (((Utf8.runeError, 1) : Nat × Nat).1 : Int) = true ∧ 1 ≤ ((Utf8.runeError, 1) : Nat × Nat).2 ∧ i + ((Utf8.runeError, 1) : Nat × Nat).2 ≤ s.size ∧ ∀ (j : Nat) (h : j < s.size), i ≤ j → j < i + ((Utf8.runeError, 1) : Nat × Nat).2 → 128 ≤ (s[j]'h).toNat := by
    refine ⟨by decide, by decide, Nat.le_refl _, by show i + 1 ≤ _; omega, fun j h h1 h2 => ?_⟩
    obtain rfl : j = i := by
      have : j < i + 1 := h2
      omega
    exact hx
  have cont : ∀ k, (decide (i + k < s.size) && ((s.get! (i + k)).toNat / 64 == 2)) = true → ∃ h : i + k < s.size, 128 ≤ (s[i + k]'h).toNat := by
    intro k hk
    rw [Bool.and_eq_true, decide_eq_true_eq, beq_iff_eq] at hk
    refine ⟨hk.1, ?_⟩
    rw [hg k hk.1] at hk
    omega
  have step : ∀ (n : Nat), (∀ k, k < n → ∃ h : i + k < s.size, 128 ≤ (s[i + k]'h).toNat) → ∀ (j : Nat) (h : j < s.size), i ≤ j → j < i + n → 128 ≤ (s[j]'h).toNat := by
    intro n hk j h h1 h2
    obtain ⟨h', hb⟩ := hk (j - i) (by omega)
    have e : i + (j - i) = j := by omega
    simp only [e] at hb
    exact hb
  have zero : ∃ h : i + 0 < s.size, 128 ≤ (s[i + 0]'h).toNat := ⟨hi, hx⟩
  unfold Utf8.decode
  simp only [h0, hn, if_false]
  split
  · rename_i hc
    rw [Bool.and_eq_true] at hc
    obtain ⟨b1, hb1⟩ := cont 1 hc.2
    split
    · rename_i hv
      refine ⟨hv, ?_, by show 1 ≤ 2; decide, by show i + 2 ≤ _; omega, step 2 (fun k hk => ?_)⟩
      · have hb : (s.get! (i + 1)).toNat < 256 := (s.get! (i + 1)).toNat_lt
        unfold Utf8.valid
        simp
        omega
      · match k, hk with
        | 0, _ => exact zero
        | 1, _ => exact ⟨b1, hb1⟩
    · exact bad
  · split
    · rename_i hc
      rw [Bool.and_eq_true, Bool.and_eq_true] at hc
      obtain ⟨b1, hb1⟩ := cont 1 hc.1.2
      obtain ⟨b2, hb2⟩ := cont 2 hc.2
      split
      · rename_i hv
        rw [Bool.and_eq_true, decide_eq_true_eq] at hv
        refine ⟨by have := hv.1; omega, hv.2, by show 1 ≤ 3; decide, by show i + 3 ≤ _; omega, step 3 (fun k hk => ?_)⟩
        match k, hk with
        | 0, _ => exact zero
        | 1, _ => exact ⟨b1, hb1⟩
        | 2, _ => exact ⟨b2, hb2⟩
      · exact bad
    · split
      · rename_i hc
        rw [Bool.and_eq_true, Bool.and_eq_true, Bool.and_eq_true] at hc
        obtain ⟨b1, hb1⟩ := cont 1 hc.1.1.2
        obtain ⟨b2, hb2⟩ := cont 2 hc.1.2
        obtain ⟨b3, hb3⟩ := cont 3 hc.2
        split
        · rename_i hv
          rw [Bool.and_eq_true, decide_eq_true_eq] at hv
          refine ⟨by have := hv.1; omega, hv.2, by show 1 ≤ 4; decide, by show i + 4 ≤ _; omega, step 4 (fun k hk => ?_)⟩
          match k, hk with
          | 0, _ => exact zero
          | 1, _ => exact ⟨b1, hb1⟩
          | 2, _ => exact ⟨b2, hb2⟩
          | 3, _ => exact ⟨b3, hb3⟩
        · exact bad
      · exact bad
/-- strings.IndexRune of a text of two bytes, whatever the rune. -/
theorem irune_any (r : Int) (h1 : 128 ≤ r) (hv : Utf8.valid r = true) (w : World) :
    Calls Tryd.prog 75 #[.string ⟨#[32, 9]⟩, .int .i32 r] w fun e w' => e = .returned (.int .i64 (-1)) ∧ Below w.heap.size w w' := by
  by_cases e : r = 65533
  · subst e
    exact irune_bad w
  · exact irune_far r h1 hv e w
/-- strings.IndexAny at a text of at most eight bytes, whatever they are, and a blank and a tab. -/
theorem iany_short (s : ByteArray) (w : World) (h8 : s.size ≤ 8) :
    Calls Tryd.prog 63 #[.string s, .string ⟨#[32, 9]⟩] w fun e w' => e = .returned (.int .i64 (Lib.indexAny s.data.toList [32, 9])) ∧ Below w.heap.size w w' := by
  have h8z : decide ((8 : Int) < (s.size : Int)) = false := decide_eq_false (by omega)
  clear h8
  obtain ⟨B, hB0⟩ : ∃ B, B = w.heap.size := ⟨_, rfl⟩
  go_enter Tryd.func63, Tryd.ntmps63
  go_wp2_with (first | (go_at_call 76; refine (Any.strings_shouldUseASCIISet { lays153 with } _ _).mono ?_; rintro e w' ⟨rfl, hw⟩; rw [hw, h8z]))
  go_loopg [9, 10] s.size (fun g _ _ wr => ∃ i : Nat, i ≤ s.size ∧ s.size - i ≤ g ∧ wr.heap[w.heap.size]? = some (.stringIter s i) ∧ Below w.heap.size w wr ∧ Lib.NoAny s.data.toList [32, 9] i)
  case atStart => exact ⟨0, by omega, by omega, World.iter_heap _ _ _, (Below.refl _ _).alloc (Nat.le_refl _) _, Lib.NoAny.zero _ _⟩
  case round =>
    obtain ⟨i, hile, hig, hk, hB, hno⟩ := hrel
    have HN : Aside (Lib.NoAny s.data.toList [32, 9] i) := hno
    clear hno
    have HK : Aside (wr.heap[w.heap.size]? = some (.stringIter s i)) := hk
    have HB : Aside (Below w.heap.size w wr) := hB
    clear hB
    by_cases hi : i < s.size
    · cases gk with
      | zero => exfalso; omega
      | succ g =>
        obtain ⟨x, hx⟩ : ∃ x : UInt8, s[i]'hi = x := ⟨_, rfl⟩
        have hxl : s.data.toList[i]? = some x := by rw [← hx]; exact Lib.data_getElem? s i hi
        have Hx : Aside (s.data.toList[i]? = some x) := hxl
        clear hxl
        by_cases ha : x.toNat < 128
        · have hnx := fun ty => Lib.run_next_ascii_at (P := Tryd.prog) wr w.heap.size s i ty hk hi (by rw [hx]; exact ha)
          rw [hx] at hnx
          have hcon := Lib.contains_iff_indexByte [32, 9] x
          have hback : ((x.toNat : Int)).toNat.toUInt8 = x := by simp
          clear hx hk
          cases hin : ([32, 9] : List UInt8).contains x
          · rw [hin] at hcon
            have hlt : ¬ ((0 : Int) ≤ Lib.indexByte [32, 9] x) := of_decide_eq_false hcon.symm
            clear hcon
            go_wp2_with (first | (go_at_call 75; refine (Any.strings_IndexRune_ascii { lays153 with } _ _ _ (by omega) (by omega)).mono ?_; rintro e w' ⟨rfl, hw⟩; rw [hw, hback]))
            go_roundg g
            case measure => omega
            case rel => exact ⟨i + 1, by omega, by omega, Lib.iterAt_heap _ _ _ _ _ HK.out, Lib.below_iterAt HB.out (Nat.le_refl _) _ _, HN.out.succ Hx.out hin⟩
          · rw [hin] at hcon
            have hge : (0 : Int) ≤ Lib.indexByte [32, 9] x := of_decide_eq_true hcon.symm
            clear hcon
            go_wp2_with (first | (go_at_call 75; refine (Any.strings_IndexRune_ascii { lays153 with } _ _ _ (by omega) (by omega)).mono ?_; rintro e w' ⟨rfl, hw⟩; rw [hw, hback]))
            go_ret
            exact ⟨by rw [Lib.indexAny_hit HN.out Hx.out hin]; rfl, Lib.below_iterAt HB.out (Nat.le_refl _) _ _⟩
        · have hnx := fun ty => Lib.run_next_any_at (P := Tryd.prog) wr w.heap.size s i ty hk hi
          obtain ⟨d1, d2, d3, d4, d5⟩ := irune_decode s i hi (by rw [hx]; omega)
          obtain ⟨r, hr⟩ : ∃ r, r = (Utf8.decode s i).1 := ⟨_, rfl⟩
          obtain ⟨n, hn⟩ : ∃ n, n = (Utf8.decode s i).2 := ⟨_, rfl⟩
          rw [← hr, ← hn] at hnx
          rw [← hr] at d1 d2
          rw [← hn] at d3 d4 d5
          have HN2 : Aside (Lib.NoAny s.data.toList [32, 9] (i + n)) := by
            intro j b hj hb
            by_cases e : j < i
            · exact HN.out j b e hb
            · have hjl : j < s.size := by
                have := (List.getElem?_eq_some_iff.1 hb).1
                rw [← Lib.size_eq] at this
                exact this
              have h128 := d5 j hjl (by omega) hj
              have hbe : s[j]'hjl = b := by
                have := Lib.data_getElem? s j hjl
                rw [this] at hb
                exact Option.some.inj hb
              rw [hbe] at h128
              simp only [List.contains_cons, List.contains_nil, Bool.or_false, Bool.or_eq_false_iff, beq_eq_false_iff_ne]
              exact ⟨fun e => by rw [e] at h128; exact absurd h128 (by decide), fun e => by rw [e] at h128; exact absurd h128 (by decide)⟩
          have D2 : Aside (Utf8.valid (r : Int) = true) := d2
          have hrr : ¬ ((r : Int) < 128) := by omega
          clear d2 d5 hr hn hx hk ha
          go_wp2_with (first | (go_at_call 75; refine (irune_any (r : Int) (by omega) D2.out _).mono ?_; rintro e w' ⟨rfl, hB'⟩))
          go_roundg g
          case measure => omega
          case rel => exact ⟨i + n, d4, by omega, (hB'.block _ (by rw [Lib.iterAt_size]; exact (Array.getElem?_eq_some_iff.1 HK.out).1)).trans (Lib.iterAt_heap _ _ _ _ _ HK.out), below_step (Lib.below_iterAt HB.out (Nat.le_refl _) _ _) hB', HN2.out⟩
    · have hnx := fun ty => Lib.run_next_end_at (P := Tryd.prog) wr w.heap.size s i ty hk hi
      obtain rfl : i = s.size := by omega
      clear hk
      go_wp2
      go_ret
      exact ⟨by rw [Lib.indexAny_none (by rw [← Lib.size_eq]; exact HN.out)]; rfl, HB.out⟩
theorem strings_IndexAny.calls (a0 : ByteArray) (a1 : ByteArray) (r : Int) (w : World) (h : strings_IndexAny.f a0 a1 = some r) :
    Calls Tryd.prog 63 #[.string a0, .string a1] w fun e w' => e = .returned (.int .i64 r) ∧ Below w.heap.size w w' := by
  unfold strings_IndexAny.f at h
  by_cases c : a0.size < 4294967281 ∧ a1.data.toList = [32, 9]
  · rw [if_pos c] at h
    obtain rfl := Option.some.inj h
    obtain rfl : a1 = ⟨#[32, 9]⟩ := Pl.bl_inj c.2
    by_cases h8 : a0.size ≤ 8
    · exact iany_short a0 w h8
    · have h116 : (Tryd.prog.info? (lays153_ren.t 116)).map (fun i => (i.zero, i.size)) = some (some (.agg (Array.replicate 256 (.bool false))), 256) := by kernel_rfl
      refine (Any.strings_IndexAny_long lays153 (zero_of_info h116).1 (zero_of_info h116).2 a0 ⟨#[32, 9]⟩ w (by decide) (by omega) c.1 (by decide) (fun j b hj => ?_)).mono fun e w' ⟨h1, h2⟩ => ⟨h1, ?_⟩
      · exact ascii_of_all (l := [32, 9]) (by decide) j b hj
      · rw [h2]
        exact ((Below.refl _ _).alloc (Nat.le_refl _) _).alloc (by simp) _
  · rw [if_neg c] at h
    exact absurd h (by simp)



/-! ### text_Words: function 22 -/
/-- text.Words. -/
def text_Words.f (a0 : ByteArray) : Option (List ByteArray) := if a0.size ≤ 1000000 then some ((Pl.wordsL (Pl.bl a0)).map Pl.ofL) else none
/-- How many words the text in a box has. -/
def text_Words.left (B : Nat) (w : World) : Nat := match w.cell? ⟨B, 0, none⟩ with
  | some (.string s) => (Pl.wordsL (Pl.bl s)).length
  | _ => 0
theorem text_Words.left_eq {B : Nat} {w : World} {s : ByteArray} (h : Go.Boxed w B 9 (.string s)) : text_Words.left B w = (Pl.wordsL (Pl.bl s)).length := by
  unfold text_Words.left
  rw [h.cell]
section
attribute [local go_sem] Oper.semAt_some
set_option maxHeartbeats 4000000 in
/-- The iterator: whatever the loop's body is, if it keeps the text's box. -/
theorem text_Words.iter (n : Nat) (hn : 1 ≤ n) (l Bs : Nat) (s : ByteArray) (hs : s.size ≤ 1000000) (J : List ByteArray → World → Prop)
    (hY : ∀ pre x W, J pre W → pre.length < (Pl.wordsL (Pl.bl s)).length → YieldAt Fence.wide (n - 1) Tryd.prog l #[.string x] W fun e W' => e = .returned (.bool true) ∧ J (pre ++ [x]) W' ∧ ∀ v, Go.Boxed W Bs 9 v → Go.Boxed W' Bs 9 v)
    (hset : ∀ pre W u v, J pre W → Go.Boxed W Bs 9 u → J pre (W.setCell ⟨Bs, 0, none⟩ v))
    (hbl : ∀ pre W W', J pre W → Below W.heap.size W W' → J pre W')
    (W : World) (hb : Go.Boxed W Bs 9 (.string s)) (h0 : J [] W) :
    CallsIn Fence.wide n Tryd.prog 62 (#[.func (.yield l) #[] #[]] ++ #[.pointer (some ⟨Bs, 0, none⟩)]) W fun e W' => (∃ v, e = .returned v) ∧ J ((Pl.wordsL (Pl.bl s)).map Pl.ofL) W' := by
  refine callsIn_of_wp Tryd.func62 rfl trivial ?_ rfl
  simp only [Tryd.ntmps62, List.append_toArray, List.cons_append, List.nil_append, List.size_toArray, List.length_cons, List.length_nil, Nat.reduceAdd, Nat.reduceSub, Array.replicate_succ, Array.replicate_zero, List.push_toArray]
  gi_wp2
  gi_loopw [3] (fun _ wr => ∃ (pre : List ByteArray) (c : ByteArray), c.size ≤ 1000000 ∧ (Pl.wordsL (Pl.bl s)).map Pl.ofL = pre ++ (Pl.wordsL (Pl.bl c)).map Pl.ofL ∧ Go.Boxed wr Bs 9 (.string c) ∧ J pre wr) (fun _ wr => text_Words.left Bs wr)
  case atStart => exact ⟨[], s, hs, rfl, hb, h0⟩
  case round =>
    obtain ⟨pre, c, hc, hL, hbx, hJ⟩ := hrel
    have hcell := hbx.cell
    have hfr := hbx.frozen
    have hms := text_Words.left_eq hbx
    obtain ⟨c1, hc1⟩ : ∃ c1, c1 = Pl.ofL (Lib.trimLeftS (Pl.bl c) [32, 9]) := ⟨_, rfl⟩
    have hb1 : Pl.bl c1 = Lib.trimLeftS (Pl.bl c) [32, 9] := by rw [hc1, Pl.bl_ofL]
    have hsuf : Pl.bl c1 <:+ Pl.bl c := by rw [hb1]; exact List.dropWhile_suffix _
    have hsz1 : c1.size ≤ c.size := by rw [Pl.bl_size, Pl.bl_size]; exact hsuf.length_le
    have hw1 : Pl.wordsL (Pl.bl c) = Pl.wordsL (Pl.bl c1) := by rw [hb1, Pl.wordsL_trim]
    have htl : strings_TrimLeft.f c ⟨#[32, 9]⟩ = some c1 := by
      unfold strings_TrimLeft.f
      rw [if_pos (show _ ∧ _ from ⟨by decide, by decide⟩), hc1]
      rfl
    obtain ⟨ix, hix⟩ : ∃ ix, ix = Lib.indexAny (Pl.bl c1) [32, 9] := ⟨_, rfl⟩
    have hia : strings_IndexAny.f c1 ⟨#[32, 9]⟩ = some ix := by
      have hcnd : c1.size < 4294967281 ∧ (⟨#[32, 9]⟩ : ByteArray).data.toList = [32, 9] := ⟨by omega, rfl⟩
      unfold strings_IndexAny.f
      rw [if_pos hcnd, hix]
      rfl
    clear hc1
    by_cases e0 : Pl.bl c1 = []
    · have hia' : strings_IndexAny.f c1 ⟨#[32, 9]⟩ = some (-1) := by rw [hia, hix, e0]; rfl
      clear hia hix
      have hia := hia'
      clear hia'
      obtain rfl : c1 = ⟨#[]⟩ := Pl.bl_inj e0
      gi_wp2_with (first
        | (refine ⟨trivial, ?_⟩; gi_at_call 32; refine (callsIn_wide.2 (strings_TrimLeft.calls c _ _ _ htl)).mono ?_; rintro e w1 ⟨rfl, hB1⟩; have hbw := (show Go.Boxed w1 Bs 9 (.string c) from (hB1.block _ hbx.lt).trans hbx); have hcw := hbw.cell; have hfw := hbw.frozen; have hJ1 := hset _ _ _ (.string ⟨#[]⟩) (hbl _ _ _ hJ hB1) hbw; have hbs := hbw.set (.string ⟨#[]⟩); have hcs := hbs.cell; have hfs := hbs.frozen)
        | (refine ⟨trivial, ?_⟩; gi_at_call 63; refine (callsIn_wide.2 (strings_IndexAny.calls _ _ _ _ hia)).mono ?_; rintro e w2 ⟨rfl, hB2⟩; have hb2 := (show Go.Boxed w2 Bs 9 (.string ⟨#[]⟩) from (hB2.block _ hbs.lt).trans hbs); have hc2 := hb2.cell; have hf2 := hb2.frozen; have hJ2 := hbl _ _ _ hJ1 hB2))
      refine ⟨fun _ h => (by cases h), ?_⟩
      gi_wp2
      refine bodyPost_ret (results_none rfl _ _ _) rfl ?_
      rw [hw1, e0, show Pl.wordsL [] = [] from rfl, List.map_nil, List.append_nil] at hL
      exact ⟨⟨_, rfl⟩, by rw [hL]; exact hJ2⟩
    · have hcl : (c1.toList == ([] : List UInt8)) = false := by rw [Pl.bl_toList]; exact beq_eq_false_iff_ne.2 e0
      have hcs1 := Pl.bl_size c1
      rcases Pl.words_step (Pl.bl c1) e0 (fun x hx => Pl.trim_head (Pl.bl c) x (hb1 ▸ hx)) with ⟨hi, hws⟩ | ⟨a, t, hsp, hne, hi, hws⟩
      · have hii : ix = -1 := by rw [hix, hi]
        clear hix hi
        subst hii
        have hx1 : c1.extract 0 c1.size = c1 := Pl.bl_inj (by rw [Pl.bl_extract_from, hcs1, List.take_length])
        have hx2 : c1.extract c1.size c1.size = (⟨#[]⟩ : ByteArray) := Pl.bl_inj (by rw [Pl.bl_extract_to, hcs1, List.drop_length]; rfl)
        have hlen : pre.length < (Pl.wordsL (Pl.bl s)).length := by
          have := congrArg List.length hL
          rw [hw1, hws] at this
          simp at this
          omega
        clear hcs1 hb1 hsuf
        gi_wp2_with (first
        | (refine ⟨trivial, ?_⟩; gi_at_call 32; refine (callsIn_wide.2 (strings_TrimLeft.calls c _ _ _ htl)).mono ?_; rintro e w1 ⟨rfl, hB1⟩; have hbw := (show Go.Boxed w1 Bs 9 (.string c) from (hB1.block _ hbx.lt).trans hbx); have hcw := hbw.cell; have hfw := hbw.frozen; have hJ1 := hset _ _ _ (.string c1) (hbl _ _ _ hJ hB1) hbw; have hbs := hbw.set (.string c1); have hcs := hbs.cell; have hfs := hbs.frozen)
        | (refine ⟨trivial, ?_⟩; gi_at_call 63; refine (callsIn_wide.2 (strings_IndexAny.calls _ _ _ _ hia)).mono ?_; rintro e w2 ⟨rfl, hB2⟩; have hb2 := (show Go.Boxed w2 Bs 9 (.string c1) from (hB2.block _ hbs.lt).trans hbs); have hc2 := hb2.cell; have hf2 := hb2.frozen; have hJ2 := hbl _ _ _ hJ1 hB2; obtain ⟨fn, tmps, assign, body, hyy, hR⟩ := hY pre c1 w2 hJ2 hlen))
        refine hR.mono ?_
        rintro e W' ⟨rfl, hJ', hk⟩
        have hb' := hk _ hb2
        have hcell' := hb'.cell
        have hfr' := hb'.frozen
        gi_wp2
        have hb'' := hb'.set (.string ByteArray.empty)
        have hem : Pl.wordsL (Pl.bl ByteArray.empty) = [] := rfl
        go_roundw
        case rel => exact ⟨pre ++ [c1], ByteArray.empty, by decide, by rw [hL, hw1, hws, hem, List.map_cons, List.map_nil, Pl.ofL_bl, List.append_nil], hb'', hset _ _ _ _ hJ' hb'⟩
        case measure => rw [text_Words.left_eq hb'', hms, hw1, hws, hem]; simp
      · have hii : ix = (a.length : Int) := by rw [hix, hi]
        clear hix hi
        subst hii
        have hal : a.length ≤ c1.size := by rw [hcs1, hsp]; simp
        have hx1 : c1.extract 0 a.length = Pl.ofL a := Pl.bl_inj (by rw [Pl.bl_extract_from, Pl.bl_ofL, hsp, List.take_left])
        have hx2 : c1.extract a.length c1.size = Pl.ofL t := Pl.bl_inj (by rw [Pl.bl_extract_to, Pl.bl_ofL, hsp, List.drop_left])
        have hlen : pre.length < (Pl.wordsL (Pl.bl s)).length := by
          have := congrArg List.length hL
          rw [hw1, hws] at this
          simp at this
          omega
        clear hcs1 hb1 hsuf
        gi_wp2_with (first
        | (refine ⟨trivial, ?_⟩; gi_at_call 32; refine (callsIn_wide.2 (strings_TrimLeft.calls c _ _ _ htl)).mono ?_; rintro e w1 ⟨rfl, hB1⟩; have hbw := (show Go.Boxed w1 Bs 9 (.string c) from (hB1.block _ hbx.lt).trans hbx); have hcw := hbw.cell; have hfw := hbw.frozen; have hJ1 := hset _ _ _ (.string c1) (hbl _ _ _ hJ hB1) hbw; have hbs := hbw.set (.string c1); have hcs := hbs.cell; have hfs := hbs.frozen)
        | (refine ⟨trivial, ?_⟩; gi_at_call 63; refine (callsIn_wide.2 (strings_IndexAny.calls _ _ _ _ hia)).mono ?_; rintro e w2 ⟨rfl, hB2⟩; have hb2 := (show Go.Boxed w2 Bs 9 (.string c1) from (hB2.block _ hbs.lt).trans hbs); have hc2 := hb2.cell; have hf2 := hb2.frozen; have hJ2 := hbl _ _ _ hJ1 hB2; obtain ⟨fn, tmps, assign, body, hyy, hR⟩ := hY pre (Pl.ofL a) w2 hJ2 hlen))
        refine hR.mono ?_
        rintro e W' ⟨rfl, hJ', hk⟩
        have hb' := hk _ hb2
        have hcell' := hb'.cell
        have hfr' := hb'.frozen
        gi_wp2
        have hb'' := hb'.set (.string (Pl.ofL t))
        have hcs2 := Pl.bl_size c1
        have hlt := congrArg List.length hsp
        rw [List.length_append] at hlt
        go_roundw
        case rel => exact ⟨pre ++ [Pl.ofL a], Pl.ofL t, by rw [Pl.bl_size, Pl.bl_ofL]; omega, by rw [hL, hw1, hws, List.map_cons, Pl.bl_ofL]; simp, hb'', hset _ _ _ _ hJ' hb'⟩
        case measure => rw [text_Words.left_eq hb'', hms, hw1, hws, Pl.bl_ofL]; simp
/-- A loop over an iterator that is told whole: St: what the iterator does between two rounds; Kp: what a round keeps for it. -/
theorem range_told {P : Program} {g : Operand} {p : Tmp} {assign body : Code} {Q : Exit → Act → World → Prop} {a : Act} {w : World} (n : Nat) (hn : 3 ≤ n) {gf : Nat} {lb : Array Value}
    (hg : a.eval g = .func (.func gf) #[] lb) (eg : ∀ args w, (callFunc gf args).run P w = .ok (.enter gf args) w)
    (xs : List ByteArray) (St Kp : World → World → Prop) (Kb : World → Prop) (I : List ByteArray → World → Prop) (a₁ : ByteArray → Act)
    (hseq : ∀ (l : Nat) (J : List ByteArray → World → Prop),
      (∀ pre x W, J pre W → pre.length < xs.length → YieldAt Fence.wide (n - 1 - 1) P l #[.string x] W fun e W' => e = .returned (.bool true) ∧ J (pre ++ [x]) W' ∧ Kp W W') →
      (∀ pre W W', J pre W → St W W' → J pre W') → ∀ W, Kb W → J [] W →
      CallsIn Fence.wide (n - 1) P gf (#[.func (.yield l) #[] #[]] ++ lb) W fun e W' => (∃ v, e = .returned v) ∧ J xs W')
    (hSt : ∀ W W', St W W' → ∀ (r : Nat) (o : Obj), w.heap.size ≤ r → W.heap[r]? = some o → o.isCells = false → W'.heap[r]? = some o) (hISt : ∀ pre W W', I pre W → St W W' → I pre W')
    (hIb : ∀ pre W W', I pre W → Below W.heap.size W W' → I pre W') (hIp : ∀ pre W (r : Nat) (o o' : Obj), I pre W → w.heap.size ≤ r → W.heap[r]? = some o → o.isCells = false → I pre (W.putObj r o'))
    (hKb : ∀ W', Below w.heap.size w W' → Kb W') (hKt : ∀ {A B C : World}, Kp A B → Kp B C → Kp A C) (hKp : ∀ W (r : Nat) (o' : Obj), w.heap.size ≤ r → Kp W (W.putObj r o'))
    (h0 : I [] w)
    (hassign : ∀ (l : Nat) (x : ByteArray) (W : World) (K : Act → World → Prop), K (a₁ x) W →
      assign.wpIn (Fence.wide.inRound l) (n - 1 - 1) P (Exit.then K (fun _ _ _ => False)) { tmps := (#[p].zip #[Value.string x]).foldl (fun t (q, v) => t.setIfInBounds q v) a.tmps, defers := [] } W)
    (hbody : ∀ (l : Nat) (pre : List ByteArray) (x : ByteArray) (W : World), I pre W → pre.length < xs.length →
      body.wpIn (Fence.wide.inRound l) (n - 1 - 1) P (fun e _ W' => e = .normal ∧ KeepsFrom w.heap.size W W' ∧ I (pre ++ [x]) W' ∧ Kp W W') (a₁ x) W)
    (hdone : ∀ (D : Nat) (W : World), w.heap.size ≤ D → I xs W → W.heap[D]? = some (.deferred (some [])) → Q .normal { a with defers := { target := .collected D, args := #[] } :: a.defers } W) :
    (Code.rangeFunc g #[p] assign body).wpIn Fence.wide n P Q a w := by
  refine wpIn_rangeFunc ?_
  intro fn hfn
  obtain ⟨rec, hrec⟩ : ∃ rec : LoopState → Loop, rec = fun st => { state := st, pending := none, fn, tmps := a.tmps, params := #[p], assign, body, defers := w.heap.size } := ⟨_, rfl⟩
  obtain ⟨W1, hW1⟩ : ∃ W1, (w.alloc (.deferred (some []))).alloc (.loop (rec .ready)) = W1 := ⟨_, rfl⟩
  have hb1 : Below w.heap.size w W1 := by rw [← hW1]; exact ((Below.refl _ w).alloc (Nat.le_refl _) _).alloc (by simp) _
  have hL1 : W1.heap[w.heap.size + 1]? = some (.loop (rec .ready)) := by
    rw [← hW1]
    have h := World.alloc_heap_new (w.alloc (.deferred (some []))) (.loop (rec .ready))
    rwa [World.size_alloc] at h
  have hK1 : W1.heap[w.heap.size]? = some (.deferred (some [])) := by
    rw [← hW1]; exact (Below.heap_alloc _ _ _ (by simp)).trans (World.alloc_heap_new w _)
  refine ⟨w.heap.size + 1, [{ target := .collected w.heap.size, args := #[] }], W1, { target := .fn (.func gf) lb, args := #[.func (.yield (w.heap.size + 1)) #[] #[]] }, W1, gf,
    #[.func (.yield (w.heap.size + 1)) #[] #[]] ++ lb, W1, by rw [← hW1, hrec]; exact run_enterLoop_outer _ _ _ _ _, ?_, fun _ _ => trivial, ?_, fun _ => by omega, ?_⟩
  · simp only [resolve, hg]
    simp [go_sem]
  · simp [invoke, go_sem, eg]
  · refine (hseq (w.heap.size + 1) (fun pre W => I pre W ∧ W.heap[w.heap.size + 1]? = some (.loop (rec .ready)) ∧ W.heap[w.heap.size]? = some (.deferred (some []))) ?_ ?_ W1 (hKb _ hb1) ⟨hIb _ _ _ h0 hb1, hL1, hK1⟩).mono ?_
    · rintro pre x W ⟨hi, hl, hk⟩ hlen
      have hlt : w.heap.size + 1 < W.heap.size := (Array.getElem?_eq_some_iff.1 hl).1
      have hy := run_yield (P := P) (args := #[.string x]) hl (by rw [hrec]; rfl)
      rw [hrec] at hy
      refine ⟨fn, _, assign, body, hy, roundIn_of_wpIn hfn ?_⟩
      refine hassign _ x W _ ?_
      refine ⟨_, run_beginRound hl (by rw [hrec]), ?_⟩
      have hl2 : (W.putObj (w.heap.size + 1) (.loop { rec .ready with state := .busy })).heap[w.heap.size + 1]? = some (.loop { rec .ready with state := .busy }) := World.putObj_heap_same hlt
      have hk2 : (W.putObj (w.heap.size + 1) (.loop { rec .ready with state := .busy })).heap[w.heap.size]? = some (.deferred (some [])) := (World.putObj_heap_other (by omega)).trans hk
      refine wpIn_mono (hbody _ pre x _ (hIp _ _ _ _ _ hi (by omega) hl rfl) hlen) ?_
      rintro e a3 W3 ⟨rfl, hkf, hi3, hkp⟩
      have hl3 := hkf.same _ _ (by omega) hl2 rfl
      have hk3 := hkf.same _ _ (Nat.le_refl _) hk2 rfl
      have hre : ({ { rec .ready with state := .busy } with state := if (none : Option Code).isNone then LoopState.ready else .done, pending := none } : Loop) = rec .ready := by rw [hrec]; rfl
      refine ⟨_, _, run_endRound none hl3, rfl, ⟨hIp _ _ _ _ _ hi3 (by omega) hl3 rfl, ?_, ?_⟩, hKt (hKp _ _ _ (by omega)) (hKt hkp (hKp _ _ _ (by omega)))⟩
      · rw [hre]; exact World.putObj_heap_same (Array.getElem?_eq_some_iff.1 hl3).1
      · exact (World.putObj_heap_other (by omega)).trans hk3
    · rintro pre W W' ⟨hi, hl, hk⟩ hs
      exact ⟨hISt _ _ _ hi hs, hSt _ _ hs _ _ (by omega) hl rfl, hSt _ _ hs _ _ (Nat.le_refl _) hk rfl⟩
    · rintro e W2 ⟨⟨v, rfl⟩, hi, hl, hk⟩
      have hr := run_endLoop (P := P) hl (by rw [hrec]; simp)
      rw [show (rec .ready).pending = none by rw [hrec]] at hr
      exact ⟨none, _, hr, hdone _ _ (Nat.le_refl _) (hIp _ _ _ _ _ hi (by omega) hl rfl) ((World.putObj_heap_other (by omega)).trans hk)⟩
/-- What an iterator does between two rounds: it stores in its own box, and lays new blocks. -/
def StepB (Bs : Nat) (W W' : World) : Prop := Below W.heap.size W W' ∨ ∃ u v, Go.Boxed W Bs 9 u ∧ W' = W.setCell ⟨Bs, 0, none⟩ v
set_option maxHeartbeats 2000000 in
/-- The loop that gathers what an iterator tells, whose text lies in box Bs. -/
theorem text_gather.calls {gf : Nat} (n₀ Bs : Nat) (ptr : Value) (L : List ByteArray) (hL : L.length ≤ 1000000) (eg : ∀ args w, (callFunc gf args).run Tryd.prog w = .ok (.enter gf args) w) (v0 : Value) (w : World) (hn₀ : n₀ ≤ Bs) (hb : Go.Boxed w Bs 9 v0)
    (hseq : ∀ (l : Nat) (J : List ByteArray → World → Prop),
      (∀ pre x W, J pre W → pre.length < L.length → YieldAt Fence.wide 3 Tryd.prog l #[.string x] W fun e W' => e = .returned (.bool true) ∧ J (pre ++ [x]) W' ∧ ∀ v, Go.Boxed W Bs 9 v → Go.Boxed W' Bs 9 v) →
      (∀ pre W W', J pre W → StepB Bs W W' → J pre W') → ∀ W, Go.Boxed W Bs 9 v0 → J [] W →
      CallsIn Fence.wide 4 Tryd.prog gf (#[.func (.yield l) #[] #[]] ++ #[ptr]) W fun e W' => (∃ v, e = .returned v) ∧ J L W') :
    Calls Tryd.prog 41 #[.func (.func gf) #[] #[ptr]] w fun e w' => ∃ v0_ : Value, e = .returned (v0_) ∧ Kd.R Kd.string 9 w' w.heap.size (fun _ => True) v0_ L ∧ Below n₀ w w' := by
  obtain ⟨i0, hi, hz0, hz1, hz2⟩ := info_parts (show (Tryd.prog.info? 9).map (fun i => (i.zero, i.size, i.bytes)) = some (some (.string ⟨#[]⟩), 1, 16) by kernel_rfl)
  refine (callsIn_wide (n := 5)).1 ?_
  refine callsIn_of_wp_marks Tryd.func41 rfl trivial ?_ rfl
  simp only [Tryd.ntmps41, List.append_toArray, List.cons_append, List.nil_append, List.size_toArray, List.length_cons, List.length_nil, Nat.reduceAdd, Nat.reduceSub, Array.replicate_succ, Array.replicate_zero, List.push_toArray]
  gi_wp2
  have hlt := hb.lt
  have bO : Go.Boxed (w.alloc (.cells #[.slice none 0 0] 37)) w.heap.size 37 (.slice none 0 0) := Boxed.new _ _ _
  have hB0 : Below w.heap.size w (w.alloc (.cells #[.slice none 0 0] 37)) := (Below.refl _ w).alloc (Nat.le_refl _) _
  refine range_told 5 (by omega) (gf := gf) (lb := #[ptr]) rfl eg L (StepB Bs) (fun W W' => ∀ v, Go.Boxed W Bs 9 v → Go.Boxed W' Bs 9 v) (fun W => Go.Boxed W Bs 9 v0)
    (fun pre W => (∃ v, Go.Boxed W w.heap.size 37 v ∧ W.ownsRow w.heap.size 9 1 v pre.length (pre.map Value.string)) ∧ Below n₀ w W ∧ w.heap.size < W.heap.size) ?a1 hseq ?st ?ist ?ib ?ip ?kb ?kt ?kp ?i0 ?assign ?body ?done
  case a1 => exact fun x => { tmps := #[.func (.func gf) #[] #[ptr], undef, .slice none 0 0, .pointer (some ⟨w.heap.size, 0, none⟩), .string x, .func (.func gf) #[] #[ptr], .string x, undef, undef, undef, undef, undef], defers := [] }
  case assign =>
    intro l x W K hK
    gi_wp2
    exact hK
  case st =>
    rintro W W' (h | ⟨u, v, hu, rfl⟩) r o hr ho hc
    · exact (h.block r (Array.getElem?_eq_some_iff.1 ho).1).trans ho
    · refine (Below.heap_setCell _ _ _ _ ?_).trans ho
      simp only [World.size_alloc] at hr
      show r ≠ Bs
      omega
  case ist =>
    rintro pre W W' ⟨⟨v, hv, hrow⟩, hB, hsz⟩ (h | ⟨u, v', hu, rfl⟩)
    · exact ⟨⟨v, (h.block _ hv.lt).trans hv, pw_own_below hrow h⟩, hB.trans (h.mono (by omega)), Nat.lt_of_lt_of_le hsz h.size⟩
    · exact ⟨⟨v, hv.other (by omega) _, ownsRow_setCell_below hrow hlt _⟩, hB.setCell (p := ⟨Bs, 0, none⟩) hn₀ _, by simpa [World.setCell] using hsz⟩
  case ib =>
    rintro pre W W' ⟨⟨v, hv, hrow⟩, hB, hsz⟩ h
    exact ⟨⟨v, (h.block _ hv.lt).trans hv, pw_own_below hrow h⟩, hB.trans (h.mono (by omega)), Nat.lt_of_lt_of_le hsz h.size⟩
  case ip =>
    rintro pre W r o o' ⟨⟨v, hv, hrow⟩, hB, hsz⟩ hr ho hc
    simp only [World.size_alloc] at hr
    exact ⟨⟨v, (World.putObj_heap_other (by omega)).trans hv, ownsRow_putObj hrow _ ho hc⟩, hB.trans ⟨rfl, rfl, rfl, by simp, fun k hk => World.putObj_heap_other (by omega)⟩, by simpa using hsz⟩
  case kb => exact fun W' h => (h.block _ (by simp; omega)).trans (hb.alloc _)
  case kt => exact fun h k v hv => k v (h v hv)
  case kp =>
    intro W r o' hr v hv
    simp only [World.size_alloc] at hr
    exact (World.putObj_heap_other (by omega)).trans hv
  case i0 => exact ⟨⟨_, bO, World.ownsRow_nil _ _ _ _⟩, hB0.mono (by omega), by simp⟩
  case body =>
    rintro l pre x W ⟨⟨v, hv, hrow⟩, hB, hsz⟩ hlt2
    have hc := hv.cell
    have hf := hv.frozen
    have hm : pre.length + 1 ≤ maxLen := by unfold maxLen; omega
    gi_wp2_with (gi_at_builtin; refine wpListIn_append_own _ rfl _ _ 37 rfl w.heap.size 9 i0 (.string ⟨#[]⟩) 1 16 Tryd.underlying37 hi hz0 hz1 hz2 rfl (by decide) _ _ _ rfl (hrow.alloc _) ⟨W.heap.size, 0, none⟩ 1 1 [.string x] rfl rfl (cell_one_new _ _ _) (by simp [Value.oneCell']) (by omega) (by omega) (by simp; omega) ?_; intro v' w1 hown' hgrow _; obtain ⟨g', cap', rfl⟩ := ownsRow_succ hown'; obtain ⟨hv1, hv2, hr2, hk2, hb2⟩ := hv.appended (by decide) hrow (by omega) (Nat.le_refl _) hown' hgrow; have hc1 := hv1.cell; have hf1 := hv1.frozen)
    exact ⟨hk2.from _, ⟨⟨_, hv2, by simpa using hr2⟩, hB.trans (hb2.mono (by omega)), by have h := hb2.size; simp [World.setCell] at h ⊢; omega⟩, fun u hu => (hb2.block _ hlt).trans hu⟩
  case done =>
    rintro D W hD ⟨⟨v, hv, hrow⟩, hB, hsz⟩ hK
    have hc := hv.cell
    have hf := hv.frozen
    simp only [World.size_alloc] at hD
    gi_wp2
    refine ⟨by simp, .inl ⟨_, _, rfl, run_takeDeferred hK, ?_⟩⟩
    exact ⟨_, results_tmp rfl _ _ _, v, rfl, Kd.R_of_own (ownsRow_putObj hrow _ hK rfl) (fun _ _ => trivial), hB.trans ⟨rfl, rfl, rfl, by simp, fun k hk => World.putObj_heap_other (by omega)⟩⟩
end
set_option maxHeartbeats 2000000 in
theorem text_Words.calls (a0 : ByteArray) (r : List ByteArray) (w : World) (h : text_Words.f a0 = some r) :
    Calls Tryd.prog 22 #[.string a0] w fun e w' => ∃ v0_ : Value, e = .returned (v0_) ∧ Kd.R Kd.string 9 w' w.heap.size (fun _ => True) v0_ r ∧ Below w.heap.size w w' := by
  unfold text_Words.f at h
  by_cases c : a0.size ≤ 1000000
  · rw [if_pos c] at h
    obtain rfl := Option.some.inj h
    clear h
    have hlen : ((Pl.wordsL (Pl.bl a0)).map Pl.ofL).length ≤ 1000000 := by
      have h1 := Pl.wordsL_len (Pl.bl a0)
      rw [← Pl.bl_size] at h1
      rw [List.length_map]
      omega
    have hlines : Calls Tryd.prog 42 #[.string a0] w fun e w' => e = .returned (.func (.func 62) #[] #[.pointer (some ⟨w.heap.size, 0, none⟩)]) ∧ w' = w.alloc (.cells #[.string a0] 9) := by
      go_enter Tryd.func42, Tryd.ntmps42
      go_wp2
      go_ret
      exact ⟨rfl, rfl⟩
    have hg := text_gather.calls (gf := 62) w.heap.size w.heap.size (.pointer (some ⟨w.heap.size, 0, none⟩)) _ hlen (enters_of Tryd.func62 (by kernel_rfl) rfl) (.string a0) (w.alloc (.cells #[.string a0] 9)) (Nat.le_refl _) (Boxed.new _ _ _)
      (fun l J hY hS W hb h0 => text_Words.iter 4 (by omega) l w.heap.size a0 c J (by simpa using hY) (fun pre W u v hj hb => hS _ _ _ hj (.inr ⟨u, v, hb, rfl⟩)) (fun pre W W' hj hb => hS _ _ _ hj (.inl hb)) W hb h0)
    generalize (Pl.wordsL (Pl.bl a0)).map Pl.ofL = L at hg hlen
    go_enter Tryd.func22, Tryd.ntmps22
    go_wp2_with (first | (go_at_call 42; refine hlines.mono ?_; rintro e w' ⟨rfl, rfl⟩) | (go_at_call 41; refine hg.mono ?_; rintro e w' ⟨v, rfl, hR, hB⟩))
    go_ret
    exact ⟨v, rfl, Kd.R_lower hR (by simp), ((Below.refl _ w).alloc (Nat.le_refl _) _).trans hB⟩
  · rw [if_neg c] at h
    exact absurd h (by simp)



end Go.Proofs.YthnholondnfjoaaDoor.PParse
