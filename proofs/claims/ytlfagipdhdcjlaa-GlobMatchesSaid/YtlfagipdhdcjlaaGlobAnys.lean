/- Whether one of some patterns matches: the program's answer and the document's, in plain words. -/
import Derived.Test.YtlfagipdhdcjlaaGlobRef
namespace Go.Proofs.Ytlfagipdhdcjlaa.Pure
open Go.RowKit Go.Proofs.Ytlfagipdhdcjlaa.PGlob Go.Proofs.YtlfagipdhdcjlaaW.PrintWords Go.Proofs.YtlfagipdhdcjlaaW.PrintLast
open Go.Proofs.Ytlfagipdhdcjlaa.Pl

def anyB (l : List ByteArray) (s : ByteArray) : Bool := l.any fun p => (mt (bl p) (bl s)).2
theorem anyB_cons (x : ByteArray) (l : List ByteArray) (s : ByteArray) : anyB (x :: l) s = ((mt (bl x) (bl s)).2 || anyB l s) := rfl
theorem any_l0 (l : List ByteArray) (s : ByteArray) (hl : l.length ≤ 1000000) (hb : ∀ p ∈ l, p.size ≤ 1000000) (hs : s.size ≤ 1000000) : ∀ (d k i : Nat), i + d = l.length → d < k →
    (glob_Idx.l0 k l s i).bind (fun t1 => some (decide (t1 ≥ 0))) = some (anyB (l.drop i) s) := by
  intro d
  induction d with
  | zero =>
    intro k i hi hk
    obtain ⟨k, rfl⟩ : ∃ m, k = m + 1 := ⟨k - 1, by omega⟩
    simp only [glob_Idx.l0]
    rw [if_neg (by omega), List.drop_eq_nil_of_le (by omega)]
    rfl
  | succ d ih =>
    intro k i hi hk
    obtain ⟨k, rfl⟩ : ∃ m, k = m + 1 := ⟨k - 1, by omega⟩
    have hlt : i < l.length := by omega
    simp only [glob_Idx.l0, glob_text_matched.f]
    rw [if_pos (show (i : Int) < l.length by omega), if_pos (show (0 : Int) ≤ i by omega), rdOf_nat _ l i hlt, wrap_succ i (by omega), drop_cons _ _ hlt, match_f _ s (hb _ (List.getElem_mem hlt)) hs]
    simp only [Option.bind_some]
    by_cases h : (mt (bl l[i]) (bl s)).2 = true
    · rw [if_pos h, anyB_cons, h]
      simp
    · rw [if_neg h, ih k (i + 1) (by omega) (by omega), anyB_cons, Bool.eq_false_iff.2 h, Bool.false_or]
theorem any_f (l : List ByteArray) (s : ByteArray) (hl : l.length ≤ 1000000) (hb : ∀ p ∈ l, p.size ≤ 1000000) (hs : s.size ≤ 1000000) (k : Nat) (hk : 1000001 ≤ k) : glob_Any.f k l s = some (anyB l s) := by
  unfold glob_Any.f
  have := any_l0 l s hl hb hs l.length k 0 (by omega) (by omega)
  simpa using this
theorem refAny_l0 (l : List ByteArray) (s : ByteArray) (hl : l.length ≤ 1000000) (hb : ∀ p ∈ l, p.size ≤ 1000000) (hs : s.size ≤ 1000000) : ∀ (d i : Nat), i + d = l.length →
    Ev (fun k => cooperageref2_Any.l0 k l s i) (anyB (l.drop i) s) := by
  intro d
  induction d with
  | zero =>
    intro i hi
    refine Ev.step (fun k => ?_) (Ev.now _)
    simp only [cooperageref2_Any.l0]
    rw [if_neg (by omega), List.drop_eq_nil_of_le (by omega)]
    rfl
  | succ d ih =>
    intro i hi
    have hlt : i < l.length := by omega
    refine Ev.step (f := fun k => (cooperageref2_Match.f k l[i] s).bind fun bt179 => (if bt179.2 = true then (some true) else (cooperageref2_Any.l0 k l s ((i + 1 : Nat) : Int)))) (fun k => ?_) (Ev.bind (refMatch _ s (hb _ (List.getElem_mem hlt)) hs) ?_)
    · simp only [cooperageref2_Any.l0]
      rw [if_pos (show (i : Int) < l.length by omega), if_pos (show (0 : Int) ≤ i by omega), rdOf_nat _ l i hlt, wrap_succ i (by omega)]
    · rw [drop_cons _ _ hlt]
      by_cases h : (mt (bl l[i]) (bl s)).2 = true
      · simp only [h, if_true]
        have e : anyB (l[i] :: l.drop (i + 1)) s = true := by rw [anyB_cons, h, Bool.true_or]
        rw [e]
        exact Ev.now _
      · simp only [h]
        have e : anyB (l[i] :: l.drop (i + 1)) s = anyB (l.drop (i + 1)) s := by rw [anyB_cons, Bool.eq_false_iff.2 h, Bool.false_or]
        rw [e]
        exact ih (i + 1) (by omega)
theorem refAny (l : List ByteArray) (s : ByteArray) (hl : l.length ≤ 1000000) (hb : ∀ p ∈ l, p.size ≤ 1000000) (hs : s.size ≤ 1000000) : Ev (fun k => cooperageref2_Any.f k l s) (anyB l s) := by
  have := refAny_l0 l s hl hb hs l.length 0 (by omega)
  simpa [cooperageref2_Any.f] using this
theorem refRight (p : ByteArray) (hp : p.size ≤ 1000000) (k : Nat) (hk : 1000002 ≤ k) : cooperageref2_Right.f k p = some (decide (bl p ≠ [] ∧ (bl p).count 37 ≤ 1)) := by
  unfold cooperageref2_Right.f
  rw [marks_f p hp k hk]
  simp only [Option.bind_some, bl_toList]
  by_cases h : bl p = []
  · rw [if_pos h]; simp [h]
  · rw [if_neg h, Option.some.injEq, Bool.eq_iff_iff]
    simp [h]
    omega
theorem refOpen (p : ByteArray) (hp : p.size ≤ 1000000) (k : Nat) (hk : 1000002 ≤ k) : cooperageref2_Open.f k p = some (decide ((bl p).count 37 = 1)) := by
  unfold cooperageref2_Open.f
  rw [marks_f p hp k hk]
  simp only [Option.bind_some, bl_toList]
  by_cases h : bl p = []
  · rw [if_pos h]; simp [h]
  · rw [if_neg h, Option.some.injEq, Bool.eq_iff_iff]
    simp
    omega
end Go.Proofs.Ytlfagipdhdcjlaa.Pure
