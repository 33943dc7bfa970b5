/- Plain laws on patterns: what is ahead of a sign and behind it, a stem in a text. -/
import Derived.Test.YtlfagipdhdcjlaaBytes
namespace Go.Proofs.Ytlfagipdhdcjlaa.Pl
open Go.Proofs

abbrev Bs := List UInt8
/-- What is ahead of the first c, and what is behind it. -/
def sp (c : UInt8) (p : Bs) : Bs × Bs := (p.takeWhile (· != c), (p.dropWhile (· != c)).tail)
theorem sp_eq (c : UInt8) (a b : Bs) (h : c ∉ a) : sp c (a ++ c :: b) = (a, b) := by
  have h1 : ∀ x ∈ a, (x != c) = true := fun x hx => by
    rw [bne_iff_ne]
    rintro rfl
    exact h hx
  unfold sp
  rw [List.takeWhile_append_of_pos h1, List.dropWhile_append_of_pos h1]
  simp
theorem cshape (c : UInt8) (p : Bs) : (p.count c = 0 ∧ c ∉ p) ∨ (∃ a b, p = a ++ c :: b ∧ c ∉ a ∧ c ∉ b ∧ p.count c = 1) ∨ (2 ≤ p.count c ∧ ∃ a b, p = a ++ c :: b ∧ c ∉ a) := by
  rcases ib_cases c p with ⟨_, h⟩ | ⟨a, b, rfl, ha, _⟩
  · exact .inl ⟨List.count_eq_zero.2 h, h⟩
  · right
    have e : (a ++ c :: b).count c = b.count c + 1 := by
      rw [List.count_append, List.count_cons_self, List.count_eq_zero.2 ha]
      omega
    by_cases hb : c ∈ b
    · have := List.count_pos_iff.2 hb
      exact .inr ⟨by omega, a, b, rfl, ha⟩
    · have := List.count_eq_zero.2 hb
      exact .inl ⟨a, b, rfl, ha, hb, by omega⟩
def unglue (a b s : Bs) : Option Bs :=
  if a.length + b.length ≤ s.length ∧ s.take a.length = a ∧ s.drop (s.length - b.length) = b then some ((s.drop a.length).take (s.length - a.length - b.length)) else none
theorem unglue_glue (a t b : Bs) : unglue a b (a ++ t ++ b) = some t := by
  unfold unglue
  have hl : (a ++ t ++ b).length = a.length + t.length + b.length := by simp [Nat.add_assoc]
  rw [if_pos]
  · rw [hl, List.append_assoc, List.drop_left, show a.length + t.length + b.length - a.length - b.length = t.length by omega, List.take_left]
  · refine ⟨by rw [hl]; omega, ?_, ?_⟩
    · rw [List.append_assoc, List.take_left]
    · rw [hl, show a.length + t.length + b.length - b.length = (a ++ t).length by simp; done, List.drop_left]
theorem glue_unglue {a b s t : Bs} (h : unglue a b s = some t) : s = a ++ t ++ b := by
  unfold unglue at h
  split at h
  · rename_i hc
    obtain ⟨h1, h2, h3⟩ := hc
    obtain rfl := Option.some.inj h
    have e : s.drop a.length = (s.drop a.length).take (s.length - a.length - b.length) ++ s.drop (s.length - b.length) := by
      have := (List.take_append_drop (s.length - a.length - b.length) (s.drop a.length)).symm
      rw [List.drop_drop, show a.length + (s.length - a.length - b.length) = s.length - b.length by omega] at this
      exact this
    rw [List.append_assoc]
    conv => lhs; rw [← List.take_append_drop a.length s, h2]
    congr 1
    rw [h3] at e
    exact e
  · exact absurd h (by simp)
theorem unglue_iff (a b s t : Bs) : unglue a b s = some t ↔ s = a ++ t ++ b := ⟨glue_unglue, fun h => h ▸ unglue_glue a t b⟩

/-- The stem, and whether there is one. -/
def mt (p s : Bs) : Bs × Bool :=
  if p = [] then ([], false)
  else if p.count 37 = 0 then ([], p == s)
  else if p.count 37 = 1 then (match unglue (sp 37 p).1 (sp 37 p).2 s with | some t => (t, true) | none => ([], false))
  else ([], false)
def fl (p t : Bs) : Bs := if p.count 37 = 1 then (sp 37 p).1 ++ t ++ (sp 37 p).2 else p
def sb (p q s : Bs) : Bs := if (mt p s).2 = true then fl q (mt p s).1 else s

theorem mt_nil (s : Bs) : mt [] s = ([], false) := by simp [mt]
theorem mt_shut {p s : Bs} (h : p ≠ []) (hc : p.count 37 = 0) : mt p s = ([], p == s) := by simp [mt, h, hc]
theorem mt_many {p s : Bs} (hc : 2 ≤ p.count 37) : mt p s = ([], false) := by
  unfold mt
  split
  · rfl
  · rw [if_neg (by omega), if_neg (by omega)]
theorem mt_open {a b s : Bs} (ha : (37 : UInt8) ∉ a) (hb : (37 : UInt8) ∉ b) : mt (a ++ 37 :: b) s = (match unglue a b s with | some t => (t, true) | none => ([], false)) := by
  have hc : (a ++ 37 :: b).count 37 = 1 := by rw [List.count_append, List.count_cons_self, List.count_eq_zero.2 ha, List.count_eq_zero.2 hb]
  unfold mt
  rw [if_neg (by simp), if_neg (by omega), if_pos hc, sp_eq 37 a b ha]
theorem count_open {a b : Bs} (ha : (37 : UInt8) ∉ a) (hb : (37 : UInt8) ∉ b) : (a ++ 37 :: b).count 37 = 1 := by rw [List.count_append, List.count_cons_self, List.count_eq_zero.2 ha, List.count_eq_zero.2 hb]
theorem fl_open {a b t : Bs} (ha : (37 : UInt8) ∉ a) (hb : (37 : UInt8) ∉ b) : fl (a ++ 37 :: b) t = a ++ t ++ b := by
  unfold fl
  rw [if_pos (count_open ha hb), sp_eq 37 a b ha]
theorem fl_shut {p t : Bs} (h : p.count 37 ≠ 1) : fl p t = p := by simp [fl, h]
/-- A stem is no longer than its text. -/
theorem mt_len (p s : Bs) : (mt p s).1.length ≤ s.length := by
  unfold mt
  split
  · simp
  split
  · simp
  split
  · split
    · rename_i t h
      rw [glue_unglue h]
      simp
      omega
    · simp
  · simp
theorem fl_len (p t : Bs) : (fl p t).length ≤ p.length + t.length := by
  unfold fl
  split
  · have h1 : (sp 37 p).1.length + (sp 37 p).2.length ≤ p.length := by
      rcases cshape 37 p with ⟨h, _⟩ | ⟨a, b, rfl, ha, _, _⟩ | ⟨h, _⟩
      · omega
      · rw [sp_eq 37 a b ha]; simp
      · omega
    simp
    omega
  · omega
/-- What is matched, filled with its stem, is itself. -/
theorem fl_mt {p s : Bs} (h : (mt p s).2 = true) : fl p (mt p s).1 = s := by
  rcases cshape 37 p with ⟨hc, hn⟩ | ⟨a, b, rfl, ha, hb, hc⟩ | ⟨hc, _⟩
  · by_cases hp : p = []
    · subst hp; simp [mt_nil] at h
    · rw [mt_shut hp hc] at h ⊢
      rw [fl_shut (by omega)]
      simpa using h
  · rw [mt_open ha hb] at h ⊢
    rw [fl_open ha hb]
    split at h
    · rename_i t e
      exact (glue_unglue e).symm
    · simp at h
  · rw [mt_many hc] at h
    simp at h
theorem mt_fl {p t : Bs} (h : p.count 37 = 1) : mt p (fl p t) = (t, true) := by
  rcases cshape 37 p with ⟨hc, hn⟩ | ⟨a, b, rfl, ha, hb, hc⟩ | ⟨hc, _⟩
  · omega
  · rw [fl_open ha hb, mt_open ha hb, unglue_glue]
  · omega
/-- Without a match the stem is empty. -/
theorem mt_no {p s : Bs} (h : (mt p s).2 = false) : (mt p s).1 = [] := by
  unfold mt at h ⊢
  split
  · rfl
  split
  · rfl
  split
  · split
    · rename_i h1 h2 h3 _ t e
      simp [h1, h3, e] at h
    · rfl
  · rfl
theorem mt_right {p s : Bs} (h : (mt p s).2 = true) : p ≠ [] ∧ p.count 37 ≤ 1 := by
  unfold mt at h
  split at h
  · simp at h
  · rename_i h0
    refine ⟨h0, ?_⟩
    split at h
    · omega
    · split at h
      · omega
      · simp at h
theorem sb_self (p s : Bs) : sb p p s = s := by
  unfold sb
  split
  · rename_i h; exact fl_mt h
  · rfl
theorem sb_turn {p q s : Bs} (hq : q.count 37 = 1) (h : (mt p s).2 = true) : sb q p (sb p q s) = s := by
  have e : sb p q s = fl q (mt p s).1 := by unfold sb; rw [if_pos h]
  rw [e]
  unfold sb
  rw [mt_fl hq]
  simp only [if_true]
  exact fl_mt h
/-- The number of the first pattern that matches. -/
def anyM (l : List Bs) (s : Bs) : Bool := l.any fun p => (mt p s).2
end Go.Proofs.Ytlfagipdhdcjlaa.Pl
