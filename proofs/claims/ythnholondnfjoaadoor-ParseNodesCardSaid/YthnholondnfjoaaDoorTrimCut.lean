/- Cutting at one sign, and trimming: the ends' blanks change nothing but themselves. -/
import Derived.Test.YthnholondnfjoaaDoorCutSpec
import Derived.Test.YthnholondnfjoaaDoorWordsSpec
namespace Go.Proofs.YthnholondnfjoaaDoor.Pl
open Go.Proofs Go.RowKit

theorem cutGo_pre (signs : List (List UInt8)) : ∀ (f : Nat) (k p pre rest : List UInt8), cutGo signs f k (p ++ pre) rest = (p ++ (cutGo signs f k pre rest).1, (cutGo signs f k pre rest).2)
  | 0, k, p, pre, rest => by simp [cutGo]
  | f + 1, k, p, pre, [] => by simp [cutGo]
  | f + 1, k, p, pre, c :: t => by
    rw [cutGo, cutGo]
    split
    · rw [List.append_assoc]
      exact cutGo_pre signs f _ p _ _
    · split
      · rw [List.append_assoc]
        exact cutGo_pre signs f _ p _ _
      · split
        · rw [List.append_assoc]
          exact cutGo_pre signs f _ p _ _
        · split
          · rfl
          · rw [List.append_assoc]
            exact cutGo_pre signs f _ p _ _
/-- More rounds than there are bytes change nothing. -/
theorem cutGo_fuel (signs : List (List UInt8)) : ∀ (f g : Nat) (k pre rest : List UInt8), rest.length ≤ f → rest.length ≤ g → cutGo signs f k pre rest = cutGo signs g k pre rest
  | f, g, k, pre, [], _, _ => by cases f <;> cases g <;> simp [cutGo]
  | 0, g, k, pre, c :: t, h, _ => by simp at h
  | f + 1, 0, k, pre, c :: t, _, h => by simp at h
  | f + 1, g + 1, k, pre, c :: t, h1, h2 => by
    have a1 : t.length ≤ f := by simp at h1; omega
    have a2 : t.length ≤ g := by simp at h2; omega
    have b1 : (t.drop 1).length ≤ f := by rw [List.length_drop]; omega
    have b2 : (t.drop 1).length ≤ g := by rw [List.length_drop]; omega
    rw [cutGo, cutGo]
    split
    · exact cutGo_fuel signs f g _ _ _ b1 b2
    · split
      · exact cutGo_fuel signs f g _ _ _ b1 b2
      · split
        · exact cutGo_fuel signs f g _ _ _ a1 a2
        · split
          · rfl
          · exact cutGo_fuel signs f g _ _ _ a1 a2
theorem one_sign (x c : UInt8) (t : List UInt8) : signAt [[x]] (c :: t) = if c = x then some [x] else none := by
  by_cases h : c = x
  · subst h
    simp [signAt, List.isPrefixOf]
  · have h2 : (x == c) = false := beq_eq_false_iff_ne.2 (fun e => h e.symm)
    simp [signAt, List.isPrefixOf, h2, h]
theorem blank_ne (c : UInt8) (h : isBlank c = true) : c ≠ 36 ∧ c ≠ 40 ∧ c ≠ 123 ∧ c ≠ 41 ∧ c ≠ 125 := by
  simp [isBlank] at h
  rcases h with rfl | rfl <;> decide
/-- Blanks alone. -/
theorem cutGo_blanks (x : UInt8) (hx : isBlank x = false) : ∀ (b : List UInt8) (f : Nat) (k pre : List UInt8), (∀ c ∈ b, isBlank c = true) → (∀ c ∈ k, c = 41 ∨ c = 125) → b.length ≤ f → cutGo [[x]] f k pre b = (pre ++ b, [], [])
  | [], f, k, pre, _, _, _ => by cases f <;> simp [cutGo]
  | c :: b, 0, k, pre, _, _, h => by simp at h
  | c :: b, f + 1, k, pre, hb, hk, h => by
    obtain ⟨n1, _, _, n4, n5⟩ := blank_ne c (hb c (by simp))
    have hcx : c ≠ x := fun e => by
      have := hb c (by simp)
      rw [e, hx] at this
      exact absurd this (by decide)
    have hkc : ¬ (k.head? = some c) := fun e => by
      rcases hk c (List.mem_of_mem_head? e) with q | q
      · exact n4 q
      · exact n5 q
    rw [cutGo, if_neg (fun e => n1 e.1), if_neg (fun e => n1 e.1), if_neg hkc]
    have hs : (if k = [] then signAt [[x]] (c :: b) else none) = none := by
      split
      · rw [one_sign, if_neg hcx]
      · rfl
    rw [hs]
    simp only
    rw [cutGo_blanks x hx b f k (pre ++ [c]) (fun d hd => hb d (by simp [hd])) hk (by simp at h; omega), List.append_assoc]
    rfl
/-- Blanks behind a text stay behind what is behind. -/
theorem cutGo_end (x : UInt8) (hx : isBlank x = false) (b : List UInt8) (hb : ∀ c ∈ b, isBlank c = true) : ∀ (f : Nat) (k pre rest : List UInt8), (∀ c ∈ k, c = 41 ∨ c = 125) → (rest ++ b).length ≤ f →
    cutGo [[x]] f k pre (rest ++ b) = if (cutGo [[x]] f k pre rest).2.1 = [] then ((cutGo [[x]] f k pre rest).1 ++ b, [], []) else ((cutGo [[x]] f k pre rest).1, (cutGo [[x]] f k pre rest).2.1, (cutGo [[x]] f k pre rest).2.2 ++ b)
  | f, k, pre, [], hk, h => by
    have h1 : cutGo [[x]] f k pre [] = (pre, [], []) := by cases f <;> simp [cutGo]
    rw [h1, List.nil_append, cutGo_blanks x hx b f k pre hb hk (by simpa using h)]
    simp
  | 0, k, pre, c :: t, _, h => by simp at h
  | f + 1, k, pre, c :: t, hk, h => by
    have h' : (t ++ b).length ≤ f := by simp at h ⊢; omega
    have hh : ∀ z : UInt8, z = 40 ∨ z = 123 → ((t ++ b).head? = some z ↔ t.head? = some z) := by
      intro z hz
      cases t with
      | cons d u => simp
      | nil =>
        simp only [List.nil_append, List.head?_nil]
        refine ⟨fun e => ?_, fun e => by simp at e⟩
        obtain ⟨_, n2, n3, _, _⟩ := blank_ne z (hb z (List.mem_of_mem_head? e))
        rcases hz with q | q
        · exact absurd q n2
        · exact absurd q n3
    rw [List.cons_append, cutGo, cutGo]
    by_cases c1 : c = 36 ∧ t.head? = some 40
    · rw [if_pos c1, if_pos ⟨c1.1, (hh 40 (.inl rfl)).2 c1.2⟩]
      cases t with
      | nil => simp at c1
      | cons d u =>
        have := cutGo_end x hx b hb f (41 :: k) (pre ++ [36, 40]) u (fun z hz => by
          rcases List.mem_cons.1 hz with q | q
          · exact .inl q
          · exact hk z q) (by simp at h' ⊢; omega)
        exact this
    rw [if_neg c1, if_neg (fun e => c1 ⟨e.1, (hh 40 (.inl rfl)).1 e.2⟩)]
    by_cases c2 : c = 36 ∧ t.head? = some 123
    · rw [if_pos c2, if_pos ⟨c2.1, (hh 123 (.inr rfl)).2 c2.2⟩]
      cases t with
      | nil => simp at c2
      | cons d u =>
        have := cutGo_end x hx b hb f (125 :: k) (pre ++ [36, 123]) u (fun z hz => by
          rcases List.mem_cons.1 hz with q | q
          · exact .inr q
          · exact hk z q) (by simp at h' ⊢; omega)
        exact this
    rw [if_neg c2, if_neg (fun e => c2 ⟨e.1, (hh 123 (.inr rfl)).1 e.2⟩)]
    by_cases c3 : k.head? = some c
    · rw [if_pos c3, if_pos c3]
      exact cutGo_end x hx b hb f k.tail (pre ++ [c]) t (fun z hz => hk z (List.mem_of_mem_tail hz)) h'
    rw [if_neg c3, if_neg c3]
    by_cases c4 : k = []
    · rw [if_pos c4, if_pos c4, one_sign, one_sign]
      by_cases c5 : c = x
      · rw [if_pos c5]
        simp
      · rw [if_neg c5]
        exact cutGo_end x hx b hb f k (pre ++ [c]) t hk h'
    · rw [if_neg c4, if_neg c4]
      exact cutGo_end x hx b hb f k (pre ++ [c]) t hk h'
/-- Blanks ahead stay ahead. -/
theorem cutL_ahead (x : UInt8) (hx : isBlank x = false) : ∀ (b l : List UInt8), (∀ c ∈ b, isBlank c = true) → cutL [[x]] (b ++ l) = (b ++ (cutL [[x]] l).1, (cutL [[x]] l).2)
  | [], l, _ => rfl
  | c :: b, l, hb => by
    obtain ⟨n1, _⟩ := blank_ne c (hb c (by simp))
    have hcx : c ≠ x := fun e => by
      have := hb c (by simp)
      rw [e, hx] at this
      exact absurd this (by decide)
    have ih := cutL_ahead x hx b l (fun d hd => hb d (by simp [hd]))
    unfold cutL at ih ⊢
    rw [List.cons_append, List.length_cons, cutGo, if_neg (fun e => n1 e.1), if_neg (fun e => n1 e.1), if_neg (by simp), if_pos rfl, one_sign, if_neg hcx]
    simp only
    have := cutGo_pre [[x]] (b ++ l).length [] [c] [] (b ++ l)
    rw [List.append_nil] at this
    rw [List.nil_append, this, ih]
    rfl
theorem cutL_behind (x : UInt8) (hx : isBlank x = false) (b l : List UInt8) (hb : ∀ c ∈ b, isBlank c = true) :
    cutL [[x]] (l ++ b) = if (cutL [[x]] l).2.1 = [] then ((cutL [[x]] l).1 ++ b, [], []) else ((cutL [[x]] l).1, (cutL [[x]] l).2.1, (cutL [[x]] l).2.2 ++ b) := by
  have h := cutGo_end x hx b hb (l ++ b).length [] [] l (fun c h => by simp at h) (Nat.le_refl _)
  have e := cutGo_fuel [[x]] (l ++ b).length l.length [] [] l (by simp) (Nat.le_refl _)
  rw [e] at h
  exact h
end Go.Proofs.YthnholondnfjoaaDoor.Pl
