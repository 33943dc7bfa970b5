/- Where a text is cut, on lists of bytes: no program in sight. -/
import Derived.Test.YthnholondnfjoaaDoorBytes
namespace Go.Proofs.YthnholondnfjoaaDoor.Pl
open Go.Proofs Go.RowKit

/-- The first sign that a text begins with. -/
def signAt (signs : List (List UInt8)) (l : List UInt8) : Option (List UInt8) := signs.find? (fun sg => sg != [] && sg.isPrefixOf l)
/-- k: what closes what is open, the last one first; pre: what is behind. -/
def cutGo (signs : List (List UInt8)) : Nat → List UInt8 → List UInt8 → List UInt8 → List UInt8 × List UInt8 × List UInt8
  | 0, _, pre, rest => (pre ++ rest, [], [])
  | _ + 1, _, pre, [] => (pre, [], [])
  | f + 1, k, pre, c :: t =>
    if c = 36 ∧ t.head? = some 40 then cutGo signs f (41 :: k) (pre ++ [36, 40]) (t.drop 1)
    else if c = 36 ∧ t.head? = some 123 then cutGo signs f (125 :: k) (pre ++ [36, 123]) (t.drop 1)
    else if k.head? = some c then cutGo signs f k.tail (pre ++ [c]) t
    else match (if k = [] then signAt signs (c :: t) else none) with
      | some sg => (pre, sg, (c :: t).drop sg.length)
      | none => cutGo signs f k (pre ++ [c]) t
def cutL (signs : List (List UInt8)) (s : List UInt8) : List UInt8 × List UInt8 × List UInt8 := cutGo signs s.length [] [] s
theorem signAt_some {signs : List (List UInt8)} {l sg : List UInt8} (h : signAt signs l = some sg) : sg ∈ signs ∧ sg ≠ [] ∧ sg ++ l.drop sg.length = l := by
  unfold signAt at h
  have h1 := List.mem_of_find?_eq_some h
  have h2 := List.find?_some h
  simp only [Bool.and_eq_true, bne_iff_ne, List.isPrefixOf_iff_prefix] at h2
  obtain ⟨h3, t, ht⟩ := h2
  refine ⟨h1, h3, ?_⟩
  rw [← ht, List.drop_left]
/-- A text is what it is cut into; the sign is one of those; nothing is behind where there is none. -/
theorem cutGo_whole (signs : List (List UInt8)) : ∀ (f : Nat) (k pre rest : List UInt8), ∃ r, (cutGo signs f k pre rest).1 = pre ++ r ∧ r ++ ((cutGo signs f k pre rest).2.1 ++ (cutGo signs f k pre rest).2.2) = rest ∧
    ((cutGo signs f k pre rest).2.1 = [] → (cutGo signs f k pre rest).2.2 = []) ∧ ((cutGo signs f k pre rest).2.1 ≠ [] → (cutGo signs f k pre rest).2.1 ∈ signs)
  | 0, k, pre, rest => ⟨rest, rfl, by simp [cutGo], fun _ => rfl, fun h => absurd rfl h⟩
  | f + 1, k, pre, [] => ⟨[], by simp [cutGo], rfl, fun _ => rfl, fun h => absurd rfl h⟩
  | f + 1, k, pre, c :: t => by
    rw [cutGo]
    split
    · rename_i hc
      obtain ⟨r, h1, h2, h3⟩ := cutGo_whole signs f (41 :: k) (pre ++ [36, 40]) (t.drop 1)
      refine ⟨[36, 40] ++ r, by rw [h1, List.append_assoc], ?_, h3⟩
      rw [List.append_assoc, h2, hc.1]
      cases t with
      | nil => simp at hc
      | cons d u => obtain ⟨rfl, hd⟩ := hc; simp at hd; rw [hd]; rfl
    · split
      · rename_i hc
        obtain ⟨r, h1, h2, h3⟩ := cutGo_whole signs f (125 :: k) (pre ++ [36, 123]) (t.drop 1)
        refine ⟨[36, 123] ++ r, by rw [h1, List.append_assoc], ?_, h3⟩
        rw [List.append_assoc, h2, hc.1]
        cases t with
        | nil => simp at hc
        | cons d u => obtain ⟨rfl, hd⟩ := hc; simp at hd; rw [hd]; rfl
      · split
        · obtain ⟨r, h1, h2, h3⟩ := cutGo_whole signs f k.tail (pre ++ [c]) t
          exact ⟨[c] ++ r, by rw [h1, List.append_assoc], by rw [List.append_assoc, h2]; rfl, h3⟩
        · split
          · rename_i sg hs
            have hk : k = [] := by
              by_cases e : k = []
              · exact e
              · rw [if_neg e] at hs
                exact absurd hs (by simp)
            rw [if_pos hk] at hs
            obtain ⟨h1, h2, h3⟩ := signAt_some hs
            exact ⟨[], by simp, by simpa using h3, fun e => absurd e h2, fun _ => h1⟩
          · obtain ⟨r, h1, h2, h3⟩ := cutGo_whole signs f k (pre ++ [c]) t
            exact ⟨[c] ++ r, by rw [h1, List.append_assoc], by rw [List.append_assoc, h2]; rfl, h3⟩
/-- Ahead of a sign of one byte there is none outside. -/
theorem cutGo_ahead (x : UInt8) : ∀ (f g : Nat) (k pre r b : List UInt8), r.length ≤ g → cutGo [[x]] f k pre (r ++ x :: b) = (pre ++ r, [x], b) → cutGo [[x]] g k pre r = (pre ++ r, [], [])
  | 0, g, k, pre, r, b, _, h => by
    rw [cutGo] at h
    have := congrArg (fun p => p.2.1) h
    simp at this
  | f + 1, g, k, pre, [], b, hg, h => by
    cases g <;> simp [cutGo]
  | f + 1, 0, k, pre, c :: r, b, hg, h => by simp at hg
  | f + 1, g + 1, k, pre, c :: r, b, hg, h => by
    have hg' : r.length ≤ g := by simp at hg; omega
    have far : ∀ (k' : List UInt8) (p' rest : List UInt8), cutGo [[x]] f k' (pre ++ p') rest = (pre ++ c :: r, [x], b) → p'.length ≤ (c :: r).length := by
      intro k' p' rest e
      obtain ⟨r', h1, _⟩ := cutGo_whole [[x]] f k' (pre ++ p') rest
      rw [e] at h1
      have := congrArg List.length h1
      simp at this ⊢
      omega
    rw [List.cons_append, cutGo] at h
    rw [cutGo]
    split at h
    · rename_i hc
      cases r with
      | nil =>
        have := far _ _ _ h
        simp at this
      | cons d u =>
        rw [if_pos (show c = 36 ∧ (d :: u).head? = some 40 from hc)]
        have hd : d = 40 := by have := hc.2; simpa using this
        have h' : cutGo [[x]] f (41 :: k) (pre ++ [36, 40]) (u ++ x :: b) = ((pre ++ [36, 40]) ++ u, [x], b) := by rw [hc.1, hd] at h; simpa using h
        rw [List.drop_one, List.tail_cons, cutGo_ahead x f g (41 :: k) (pre ++ [36, 40]) u b (by simp at hg'; omega) h', hc.1, hd]
        simp
    · rename_i hc
      split at h
      · rename_i hc2
        cases r with
        | nil =>
          have := far _ _ _ h
          simp at this
        | cons d u =>
          rw [if_neg (show ¬ (c = 36 ∧ (d :: u).head? = some 40) from hc), if_pos (show c = 36 ∧ (d :: u).head? = some 123 from hc2)]
          have hd : d = 123 := by have := hc2.2; simpa using this
          have h' : cutGo [[x]] f (125 :: k) (pre ++ [36, 123]) (u ++ x :: b) = ((pre ++ [36, 123]) ++ u, [x], b) := by rw [hc2.1, hd] at h; simpa using h
          rw [List.drop_one, List.tail_cons, cutGo_ahead x f g (125 :: k) (pre ++ [36, 123]) u b (by simp at hg'; omega) h', hc2.1, hd]
          simp
      · rename_i hc2
        have n1 : ¬ (c = 36 ∧ r.head? = some 40) := fun e => hc ⟨e.1, by cases r with | nil => simp at e | cons d u => exact e.2⟩
        have n2 : ¬ (c = 36 ∧ r.head? = some 123) := fun e => hc2 ⟨e.1, by cases r with | nil => simp at e | cons d u => exact e.2⟩
        rw [if_neg n1, if_neg n2]
        have step : ∀ k', cutGo [[x]] f k' (pre ++ [c]) (r ++ x :: b) = (pre ++ c :: r, [x], b) → cutGo [[x]] g k' (pre ++ [c]) r = (pre ++ c :: r, [], []) := by
          intro k' e
          have := cutGo_ahead x f g k' (pre ++ [c]) r b hg' (by rw [e]; simp)
          rw [this]
          simp
        split at h
        · rename_i hk
          rw [if_pos hk]
          exact step _ h
        · rename_i hk
          rw [if_neg hk]
          split at h
          · rename_i sg hs
            have := congrArg (fun p => p.1.length) h
            simp at this
          · rename_i hs
            have hs' : (if k = [] then signAt [[x]] (c :: r) else none) = none := by
              by_cases e : k = []
              · rw [if_pos e] at hs ⊢
                unfold signAt at hs ⊢
                simp [List.isPrefixOf] at hs ⊢
                exact hs
              · rw [if_neg e]
            rw [hs']
            exact step _ h
end Go.Proofs.YthnholondnfjoaaDoor.Pl
