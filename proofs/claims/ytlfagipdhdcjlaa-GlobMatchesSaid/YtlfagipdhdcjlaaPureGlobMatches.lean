/- Proved: GlobMatches: whether a pattern is right, and open, its stem in a text, and whether one of some matches, is as the document says, at any texts of the statement's bound. -/
import Derived.Test.YtlfagipdhdcjlaaGlobAnys
namespace Go.Proofs.Ytlfagipdhdcjlaa.Pure
open Go.RowKit Go.Proofs.Ytlfagipdhdcjlaa.PGlob Go.Proofs.YtlfagipdhdcjlaaW.PrintWords Go.Proofs.YtlfagipdhdcjlaaW.PrintLast
open Go.Proofs.Ytlfagipdhdcjlaa.Pl

theorem GlobMatches : cooperagelaw2_GlobMatches.Pure := by
  intro p s l _ _ _ hl _
  apply Ev.rounds
  show Ev (fun k => cooperagelaw2_GlobMatches.f k p s l) true
  by_cases h : smallB (l ++ [p, s]) = true
  · have h' := of_decide_eq_true h
    have hb : ∀ x ∈ l, x.size ≤ 1000000 := fun x hx => by have := h'.2 x (List.mem_append_left _ hx); omega
    have hp : p.size ≤ 1000000 := by have := h'.2 p (by simp); omega
    have hs : s.size ≤ 1000000 := by have := h'.2 s (by simp); omega
    have hn : l.length ≤ 1000000 := by have := h'.1; simp at this; omega
    obtain ⟨K, hm⟩ := refMatch p s hp hs
    obtain ⟨K', ha⟩ := refAny l s hn hb hs
    refine ⟨max (max K K' + 1) 1000003, fun k hk => ?_⟩
    obtain ⟨k, rfl⟩ : ∃ m, k = m + 1 := ⟨k - 1, by omega⟩
    show cooperagelaw2_GlobMatches.f (k + 1) p s l = some true
    unfold cooperagelaw2_GlobMatches.f
    rw [shown_f]
    simp only [Option.bind_some, List.nil_append, List.length_nil, List.length_cons]
    rw [if_pos (by omega), if_pos (by omega), small_f _ _ (by omega), h]
    simp only [Option.bind_some, if_true, cooperagelaw2_GlobMatches.j0]
    rw [if_neg (by decide), match_f p s hp hs, show cooperageref2_Match.f k p s = _ from hm k (by omega), right_f, refRight p hp k (by omega), open_f, refOpen p hp k (by omega), any_f l s hn hb hs k (by omega), show cooperageref2_Any.f k l s = _ from ha k (by omega)]
    simp
  · refine ⟨43, fun k hk => ?_⟩
    obtain ⟨k, rfl⟩ : ∃ m, k = m + 1 := ⟨k - 1, by omega⟩
    show cooperagelaw2_GlobMatches.f (k + 1) p s l = some true
    unfold cooperagelaw2_GlobMatches.f
    rw [shown_f]
    simp only [Option.bind_some, List.nil_append, List.length_nil, List.length_cons]
    rw [if_pos (by omega), if_pos (by omega), small_f _ _ (by omega), Bool.eq_false_iff.2 h]
    simp only [Option.bind_some, if_true, cooperagelaw2_GlobMatches.j0]
    rfl
end Go.Proofs.Ytlfagipdhdcjlaa.Pure
