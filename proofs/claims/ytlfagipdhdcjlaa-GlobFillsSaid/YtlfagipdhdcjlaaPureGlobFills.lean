/- Proved: GlobFills: a pattern filled, and a text that one pattern takes and another one tells, are as the document says, at any three texts of the statement's bound. -/
import Derived.Test.YtlfagipdhdcjlaaGlobRef
namespace Go.Proofs.Ytlfagipdhdcjlaa.Pure
open Go.RowKit Go.Proofs.Ytlfagipdhdcjlaa.PGlob Go.Proofs.YtlfagipdhdcjlaaW.PrintWords Go.Proofs.YtlfagipdhdcjlaaW.PrintLast
open Go.Proofs.Ytlfagipdhdcjlaa.Pl

theorem GlobFills : cooperagelaw2_GlobFills.Pure := by
  intro p q s _ _ _
  apply Ev.rounds
  show Ev (fun k => cooperagelaw2_GlobFills.f k p q s) true
  by_cases h : smallB [p, q, s] = true
  · have h' := of_decide_eq_true h
    have hp : p.size ≤ 1000000 := by have := h'.2 p (by simp); omega
    have hq : q.size ≤ 1000000 := by have := h'.2 q (by simp); omega
    have hs : s.size ≤ 1000000 := by have := h'.2 s (by simp); omega
    obtain ⟨K, hr⟩ := refSubst p q s hp hq hs
    refine ⟨max (K + 1) 1000003, fun k hk => ?_⟩
    obtain ⟨k, rfl⟩ : ∃ m, k = m + 1 := ⟨k - 1, by omega⟩
    show cooperagelaw2_GlobFills.f (k + 1) p q s = some true
    unfold cooperagelaw2_GlobFills.f
    rw [shown_f, small_f _ _ (by omega), h]
    simp only [Option.bind_some, if_true, cooperagelaw2_GlobFills.j0]
    rw [if_neg (by decide), fill_f p s hp hs, refFill p s hp hs k (by omega), subst_f p q s hp hq hs, show cooperageref2_Subst.f k p q s = _ from hr k (by omega)]
    simp
  · refine ⟨43, fun k hk => ?_⟩
    obtain ⟨k, rfl⟩ : ∃ m, k = m + 1 := ⟨k - 1, by omega⟩
    show cooperagelaw2_GlobFills.f (k + 1) p q s = some true
    unfold cooperagelaw2_GlobFills.f
    rw [shown_f, small_f _ _ (by omega), Bool.eq_false_iff.2 h]
    simp only [Option.bind_some, if_true, cooperagelaw2_GlobFills.j0]
    rfl
end Go.Proofs.Ytlfagipdhdcjlaa.Pure
