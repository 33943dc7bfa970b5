/- Trimming: what is trimmed off are blanks; cutting at a sign what is trimmed, or what is not. -/
import Derived.Test.YthnholondnfjoaaDoorRefPure
import Derived.Test.YthnholondnfjoaaDoorTrimCut
namespace Go.Proofs.YthnholondnfjoaaDoor.Pl
open Go.Proofs Go.RowKit

theorem trR_blanks (l q : List UInt8) (hq : ∀ c ∈ q, isBlank c = true) : trR (l ++ q) = trR l := by
  unfold trR Lib.trimRightS
  rw [List.reverse_append, List.dropWhile_append_of_pos (p := (([32, 9] : List UInt8).contains ·)) (fun c hc => hq c (List.mem_reverse.1 hc))]
theorem triB_cons (c : UInt8) (t : List UInt8) (h : isBlank c = true) : triB (c :: t) = triB t := by
  rw [tri_comm, tri_comm, trL_cons, if_pos h]
theorem triB_ahead : ∀ (p l : List UInt8), (∀ c ∈ p, isBlank c = true) → triB (p ++ l) = triB l
  | [], _, _ => rfl
  | c :: p, l, h => by
    rw [List.cons_append, triB_cons c _ (h c (by simp)), triB_ahead p l (fun d hd => h d (by simp [hd]))]
theorem triB_behind (l q : List UInt8) (hq : ∀ c ∈ q, isBlank c = true) : triB (l ++ q) = triB l := by
  show trL (trR (l ++ q)) = trL (trR l)
  rw [trR_blanks l q hq]
theorem tri_split (l : List UInt8) : ∃ p q, l = p ++ (triB l ++ q) ∧ (∀ c ∈ p, isBlank c = true) ∧ ∀ c ∈ q, isBlank c = true := by
  have h1 : l = trR l ++ (l.reverse.takeWhile (([32, 9] : List UInt8).contains ·)).reverse := by
    unfold trR Lib.trimRightS
    rw [← List.reverse_append, List.takeWhile_append_dropWhile, List.reverse_reverse]
  have h2 : trR l = (trR l).takeWhile (([32, 9] : List UInt8).contains ·) ++ triB l := by
    show trR l = _ ++ (trR l).dropWhile (([32, 9] : List UInt8).contains ·)
    rw [List.takeWhile_append_dropWhile]
  refine ⟨(trR l).takeWhile (([32, 9] : List UInt8).contains ·), (l.reverse.takeWhile (([32, 9] : List UInt8).contains ·)).reverse, ?_, ?_, ?_⟩
  · rw [← List.append_assoc, ← h2, ← h1]
  · exact fun c hc => List.all_eq_true.1 (List.all_takeWhile (p := (([32, 9] : List UInt8).contains ·))) c hc
  · intro c hc
    rw [List.mem_reverse] at hc
    exact List.all_eq_true.1 (List.all_takeWhile (p := (([32, 9] : List UInt8).contains ·))) c hc
theorem triB_head (l : List UInt8) : ∀ c, (triB l).head? = some c → isBlank c = false := by
  intro c h
  exact trim_head (trR l) c h
/-- Cut at a sign: of what is trimmed the same parts, but for blanks. -/
theorem cut_trim (x : UInt8) (hx : isBlank x = false) (l : List UInt8) :
    (cutL [[x]] l).2.1 = (cutL [[x]] (triB l)).2.1 ∧ triB (cutL [[x]] l).1 = triB (cutL [[x]] (triB l)).1 ∧ triB (cutL [[x]] l).2.2 = triB (cutL [[x]] (triB l)).2.2 := by
  obtain ⟨p, q, hl, hp, hq⟩ := tri_split l
  obtain ⟨r, w1, w2, w3, w4⟩ := cutGo_whole [[x]] (triB l).length [] [] (triB l)
  have e1 : cutL [[x]] l = (p ++ (cutL [[x]] (triB l ++ q)).1, (cutL [[x]] (triB l ++ q)).2) := by
    have := cutL_ahead x hx p (triB l ++ q) hp
    rw [← hl] at this
    exact this
  have e2 := cutL_behind x hx q (triB l) hq
  have w3' : (cutL [[x]] (triB l)).2.1 = [] → (cutL [[x]] (triB l)).2.2 = [] := w3
  rw [e1, e2]
  by_cases c : (cutL [[x]] (triB l)).2.1 = []
  · rw [if_pos c]
    dsimp only
    refine ⟨c.symm, ?_, ?_⟩
    · rw [triB_ahead p _ hp, triB_behind _ q hq]
    · rw [w3' c]
  · rw [if_neg c]
    dsimp only
    refine ⟨rfl, ?_, ?_⟩
    · rw [triB_ahead p _ hp]
    · rw [triB_behind _ q hq]
/-- What is trimmed has its first word ahead. -/
theorem first_word (l : List UInt8) (h : wordsL (triB l) ≠ []) : ∃ w q, triB l = w ++ q ∧ wordsL (triB l) = w :: wordsL q := by
  have hne : triB l ≠ [] := fun e => h (by rw [e]; rfl)
  rcases words_step (triB l) hne (triB_head l) with ⟨_, hw⟩ | ⟨a, t, hs, _, _, hw⟩
  · exact ⟨triB l, [], by rw [List.append_nil], hw⟩
  · exact ⟨a, t, hs, hw⟩
theorem words_nil (q : List UInt8) : triB q = [] ↔ wordsL q = [] := by
  constructor
  · intro e
    rw [← words_triB, e]
    rfl
  · intro e
    by_cases c : triB q = []
    · exact c
    · rcases words_step (triB q) c (triB_head q) with ⟨_, hw⟩ | ⟨a, t, _, _, _, hw⟩
      · rw [words_triB, e] at hw
        exact absurd hw (by simp)
      · rw [words_triB, e] at hw
        exact absurd hw (by simp)
end Go.Proofs.YthnholondnfjoaaDoor.Pl
