/- Proved: GlobTurns: taking one pattern's text for the other's, and back, is nothing; a pattern for itself neither; at any two patterns and any text of the statement's bound. -/
import Derived.Test.YtlfagipdhdcjlaaGlobAnys
namespace Go.Proofs.Ytlfagipdhdcjlaa.Pure
set_option linter.unusedSimpArgs false
open Go.RowKit Go.Proofs.Ytlfagipdhdcjlaa.PGlob Go.Proofs.YtlfagipdhdcjlaaW.PrintWords Go.Proofs.YtlfagipdhdcjlaaW.PrintLast
open Go.Proofs.Ytlfagipdhdcjlaa.Pl

theorem sb_len (p q s : Bs) : (sb p q s).length ≤ q.length + s.length := by
  unfold sb
  split
  · have h1 := fl_len q (mt p s).1
    have h2 := mt_len p s
    omega
  · omega
theorem GlobTurns : cooperagelaw2_GlobTurns.Pure := by
  intro p q s _ _ _
  refine ⟨1000003, ?_⟩
  unfold cooperagelaw2_GlobTurns.f
  rw [shown_f]
  simp only [Option.bind_some, if_true]
  by_cases hp : (p.size : Int) > 300
  · rw [if_pos hp]
    simp [cooperagelaw2_GlobTurns.j0]
  rw [if_neg hp]
  by_cases hq : (q.size : Int) > 300
  · rw [if_pos hq]
    simp [cooperagelaw2_GlobTurns.j0]
  rw [if_neg hq]
  by_cases hs : (s.size : Int) > 300
  · rw [decide_eq_true hs]
    simp [cooperagelaw2_GlobTurns.j0]
  rw [decide_eq_false hs]
  have hls := bl_size s
  have hlp := bl_size p
  have hlq := bl_size q
  have hsb := sb_len (bl p) (bl q) (bl s)
  show cooperagelaw2_GlobTurns.j0 (1000002 + 1) p q s true false = some true
  simp only [cooperagelaw2_GlobTurns.j0]
  rw [if_neg (by decide), subst_f p p s (by omega) (by omega) (by omega)]
  simp only [Option.bind_some, bl_toList, bl_ofL]
  rw [if_pos (sb_self _ _), match_f p s (by omega) (by omega)]
  simp only [Option.bind_some]
  by_cases h : (mt (bl p) (bl s)).2 = true
  · rw [if_pos h, open_f, open_f]
    simp only [Option.bind_some]
    by_cases h1 : (bl p).count 37 = 1
    · rw [if_pos (decide_eq_true h1)]
      by_cases h2 : (bl q).count 37 = 1
      · rw [if_pos (decide_eq_true h2), subst_f p q s (by omega) (by omega) (by omega)]
        simp only [Option.bind_some]
        rw [subst_f q p _ (by omega) (by omega) (by rw [bl_size, bl_ofL]; omega)]
        simp only [Option.bind_some, bl_toList, bl_ofL]
        rw [sb_turn h2 h]
        simp
      · rw [if_neg (by simpa using h2)]
    · rw [if_neg (by simpa using h1)]
  · rw [if_neg h, subst_f p q s (by omega) (by omega) (by omega)]
    simp only [Option.bind_some, bl_toList, bl_ofL]
    have e : sb (bl p) (bl q) (bl s) = bl s := by
      unfold sb
      rw [if_neg h]
    rw [if_pos e, any_f [p] s (by simp) (by intro x hx; simp at hx; subst hx; omega) (by omega) _ (by omega)]
    simp [anyB, h]
end Go.Proofs.Ytlfagipdhdcjlaa.Pure
