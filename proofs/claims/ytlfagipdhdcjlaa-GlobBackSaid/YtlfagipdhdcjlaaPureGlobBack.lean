/- Proved: GlobBack: an open pattern matches what it is filled with, with that stem; what is matched, filled with its stem, is itself; at any two texts of the statement's bound. -/
import Derived.Test.YtlfagipdhdcjlaaGlobRef
namespace Go.Proofs.Ytlfagipdhdcjlaa.Pure
open Go.RowKit Go.Proofs.Ytlfagipdhdcjlaa.PGlob Go.Proofs.YtlfagipdhdcjlaaW.PrintWords Go.Proofs.YtlfagipdhdcjlaaW.PrintLast
open Go.Proofs.Ytlfagipdhdcjlaa.Pl

theorem back_end (p s : ByteArray) (hp : p.size ≤ 300) (hs : s.size ≤ 300) :
    ((glob_Match.f p s).bind fun bt159 => (if bt159.2 = true then ((glob_Fill.f p bt159.1).bind fun t161 => (if t161.toList = s.toList then ((glob_Right.f p).bind fun t162 => (some t162)) else (some false))) else (if bt159.1.toList = ([] : List UInt8) then (some true) else (some false)))) = some true := by
  have hls := bl_size s
  rw [match_f p s (by omega) (by omega)]
  simp only [Option.bind_some]
  by_cases h : (mt (bl p) (bl s)).2 = true
  · rw [if_pos h, fill_f p _ (by omega) (by have := mt_len (bl p) (bl s); rw [bl_size, bl_ofL]; omega), right_f]
    simp only [Option.bind_some, bl_toList, bl_ofL]
    rw [if_pos (fl_mt h), decide_eq_true (mt_right h)]
  · rw [if_neg h, bl_toList, bl_ofL, if_pos (mt_no (Bool.eq_false_iff.2 h))]
theorem GlobBack : cooperagelaw2_GlobBack.Pure := by
  intro p s _ _
  refine ⟨2, ?_⟩
  unfold cooperagelaw2_GlobBack.f
  rw [shown_f]
  simp only [Option.bind_some, if_true]
  by_cases hp : (p.size : Int) > 300
  · rw [if_pos hp]
    simp [cooperagelaw2_GlobBack.j0]
  rw [if_neg hp]
  by_cases hs : (s.size : Int) > 300
  · rw [decide_eq_true hs]
    simp [cooperagelaw2_GlobBack.j0]
  rw [decide_eq_false hs]
  have hls := bl_size s
  have hlp := bl_size p
  have e := back_end p s (by omega) (by omega)
  simp only [cooperagelaw2_GlobBack.j0]
  rw [if_neg (by decide), open_f]
  simp only [Option.bind_some]
  by_cases hc : (bl p).count 37 = 1
  · rw [if_pos (decide_eq_true hc), fill_f p s (by omega) (by omega)]
    simp only [Option.bind_some]
    rw [match_f p _ (by omega) (by have := fl_len (bl p) (bl s); rw [bl_size, bl_ofL]; omega)]
    simp only [Option.bind_some, bl_ofL]
    rw [mt_fl hc]
    simp only [if_true, bl_toList, bl_ofL]
    rw [show ((bl s) != (bl s)) = false by simp]
    simp only [cooperagelaw2_GlobBack.j1]
    rw [if_neg (by decide)]
    exact e
  · rw [if_neg (by simpa using hc)]
    exact e
end Go.Proofs.Ytlfagipdhdcjlaa.Pure
