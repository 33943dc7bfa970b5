/- Proved: GlobEnds: what is matched begins with what is ahead of the sign, ends with what is behind it, and has the stem between; at any two ends and any text of the statement's bound. -/
import Derived.Test.YtlfagipdhdcjlaaGlobRef
namespace Go.Proofs.Ytlfagipdhdcjlaa.Pure
open Go.RowKit Go.Proofs.Ytlfagipdhdcjlaa.PGlob Go.Proofs.YtlfagipdhdcjlaaW.PrintWords Go.Proofs.YtlfagipdhdcjlaaW.PrintLast
open Go.Proofs.Ytlfagipdhdcjlaa.Pl

/-- The last words of the law, by what they rest on. -/
theorem ends_end (a b s : ByteArray) (ha : a.size ≤ 100) (hb : b.size ≤ 100) (hs : s.size ≤ 300) (na : (37 : UInt8) ∉ bl a) (nb : (37 : UInt8) ∉ bl b) (k : Nat) (i : Int) (hi : ¬ i < ((a ++ b).size : Int)) :
    cooperagelaw2_GlobEnds.l0 (k + 1) a b s i = some true := by
  have hla := bl_size a
  have hlb := bl_size b
  have hls := bl_size s
  have ep : bl ((a ++ (⟨#[37]⟩ : ByteArray)) ++ b) = bl a ++ 37 :: bl b := by rw [bl_append, bl_append]; simp [bl]
  have es : bl ((a ++ s) ++ b) = bl a ++ bl s ++ bl b := by rw [bl_append, bl_append]
  have zp : ((a ++ (⟨#[37]⟩ : ByteArray)) ++ b).size = a.size + (b.size + 1) := by rw [bl_size, ep]; simp; omega
  have zs : ((a ++ s) ++ b).size = a.size + s.size + b.size := by rw [bl_size, es]; simp; omega
  have z1 : (a ++ (⟨#[37]⟩ : ByteArray)).size = a.size + 1 := by rw [bl_size, bl_append, hla]; simp [bl]
  have z2 : (a ++ s).size = a.size + s.size := by rw [bl_size, bl_append, hla, hls]; simp
  simp only [cooperagelaw2_GlobEnds.l0]
  rw [if_pos (by omega), if_neg hi, if_pos (by omega), if_pos (by omega), match_f _ s (by omega) (by omega), ep]
  simp only [Option.bind_some]
  rw [mt_open na nb]
  have m2 : glob_Match.f ((a ++ (⟨#[37]⟩ : ByteArray)) ++ b) ((a ++ s) ++ b) = some (s, true) := by
    rw [match_f _ _ (by omega) (by omega), ep, es, mt_open na nb, unglue_glue]
    simp [ofL_bl]
  rw [m2]
  simp only [Option.bind_some, bl_toList]
  have none_of : ¬ ((bl a).length + (bl b).length ≤ (bl s).length ∧ (bl s).take (bl a).length = bl a ∧ (bl s).drop ((bl s).length - (bl b).length) = bl b) → unglue (bl a) (bl b) (bl s) = none := fun c => by
    unfold unglue
    rw [if_neg c]
  by_cases h1 : (s.size : Int) ≥ (a.size : Int) + (b.size : Int)
  · have hw : wrap64 ((s.size : Int) - (b.size : Int)) = ((s.size - b.size : Nat) : Int) := by rw [wrap_sm] <;> omega
    rw [if_pos h1, if_pos (show (0 : Int) ≤ a.size by omega), if_pos (show (a.size : Int) ≤ s.size by omega), hw]
    rw [if_pos (show (0 : Int) ≤ ((s.size - b.size : Nat) : Int) by omega), if_pos (show ((s.size - b.size : Nat) : Int) ≤ s.size by omega), if_pos (show a.size + s.size ≤ 9223372036854775807 by omega), if_pos (show (a ++ s).size + b.size ≤ 9223372036854775807 by omega)]
    rw [Int.toNat_natCast, Int.toNat_natCast, bl_extract_from, bl_extract_to, bl_extract, hla, hlb, hls]
    by_cases h2 : (bl s).take (bl a).length = bl a
    · rw [if_pos h2]
      by_cases h3 : (bl s).drop ((bl s).length - (bl b).length) = bl b
      · have hc : (bl a).length + (bl b).length ≤ (bl s).length := by omega
        have e : unglue (bl a) (bl b) (bl s) = some (((bl s).drop (bl a).length).take ((bl s).length - (bl a).length - (bl b).length)) := by
          unfold unglue
          rw [if_pos ⟨hc, h2, h3⟩]
        rw [e]
        simp only [if_true, bl_ofL]
        rw [if_pos (by simp [h3]), if_pos (by omega), if_pos]
        · simp
        · rw [List.drop_take]
          congr 1
          omega
      · rw [none_of (fun c => h3 c.2.2)]
        simp [h3]
    · rw [none_of (fun c => h2 c.2.1), if_neg h2, if_pos (by omega), if_pos (by omega)]
      simp
  · rw [if_neg h1, if_pos (show a.size + s.size ≤ 9223372036854775807 by omega), if_pos (show (a ++ s).size + b.size ≤ 9223372036854775807 by omega), none_of (fun c => h1 (by omega))]
    simp
theorem ends_l0 (a b s : ByteArray) (ha : a.size ≤ 100) (hb : b.size ≤ 100) (hs : s.size ≤ 300) : ∀ (d k i : Nat), i + d = (bl (a ++ b)).length → d < k → (37 : UInt8) ∉ (bl (a ++ b)).take i →
    cooperagelaw2_GlobEnds.l0 k a b s i = some true := by
  have hla := bl_size a
  have hlb := bl_size b
  have hl := bl_size (a ++ b)
  have hsum : (bl (a ++ b)).length = a.size + b.size := by rw [bl_append, List.length_append]; omega
  intro d
  induction d with
  | zero =>
    intro k i hi hk hn
    obtain ⟨k, rfl⟩ : ∃ m, k = m + 1 := ⟨k - 1, by omega⟩
    rw [List.take_of_length_le (by omega), bl_append] at hn
    exact ends_end a b s ha hb hs (fun c => hn (List.mem_append_left _ c)) (fun c => hn (List.mem_append_right _ c)) k i (by omega)
  | succ d ih =>
    intro k i hi hk hn
    obtain ⟨k, rfl⟩ : ∃ m, k = m + 1 := ⟨k - 1, by omega⟩
    have hlt : i < (bl (a ++ b)).length := by omega
    simp only [cooperagelaw2_GlobEnds.l0]
    rw [if_pos (by omega), if_pos (show (i : Int) < ((a ++ b).size : Int) by omega), if_pos (show (0 : Int) ≤ i by omega), bt_nat _ i hlt, wrap_succ i (by omega)]
    by_cases h : (bl (a ++ b))[i] = 37
    · rw [if_pos (show (((bl (a ++ b))[i].toNat : Nat) : Int) = 37 from (u8_eq _ 37).2 h)]
    · rw [if_neg (show ¬ (((bl (a ++ b))[i].toNat : Nat) : Int) = 37 from fun e => h ((u8_eq _ 37).1 e))]
      refine ih k (i + 1) (by omega) (by omega) ?_
      rw [List.take_succ_eq_append_getElem hlt]
      simp only [List.mem_append, List.mem_singleton, not_or]
      exact ⟨hn, fun e => h e.symm⟩
theorem GlobEnds : cooperagelaw2_GlobEnds.Pure := by
  intro a b s _ _ _
  refine ⟨1000, ?_⟩
  unfold cooperagelaw2_GlobEnds.f
  rw [shown_f]
  simp only [Option.bind_some, if_true]
  by_cases ha : (a.size : Int) > 100
  · rw [if_pos ha]
    simp [cooperagelaw2_GlobEnds.j0]
  rw [if_neg ha]
  by_cases hb : (b.size : Int) > 100
  · rw [if_pos hb]
    simp [cooperagelaw2_GlobEnds.j0]
  rw [if_neg hb]
  by_cases hs : (s.size : Int) > 300
  · rw [decide_eq_true hs]
    simp [cooperagelaw2_GlobEnds.j0]
  rw [decide_eq_false hs]
  have hla := bl_size a
  have hlb := bl_size b
  simp only [cooperagelaw2_GlobEnds.j0]
  rw [if_neg (by decide)]
  exact ends_l0 a b s (by omega) (by omega) (by omega) (bl (a ++ b)).length 999 0 (by omega) (by rw [bl_append, List.length_append]; omega) (by simp)
end Go.Proofs.Ytlfagipdhdcjlaa.Pure
