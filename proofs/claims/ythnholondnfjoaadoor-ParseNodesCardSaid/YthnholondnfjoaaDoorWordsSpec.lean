/- The words of a text, on lists of bytes: no program in sight. -/
import Derived.Test.YthnholondnfjoaaDoorBytes
import Derived.Lib.SlTrimSet
import Derived.Lib.IndexAny
namespace Go.Proofs.YthnholondnfjoaaDoor.Pl
open Go.Proofs Go.RowKit

theorem lit_size (a : Array UInt8) : (⟨a⟩ : ByteArray).size = a.size := rfl
def isBlank (c : UInt8) : Bool := [(32 : UInt8), 9].contains c
/-- A text's words: cur is what the word under way has. -/
def wordsGo : List UInt8 → List UInt8 → List (List UInt8)
  | cur, [] => if cur = [] then [] else [cur]
  | cur, c :: t => if isBlank c then (if cur = [] then wordsGo [] t else cur :: wordsGo [] t) else wordsGo (cur ++ [c]) t
def wordsL (s : List UInt8) : List (List UInt8) := wordsGo [] s
theorem wordsL_trim (s : List UInt8) : wordsL (Lib.trimLeftS s [32, 9]) = wordsL s := by
  unfold Lib.trimLeftS
  induction s with
  | nil => rfl
  | cons c t ih =>
    rw [List.dropWhile_cons]
    split
    · rename_i h
      rw [ih]
      unfold wordsL
      rw [wordsGo, if_pos (show isBlank c = true from h), if_pos rfl]
    · rfl
theorem wordsGo_app : ∀ (a cur t : List UInt8), (∀ c ∈ a, isBlank c = false) → wordsGo cur (a ++ t) = wordsGo (cur ++ a) t
  | [], cur, t, _ => by simp
  | c :: a, cur, t, h => by
    rw [List.cons_append, wordsGo, if_neg (by rw [h c (by simp)]; decide), wordsGo_app a _ t (fun x hx => h x (by simp [hx]))]
    simp
theorem wordsL_one (a : List UInt8) (ha : a ≠ []) (h : ∀ c ∈ a, isBlank c = false) : wordsL a = [a] := by
  have := wordsGo_app a [] [] h
  rw [List.append_nil, List.nil_append] at this
  unfold wordsL
  rw [this, wordsGo, if_neg ha]
theorem wordsL_cons (a : List UInt8) (x : UInt8) (t : List UInt8) (ha : a ≠ []) (h : ∀ c ∈ a, isBlank c = false) (hx : isBlank x = true) : wordsL (a ++ x :: t) = a :: wordsL (x :: t) := by
  unfold wordsL
  rw [wordsGo_app a [] _ h, List.nil_append, wordsGo, if_pos hx, if_neg ha, wordsGo, if_pos hx, if_pos rfl]
theorem wordsGo_len : ∀ (t cur : List UInt8), (wordsGo cur t).length ≤ t.length + (if cur = [] then 0 else 1)
  | [], cur => by
    unfold wordsGo
    split <;> simp
  | c :: t, cur => by
    unfold wordsGo
    split
    · have h0 := wordsGo_len t []
      split <;> simp at h0 ⊢ <;> omega
    · have h0 := wordsGo_len t (cur ++ [c])
      simp at h0 ⊢
      omega
theorem wordsL_len (s : List UInt8) : (wordsL s).length ≤ s.length := by have := wordsGo_len s []; simpa [wordsL] using this
/-- Where the first blank is: nowhere, or behind what has none. -/
theorem ia_cases : ∀ s : List UInt8, (Lib.indexAny s [32, 9] = -1 ∧ ∀ c ∈ s, isBlank c = false) ∨ ∃ a x t, s = a ++ x :: t ∧ (∀ c ∈ a, isBlank c = false) ∧ isBlank x = true ∧ Lib.indexAny s [32, 9] = (a.length : Int)
  | [] => .inl ⟨rfl, by simp⟩
  | c :: s => by
    by_cases h : isBlank c = true
    · exact .inr ⟨[], c, s, rfl, by simp, h, by rw [Lib.indexAny, if_pos (show ([32, 9] : List UInt8).contains c = true from h)]; rfl⟩
    · have hc : isBlank c = false := Bool.eq_false_iff.2 h
      rcases ia_cases s with ⟨e, hn⟩ | ⟨a, x, t, rfl, ha, hx, e⟩
      · refine .inl ⟨by rw [Lib.indexAny, if_neg (show ¬ ([32, 9] : List UInt8).contains c = true from h), e]; rfl, ?_⟩
        intro d hd
        rcases List.mem_cons.1 hd with rfl | hd
        · exact hc
        · exact hn d hd
      · refine .inr ⟨c :: a, x, t, rfl, ?_, hx, ?_⟩
        · intro d hd
          rcases List.mem_cons.1 hd with rfl | hd
          · exact hc
          · exact ha d hd
        · rw [Lib.indexAny, if_neg (show ¬ ([32, 9] : List UInt8).contains c = true from h), e]
          have hne : ((a.length : Int) == -1) = false := beq_eq_false_iff_ne.2 (by omega)
          rw [hne]
          simp
/-- One word off the front of a text that begins with no blank. -/
theorem words_step (s : List UInt8) (hs : s ≠ []) (hb : ∀ c, s.head? = some c → isBlank c = false) :
    (Lib.indexAny s [32, 9] = -1 ∧ wordsL s = [s]) ∨ ∃ a t, s = a ++ t ∧ a ≠ [] ∧ Lib.indexAny s [32, 9] = (a.length : Int) ∧ wordsL s = a :: wordsL t := by
  rcases ia_cases s with ⟨e, h⟩ | ⟨a, x, t, rfl, ha, hx, e⟩
  · exact .inl ⟨e, wordsL_one s hs h⟩
  · have hne : a ≠ [] := by
      rintro rfl
      have := hb x rfl
      rw [hx] at this
      exact absurd this (by decide)
    exact .inr ⟨a, x :: t, rfl, hne, e, wordsL_cons a x t hne ha hx⟩
theorem trim_head (s : List UInt8) : ∀ c, (Lib.trimLeftS s [32, 9]).head? = some c → isBlank c = false := by
  unfold Lib.trimLeftS
  induction s with
  | nil => intro c h; simp at h
  | cons x t ih =>
    intro c h
    rw [List.dropWhile_cons] at h
    split at h
    · exact ih c h
    · rename_i hx
      rw [List.head?_cons] at h
      obtain rfl := Option.some.inj h
      exact Bool.eq_false_iff.2 hx
end Go.Proofs.YthnholondnfjoaaDoor.Pl
