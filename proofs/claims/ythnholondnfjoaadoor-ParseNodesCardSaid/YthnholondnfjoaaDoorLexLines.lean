/- The lines of a text, on lists of bytes: no program in sight. -/
import Derived.Test.YthnholondnfjoaaDoorBytes
namespace Go.Proofs.YthnholondnfjoaaDoor.Pl
open Go.Proofs Go.RowKit

theorem lit_size (l : Array UInt8) : (⟨l⟩ : ByteArray).size = l.size := rfl
/-- A text's lines: cur is what the line under way has. -/
def linesGo : List UInt8 → List UInt8 → List (List UInt8)
  | cur, [] => if cur = [] then [] else [cur]
  | cur, c :: t => if c = 10 then cur :: linesGo [] t else linesGo (cur ++ [c]) t
def linesL (s : List UInt8) : List (List UInt8) := linesGo [] s
theorem linesGo_app : ∀ (a cur t : List UInt8), 10 ∉ a → linesGo cur (a ++ t) = linesGo (cur ++ a) t
  | [], cur, t, _ => by simp
  | c :: a, cur, t, h => by
    have hc : c ≠ 10 := fun e => h (by simp [e])
    rw [List.cons_append, linesGo, if_neg hc, linesGo_app a _ t (fun m => h (by simp [m]))]
    simp
theorem linesL_feed (a b : List UInt8) (h : 10 ∉ a) : linesL (a ++ 10 :: b) = a :: linesL b := by
  unfold linesL
  rw [linesGo_app a [] _ h, linesGo, if_pos rfl]
  simp
theorem linesL_last (a : List UInt8) (h : 10 ∉ a) (ha : a ≠ []) : linesL a = [a] := by
  have := linesGo_app a [] [] h
  unfold linesL
  rw [List.append_nil] at this
  rw [this, linesGo, if_neg (by simpa using ha)]
  simp
theorem linesL_nil : linesL [] = [] := by simp [linesL, linesGo]
theorem linesGo_len : ∀ (t cur : List UInt8), (linesGo cur t).length ≤ t.length + (if cur = [] then 0 else 1)
  | [], cur => by
    unfold linesGo
    split <;> simp
  | c :: t, cur => by
    unfold linesGo
    split
    · have := linesGo_len t []
      simp at this ⊢
      omega
    · have := linesGo_len t (cur ++ [c])
      simp at this ⊢
      omega
theorem linesL_len (s : List UInt8) : (linesL s).length ≤ s.length := by have := linesGo_len s []; simpa [linesL] using this
/-- One line off the front. -/
theorem linesL_step (s : List UInt8) (hs : s ≠ []) : ∃ a b, linesL s = a :: linesL b ∧ b.length < s.length ∧ 10 ∉ a ∧ ((s = a ∧ b = []) ∨ s = a ++ 10 :: b) := by
  rcases ib_cases 10 s with ⟨_, h⟩ | ⟨a, b, rfl, ha, _⟩
  · exact ⟨s, [], by rw [linesL_last s h hs, linesL_nil], by cases s <;> simp_all, h, .inl ⟨rfl, rfl⟩⟩
  · exact ⟨a, b, linesL_feed a b ha, by simp; omega, ha, .inr rfl⟩
end Go.Proofs.YthnholondnfjoaaDoor.Pl
