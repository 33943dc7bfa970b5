/- Proved: GlobAny: one of two rows of patterns matches if one of the one row, or of the other one, does; the order does not matter; at any rows and any text of the statement's bound. -/
import Derived.Test.YtlfagipdhdcjlaaGlobAnys
namespace Go.Proofs.Ytlfagipdhdcjlaa.Pure
open Go.RowKit Go.Proofs.Ytlfagipdhdcjlaa.PGlob Go.Proofs.YtlfagipdhdcjlaaW.PrintWords Go.Proofs.YtlfagipdhdcjlaaW.PrintLast
open Go.Proofs.Ytlfagipdhdcjlaa.Pl

theorem anyB_append (l m : List ByteArray) (s : ByteArray) : anyB (l ++ m) s = (anyB l s || anyB m s) := by simp [anyB]
theorem GlobAny : cooperagelaw2_GlobAny.Pure := by
  intro l m s _ hl _ _ hm _ _
  refine ⟨1000003, ?_⟩
  unfold cooperagelaw2_GlobAny.f
  rw [shown_f, small_f _ _ (by omega), small_f _ _ (by omega)]
  simp only [Option.bind_some, if_true]
  by_cases h1 : smallB l = true
  · rw [if_pos h1]
    by_cases h2 : smallB m = true
    · rw [if_pos h2]
      by_cases hs : (s.size : Int) > 100
      · rw [decide_eq_true hs]
        show cooperagelaw2_GlobAny.j0 (1000002 + 1) l m s true true = some true
        simp only [cooperagelaw2_GlobAny.j0]
        rfl
      · rw [decide_eq_false hs]
        have h1' := of_decide_eq_true h1
        have h2' := of_decide_eq_true h2
        have key : ∀ r : List ByteArray, r.length ≤ 80 → (∀ x ∈ r, x.size ≤ 100) → glob_Any.f 1000002 r s = some (anyB r s) := fun r hr hb => any_f r s (by omega) (fun x hx => by have := hb x hx; omega) (by omega) _ (by omega)
        have hlm : ∀ x ∈ l ++ m, x.size ≤ 100 := fun x hx => (List.mem_append.1 hx).elim (h1'.2 x) (h2'.2 x)
        have hml : ∀ x ∈ m ++ l, x.size ≤ 100 := fun x hx => (List.mem_append.1 hx).elim (h2'.2 x) (h1'.2 x)
        show cooperagelaw2_GlobAny.j0 (1000002 + 1) l m s true false = some true
        simp only [cooperagelaw2_GlobAny.j0]
        rw [if_neg (by decide)]
        simp only [Option.bind_some, List.nil_append, List.length_nil]
        rw [if_pos (by omega), if_pos (by omega), if_pos (by omega), if_pos (by omega)]
        rw [key (l ++ m) (by simp; omega) hlm, key (m ++ l) (by simp; omega) hml, key l (by omega) h1'.2, key m (by omega) h2'.2, key [] (by simp) (by simp)]
        simp only [Option.bind_some, anyB_append]
        have e : anyB [] s = false := rfl
        rw [e]
        cases anyB l s <;> cases anyB m s <;> rfl
    · rw [if_neg h2]
      show cooperagelaw2_GlobAny.j0 (1000002 + 1) l m s true true = some true
      simp only [cooperagelaw2_GlobAny.j0]
      rfl
  · rw [if_neg h1]
    show cooperagelaw2_GlobAny.j0 (1000002 + 1) l m s true true = some true
    simp only [cooperagelaw2_GlobAny.j0]
    rfl
end Go.Proofs.Ytlfagipdhdcjlaa.Pure
