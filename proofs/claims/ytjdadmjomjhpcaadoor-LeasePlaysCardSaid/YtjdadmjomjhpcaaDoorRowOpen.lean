/- A law's slice arguments, opened as the printed contracts read them. -/
import Derived.Test.YtjdadmjomjhpcaaDoorWWords
import Derived.SizedLaws
import Derived.ChangeSlices
import Derived.SliceStrings
import Derived.Deep.Slices
namespace Go.Proofs.YtjdadmjomjhpcaaDoor.Pl
open Go.ChangeShapes Go.WideShapes Go.RowKit Go.Proofs.YtjdadmjomjhpcaaDoorW.PrintWords

section
variable {H : Type} {enc : TypeId × Value → H} {P : Program} {W : World} {base : Nat} {spare : Nat → Bool} {held : Bool} {t e : TypeId} {a : Option Addr} {len cap : Nat} {d : DataW H} {ps : List MemPlace}

/-- A slice argument is no longer than its weight allows. -/
theorem sized_len {ts : List TypeId} {ds : List (DataW H)} {j : Nat} (hsz : (DataW.weightsEach P ts ds).all (· ≤ reachBytes) = true) (ht : ts[j]? = some t) (hd : ds[j]? = some d) (hu : P.underlying t = some (.slice e)) {B : Nat} (hB : P.bytesOf e = B)
    (h : DataW.Trod enc P W base spare held t (.slice a len cap) d ps) : len * B ≤ 140737488351232 := by
  obtain ⟨fuel, hf⟩ := h
  rcases Deep.open_slice hu hf with ⟨hcs, _⟩ | ⟨x, l, c, m, n, D, Pl, hcs, _, _, _, _, hx, _⟩
  · simp [Value.cells] at hcs
    obtain ⟨_, rfl, _⟩ := hcs
    simp
  · simp [Value.cells] at hcs
    obtain ⟨_, rfl, _⟩ := hcs
    obtain ⟨hx, _⟩ := Prod.mk.inj hx
    subst hx
    have z := sized_slice hsz ht hd hu
    rw [hB] at z
    have h1 : len ≤ ((List.range len).map D).length + ((List.range (m - len)).map fun j => D (len + j)).length := by simp
    exact Nat.le_trans (Nat.mul_le_mul_right _ h1) z
/-- A []string, read. -/
theorem open_strs_C (hu : P.underlying t = some (.slice e)) (he : P.underlying e = some .string) (hc : P.cellsOf e = 1) (h : DataW.Trod enc P W base spare held t (.slice a len cap) d ps) :
    ∃ l : List ByteArray, len = l.length ∧ Kd.string.C W a l.length l ∧ l.length ≤ cap ∧ l.length ≤ 9223372036854775807 ∧ (∀ x ∈ l, x.size ≤ 9223372036854775807) := by
  obtain ⟨fuel, hf⟩ := h
  rcases open_strings hu he hc hf with ⟨hcs, _⟩ | ⟨x, l, c, ss, hcs, _, hl, hm, hz, _, hcell, hws⟩
  · simp [Value.cells] at hcs
    obtain ⟨_, rfl, rfl⟩ := hcs
    exact ⟨[], rfl, ⟨rfl, by simp, fun h => absurd h (by simp)⟩, by simp, by simp, by simp⟩
  · simp [Value.cells] at hcs
    obtain ⟨rfl, rfl, rfl⟩ := hcs
    have hle : len ≤ ss.length := by rw [hz]; split <;> omega
    have e1 : (ss.take len).length = len := by simp; omega
    have hm' : len ≤ 9223372036854775807 := Nat.le_trans hl hm
    refine ⟨ss.take len, e1.symm, ⟨rfl, by rw [e1]; exact hm', fun _ => ⟨x, rfl, fun j p hj => ⟨[.string p], rfl, rfl, fun i u hi => ?_⟩⟩⟩, by rw [e1]; exact hl, by rw [e1]; exact hm', fun y hy => hws y (List.mem_of_mem_take hy)⟩
    obtain ⟨hj1, hj2⟩ := List.getElem?_eq_some_iff.1 hj
    have hj3 : j < ss.length := by simp at hj1; omega
    have := hcell j hj3
    rw [List.getElem_take] at hj2
    rw [List.getD_eq_getElem?_getD, List.getElem?_eq_getElem hj3] at this
    cases i with
    | zero =>
      simp only [List.getElem?_cons_zero, Option.some.injEq] at hi
      rw [← hi, ← hj2]
      show W.cell? (x.add (j * 1 + 0)) = _
      simpa using this
    | succ i => simp at hi
/-- A slice of whole numbers, read. -/
theorem open_ints_C {k : IntKind} (hu : P.underlying t = some (.slice e)) (he : P.underlying e = some (.int k)) (hc : P.cellsOf e = 1) (h : DataW.Trod enc P W base spare held t (.slice a len cap) d ps) :
    ∃ l : List Int, len = l.length ∧ (Kd.int k).C W a l.length l ∧ l.length ≤ cap ∧ l.length ≤ 9223372036854775807 ∧ (∀ x ∈ l, (Lit.int k x).wf = true) := by
  obtain ⟨fuel, hf⟩ := h
  rcases open_ints hu he hc hf with ⟨hcs, _⟩ | ⟨x, l, c, zs, hcs, _, hl, hm, hz, _, hcell, hws⟩
  · simp [Value.cells] at hcs
    obtain ⟨_, rfl, rfl⟩ := hcs
    exact ⟨[], rfl, ⟨rfl, by simp, fun h => absurd h (by simp)⟩, by simp, by simp, by simp⟩
  · simp [Value.cells] at hcs
    obtain ⟨rfl, rfl, rfl⟩ := hcs
    have hle : len ≤ zs.length := by rw [hz]; split <;> omega
    have e1 : (zs.take len).length = len := by simp; omega
    have hm' : len ≤ 9223372036854775807 := Nat.le_trans hl hm
    refine ⟨zs.take len, e1.symm, ⟨rfl, by rw [e1]; exact hm', fun _ => ⟨x, rfl, fun j p hj => ⟨[.int k p], rfl, rfl, fun i u hi => ?_⟩⟩⟩, by rw [e1]; exact hl, by rw [e1]; exact hm', fun y hy => hws y (List.mem_of_mem_take hy)⟩
    obtain ⟨hj1, hj2⟩ := List.getElem?_eq_some_iff.1 hj
    have hj3 : j < zs.length := by simp at hj1; omega
    have := hcell j hj3
    rw [List.getElem_take] at hj2
    rw [List.getD_eq_getElem?_getD, List.getElem?_eq_getElem hj3] at this
    cases i with
    | zero =>
      simp only [List.getElem?_cons_zero, Option.some.injEq] at hi
      rw [← hi, ← hj2]
      show W.cell? (x.add (j * 1 + 0)) = _
      simpa using this
    | succ i => simp at hi
/-- A slice of whatever elements, read: one reading of an element is asked. -/
theorem open_row_C {α : Type} (k : Kd α) (Q : α → Prop) (hu : P.underlying t = some (.slice e)) (hc : P.cellsOf e = k.sz) (hk : ∀ (n : Nat) (cs : List Value) (y : DataW H × List MemPlace), DataW.trod enc P W base spare held n e cs = some y → ∃ x : α, k.K W x cs ∧ Q x)
    (h : DataW.Trod enc P W base spare held t (.slice a len cap) d ps) :
    ∃ l : List α, len = l.length ∧ k.C W a l.length l ∧ l.length ≤ cap ∧ l.length ≤ 9223372036854775807 ∧ (∀ x ∈ l, Q x) := by
  obtain ⟨fuel, hf⟩ := h
  rcases Deep.open_slice hu hf with ⟨hcs, _⟩ | ⟨x, l, c, m, n, D, Pl, hcs, _, hl, hm, hmm, _, hel⟩
  · simp [Value.cells] at hcs
    obtain ⟨_, rfl, rfl⟩ := hcs
    exact ⟨[], rfl, ⟨rfl, by simp, fun h => absurd h (by simp)⟩, by simp, by simp, by simp⟩
  · simp [Value.cells] at hcs
    obtain ⟨rfl, rfl, rfl⟩ := hcs
    have hlm : len ≤ m := by rw [hmm]; split <;> omega
    have hm' : len ≤ 9223372036854775807 := Nat.le_trans hl hm
    have each : ∀ i, i < len → ∃ z : α × List Value, W.cells? base (x.add (i * P.cellsOf e)) (P.cellsOf e) = some z.2 ∧ k.K W z.1 z.2 ∧ Q z.1 := fun i hi => by
      obtain ⟨cs', h1, h2⟩ := hel i (by omega)
      obtain ⟨y, h3, h4⟩ := hk _ _ _ h2
      exact ⟨(y, cs'), h1, h3, h4⟩
    obtain ⟨f, hfx⟩ : ∃ f : Fin len → α × List Value, ∀ i : Fin len, W.cells? base (x.add (i.val * P.cellsOf e)) (P.cellsOf e) = some (f i).2 ∧ k.K W (f i).1 (f i).2 ∧ Q (f i).1 := by
      classical
      exact ⟨fun i => Classical.choose (each i.val i.isLt), fun i => Classical.choose_spec (each i.val i.isLt)⟩
    have e1 : (List.ofFn fun i => (f i).1).length = len := by simp
    refine ⟨List.ofFn fun i => (f i).1, e1.symm, ⟨rfl, by rw [e1]; exact hm', fun _ => ⟨x, rfl, fun j p hj => ?_⟩⟩, by rw [e1]; exact hl, by rw [e1]; exact hm', fun y hy => ?_⟩
    · obtain ⟨hj1, hj2⟩ := List.getElem?_eq_some_iff.1 hj
      rw [e1] at hj1
      obtain ⟨h1, h2, _⟩ := hfx ⟨j, hj1⟩
      have hp : (f ⟨j, hj1⟩).1 = p := by rw [← hj2]; simp
      rw [hp] at h2
      refine ⟨(f ⟨j, hj1⟩).2, k.K_len h2, h2, fun i u hi => ?_⟩
      have hi' : i < P.cellsOf e := by
        have := (List.getElem?_eq_some_iff.1 hi).1
        rw [k.K_len h2, ← hc] at this
        exact this
      have := (World.cells?_some h1).2.2 i hi'
      rw [hi, Deep.add_add, hc] at this
      exact this
    · obtain ⟨i, rfl⟩ := List.mem_ofFn.1 hy
      exact (hfx i).2.2
end
end Go.Proofs.YtjdadmjomjhpcaaDoor.Pl
