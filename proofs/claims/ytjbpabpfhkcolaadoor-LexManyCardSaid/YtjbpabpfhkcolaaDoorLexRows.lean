/- What is so of every line that is told: no program in sight. -/
import Derived.Test.YtjbpabpfhkcolaaDoorLexSpec
namespace Go.Proofs.YtjbpabpfhkcolaaDoor.Pl
open Go.Proofs Go.RowKit

theorem mem_trR {l cs : List UInt8} {c : UInt8} (h : c ∈ Lib.trimRightS l cs) : c ∈ l := by
  unfold Lib.trimRightS at h
  exact List.mem_reverse.1 ((List.dropWhile_sublist _).subset (List.mem_reverse.1 h))
theorem mem_trL {l cs : List UInt8} {c : UInt8} (h : c ∈ Lib.trimLeftS l cs) : c ∈ l := (List.dropWhile_sublist _).subset h
theorem mem_tri {l : List UInt8} {c : UInt8} (h : c ∈ tri l) : c ∈ l := mem_trR (mem_trL h)
theorem mem_goes {l : List UInt8} {c : UInt8} (h : c ∈ (goesL l).1) : c ∈ l := by
  unfold goesL at h
  split at h
  · exact h
  · exact List.mem_of_mem_take h
theorem mem_join : ∀ (r : List (List UInt8)) (all : List UInt8) (on : Bool) (c : UInt8), c ∈ (joinL all on r).1 → c ∈ all ∨ c = 32 ∨ ∃ m ∈ r, c ∈ m
  | [], all, on, c, h => by rw [joinL_nil] at h; exact .inl h
  | m :: r, all, false, c, h => by rw [joinL_false] at h; exact .inl h
  | m :: r, all, true, c, h => by
    rw [joinL_cons] at h
    rcases mem_join r _ _ c h with h | h | ⟨x, hx, h⟩
    · rcases List.mem_append.1 h with h | h
      · exact .inl (mem_trR h)
      · rcases List.mem_cons.1 h with h | h
        · exact .inr (.inl h)
        · exact .inr (.inr ⟨m, by simp, mem_trL (mem_goes h)⟩)
    · exact .inr (.inl h)
    · exact .inr (.inr ⟨x, by simp [hx], h⟩)
theorem mem_cut35 {l : List UInt8} {c : UInt8} (h : c ∈ cut35 l) : c ∈ l := (List.takeWhile_prefix _).subset h
theorem cut35_none : ∀ (l : List UInt8), 35 ∉ cut35 l
  | [], h => by simp [cut35] at h
  | c :: l, h => by
    unfold cut35 at h
    rw [List.takeWhile_cons] at h
    split at h
    · rename_i hc
      rcases List.mem_cons.1 h with e | h
      · rw [← e] at hc
        exact absurd hc (by decide)
      · exact cut35_none l h
    · simp at h
theorem dw_head {p : UInt8 → Bool} : ∀ (l : List UInt8) (c : UInt8), (l.dropWhile p).head? = some c → p c = false
  | [], c, h => by simp at h
  | x :: l, c, h => by
    rw [List.dropWhile_cons] at h
    split at h
    · exact dw_head l c h
    · rename_i hx
      rw [List.head?_cons] at h
      obtain rfl := Option.some.inj h
      exact Bool.eq_false_iff.2 hx
theorem blank_ne {c : UInt8} (h : [(32 : UInt8), 9].contains c = false) : c ≠ 32 ∧ c ≠ 9 := by
  constructor <;> rintro rfl <;> exact absurd h (by decide)
theorem tri_head {l : List UInt8} {c : UInt8} (h : (tri l).head? = some c) : c ≠ 32 ∧ c ≠ 9 := blank_ne (dw_head _ c h)
theorem trR_last {l : List UInt8} {c : UInt8} (h : (triR l).getLast? = some c) : c ≠ 32 ∧ c ≠ 9 := by
  unfold triR Lib.trimRightS at h
  rw [List.getLast?_reverse] at h
  exact blank_ne (dw_head _ c h)
theorem tri_last {l : List UInt8} {c : UInt8} (h : (tri l).getLast? = some c) : c ≠ 32 ∧ c ≠ 9 := by
  refine trR_last (l := l) ?_
  obtain ⟨t, ht⟩ : (tri l) <:+ triR l := List.dropWhile_suffix _
  rw [← ht, List.getLast?_append, h]
  rfl
/-- What is so of a line that is told, of lines in which no byte is a line feed. -/
structure GoodRow (x : Row) : Prop where
  ne : x.text ≠ []
  head : ∀ c, x.text.head? = some c → c ≠ 32 ∧ c ≠ 9
  last : ∀ c, x.text.getLast? = some c → c ≠ 32 ∧ c ≠ 9
  feed : 10 ∉ x.text
  hash : x.tab = false → 35 ∉ x.text
theorem grp_good : ∀ (f a : Nat) (ls : List (List UInt8)), (∀ l ∈ ls, 10 ∉ l) → ∀ x ∈ grp f a ls, GoodRow x
  | 0, _, _, _, x, h => by simp [grp] at h
  | _ + 1, _, [], _, x, h => by simp [grp] at h
  | f + 1, a, l :: r, hn, x, h => by
    rw [grp] at h
    rcases List.mem_append.1 h with h | h
    · split at h
      · simp at h
      · rename_i hne
        rw [List.mem_singleton] at h
        subst h
        have hj : 10 ∉ (joinL (goesL l).1 (goesL l).2 r).1 := by
          intro h
          rcases mem_join r _ _ _ h with h | h | ⟨m, hm, h⟩
          · exact hn l (by simp) (mem_goes h)
          · exact absurd h (by decide)
          · exact hn m (by simp [hm]) h
        refine ⟨hne, fun c h => tri_head h, fun c h => tri_last h, fun h => hj ?_, fun ht h => ?_⟩
        · have h' := mem_tri h
          split at h'
          · exact h'
          · exact mem_cut35 h'
        · have h' := mem_tri h
          rw [show tabOf l = false from ht, if_neg (by decide)] at h'
          exact cut35_none _ h'
    · refine grp_good f _ _ (fun m hm => hn m ?_) x h
      rw [joinL_drop] at hm
      exact List.mem_cons_of_mem _ (List.mem_of_mem_drop hm)
/-- Numbers rise. -/
theorem grp_nos : ∀ (f a : Nat) (ls : List (List UInt8)), (∀ x ∈ grp f a ls, a < x.no ∧ x.no ≤ a + ls.length) ∧ (grp f a ls).Pairwise (fun x y => x.no < y.no)
  | 0, _, _ => by simp [grp]
  | _ + 1, _, [] => by simp [grp]
  | f + 1, a, l :: r => by
    have hj := joinL_len r (goesL l).1 (goesL l).2
    obtain ⟨h1, h2⟩ := grp_nos f (a + 1 + (r.length - (joinL (goesL l).1 (goesL l).2 r).2.length)) (joinL (goesL l).1 (goesL l).2 r).2
    rw [grp]
    constructor
    · intro x hx
      rw [List.length_cons]
      rcases List.mem_append.1 hx with hx | hx
      · split at hx
        · simp at hx
        · rw [List.mem_singleton] at hx
          subst hx
          dsimp only
          omega
      · have := h1 x hx
        omega
    · rw [List.pairwise_append]
      refine ⟨by split <;> simp, h2, fun x hx y hy => ?_⟩
      have := h1 y hy
      split at hx
      · simp at hx
      · rw [List.mem_singleton] at hx
        subst hx
        dsimp only
        omega
theorem grp_len : ∀ (f a : Nat) (ls : List (List UInt8)), (grp f a ls).length ≤ ls.length
  | 0, _, _ => by simp [grp]
  | _ + 1, _, [] => by simp [grp]
  | f + 1, a, l :: r => by
    have hj := joinL_len r (goesL l).1 (goesL l).2
    have h := grp_len f (a + 1 + (r.length - (joinL (goesL l).1 (goesL l).2 r).2.length)) (joinL (goesL l).1 (goesL l).2 r).2
    rw [grp, List.length_append, List.length_cons]
    split <;> simp <;> omega
theorem linesGo_feed : ∀ (t cur : List UInt8), 10 ∉ cur → ∀ l ∈ linesGo cur t, 10 ∉ l
  | [], cur, hc, l, h => by
    unfold linesGo at h
    split at h
    · simp at h
    · rw [List.mem_singleton] at h
      exact h ▸ hc
  | c :: t, cur, hc, l, h => by
    unfold linesGo at h
    split at h
    · rcases List.mem_cons.1 h with rfl | h'
      · exact hc
      · exact linesGo_feed t [] (by simp) l h'
    · rename_i hne
      exact linesGo_feed t (cur ++ [c]) (by simp [hc, Ne.symm hne]) l h
theorem linesGo_count : ∀ (t cur : List UInt8), (linesGo cur t).length ≤ t.count 10 + 1
  | [], cur => by
    unfold linesGo
    split <;> simp
  | c :: t, cur => by
    unfold linesGo
    split
    · rename_i hc
      have := linesGo_count t []
      subst hc
      simp
      omega
    · rename_i hc
      have := linesGo_count t (cur ++ [c])
      rw [List.count_cons_of_ne hc]
      omega
theorem rows_good (s : List UInt8) : (∀ x ∈ rowsOf s, GoodRow x ∧ 1 ≤ x.no ∧ x.no ≤ s.count 10 + 1) ∧ (rowsOf s).Pairwise (fun x y => x.no < y.no) := by
  have h1 := grp_nos (linesL s).length 0 (linesL s)
  have h2 := linesGo_count s []
  refine ⟨fun x hx => ⟨grp_good _ _ _ (linesGo_feed s [] (by simp)) x hx, ?_⟩, h1.2⟩
  have h3 := h1.1 x hx
  unfold linesL at h3
  omega
theorem chk_none : ∀ (rows : List Row) (n : Nat), chk n rows = none → ∀ x ∈ rows, x.text.length ≤ 1000
  | [], _, _, x, h => by simp at h
  | y :: t, n, h, x, hx => by
    unfold chk at h
    split at h
    · simp at h
    · rename_i hy
      rcases List.mem_cons.1 hx with rfl | hx
      · omega
      · exact chk_none t (n + 1) h x hx
theorem chk_some : ∀ (rows : List Row) (n m : Nat), chk n rows = some m → ∃ x ∈ rows, x.no = m
  | [], _, _, h => by simp [chk] at h
  | y :: t, n, m, h => by
    unfold chk at h
    split at h
    · exact ⟨y, by simp, Option.some.inj h⟩
    · obtain ⟨x, hx, e⟩ := chk_some t (n + 1) m h
      exact ⟨x, by simp [hx], e⟩
end Go.Proofs.YtjbpabpfhkcolaaDoor.Pl
