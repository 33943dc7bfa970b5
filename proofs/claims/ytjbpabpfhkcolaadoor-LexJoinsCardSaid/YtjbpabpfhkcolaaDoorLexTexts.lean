/- Lines that have one another's texts. -/
import Derived.Test.YtjbpabpfhkcolaaDoorPLexx5
import Derived.Test.YtjbpabpfhkcolaaDoorLexPure
import Derived.Test.YtjbpabpfhkcolaaDoorLexRows
namespace Go.Proofs.YtjbpabpfhkcolaaDoor.Pl
open Go.RowKit Go.Proofs.YtjbpabpfhkcolaaDoor.PLex Go.Proofs.YtjbpabpfhkcolaaDoorW.PrintWords Go.Proofs.YtjbpabpfhkcolaaDoorW.PrintLast

/-- A line without its number. -/
def tt (x : Row) : Bool × List UInt8 := (x.tab, x.text)
theorem texts_l0 (A B : List Row) (hA : A.length ≤ 1000000) (h : A.map tt = B.map tt) : ∀ d i, i + d = A.length → Ev (fun k => cooperagelaw8_texts.l0 k (A.map toS) (B.map toS) (i : Int)) true
  | 0, i, hi => by
    refine ⟨1, fun k hk => ?_⟩
    obtain ⟨m, rfl⟩ : ∃ m, k = m + 1 := ⟨k - 1, by omega⟩
    dsimp only
    rw [cooperagelaw8_texts.l0, if_neg (by rw [List.length_map]; omega)]
  | d + 1, i, hi => by
    have hlen : A.length = B.length := by have := congrArg List.length h; simpa using this
    have hiA : i < A.length := by omega
    have hiB : i < B.length := by omega
    have e : tt A[i] = tt B[i] := by
      have := congrArg (fun l => l[i]?) h
      simp only [List.getElem?_map, List.getElem?_eq_getElem hiA, List.getElem?_eq_getElem hiB, Option.map_some] at this
      exact Option.some.inj this
    have e1 : A[i].tab = B[i].tab := congrArg Prod.fst e
    have e2 : A[i].text = B[i].text := congrArg Prod.snd e
    obtain ⟨K, hK⟩ := texts_l0 A B hA h d (i + 1) (by omega)
    refine ⟨K + 1, fun k hk => ?_⟩
    obtain ⟨m, rfl⟩ : ∃ m, k = m + 1 := ⟨k - 1, by omega⟩
    have h1 := hK m (by omega)
    dsimp only at h1 ⊢
    rw [cooperagelaw8_texts.l0, if_pos (by rw [List.length_map]; omega), if_pos (by omega), if_pos (by rw [List.length_map]; omega), rd28 A i hiA, rd28 B i hiB,
      show (toS A[i]).f1 = (toS B[i]).f1 from e1, show (toS A[i]).f2 = (toS B[i]).f2 from congrArg ofL e2, if_neg (by simp), if_pos rfl, wrap_succ i (by omega)]
    exact h1
theorem texts_ev (A B : List Row) (hA : A.length ≤ 1000000) (h : A.map tt = B.map tt) : Ev (fun k => cooperagelaw8_texts.f k (A.map toS) (B.map toS)) true := by
  have hlen : A.length = B.length := by have := congrArg List.length h; simpa using this
  obtain ⟨K, hK⟩ := texts_l0 A B hA h A.length 0 (by omega)
  refine ⟨K, fun k hk => ?_⟩
  have h1 := hK k hk
  dsimp only at h1 ⊢
  unfold cooperagelaw8_texts.f
  rw [if_pos (by rw [List.length_map, List.length_map]; omega)]
  exact h1
theorem texts_nil : Ev (fun k => cooperagelaw8_texts.f k ([] : List S28) []) true := texts_ev [] [] (by simp) rfl
theorem chk_tt : ∀ (A B : List Row) (n : Nat), A.map tt = B.map tt → (chk n A = none ↔ chk n B = none)
  | [], [], n, _ => Iff.rfl
  | [], _ :: _, n, h => by simp at h
  | _ :: _, [], n, h => by simp at h
  | a :: A, b :: B, n, h => by
    simp only [List.map_cons, List.cons.injEq] at h
    have e : a.text = b.text := congrArg Prod.snd h.1
    unfold chk
    rw [e]
    split
    · simp
    · exact chk_tt A B (n + 1) h.2
/-- Two texts with the same lines, but for numbers: as the statements compare them. -/
theorem both_ev (s t : ByteArray) (hs : s.size ≤ 5000) (ht : t.size ≤ 5000) (h : (rowsOf (bl s)).map tt = (rowsOf (bl t)).map tt) :
    ∃ K : Nat, ∃ l l' : List S28, ∃ e n n' : Int, (∀ k, K ≤ k → lex_Lex.f k s = some (l, e, n) ∧ lex_Lex.f k t = some (l', e, n') ∧ cooperagelaw8_texts.f k l l' = some true) := by
  obtain ⟨K1, h1⟩ := lex_ev s hs
  obtain ⟨K2, h2⟩ := lex_ev t ht
  have hc := chk_tt _ _ 0 h
  have hlen : (rowsOf (bl s)).length ≤ 1000000 := by
    have h3 := grp_len (linesL (bl s)).length 0 (linesL (bl s))
    have h4 := linesL_len (bl s)
    rw [← bl_size] at h4
    unfold rowsOf
    omega
  cases c1 : chk 0 (rowsOf (bl s)) with
  | none =>
    have c2 := hc.1 c1
    obtain ⟨K3, h3⟩ := texts_ev _ _ hlen h
    refine ⟨K1 + K2 + K3, _, _, _, _, _, fun k hk => ⟨(h1 k (by omega)).trans (by rw [fin_none _ c1]), (h2 k (by omega)).trans (by rw [fin_none _ c2]), h3 k (by omega)⟩⟩
  | some n =>
    cases c2 : chk 0 (rowsOf (bl t)) with
    | none => rw [hc.2 c2] at c1; exact absurd c1 (by simp)
    | some n' =>
      obtain ⟨K3, h3⟩ := texts_nil
      exact ⟨K1 + K2 + K3, _, _, _, _, _, fun k hk => ⟨(h1 k (by omega)).trans (by rw [fin_some _ _ c1]), (h2 k (by omega)).trans (by rw [fin_some _ _ c2]), h3 k (by omega)⟩⟩
/-- Lines that do not go on. -/
def single (l : List UInt8) : List (Bool × List UInt8) := if textOf (tabOf l) l = [] then [] else [(tabOf l, textOf (tabOf l) l)]
def tts (ls : List (List UInt8)) : List (Bool × List UInt8) := (grp ls.length 0 ls).map tt
theorem grp_tt : ∀ (f a b : Nat) (ls : List (List UInt8)), (grp f a ls).map tt = (grp f b ls).map tt
  | 0, _, _, _ => rfl
  | _ + 1, _, _, [] => rfl
  | f + 1, a, b, l :: r => by
    rw [grp, grp, List.map_append, List.map_append, grp_tt f _ (b + 1 + (r.length - (joinL (goesL l).1 (goesL l).2 r).2.length))]
    congr 1
    split <;> rfl
theorem goesL_none {l : List UInt8} (h : 92 ∉ l) : goesL l = (l, false) := by
  have e : Lib.trimRightS l [92] = l := by
    unfold Lib.trimRightS
    cases hr : l.reverse with
    | nil => rw [List.dropWhile_nil, ← hr, List.reverse_reverse]
    | cons c t =>
      have hc : c ≠ 92 := fun e => h (by rw [← List.mem_reverse, hr, e]; simp)
      rw [List.dropWhile_cons, if_neg (by simp [hc]), ← hr, List.reverse_reverse]
  unfold goesL
  rw [e, Nat.sub_self, if_pos rfl]
/-- A line without a stroke stands for itself. -/
theorem tts_cons (l : List UInt8) (r : List (List UInt8)) (h : 92 ∉ l) : tts (l :: r) = single l ++ tts r := by
  unfold tts single
  rw [List.length_cons, grp, goesL_none h, joinL_false, List.map_append, grp_tt _ _ 0]
  congr 1
  split <;> rfl
theorem tts_app : ∀ (ls r : List (List UInt8)), (∀ l ∈ ls, 92 ∉ l) → tts (ls ++ r) = ls.flatMap single ++ tts r
  | [], r, _ => rfl
  | l :: ls, r, h => by
    rw [List.cons_append, tts_cons l _ (h l (by simp)), tts_app ls r (fun m hm => h m (by simp [hm])), List.flatMap_cons, List.append_assoc]
theorem rows_tt (s : List UInt8) : (rowsOf s).map tt = tts (linesL s) := rfl
/-- The lines of a text that ends with a line feed, ahead of another text. -/
theorem linesGo_split : ∀ (s cur : List UInt8), ∃ ls, (∀ t, linesGo cur (s ++ 10 :: t) = ls ++ linesL t) ∧ (∀ l ∈ ls, ∀ c ∈ l, c ∈ cur ∨ c ∈ s)
  | [], cur => ⟨[cur], fun t => by simp [linesGo, linesL], fun l hl c hc => .inl (by rw [List.mem_singleton] at hl; exact hl ▸ hc)⟩
  | x :: s, cur => by
    by_cases hx : x = 10
    · obtain ⟨ls, e, h⟩ := linesGo_split s []
      refine ⟨cur :: ls, fun t => by rw [List.cons_append, linesGo, if_pos hx, e t]; rfl, fun l hl c hc => ?_⟩
      rcases List.mem_cons.1 hl with rfl | hl
      · exact .inl hc
      · exact (h l hl c hc).elim (fun h => by simp at h) (fun h => .inr (by simp [h]))
    · obtain ⟨ls, e, h⟩ := linesGo_split s (cur ++ [x])
      refine ⟨ls, fun t => by rw [List.cons_append, linesGo, if_neg hx, e t], fun l hl c hc => ?_⟩
      rcases h l hl c hc with h | h
      · rcases List.mem_append.1 h with h | h
        · exact .inl h
        · exact .inr (by rw [List.mem_singleton] at h; simp [h])
      · exact .inr (by simp [h])
end Go.Proofs.YtjbpabpfhkcolaaDoor.Pl
