/- LexMany: how many lines, and how long ones. -/
import Derived.Test.YtjbpabpfhkcolaaDoorPLexx8
import Derived.Test.YtjbpabpfhkcolaaDoorLexTexts
namespace Go.Proofs.YtjbpabpfhkcolaaDoor.Pl
open Go.RowKit Go.Proofs.YtjbpabpfhkcolaaDoor.PLex Go.Proofs.YtjbpabpfhkcolaaDoorW.PrintWords Go.Proofs.YtjbpabpfhkcolaaDoorW.PrintLast Go.Proofs.YtjbpabpfhkcolaaDoorW.PrintMore

/-- n lines of one byte. -/
def xs : Nat → List UInt8
  | 0 => []
  | n + 1 => xs n ++ [120, 10]
def ys (k : Nat) : List UInt8 := List.replicate k 121
theorem xs_len : ∀ n, (xs n).length = 2 * n
  | 0 => rfl
  | n + 1 => by rw [xs, List.length_append, xs_len n]; simp; omega
theorem xs_lines : ∀ n (t : List UInt8), linesL (xs n ++ t) = List.replicate n [120] ++ linesL t
  | 0, t => rfl
  | n + 1, t => by
    rw [xs, List.append_assoc, xs_lines n, show [120, 10] ++ t = [120] ++ 10 :: t by simp, linesL_feed [120] t (by decide), List.replicate_succ', List.append_assoc]
    rfl
theorem ys_lines (k : Nat) : linesL (ys k) = if k = 0 then [] else [ys k] := by
  by_cases h : k = 0
  · subst h
    rfl
  · rw [if_neg h, linesL_last (ys k) (by unfold ys; intro m; have := List.eq_of_mem_replicate m; exact absurd this (by decide)) (by unfold ys; cases k <;> simp_all [List.replicate_succ])]
def rowsX : Nat → Nat → List Row
  | _, 0 => []
  | a, n + 1 => ⟨a + 1, false, [120]⟩ :: rowsX (a + 1) n
theorem rowsX_len : ∀ n a, (rowsX a n).length = n
  | 0, a => rfl
  | n + 1, a => by rw [rowsX, List.length_cons, rowsX_len n]
theorem grp_x : ∀ (n f a : Nat) (t : List (List UInt8)), n + t.length ≤ f → grp f a (List.replicate n [120] ++ t) = rowsX a n ++ grp (f - n) (a + n) t
  | 0, f, a, t, h => rfl
  | n + 1, 0, a, t, h => by omega
  | n + 1, f + 1, a, t, h => by
    rw [List.replicate_succ, List.cons_append, grp, goesL_none (by decide), joinL_false]
    dsimp only
    rw [Nat.sub_self, if_neg (by decide), grp_x n f (a + 1 + 0) t (by omega), rowsX, show f + 1 - (n + 1) = f - n by omega, show a + 1 + 0 + n = a + (n + 1) by omega]
    rfl
theorem tri_ys (k : Nat) : tri (ys k) = ys k := by
  have hr : (ys k).reverse = ys k := List.reverse_replicate
  have hd : (ys k).dropWhile (fun c => [(32 : UInt8), 9].contains c) = ys k := by
    unfold ys
    cases k with
    | zero => rfl
    | succ k => rw [List.replicate_succ, List.dropWhile_cons, if_neg (by decide)]
  unfold tri Lib.trimS Lib.trimLeftS Lib.trimRightS
  rw [hr, hd, hr, hd]
theorem cut_ys (k : Nat) : cut35 (ys k) = ys k := cut35_no _ (by unfold ys; intro m; have := List.eq_of_mem_replicate m; exact absurd this (by decide))
theorem rows_many (n k : Nat) : rowsOf (xs n ++ ys k) = rowsX 0 n ++ (if k = 0 then [] else [⟨n + 1, false, ys k⟩]) := by
  unfold rowsOf
  rw [xs_lines, ys_lines, grp_x n _ 0 _ (by rw [List.length_append, List.length_replicate]; omega), List.length_append, List.length_replicate]
  congr 1
  by_cases h : k = 0
  · rw [if_pos h, if_pos h]
    cases n + ([] : List (List UInt8)).length - n <;> rfl
  · rw [if_neg h, if_neg h, List.length_singleton, Nat.add_sub_cancel_left, Nat.zero_add, grp, goesL_none (by unfold ys; intro m; have := List.eq_of_mem_replicate m; exact absurd this (by decide)), joinL_false]
    have ht : tabOf (ys k) = false := by
      unfold ys
      cases k with
      | zero => rfl
      | succ k => rfl
    have hx : textOf (tabOf (ys k)) (ys k) = ys k := by rw [ht]; unfold textOf; rw [if_neg (by decide), cut_ys, tri_ys]
    dsimp only
    rw [hx, if_neg (by unfold ys; cases k <;> simp_all [List.replicate_succ]), ht]
    rfl
theorem chk_x : ∀ (n a c : Nat) (t : List Row), c + n ≤ 300 → chk c (rowsX a n ++ t) = chk (c + n) t
  | 0, a, c, t, h => rfl
  | n + 1, a, c, t, h => by
    rw [rowsX, List.cons_append, chk, if_neg (by simp; omega), chk_x n (a + 1) (c + 1) t (by omega), show c + 1 + n = c + (n + 1) by omega]
theorem chk_x_bad : ∀ (n a c : Nat) (t : List Row), c ≤ 300 → 300 < c + n → chk c (rowsX a n ++ t) = some (a + (300 - c) + 1)
  | 0, a, c, t, h, h' => by omega
  | n + 1, a, c, t, h, h' => by
    rw [rowsX, List.cons_append, chk]
    by_cases e : 300 ≤ c
    · rw [if_pos (.inr e)]
      dsimp only
      congr 1
      omega
    · rw [if_neg (by simp; omega), chk_x_bad n (a + 1) (c + 1) t (by omega) (by omega)]
      congr 1
      omega
/-- What is told of the statement's text. -/
theorem many_fin (n k : Nat) : fin [] (rowsOf (xs n ++ ys k)) =
    if 300 < n then ([], 3, 301) else if 0 < k ∧ (n = 300 ∨ 1000 < k) then ([], 3, ((n + 1 : Nat) : Int)) else ((rowsOf (xs n ++ ys k)).map toS, 0, 0) := by
  by_cases h1 : 300 < n
  · rw [if_pos h1, fin_some _ 301 (by rw [rows_many, chk_x_bad n 0 0 _ (by omega) (by omega)])]
    rfl
  · rw [if_neg h1]
    have e := chk_x n 0 0 (if k = 0 then [] else [⟨n + 1, false, ys k⟩]) (by omega)
    have hl : (ys k).length = k := List.length_replicate
    by_cases h2 : 0 < k ∧ (n = 300 ∨ 1000 < k)
    · rw [if_pos h2, fin_some _ (n + 1) (by rw [rows_many, e, if_neg (by omega), chk, if_pos (by dsimp only; omega)])]
    · rw [if_neg h2, fin_none _ (by
        rw [rows_many, e]
        by_cases h3 : k = 0
        · rw [if_pos h3, chk]
        · rw [if_neg h3, chk, if_neg (by dsimp only; omega), chk])]
theorem ofL_app (a b : List UInt8) : ofL a ++ ofL b = ofL (a ++ b) := bl_inj (by rw [bl_append, bl_ofL, bl_ofL, bl_ofL])
theorem many_len (n k : Nat) : ((rowsOf (xs n ++ ys k)).map toS).length = n + (if k = 0 then 0 else 1) := by
  rw [List.length_map, rows_many, List.length_append, rowsX_len]
  split <;> rfl
theorem many_l1 (n kk : Nat) (hn : n ≤ 320) (hk : kk ≤ 1100) : ∀ d j, j + d = kk → Ev (fun k => cooperagelaw8_LexMany.l1 k true (n : Int) (kk : Int) (ofL (xs n)) (ofL (ys j)) (j : Int)) true
  | 0, j, h => by
    obtain rfl : j = kk := by omega
    have hx := xs_len n
    have hy : (ys j).length = j := List.length_replicate
    obtain ⟨K, hK⟩ := lex_ev (ofL (xs n ++ ys j)) (by rw [ofL_size, List.length_append]; omega)
    rw [bl_ofL, many_fin] at hK
    refine ⟨K + 1, fun k hk' => ?_⟩
    obtain ⟨m, rfl⟩ : ∃ m, k = m + 1 := ⟨k - 1, by omega⟩
    have h1 := hK m (by omega)
    have hl := many_len n j
    dsimp only at h1 ⊢
    rw [cooperagelaw8_LexMany.l1, if_neg (by omega), ofL_size, ofL_size, if_pos (by omega), ofL_app, h1]
    simp only [Option.bind_some, if_true]
    by_cases c1 : 300 < n
    · rw [if_pos c1, if_pos (by omega)]
      rfl
    · rw [if_neg c1, if_neg (by omega)]
      by_cases c2 : 0 < j
      · rw [if_pos (show (j : Int) > 0 by omega)]
        by_cases c3 : n = 300
        · rw [if_pos (show 0 < j ∧ (n = 300 ∨ 1000 < j) from ⟨c2, .inl c3⟩), if_pos (show (n : Int) = 300 by omega)]
          dsimp only
          rw [if_pos rfl, if_pos (by omega)]
          rfl
        · rw [if_neg (show ¬ (n : Int) = 300 by omega)]
          by_cases c4 : 1000 < j
          · rw [if_pos (show 0 < j ∧ (n = 300 ∨ 1000 < j) from ⟨c2, .inr c4⟩), if_pos (show (j : Int) > 1000 by omega)]
            dsimp only
            rw [if_pos rfl, if_pos (by omega)]
            rfl
          · rw [if_neg (show ¬ (0 < j ∧ (n = 300 ∨ 1000 < j)) by omega), if_neg (show ¬ (j : Int) > 1000 by omega)]
            dsimp only
            rw [if_pos rfl, if_pos rfl, hl, if_neg (by omega)]
            congr 1
            rw [beq_iff_eq]
            unfold mn
            split <;> omega
      · rw [if_neg (show ¬ (0 < j ∧ (n = 300 ∨ 1000 < j)) by omega), if_neg (show ¬ (j : Int) > 0 by omega)]
        dsimp only
        rw [if_pos rfl, if_pos rfl, hl, if_pos (by omega)]
        congr 1
        rw [beq_iff_eq]
        unfold mn
        split <;> omega
  | d + 1, j, h => by
    obtain ⟨K, hK⟩ := many_l1 n kk hn hk d (j + 1) (by omega)
    have hy : (ys j).length = j := List.length_replicate
    refine ⟨K + 1, fun k hk' => ?_⟩
    obtain ⟨m, rfl⟩ : ∃ m, k = m + 1 := ⟨k - 1, by omega⟩
    dsimp only
    rw [cooperagelaw8_LexMany.l1, if_pos (by omega), ofL_size, if_pos (by omega), show (ofL (ys j) ++ (⟨#[121]⟩ : ByteArray)) = ofL (ys (j + 1)) from bl_inj (by rw [bl_append, bl_ofL, bl_ofL]; unfold ys; rw [List.replicate_succ']; rfl), wrap_succ j (by omega)]
    exact hK m (by omega)
theorem many_l0 (n kk : Nat) (hn : n ≤ 320) (hk : kk ≤ 1100) : ∀ d i, i + d = n → Ev (fun k => cooperagelaw8_LexMany.l0 k true (n : Int) (kk : Int) (ofL (xs i)) (i : Int)) true
  | 0, i, h => by
    obtain rfl : i = n := by omega
    obtain ⟨K, hK⟩ := many_l1 i kk hn hk kk 0 (by omega)
    refine ⟨K + 1, fun k hk' => ?_⟩
    obtain ⟨m, rfl⟩ : ∃ m, k = m + 1 := ⟨k - 1, by omega⟩
    dsimp only
    rw [cooperagelaw8_LexMany.l0, if_neg (by omega)]
    exact hK m (by omega)
  | d + 1, i, h => by
    obtain ⟨K, hK⟩ := many_l0 n kk hn hk d (i + 1) (by omega)
    have hx := xs_len i
    refine ⟨K + 1, fun k hk' => ?_⟩
    obtain ⟨m, rfl⟩ : ∃ m, k = m + 1 := ⟨k - 1, by omega⟩
    dsimp only
    rw [cooperagelaw8_LexMany.l0, if_pos (by omega), ofL_size, if_pos (by omega), show (ofL (xs i) ++ (⟨#[120, 10]⟩ : ByteArray)) = ofL (xs (i + 1)) from bl_inj (by rw [bl_append, bl_ofL, bl_ofL]; rfl), wrap_succ i (by omega)]
    exact hK m (by omega)
theorem clamp (a : Int) (b : Nat) : ∃ n : Nat, mx 0 (mn a b) = (n : Int) ∧ n ≤ b := by
  refine ⟨(mx 0 (mn a b)).toNat, ?_, ?_⟩ <;> unfold mx mn <;> split <;> split <;> omega
end Go.Proofs.YtjbpabpfhkcolaaDoor.Pl
namespace Go.Proofs.YtjbpabpfhkcolaaDoor.Pure
open Go.RowKit Go.Proofs.YtjbpabpfhkcolaaDoor.PLex Go.Proofs.YtjbpabpfhkcolaaDoorW.PrintWords Go.Proofs.YtjbpabpfhkcolaaDoorW.PrintLast Go.Proofs.YtjbpabpfhkcolaaDoorW.PrintMore
open Go.Proofs.YtjbpabpfhkcolaaDoor.Pl
theorem LexMany : cooperagelaw8_LexMany.Pure := by
  intro a b _ _
  obtain ⟨K0, h0⟩ := shown_ev
  dsimp only at h0
  obtain ⟨n, en, hn⟩ := clamp a 320
  obtain ⟨kk, ek, hk⟩ := clamp b 1100
  obtain ⟨K, hK⟩ := many_l0 n kk hn hk n 0 (by omega)
  dsimp only at hK
  refine ⟨K0 + K, ?_⟩
  unfold cooperagelaw8_LexMany.f
  rw [h0 _ (by omega), show mx 0 (mn a 320) = (n : Int) from en, show mx 0 (mn b 1100) = (kk : Int) from ek]
  exact hK _ (by omega)
end Go.Proofs.YtjbpabpfhkcolaaDoor.Pure
