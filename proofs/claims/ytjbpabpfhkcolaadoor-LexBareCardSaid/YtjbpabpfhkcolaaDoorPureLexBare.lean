/- LexBare: what is so of every line that is told. -/
import Derived.Test.YtjbpabpfhkcolaaDoorPLexx4
import Derived.Test.YtjbpabpfhkcolaaDoorLexPure
import Derived.Test.YtjbpabpfhkcolaaDoorLexRows
namespace Go.Proofs.YtjbpabpfhkcolaaDoor.Pl
open Go.RowKit Go.Proofs.YtjbpabpfhkcolaaDoor.PLex Go.Proofs.YtjbpabpfhkcolaaDoorW.PrintWords Go.Proofs.YtjbpabpfhkcolaaDoorW.PrintLast

theorem bare_l0 (s : ByteArray) (x4 : List S28) (r : Bool) (hs : (bl s).length ≤ 5000) : ∀ (d i c : Nat), i + d = (bl s).length → c ≤ i + 1 →
    Ev (fun k => cooperagelaw8_LexBare.l1 k x4 ((c + ((bl s).drop i).count 10 : Nat) : Int) 0) r → Ev (fun k => cooperagelaw8_LexBare.l0 k s x4 (c : Int) (i : Int)) r
  | 0, i, c, h, hc, hr => by
    rw [List.drop_eq_nil_of_le (by omega), List.count_nil, Nat.add_zero] at hr
    obtain ⟨K, hK⟩ := hr
    refine ⟨K + 1, fun k hk => ?_⟩
    obtain ⟨m, rfl⟩ : ∃ m, k = m + 1 := ⟨k - 1, by omega⟩
    dsimp only
    rw [cooperagelaw8_LexBare.l0, if_neg (by rw [bl_size]; omega)]
    exact hK m (by omega)
  | d + 1, i, c, h, hc, hr => by
    have hi : i < (bl s).length := by omega
    by_cases hb : (bl s)[i] = 10
    · have e : c + ((bl s).drop i).count 10 = c + 1 + ((bl s).drop (i + 1)).count 10 := by
        rw [drop_cons _ i hi, hb, List.count_cons_self]
        omega
      rw [e] at hr
      obtain ⟨K, hK⟩ := bare_l0 s x4 r hs d (i + 1) (c + 1) (by omega) (by omega) hr
      refine ⟨K + 1, fun k hk => ?_⟩
      obtain ⟨m, rfl⟩ : ∃ m, k = m + 1 := ⟨k - 1, by omega⟩
      dsimp only
      rw [cooperagelaw8_LexBare.l0, if_pos (by rw [bl_size]; omega), if_pos (by omega), bt_nat s i hi, if_pos (by rw [hb]; rfl), wrap_succ i (by omega), wrap_succ c (by omega)]
      exact hK m (by omega)
    · have e : c + ((bl s).drop i).count 10 = c + ((bl s).drop (i + 1)).count 10 := by
        rw [drop_cons _ i hi, List.count_cons_of_ne hb]
      rw [e] at hr
      obtain ⟨K, hK⟩ := bare_l0 s x4 r hs d (i + 1) c (by omega) (by omega) hr
      refine ⟨K + 1, fun k hk => ?_⟩
      obtain ⟨m, rfl⟩ : ∃ m, k = m + 1 := ⟨k - 1, by omega⟩
      dsimp only
      rw [cooperagelaw8_LexBare.l0, if_pos (by rw [bl_size]; omega), if_pos (by omega), bt_nat s i hi, if_neg (n10 hb), wrap_succ i (by omega)]
      exact hK m (by omega)
theorem bare_l2 (rows : List Row) (n : Int) (i : Nat) (hi : i < rows.length) (hi2 : i ≤ 1000000) (g : GoodRow rows[i]) (hl : rows[i].text.length ≤ 1000) (r : Bool)
    (hr : Ev (fun k => cooperagelaw8_LexBare.l1 k (rows.map toS) n ((i + 1 : Nat) : Int)) r) :
    ∀ d j, j + d = rows[i].text.length → Ev (fun k => cooperagelaw8_LexBare.l2 k (rows.map toS) n (i : Int) (ofL rows[i].text) (j : Int)) r
  | 0, j, h => by
    obtain ⟨K, hK⟩ := hr
    refine ⟨K + 1, fun k hk => ?_⟩
    obtain ⟨m, rfl⟩ : ∃ m, k = m + 1 := ⟨k - 1, by omega⟩
    dsimp only
    rw [cooperagelaw8_LexBare.l2, if_neg (by rw [ofL_size]; omega), wrap_succ i (by omega)]
    exact hK m (by omega)
  | d + 1, j, h => by
    have hj : j < rows[i].text.length := by omega
    obtain ⟨K, hK⟩ := bare_l2 rows n i hi hi2 g hl r hr d (j + 1) (by omega)
    refine ⟨K + 1, fun k hk => ?_⟩
    obtain ⟨m, rfl⟩ : ∃ m, k = m + 1 := ⟨k - 1, by omega⟩
    have h1 := hK m (by omega)
    dsimp only at h1 ⊢
    have hm : rows[i].text[j] ∈ rows[i].text := List.getElem_mem hj
    have h10 : rows[i].text[j] ≠ 10 := fun e => g.feed (e ▸ hm)
    rw [cooperagelaw8_LexBare.l2, if_pos (by rw [ofL_size]; omega), if_pos (by omega), bt_ofL _ j hj, if_neg (n10 h10), wrap_succ j (by omega)]
    by_cases h35 : rows[i].text[j] = 35
    · have ht : rows[i].tab = true := by
        cases ht : rows[i].tab with
        | true => rfl
        | false => exact absurd (h35 ▸ hm) (g.hash ht)
      rw [if_pos (by rw [h35]; rfl), if_pos (by omega), if_pos (by rw [List.length_map]; omega), rd28 rows i hi, if_pos (show (toS rows[i]).f1 = true from ht)]
      exact h1
    · rw [if_neg (n35 h35)]
      exact h1
theorem bare_l1 (rows : List Row) (n : Nat) (hn : rows.length ≤ 1000000) (hg : ∀ x ∈ rows, GoodRow x ∧ 1 ≤ x.no ∧ x.no ≤ n) (hp : rows.Pairwise (fun x y => x.no < y.no)) (hl : ∀ x ∈ rows, x.text.length ≤ 1000) :
    ∀ d i, i + d = rows.length → Ev (fun k => cooperagelaw8_LexBare.l1 k (rows.map toS) (n : Int) (i : Int)) true
  | 0, i, h => by
    refine ⟨1, fun k hk => ?_⟩
    obtain ⟨m, rfl⟩ : ∃ m, k = m + 1 := ⟨k - 1, by omega⟩
    dsimp only
    rw [cooperagelaw8_LexBare.l1, if_neg (by rw [List.length_map]; omega)]
  | d + 1, i, h => by
    have hi : i < rows.length := by omega
    obtain ⟨g, g1, g2⟩ := hg _ (List.getElem_mem hi)
    have g3 := hl _ (List.getElem_mem hi)
    obtain ⟨K, hK⟩ := bare_l2 rows n i hi (by omega) g g3 true (bare_l1 rows n hn hg hp hl d (i + 1) (by omega)) rows[i].text.length 0 (by omega)
    have hne := g.ne
    have hpos : 0 < rows[i].text.length := by
      cases e : rows[i].text with
      | nil => exact absurd e hne
      | cons c t => simp
    have hh := g.head rows[i].text[0] (by rw [List.head?_eq_getElem?, List.getElem?_eq_getElem hpos])
    have hlast := g.last (rows[i].text[rows[i].text.length - 1]'(by omega)) (by rw [List.getLast?_eq_getElem?, List.getElem?_eq_getElem])
    have hw : wrap64 ((rows[i].text.length : Int) - 1) = ((rows[i].text.length - 1 : Nat) : Int) := by rw [wrap_sm (by omega) (by omega)]; omega
    have key : ∀ k, K + 2 ≤ k → cooperagelaw8_LexBare.j3 k (rows.map toS) (n : Int) (i : Int) (ofL rows[i].text) false = some true := by
      intro k hk
      obtain ⟨m, rfl⟩ : ∃ m, k = m + 1 + 1 := ⟨k - 2, by omega⟩
      have h1 := hK m (by omega)
      dsimp only at h1
      rw [cooperagelaw8_LexBare.j3, if_neg (by decide), ofL_size, if_pos (by omega), show bt (ofL rows[i].text) 0 = (rows[i].text[0].toNat : Int) from bt_ofL _ 0 hpos, if_neg (n32 hh.1), if_neg (n9 hh.2), hw, if_pos (by omega), if_pos (by omega),
        bt_ofL _ (rows[i].text.length - 1) (by omega), if_neg (n32 hlast.1),
        show (((rows[i].text[rows[i].text.length - 1]'(by omega)).toNat : Int) == 9) = false from beq_eq_false_iff_ne.2 (n9 hlast.2), cooperagelaw8_LexBare.j4, if_neg (by decide)]
      exact h1
    refine ⟨K + 3, fun k hk => ?_⟩
    obtain ⟨m, rfl⟩ : ∃ m, k = m + 1 := ⟨k - 1, by omega⟩
    dsimp only
    rw [cooperagelaw8_LexBare.l1, if_pos (by rw [List.length_map]; omega), if_pos (by omega), rd28 rows i hi]
    rw [show (toS rows[i]).f2 = ofL rows[i].text from rfl, show (toS rows[i]).f0 = (rows[i].no : Int) from rfl, bl_toList, bl_ofL, if_neg hne, ofL_size, if_neg (by omega), if_neg (by omega), if_neg (by omega)]
    by_cases h0 : i = 0
    · rw [if_neg (by omega)]
      exact key m (by omega)
    · have hlt : rows[i - 1].no < rows[i].no := List.pairwise_iff_getElem.1 hp (i - 1) i (by omega) hi (by omega)
      rw [if_pos (by omega), show wrap64 ((i : Int) - 1) = ((i - 1 : Nat) : Int) by rw [wrap_sm (by omega) (by omega)]; omega, if_pos (by omega), if_pos (by rw [List.length_map]; omega), rd28 rows (i - 1) (by omega),
        show (toS rows[i - 1]).f0 = (rows[i - 1].no : Int) from rfl, show decide ((rows[i].no : Int) ≤ (rows[i - 1].no : Int)) = false from decide_eq_false (by omega)]
      exact key m (by omega)
end Go.Proofs.YtjbpabpfhkcolaaDoor.Pl
namespace Go.Proofs.YtjbpabpfhkcolaaDoor.Pure
open Go.RowKit Go.Proofs.YtjbpabpfhkcolaaDoor.PLex Go.Proofs.YtjbpabpfhkcolaaDoorW.PrintWords Go.Proofs.YtjbpabpfhkcolaaDoorW.PrintLast
open Go.Proofs.YtjbpabpfhkcolaaDoor.Pl
theorem LexBare : cooperagelaw8_LexBare.Pure := by
  intro s _
  obtain ⟨K0, h0⟩ := shown_ev
  dsimp only at h0
  by_cases hs : (s.size : Int) > 3000
  · refine ⟨K0 + 1, ?_⟩
    unfold cooperagelaw8_LexBare.f
    rw [h0 _ (by omega)]
    simp only [Option.bind_some, if_true]
    rw [cooperagelaw8_LexBare.j0, if_pos (decide_eq_true hs)]
  · have hb : (bl s).length ≤ 3000 := by rw [← bl_size]; omega
    obtain ⟨K1, h1⟩ := lex_ev s (by omega)
    dsimp only at h1
    obtain ⟨hg, hp⟩ := rows_good (bl s)
    cases hc : chk 0 (rowsOf (bl s)) with
    | some n =>
      obtain ⟨x, hx, rfl⟩ := chk_some _ _ _ hc
      have hx1 := (hg x hx).2.1
      refine ⟨K0 + K1 + 1, ?_⟩
      unfold cooperagelaw8_LexBare.f
      rw [h0 _ (by omega)]
      simp only [Option.bind_some, if_true]
      rw [cooperagelaw8_LexBare.j0, if_neg (by rw [decide_eq_false hs]; decide), h1 _ (by omega), fin_some _ _ hc]
      simp only [Option.bind_some]
      rw [if_neg (by decide), if_pos (by rfl)]
      rw [decide_eq_true (by omega)]
    | none =>
      have hlen : (rowsOf (bl s)).length ≤ 1000000 := by
        have h3 := grp_len (linesL (bl s)).length 0 (linesL (bl s))
        have h4 := linesL_len (bl s)
        unfold rowsOf
        omega
      have hl1 := bare_l1 (rowsOf (bl s)) ((bl s).count 10 + 1) hlen hg hp (chk_none _ _ hc) (rowsOf (bl s)).length 0 (by omega)
      obtain ⟨K2, h2⟩ := bare_l0 s ((rowsOf (bl s)).map toS) true (by omega) (bl s).length 0 1 (by omega) (by omega) (by rw [List.drop_zero, Nat.add_comm]; exact hl1)
      dsimp only at h2
      refine ⟨K0 + K1 + K2 + 1, ?_⟩
      unfold cooperagelaw8_LexBare.f
      rw [h0 _ (by omega)]
      simp only [Option.bind_some, if_true]
      rw [cooperagelaw8_LexBare.j0, if_neg (by rw [decide_eq_false hs]; decide), h1 _ (by omega), fin_none _ hc]
      simp only [Option.bind_some, if_true]
      exact h2 _ (by omega)
end Go.Proofs.YtjbpabpfhkcolaaDoor.Pure
