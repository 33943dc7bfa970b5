/- LexJoins: a line that goes on is the line with both parts. -/
import Derived.Test.YtjbpabpfhkcolaaDoorPLexx6
import Derived.Test.YtjbpabpfhkcolaaDoorLexTexts
namespace Go.Proofs.YtjbpabpfhkcolaaDoor.Pl
open Go.RowKit Go.Proofs.YtjbpabpfhkcolaaDoor.PLex Go.Proofs.YtjbpabpfhkcolaaDoorW.PrintWords Go.Proofs.YtjbpabpfhkcolaaDoorW.PrintLast

theorem trR_none {l : List UInt8} (h : 92 ∉ l) : Lib.trimRightS l [92] = l := by
  unfold Lib.trimRightS
  cases hr : l.reverse with
  | nil => rw [List.dropWhile_nil, ← hr, List.reverse_reverse]
  | cons c t =>
    have hc : c ≠ 92 := fun e => h (by rw [← List.mem_reverse, hr, e]; simp)
    rw [List.dropWhile_cons, if_neg (by simp [hc]), ← hr, List.reverse_reverse]
theorem goesL_stroke {p : List UInt8} (h : 92 ∉ p) : goesL (p ++ [92]) = (p, true) := by
  have e : Lib.trimRightS (p ++ [92]) [92] = p := by
    have := trR_none h
    unfold Lib.trimRightS at this ⊢
    rw [List.reverse_append, List.reverse_singleton, List.singleton_append, List.dropWhile_cons, if_pos (by decide)]
    exact this
  unfold goesL
  rw [e, List.length_append, List.length_singleton, Nat.add_sub_cancel_left, if_neg (by decide), Nat.add_sub_cancel, List.take_left]
theorem triR_blanks {a : List UInt8} (ha : a ≠ []) (h : ∀ c, a.getLast? = some c → c ≠ 32 ∧ c ≠ 9) : triR (a ++ [32, 9]) = a := by
  unfold triR Lib.trimRightS
  rw [List.reverse_append]
  show ((9 :: 32 :: a.reverse).dropWhile _).reverse = a
  rw [List.dropWhile_cons, if_pos (by decide), List.dropWhile_cons, if_pos (by decide)]
  cases hr : a.reverse with
  | nil => exact absurd (List.reverse_eq_nil_iff.1 hr) ha
  | cons c t =>
    have hl : a.getLast? = some c := by rw [← List.head?_reverse, hr]; rfl
    have hc := h c hl
    rw [List.dropWhile_cons, if_neg (by simp [hc.1, hc.2]), ← hr, List.reverse_reverse]
theorem triL_blanks {b : List UInt8} (h : ∀ c, b.head? = some c → c ≠ 32 ∧ c ≠ 9) : triL ([9, 32] ++ b) = b := by
  unfold triL Lib.trimLeftS
  show (9 :: 32 :: b).dropWhile _ = b
  rw [List.dropWhile_cons, if_pos (by decide), List.dropWhile_cons, if_pos (by decide)]
  cases b with
  | nil => rfl
  | cons c t =>
    have hc := h c rfl
    rw [List.dropWhile_cons, if_neg (by simp [hc.1, hc.2])]
theorem joins_tt (a b s : List UInt8) (ha : a ≠ []) (h1 : 10 ∉ a) (h2 : 10 ∉ b) (h3 : 92 ∉ a) (h4 : 92 ∉ b) (h5 : ∀ c, a.getLast? = some c → c ≠ 32 ∧ c ≠ 9) (h6 : ∀ c, b.head? = some c → c ≠ 32 ∧ c ≠ 9) :
    (rowsOf ((a ++ [32, 9, 92]) ++ 10 :: (([9, 32] ++ b) ++ 10 :: s))).map tt = (rowsOf ((a ++ 32 :: b) ++ 10 :: s)).map tt := by
  rw [rows_tt, rows_tt, linesL_feed _ _ (by simp [h1]), linesL_feed _ _ (by simp [h2]), linesL_feed _ _ (by simp [h1, h2]), tts_cons (a ++ 32 :: b) _ (by simp [h3, h4])]
  have hp : 92 ∉ a ++ [32, 9] := by simp [h3]
  have e : a ++ [32, 9, 92] = (a ++ [32, 9]) ++ [92] := by simp
  have ht : tabOf (a ++ [32, 9, 92]) = tabOf (a ++ 32 :: b) := by
    cases a with
    | nil => exact absurd rfl ha
    | cons c t => rfl
  have hj : joinL (goesL (a ++ [32, 9, 92])).1 (goesL (a ++ [32, 9, 92])).2 (([9, 32] ++ b) :: linesL s) = (a ++ 32 :: b, linesL s) := by
    rw [e, goesL_stroke hp, joinL_cons, triR_blanks ha h5, triL_blanks h6, goesL_none h4, joinL_false]
  unfold tts single
  rw [List.length_cons, grp, hj, ht, List.map_append, grp_tt _ _ 0, grp_more (([9, 32] ++ b) :: linesL s).length (linesL s).length 0 (linesL s) (by simp) (Nat.le_refl _)]
  congr 1
  split <;> rfl
theorem joins_j2 (a b s : ByteArray) (ha : a.size ≤ 400) (hb : b.size ≤ 400) (hs : s.size ≤ 1000) (h0 : bl a ≠ []) (h1 : 10 ∉ bl a) (h2 : 10 ∉ bl b) (h3 : 92 ∉ bl a) (h4 : 92 ∉ bl b)
    (h5 : ∀ c, (bl a).getLast? = some c → c ≠ 32 ∧ c ≠ 9) (h6 : ∀ c, (bl b).head? = some c → c ≠ 32 ∧ c ≠ 9) : Ev (fun k => cooperagelaw8_LexJoins.j2 k a b s false) true := by
  obtain ⟨K, l, l', e, n, n', hK⟩ := both_ev ((((a ++ (⟨#[32, 9, 92, 10, 9, 32]⟩ : ByteArray)) ++ b) ++ (⟨#[10]⟩ : ByteArray)) ++ s) ((((a ++ (⟨#[32]⟩ : ByteArray)) ++ b) ++ (⟨#[10]⟩ : ByteArray)) ++ s)
    (by simp only [ByteArray.size_append, lit_size, List.size_toArray, List.length_cons, List.length_nil]; omega) (by simp only [ByteArray.size_append, lit_size, List.size_toArray, List.length_cons, List.length_nil]; omega)
    (by
      rw [bl_append, bl_append, bl_append, bl_append, bl_append, bl_append, bl_append, bl_append]
      have := joins_tt (bl a) (bl b) (bl s) h0 h1 h2 h3 h4 h5 h6
      rw [show bl (⟨#[10]⟩ : ByteArray) = [10] from rfl, show bl (⟨#[32, 9, 92, 10, 9, 32]⟩ : ByteArray) = [32, 9, 92, 10, 9, 32] from rfl, show bl (⟨#[32]⟩ : ByteArray) = [32] from rfl]
      simpa using this)
  refine ⟨K + 1, fun k hk => ?_⟩
  obtain ⟨m, rfl⟩ : ∃ m, k = m + 1 := ⟨k - 1, by omega⟩
  obtain ⟨e1, e2, e3⟩ := hK m (by omega)
  dsimp only
  rw [cooperagelaw8_LexJoins.j2, if_neg (by decide), if_pos (by omega), if_pos (by simp only [ByteArray.size_append, lit_size, List.size_toArray, List.length_cons, List.length_nil]; omega), if_pos (by simp only [ByteArray.size_append, lit_size, List.size_toArray, List.length_cons, List.length_nil]; omega), if_pos (by simp only [ByteArray.size_append, lit_size, List.size_toArray, List.length_cons, List.length_nil]; omega), e1]
  simp only [Option.bind_some]
  rw [if_pos (by omega), if_pos (by simp only [ByteArray.size_append, lit_size, List.size_toArray, List.length_cons, List.length_nil]; omega), if_pos (by simp only [ByteArray.size_append, lit_size, List.size_toArray, List.length_cons, List.length_nil]; omega), if_pos (by simp only [ByteArray.size_append, lit_size, List.size_toArray, List.length_cons, List.length_nil]; omega), e2]
  simp only [Option.bind_some, if_true]
  rw [e3]
  rfl
theorem joins_stop (a b s : ByteArray) : Ev (fun k => cooperagelaw8_LexJoins.j2 k a b s true) true := by
  refine ⟨1, fun k hk => ?_⟩
  obtain ⟨m, rfl⟩ : ∃ m, k = m + 1 := ⟨k - 1, by omega⟩
  dsimp only
  rw [cooperagelaw8_LexJoins.j2, if_pos rfl]
theorem joins_l0 (a b s : ByteArray) (ha : a.size ≤ 400) (hb : b.size ≤ 400) (hs : s.size ≤ 1000) :
    ∀ d i, i + d = (bl a ++ bl b).length → (∀ x ∈ (bl a ++ bl b).take i, x ≠ 10 ∧ x ≠ 92) → Ev (fun k => cooperagelaw8_LexJoins.l0 k a b s (a ++ b) (i : Int)) true
  | 0, i, h, hp => by
    have hall : ∀ x ∈ bl a ++ bl b, x ≠ 10 ∧ x ≠ 92 := fun x hm => hp x (by rw [List.take_of_length_le (by omega)]; exact hm)
    have hsz := bl_size a
    have hsb := bl_size b
    have hab : (a ++ b).size = a.size + b.size := ByteArray.size_append
    rw [List.length_append] at h
    obtain ⟨Ks, hstop⟩ := joins_stop a b s
    dsimp only at hstop
    by_cases ea : bl a = []
    · refine ⟨Ks + 1, fun k hk => ?_⟩
      obtain ⟨m, rfl⟩ : ∃ m, k = m + 1 := ⟨k - 1, by omega⟩
      dsimp only
      rw [cooperagelaw8_LexJoins.l0, if_neg (by omega), bl_toList, if_pos ea]
      exact hstop m (by omega)
    by_cases eb : bl b = []
    · refine ⟨Ks + 1, fun k hk => ?_⟩
      obtain ⟨m, rfl⟩ : ∃ m, k = m + 1 := ⟨k - 1, by omega⟩
      dsimp only
      rw [cooperagelaw8_LexJoins.l0, if_neg (by omega), bl_toList, if_neg ea, bl_toList, if_pos eb]
      exact hstop m (by omega)
    have pa : 0 < (bl a).length := List.length_pos_iff.2 ea
    have pb : 0 < (bl b).length := List.length_pos_iff.2 eb
    have hw : wrap64 ((a.size : Int) - 1) = (((bl a).length - 1 : Nat) : Int) := by rw [wrap_sm (by omega) (by omega)]; omega
    by_cases c1 : (bl b)[0] = 32
    · refine ⟨Ks + 1, fun k hk => ?_⟩
      obtain ⟨m, rfl⟩ : ∃ m, k = m + 1 := ⟨k - 1, by omega⟩
      dsimp only
      rw [cooperagelaw8_LexJoins.l0, if_neg (by omega), bl_toList, if_neg ea, bl_toList, if_neg eb, if_pos (by omega), show bt b 0 = ((bl b)[0].toNat : Int) from bt_nat b 0 pb, if_pos (by rw [c1]; rfl)]
      exact hstop m (by omega)
    by_cases c2 : (bl b)[0] = 9
    · refine ⟨Ks + 1, fun k hk => ?_⟩
      obtain ⟨m, rfl⟩ : ∃ m, k = m + 1 := ⟨k - 1, by omega⟩
      dsimp only
      rw [cooperagelaw8_LexJoins.l0, if_neg (by omega), bl_toList, if_neg ea, bl_toList, if_neg eb, if_pos (by omega), show bt b 0 = ((bl b)[0].toNat : Int) from bt_nat b 0 pb, if_neg (n32 c1), if_pos (by rw [c2]; rfl)]
      exact hstop m (by omega)
    by_cases c3 : (bl a)[(bl a).length - 1] = 32
    · refine ⟨Ks + 1, fun k hk => ?_⟩
      obtain ⟨m, rfl⟩ : ∃ m, k = m + 1 := ⟨k - 1, by omega⟩
      dsimp only
      rw [cooperagelaw8_LexJoins.l0, if_neg (by omega), bl_toList, if_neg ea, bl_toList, if_neg eb, if_pos (by omega), show bt b 0 = ((bl b)[0].toNat : Int) from bt_nat b 0 pb, if_neg (n32 c1), if_neg (n9 c2), hw, if_pos (by omega), if_pos (by omega),
        bt_nat a ((bl a).length - 1) (by omega), if_pos (by rw [c3]; rfl)]
      exact hstop m (by omega)
    by_cases c4 : (bl a)[(bl a).length - 1] = 9
    · refine ⟨Ks + 1, fun k hk => ?_⟩
      obtain ⟨m, rfl⟩ : ∃ m, k = m + 1 := ⟨k - 1, by omega⟩
      dsimp only
      rw [cooperagelaw8_LexJoins.l0, if_neg (by omega), bl_toList, if_neg ea, bl_toList, if_neg eb, if_pos (by omega), show bt b 0 = ((bl b)[0].toNat : Int) from bt_nat b 0 pb, if_neg (n32 c1), if_neg (n9 c2), hw, if_pos (by omega), if_pos (by omega),
        bt_nat a ((bl a).length - 1) (by omega), if_neg (n32 c3), show ((((bl a)[(bl a).length - 1]).toNat : Int) == 9) = true from beq_iff_eq.2 (by rw [c4]; rfl)]
      exact hstop m (by omega)
    obtain ⟨K, hK⟩ := joins_j2 a b s ha hb hs ea (fun h => (hall _ (List.mem_append_left _ h)).1 rfl) (fun h => (hall _ (List.mem_append_right _ h)).1 rfl) (fun h => (hall _ (List.mem_append_left _ h)).2 rfl) (fun h => (hall _ (List.mem_append_right _ h)).2 rfl)
      (fun c hc => by
        rw [List.getLast?_eq_getElem?, List.getElem?_eq_getElem (by omega)] at hc
        obtain rfl := Option.some.inj hc
        exact ⟨c3, c4⟩)
      (fun c hc => by
        rw [List.head?_eq_getElem?, List.getElem?_eq_getElem pb] at hc
        obtain rfl := Option.some.inj hc
        exact ⟨c1, c2⟩)
    dsimp only at hK
    refine ⟨K + 1, fun k hk => ?_⟩
    obtain ⟨m, rfl⟩ : ∃ m, k = m + 1 := ⟨k - 1, by omega⟩
    dsimp only
    rw [cooperagelaw8_LexJoins.l0, if_neg (by omega), bl_toList, if_neg ea, bl_toList, if_neg eb, if_pos (by omega), show bt b 0 = ((bl b)[0].toNat : Int) from bt_nat b 0 pb, if_neg (n32 c1), if_neg (n9 c2), hw, if_pos (by omega), if_pos (by omega),
      bt_nat a ((bl a).length - 1) (by omega), if_neg (n32 c3), show ((((bl a)[(bl a).length - 1]).toNat : Int) == 9) = false from beq_eq_false_iff_ne.2 (n9 c4)]
    exact hK m (by omega)
  | d + 1, i, h, hp => by
    have hi : i < (bl a ++ bl b).length := by omega
    have hab : (a ++ b).size = (bl a ++ bl b).length := by rw [bl_size, bl_append]
    have hbt : bt (a ++ b) (i : Int) = ((bl a ++ bl b)[i].toNat : Int) := by
      rw [bt_nat (a ++ b) i (by rw [bl_append]; exact hi)]
      simp only [bl_append]
    by_cases hb1 : (bl a ++ bl b)[i] = 10
    · refine ⟨1, fun k hk => ?_⟩
      obtain ⟨m, rfl⟩ : ∃ m, k = m + 1 := ⟨k - 1, by omega⟩
      dsimp only
      rw [cooperagelaw8_LexJoins.l0, if_pos (by omega), if_pos (by omega), hbt, if_pos (by rw [hb1]; rfl)]
    · by_cases hb2 : (bl a ++ bl b)[i] = 92
      · refine ⟨1, fun k hk => ?_⟩
        obtain ⟨m, rfl⟩ : ∃ m, k = m + 1 := ⟨k - 1, by omega⟩
        dsimp only
        rw [cooperagelaw8_LexJoins.l0, if_pos (by omega), if_pos (by omega), hbt, if_neg (n10 hb1), if_pos (by rw [hb2]; rfl)]
      · obtain ⟨K, hK⟩ := joins_l0 a b s ha hb hs d (i + 1) (by omega) (fun x hx => by
          rw [List.take_succ_eq_append_getElem hi] at hx
          rcases List.mem_append.1 hx with hx | hx
          · exact hp x hx
          · rw [List.mem_singleton] at hx
            exact hx ▸ ⟨hb1, hb2⟩)
        have hsz := bl_size a
        have hsb := bl_size b
        rw [List.length_append] at hi
        refine ⟨K + 1, fun k hk => ?_⟩
        obtain ⟨m, rfl⟩ : ∃ m, k = m + 1 := ⟨k - 1, by omega⟩
        dsimp only
        rw [cooperagelaw8_LexJoins.l0, if_pos (by rw [hab, List.length_append]; omega), if_pos (by omega), hbt, if_neg (n10 hb1), if_neg (n92 hb2), wrap_succ i (by omega)]
        exact hK m (by omega)
end Go.Proofs.YtjbpabpfhkcolaaDoor.Pl
namespace Go.Proofs.YtjbpabpfhkcolaaDoor.Pure
open Go.RowKit Go.Proofs.YtjbpabpfhkcolaaDoor.PLex Go.Proofs.YtjbpabpfhkcolaaDoorW.PrintWords Go.Proofs.YtjbpabpfhkcolaaDoorW.PrintLast
open Go.Proofs.YtjbpabpfhkcolaaDoor.Pl
theorem LexJoins : cooperagelaw8_LexJoins.Pure := by
  intro a b s _ _ _
  obtain ⟨K0, h0⟩ := shown_ev
  dsimp only at h0
  have stop : ∀ k, 1 ≤ k → cooperagelaw8_LexJoins.j0 k a b s true true = some true := by
    intro k hk
    obtain ⟨m, rfl⟩ : ∃ m, k = m + 1 := ⟨k - 1, by omega⟩
    rw [cooperagelaw8_LexJoins.j0, if_pos rfl]
  by_cases h1 : (a.size : Int) > 400
  · refine ⟨K0 + 1, ?_⟩
    unfold cooperagelaw8_LexJoins.f
    rw [h0 _ (by omega)]
    simp only [Option.bind_some, if_true]
    rw [if_pos h1]
    exact stop _ (by omega)
  by_cases h2 : (b.size : Int) > 400
  · refine ⟨K0 + 1, ?_⟩
    unfold cooperagelaw8_LexJoins.f
    rw [h0 _ (by omega)]
    simp only [Option.bind_some, if_true]
    rw [if_neg h1, if_pos h2]
    exact stop _ (by omega)
  by_cases h3 : (s.size : Int) > 1000
  · refine ⟨K0 + 1, ?_⟩
    unfold cooperagelaw8_LexJoins.f
    rw [h0 _ (by omega)]
    simp only [Option.bind_some, if_true]
    rw [if_neg h1, if_neg h2, decide_eq_true h3]
    exact stop _ (by omega)
  obtain ⟨K, hK⟩ := joins_l0 a b s (by omega) (by omega) (by omega) (bl a ++ bl b).length 0 (by omega) (by simp)
  dsimp only at hK
  refine ⟨K0 + K + 1, ?_⟩
  unfold cooperagelaw8_LexJoins.f
  rw [h0 _ (by omega)]
  simp only [Option.bind_some, if_true]
  rw [if_neg h1, if_neg h2, decide_eq_false h3, cooperagelaw8_LexJoins.j0, if_neg (by decide), if_pos (by omega)]
  exact hK _ (by omega)
end Go.Proofs.YtjbpabpfhkcolaaDoor.Pure
