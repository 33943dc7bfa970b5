/- LexTabs: a line of a recipe is told whole, another one up to its comment. -/
import Derived.Test.YtjbpabpfhkcolaaDoorPLexx7
import Derived.Test.YtjbpabpfhkcolaaDoorLexTexts
namespace Go.Proofs.YtjbpabpfhkcolaaDoor.Pl
open Go.RowKit Go.Proofs.YtjbpabpfhkcolaaDoor.PLex Go.Proofs.YtjbpabpfhkcolaaDoorW.PrintWords Go.Proofs.YtjbpabpfhkcolaaDoorW.PrintLast

/-- Without the blanks at its end: what the statement's loop leaves. -/
theorem triR_nil : triR [] = [] := rfl
theorem triR_snoc_blank (l : List UInt8) (c : UInt8) (h : c = 32 ∨ c = 9) : triR (l ++ [c]) = triR l := by
  unfold triR Lib.trimRightS
  rw [List.reverse_append, List.reverse_singleton, List.singleton_append, List.dropWhile_cons, if_pos (by rcases h with rfl | rfl <;> decide)]
theorem triR_snoc_other (l : List UInt8) (c : UInt8) (h1 : c ≠ 32) (h2 : c ≠ 9) : triR (l ++ [c]) = l ++ [c] := by
  unfold triR Lib.trimRightS
  rw [List.reverse_append, List.reverse_singleton, List.singleton_append, List.dropWhile_cons, if_neg (by simp [h1, h2]), List.reverse_cons, List.reverse_reverse]
theorem triR_app (p c : List UInt8) (x : UInt8) (h1 : x ≠ 32) (h2 : x ≠ 9) : triR (p ++ x :: c) = p ++ x :: triR c := by
  unfold triR Lib.trimRightS
  rw [show p ++ x :: c = (p ++ [x]) ++ c by simp, List.reverse_append, List.dropWhile_append]
  split
  · rename_i he
    rw [List.isEmpty_iff.1 he, List.reverse_append, List.reverse_singleton, List.singleton_append, List.dropWhile_cons, if_neg (by simp [h1, h2])]
    simp
  · simp
theorem triL_id {l : List UInt8} (h : ∀ c, l.head? = some c → c ≠ 32 ∧ c ≠ 9) : triL l = l := by
  unfold triL Lib.trimLeftS
  cases l with
  | nil => rfl
  | cons c t =>
    have hc := h c rfl
    rw [List.dropWhile_cons, if_neg (by simp [hc.1, hc.2])]
theorem tri_eq (l : List UInt8) : tri l = triL (triR l) := rfl
theorem triR_id {l : List UInt8} (h : ∀ c, l.getLast? = some c → c ≠ 32 ∧ c ≠ 9) : triR l = l := by
  unfold triR Lib.trimRightS
  cases hr : l.reverse with
  | nil => rw [List.dropWhile_nil, ← hr, List.reverse_reverse]
  | cons c t =>
    have hc := h c (by rw [← List.head?_reverse, hr]; rfl)
    rw [List.dropWhile_cons, if_neg (by simp [hc.1, hc.2]), ← hr, List.reverse_reverse]
/-- The two lines of the statement. -/
theorem tabs_rows (s c : List UInt8) (hs : s ≠ []) (h10 : 10 ∉ s ++ c) (h92 : 92 ∉ s ++ c) (h35 : 35 ∉ s) (hh : ∀ x, s.head? = some x → x ≠ 32 ∧ x ≠ 9) (hl : ∀ x, s.getLast? = some x → x ≠ 32 ∧ x ≠ 9) :
    rowsOf ((9 :: s ++ 32 :: 35 :: c) ++ 10 :: ((s ++ 32 :: 35 :: c) ++ 10 :: [])) = [⟨1, true, s ++ 32 :: 35 :: triR c⟩, ⟨2, false, s⟩] := by
  have h10s : 10 ∉ s := fun h => h10 (List.mem_append_left _ h)
  have h10c : 10 ∉ c := fun h => h10 (List.mem_append_right _ h)
  have h92s : 92 ∉ s := fun h => h92 (List.mem_append_left _ h)
  have h92c : 92 ∉ c := fun h => h92 (List.mem_append_right _ h)
  have n1 : 92 ∉ 9 :: s ++ 32 :: 35 :: c := by simp [h92s, h92c]
  have n2 : 92 ∉ s ++ 32 :: 35 :: c := by simp [h92s, h92c]
  unfold rowsOf
  rw [linesL_feed _ _ (by simp [h10s, h10c]), linesL_feed _ _ (by simp [h10s, h10c]), linesL_nil]
  have t1 : textOf (tabOf (9 :: s ++ 32 :: 35 :: c)) (9 :: s ++ 32 :: 35 :: c) = s ++ 32 :: 35 :: triR c := by
    rw [show tabOf (9 :: s ++ 32 :: 35 :: c) = true from rfl]
    unfold textOf
    rw [if_pos rfl, tri_eq, show 9 :: s ++ 32 :: 35 :: c = (9 :: s ++ [32]) ++ 35 :: c by simp, triR_app _ _ 35 (by decide) (by decide)]
    unfold triL Lib.trimLeftS
    rw [show (9 :: s ++ [32]) ++ 35 :: triR c = 9 :: (s ++ 32 :: 35 :: triR c) by simp, List.dropWhile_cons, if_pos (by decide)]
    refine triL_id (l := s ++ 32 :: 35 :: triR c) (fun x hx => hh x ?_)
    cases s with
    | nil => exact absurd rfl hs
    | cons a r => exact hx
  have tb : tabOf (s ++ 32 :: 35 :: c) = false := by
    cases s with
    | nil => exact absurd rfl hs
    | cons a r =>
      have := (hh a rfl).2
      show (some a == some 9) = false
      exact beq_eq_false_iff_ne.2 (fun e => this (Option.some.inj e))
  have t2 : textOf (tabOf (s ++ 32 :: 35 :: c)) (s ++ 32 :: 35 :: c) = s := by
    rw [tb]
    unfold textOf
    rw [if_neg (by decide), show s ++ 32 :: 35 :: c = (s ++ [32]) ++ 35 :: c by simp, cut35_at (s ++ [32]) c (by simp [h35]), tri_eq, triR_snoc_blank s 32 (.inl rfl), triR_id hl, triL_id hh]
  simp only [List.length_cons, List.length_nil]
  rw [grp, goesL_none n1, joinL_false]
  dsimp only
  rw [t1, if_neg (by simp), Nat.sub_self, grp, goesL_none n2, joinL_false]
  dsimp only
  rw [t2, if_neg hs, Nat.sub_self, tb]
  rfl
theorem tabs_l1 (s c : ByteArray) (hs : s.size ≤ 300) (hc : c.size ≤ 300) (h0 : bl s ≠ []) (h10 : 10 ∉ bl s ++ bl c) (h92 : 92 ∉ bl s ++ bl c) (h35 : 35 ∉ bl s) (hh : ∀ x, (bl s).head? = some x → x ≠ 32 ∧ x ≠ 9) (hl : ∀ x, (bl s).getLast? = some x → x ≠ 32 ∧ x ≠ 9) :
    ∀ (d : Nat) (e : List UInt8), e.length = d → e.length ≤ 300 → triR e = triR (bl c) → Ev (fun k => cooperagelaw8_LexTabs.l1 k s c (ofL e)) true := by
  have hsz := bl_size s
  have hcz := bl_size c
  have hrows : rowsOf (bl ((((((((⟨#[9]⟩ : ByteArray) ++ s) ++ (⟨#[32, 35]⟩ : ByteArray)) ++ c) ++ (⟨#[10]⟩ : ByteArray)) ++ s) ++ (⟨#[32, 35]⟩ : ByteArray)) ++ c ++ (⟨#[10]⟩ : ByteArray))) = [⟨1, true, bl s ++ 32 :: 35 :: triR (bl c)⟩, ⟨2, false, bl s⟩] := by
    have := tabs_rows (bl s) (bl c) h0 h10 h92 h35 hh hl
    rw [← this]
    congr 1
    simp only [bl_append]
    rw [show bl (⟨#[10]⟩ : ByteArray) = [10] from rfl, show bl (⟨#[9]⟩ : ByteArray) = [9] from rfl, show bl (⟨#[32, 35]⟩ : ByteArray) = [32, 35] from rfl]
    simp
  have htl : (triR (bl c)).length ≤ (bl c).length := trR_len _ _
  obtain ⟨K, hK⟩ := lex_ev ((((((((⟨#[9]⟩ : ByteArray) ++ s) ++ (⟨#[32, 35]⟩ : ByteArray)) ++ c) ++ (⟨#[10]⟩ : ByteArray)) ++ s) ++ (⟨#[32, 35]⟩ : ByteArray)) ++ c ++ (⟨#[10]⟩ : ByteArray)) (by simp only [ByteArray.size_append, lit_size, List.size_toArray, List.length_cons, List.length_nil]; omega)
  rw [hrows, fin_none _ (by
    have e1 : (bl s ++ 32 :: 35 :: triR (bl c)).length ≤ 1000 := by simp; omega
    rw [chk, if_neg (by dsimp only; omega), chk, if_neg (by dsimp only; omega), chk])] at hK
  dsimp only at hK
  have ht : (ofL (bl s ++ 32 :: 35 :: triR (bl c))).toList = ((s ++ (⟨#[32, 35]⟩ : ByteArray)) ++ ofL (triR (bl c))).toList := by
    rw [bl_toList, bl_toList, bl_ofL, bl_append, bl_append, bl_ofL, show bl (⟨#[32, 35]⟩ : ByteArray) = [32, 35] from rfl]
    simp
  have c1 : (((rd_T28 ([(⟨1, true, bl s ++ 32 :: 35 :: triR (bl c)⟩ : Row), ⟨2, false, bl s⟩].map toS) 0).f0) == 1 && (((rd_T28 ([(⟨1, true, bl s ++ 32 :: 35 :: triR (bl c)⟩ : Row), ⟨2, false, bl s⟩].map toS) 0).f1) && ((((rd_T28 ([(⟨1, true, bl s ++ 32 :: 35 :: triR (bl c)⟩ : Row), ⟨2, false, bl s⟩].map toS) 0).f2).toList) == (((s ++ (⟨#[32, 35]⟩ : ByteArray)) ++ ofL (triR (bl c))).toList)))) = true := by
    show ((1 : Int) == 1 && (true && ((ofL (bl s ++ 32 :: 35 :: triR (bl c))).toList == ((s ++ (⟨#[32, 35]⟩ : ByteArray)) ++ ofL (triR (bl c))).toList))) = true
    rw [ht]
    simp
  have c2 : (((rd_T28 ([(⟨1, true, bl s ++ 32 :: 35 :: triR (bl c)⟩ : Row), ⟨2, false, bl s⟩].map toS) 1).f0) == 2 && (!((rd_T28 ([(⟨1, true, bl s ++ 32 :: 35 :: triR (bl c)⟩ : Row), ⟨2, false, bl s⟩].map toS) 1).f1) && ((((rd_T28 ([(⟨1, true, bl s ++ 32 :: 35 :: triR (bl c)⟩ : Row), ⟨2, false, bl s⟩].map toS) 1).f2).toList) == s.toList))) = true := by
    show ((2 : Int) == 2 && (!false && ((ofL (bl s)).toList == s.toList))) = true
    rw [ofL_bl]
    simp
  intro d
  induction d with
  | zero =>
    intro e he _ hE
    obtain rfl : e = [] := List.length_eq_zero_iff.1 he
    refine ⟨K + 1, fun k hk => ?_⟩
    obtain ⟨m, rfl⟩ : ∃ m, k = m + 1 := ⟨k - 1, by omega⟩
    dsimp only
    rw [show ofL [] = ofL (triR (bl c)) by rw [← hE]; rfl]
    rw [cooperagelaw8_LexTabs.l1, if_pos (by rw [bl_toList, bl_ofL, ← hE]; rfl)]
    · rw [if_pos (by omega), if_pos (by simp only [ByteArray.size_append, lit_size, List.size_toArray, List.length_cons, List.length_nil]; omega), if_pos (by simp only [ByteArray.size_append, lit_size, List.size_toArray, List.length_cons, List.length_nil]; omega), if_pos (by simp only [ByteArray.size_append, lit_size, List.size_toArray, List.length_cons, List.length_nil]; omega), if_pos (by simp only [ByteArray.size_append, lit_size, List.size_toArray, List.length_cons, List.length_nil]; omega), if_pos (by simp only [ByteArray.size_append, lit_size, List.size_toArray, List.length_cons, List.length_nil]; omega), if_pos (by simp only [ByteArray.size_append, lit_size, List.size_toArray, List.length_cons, List.length_nil]; omega), if_pos (by simp only [ByteArray.size_append, lit_size, List.size_toArray, List.length_cons, List.length_nil]; omega), hK m (by omega)]
      simp only [Option.bind_some, if_true]
      rw [if_pos (show (([(⟨1, true, bl s ++ 32 :: 35 :: triR (bl c)⟩ : Row), ⟨2, false, bl s⟩].map toS).length : Int) = 2 from rfl), if_pos (show (0 : Int) < (([(⟨1, true, bl s ++ 32 :: 35 :: triR (bl c)⟩ : Row), ⟨2, false, bl s⟩].map toS).length : Int) from by show (0 : Int) < 2; decide), if_pos (by omega),
        if_pos (by simp only [ByteArray.size_append, lit_size, List.size_toArray, List.length_cons, List.length_nil, ofL_size]; omega), if_pos c1, if_pos (show (1 : Int) < (([(⟨1, true, bl s ++ 32 :: 35 :: triR (bl c)⟩ : Row), ⟨2, false, bl s⟩].map toS).length : Int) from by show (1 : Int) < 2; decide), c2]
  | succ d ih =>
    intro e he he3 hE
    rcases List.eq_nil_or_concat e with rfl | ⟨e', x, rfl⟩
    · simp at he
    rw [List.concat_eq_append] at he he3 hE ⊢
    have hl1 : (e' ++ [x]).length = e'.length + 1 := by simp
    have hw : wrap64 ((e'.length + 1 : Nat) - 1 : Int) = ((e'.length : Nat) : Int) := by rw [wrap_sm (by omega) (by omega)]; omega
    have hbt : bt (ofL (e' ++ [x])) (e'.length : Int) = (x.toNat : Int) := by rw [bt_ofL _ _ (by omega)]; simp
    have hex : (ofL (e' ++ [x])).extract 0 ((e'.length : Int)).toNat = ofL e' := bl_inj (by rw [bl_extract_from, bl_ofL, bl_ofL, Int.toNat_natCast, List.take_left])
    have hne : ¬ ((ofL (e' ++ [x])).toList = ([] : List UInt8)) := by rw [bl_toList, bl_ofL]; simp
    by_cases hb : x = 32 ∨ x = 9
    · obtain ⟨K2, hK2⟩ := ih e' (by omega) (by omega) (by rw [← hE, triR_snoc_blank _ _ hb])
      refine ⟨K2 + 1, fun k hk => ?_⟩
      obtain ⟨m, rfl⟩ : ∃ m, k = m + 1 := ⟨k - 1, by omega⟩
      dsimp only
      rw [cooperagelaw8_LexTabs.l1, if_neg hne, ofL_size, hl1, hw, if_pos (by omega), if_pos (by omega), hbt]
      by_cases h32 : x = 32
      · rw [if_pos (by rw [h32]; rfl), if_pos (by omega), hex]
        exact hK2 m (by omega)
      · rw [if_neg (n32 h32), if_pos (by rw [hb.resolve_left h32]; rfl), if_pos (by omega), hex]
        exact hK2 m (by omega)
    · have h32 : x ≠ 32 := fun e => hb (.inl e)
      have h9 : x ≠ 9 := fun e => hb (.inr e)
      rw [triR_snoc_other _ _ h32 h9] at hE
      refine ⟨K + 1, fun k hk => ?_⟩
      obtain ⟨m, rfl⟩ : ∃ m, k = m + 1 := ⟨k - 1, by omega⟩
      dsimp only
      rw [cooperagelaw8_LexTabs.l1, if_neg hne, ofL_size, hl1, hw, if_pos (by omega), if_pos (by omega), hbt, if_neg (n32 h32), if_neg (n9 h9)]
      rw [hE]
      rw [if_pos (by omega), if_pos (by simp only [ByteArray.size_append, lit_size, List.size_toArray, List.length_cons, List.length_nil]; omega), if_pos (by simp only [ByteArray.size_append, lit_size, List.size_toArray, List.length_cons, List.length_nil]; omega), if_pos (by simp only [ByteArray.size_append, lit_size, List.size_toArray, List.length_cons, List.length_nil]; omega), if_pos (by simp only [ByteArray.size_append, lit_size, List.size_toArray, List.length_cons, List.length_nil]; omega), if_pos (by simp only [ByteArray.size_append, lit_size, List.size_toArray, List.length_cons, List.length_nil]; omega), if_pos (by simp only [ByteArray.size_append, lit_size, List.size_toArray, List.length_cons, List.length_nil]; omega), if_pos (by simp only [ByteArray.size_append, lit_size, List.size_toArray, List.length_cons, List.length_nil]; omega), hK m (by omega)]
      simp only [Option.bind_some, if_true]
      rw [if_pos (show (([(⟨1, true, bl s ++ 32 :: 35 :: triR (bl c)⟩ : Row), ⟨2, false, bl s⟩].map toS).length : Int) = 2 from rfl), if_pos (show (0 : Int) < (([(⟨1, true, bl s ++ 32 :: 35 :: triR (bl c)⟩ : Row), ⟨2, false, bl s⟩].map toS).length : Int) from by show (0 : Int) < 2; decide), if_pos (by omega),
        if_pos (by simp only [ByteArray.size_append, lit_size, List.size_toArray, List.length_cons, List.length_nil]; omega), if_pos c1, if_pos (show (1 : Int) < (([(⟨1, true, bl s ++ 32 :: 35 :: triR (bl c)⟩ : Row), ⟨2, false, bl s⟩].map toS).length : Int) from by show (1 : Int) < 2; decide), c2]
theorem tabs_stop (a b : ByteArray) : Ev (fun k => cooperagelaw8_LexTabs.j2 k a b true) true := by
  refine ⟨1, fun k hk => ?_⟩
  obtain ⟨m, rfl⟩ : ∃ m, k = m + 1 := ⟨k - 1, by omega⟩
  dsimp only
  rw [cooperagelaw8_LexTabs.j2, if_pos rfl]
theorem tabs_l0 (a b : ByteArray) (ha : a.size ≤ 300) (hb : b.size ≤ 300) :
    ∀ d i, i + d = (bl a ++ bl b).length → (∀ x ∈ (bl a ++ bl b).take i, x ≠ 10 ∧ x ≠ 92) → (∀ x ∈ (bl a).take i, x ≠ 35) → Ev (fun k => cooperagelaw8_LexTabs.l0 k a b (a ++ b) (i : Int)) true
  | 0, i, h, hp, hq => by
    have hall : ∀ x ∈ bl a ++ bl b, x ≠ 10 ∧ x ≠ 92 := fun x hm => hp x (by rw [List.take_of_length_le (by omega)]; exact hm)
    have hsz := bl_size a
    have hsb := bl_size b
    have hab : (a ++ b).size = a.size + b.size := ByteArray.size_append
    rw [List.length_append] at h
    have h35 : 35 ∉ bl a := fun hm => hq 35 (by rw [List.take_of_length_le (by omega)]; exact hm) rfl
    obtain ⟨Ks, hstop⟩ := tabs_stop a b
    dsimp only at hstop
    by_cases ea : bl a = []
    · refine ⟨Ks + 1, fun k hk => ?_⟩
      obtain ⟨m, rfl⟩ : ∃ m, k = m + 1 := ⟨k - 1, by omega⟩
      dsimp only
      rw [cooperagelaw8_LexTabs.l0, if_neg (by omega), bl_toList, if_pos ea]
      exact hstop m (by omega)
    have pa : 0 < (bl a).length := List.length_pos_iff.2 ea
    have hw : wrap64 ((a.size : Int) - 1) = (((bl a).length - 1 : Nat) : Int) := by rw [wrap_sm (by omega) (by omega)]; omega
    by_cases c1 : (bl a)[0] = 32
    · refine ⟨Ks + 1, fun k hk => ?_⟩
      obtain ⟨m, rfl⟩ : ∃ m, k = m + 1 := ⟨k - 1, by omega⟩
      dsimp only
      rw [cooperagelaw8_LexTabs.l0, if_neg (by omega), bl_toList, if_neg ea, if_pos (by omega), show bt a 0 = ((bl a)[0].toNat : Int) from bt_nat a 0 pa, if_pos (by rw [c1]; rfl)]
      exact hstop m (by omega)
    by_cases c2 : (bl a)[0] = 9
    · refine ⟨Ks + 1, fun k hk => ?_⟩
      obtain ⟨m, rfl⟩ : ∃ m, k = m + 1 := ⟨k - 1, by omega⟩
      dsimp only
      rw [cooperagelaw8_LexTabs.l0, if_neg (by omega), bl_toList, if_neg ea, if_pos (by omega), show bt a 0 = ((bl a)[0].toNat : Int) from bt_nat a 0 pa, if_neg (n32 c1), if_pos (by rw [c2]; rfl)]
      exact hstop m (by omega)
    by_cases c3 : (bl a)[(bl a).length - 1] = 32
    · refine ⟨Ks + 1, fun k hk => ?_⟩
      obtain ⟨m, rfl⟩ : ∃ m, k = m + 1 := ⟨k - 1, by omega⟩
      dsimp only
      rw [cooperagelaw8_LexTabs.l0, if_neg (by omega), bl_toList, if_neg ea, if_pos (by omega), show bt a 0 = ((bl a)[0].toNat : Int) from bt_nat a 0 pa, if_neg (n32 c1), if_neg (n9 c2), hw, if_pos (by omega), if_pos (by omega),
        bt_nat a ((bl a).length - 1) (by omega), if_pos (by rw [c3]; rfl)]
      exact hstop m (by omega)
    by_cases c4 : (bl a)[(bl a).length - 1] = 9
    · refine ⟨Ks + 1, fun k hk => ?_⟩
      obtain ⟨m, rfl⟩ : ∃ m, k = m + 1 := ⟨k - 1, by omega⟩
      dsimp only
      rw [cooperagelaw8_LexTabs.l0, if_neg (by omega), bl_toList, if_neg ea, if_pos (by omega), show bt a 0 = ((bl a)[0].toNat : Int) from bt_nat a 0 pa, if_neg (n32 c1), if_neg (n9 c2), hw, if_pos (by omega), if_pos (by omega),
        bt_nat a ((bl a).length - 1) (by omega), if_neg (n32 c3), show ((((bl a)[(bl a).length - 1]).toNat : Int) == 9) = true from beq_iff_eq.2 (by rw [c4]; rfl)]
      exact hstop m (by omega)
    obtain ⟨K, hK⟩ := tabs_l1 a b ha hb ea (fun h => (hall _ h).1 rfl) (fun h => (hall _ h).2 rfl) h35
      (fun c hc => by
        rw [List.head?_eq_getElem?, List.getElem?_eq_getElem pa] at hc
        obtain rfl := Option.some.inj hc
        exact ⟨c1, c2⟩)
      (fun c hc => by
        rw [List.getLast?_eq_getElem?, List.getElem?_eq_getElem (by omega)] at hc
        obtain rfl := Option.some.inj hc
        exact ⟨c3, c4⟩) (bl b).length (bl b) rfl (by omega) rfl
    rw [ofL_bl] at hK
    dsimp only at hK
    refine ⟨K + 2, fun k hk => ?_⟩
    obtain ⟨m, rfl⟩ : ∃ m, k = m + 1 + 1 := ⟨k - 2, by omega⟩
    dsimp only
    rw [cooperagelaw8_LexTabs.l0, if_neg (by omega), bl_toList, if_neg ea, if_pos (by omega), show bt a 0 = ((bl a)[0].toNat : Int) from bt_nat a 0 pa, if_neg (n32 c1), if_neg (n9 c2), hw, if_pos (by omega), if_pos (by omega),
      bt_nat a ((bl a).length - 1) (by omega), if_neg (n32 c3), show ((((bl a)[(bl a).length - 1]).toNat : Int) == 9) = false from beq_eq_false_iff_ne.2 (n9 c4), cooperagelaw8_LexTabs.j2, if_neg (by decide)]
    exact hK m (by omega)
  | d + 1, i, h, hp, hq => by
    have hi : i < (bl a ++ bl b).length := by omega
    have hab : (a ++ b).size = (bl a ++ bl b).length := by rw [bl_size, bl_append]
    have hbt : bt (a ++ b) (i : Int) = ((bl a ++ bl b)[i].toNat : Int) := by
      rw [bt_nat (a ++ b) i (by rw [bl_append]; exact hi)]
      simp only [bl_append]
    have hsz := bl_size a
    have hsb := bl_size b
    by_cases hb1 : (bl a ++ bl b)[i] = 10
    · refine ⟨1, fun k hk => ?_⟩
      obtain ⟨m, rfl⟩ : ∃ m, k = m + 1 := ⟨k - 1, by omega⟩
      dsimp only
      rw [cooperagelaw8_LexTabs.l0, if_pos (by omega), if_pos (by omega), hbt, if_pos (by rw [hb1]; rfl)]
    by_cases hb2 : (bl a ++ bl b)[i] = 92
    · refine ⟨1, fun k hk => ?_⟩
      obtain ⟨m, rfl⟩ : ∃ m, k = m + 1 := ⟨k - 1, by omega⟩
      dsimp only
      rw [cooperagelaw8_LexTabs.l0, if_pos (by omega), if_pos (by omega), hbt, if_neg (n10 hb1), if_pos (by rw [hb2]; rfl)]
    have hp' : ∀ x ∈ (bl a ++ bl b).take (i + 1), x ≠ 10 ∧ x ≠ 92 := fun x hx => by
      rw [List.take_succ_eq_append_getElem hi] at hx
      rcases List.mem_append.1 hx with hx | hx
      · exact hp x hx
      · rw [List.mem_singleton] at hx
        exact hx ▸ ⟨hb1, hb2⟩
    have hi2 := hi
    rw [List.length_append] at hi2
    by_cases hia : i < (bl a).length
    · have hga : (bl a ++ bl b)[i] = (bl a)[i] := List.getElem_append_left hia
      by_cases hb3 : (bl a ++ bl b)[i] = 35
      · refine ⟨1, fun k hk => ?_⟩
        obtain ⟨m, rfl⟩ : ∃ m, k = m + 1 := ⟨k - 1, by omega⟩
        dsimp only
        rw [cooperagelaw8_LexTabs.l0, if_pos (by omega), if_pos (by omega), hbt, if_neg (n10 hb1), if_neg (n92 hb2), if_pos (by omega), if_pos (by rw [hb3]; rfl)]
      · obtain ⟨K, hK⟩ := tabs_l0 a b ha hb d (i + 1) (by omega) hp' (fun x hx => by
          rw [List.take_succ_eq_append_getElem hia] at hx
          rcases List.mem_append.1 hx with hx | hx
          · exact hq x hx
          · rw [List.mem_singleton] at hx
            rw [hx, ← hga]
            exact hb3)
        refine ⟨K + 1, fun k hk => ?_⟩
        obtain ⟨m, rfl⟩ : ∃ m, k = m + 1 := ⟨k - 1, by omega⟩
        dsimp only
        rw [cooperagelaw8_LexTabs.l0, if_pos (by omega), if_pos (by omega), hbt, if_neg (n10 hb1), if_neg (n92 hb2), if_pos (by omega), if_neg (n35 hb3), wrap_succ i (by omega)]
        exact hK m (by omega)
    · obtain ⟨K, hK⟩ := tabs_l0 a b ha hb d (i + 1) (by omega) hp' (fun x hx => hq x (by
        rw [List.take_of_length_le (by omega)] at hx ⊢
        exact hx))
      refine ⟨K + 1, fun k hk => ?_⟩
      obtain ⟨m, rfl⟩ : ∃ m, k = m + 1 := ⟨k - 1, by omega⟩
      dsimp only
      rw [cooperagelaw8_LexTabs.l0, if_pos (by omega), if_pos (by omega), hbt, if_neg (n10 hb1), if_neg (n92 hb2), if_neg (by omega), wrap_succ i (by omega)]
      exact hK m (by omega)
end Go.Proofs.YtjbpabpfhkcolaaDoor.Pl
namespace Go.Proofs.YtjbpabpfhkcolaaDoor.Pure
open Go.RowKit Go.Proofs.YtjbpabpfhkcolaaDoor.PLex Go.Proofs.YtjbpabpfhkcolaaDoorW.PrintWords Go.Proofs.YtjbpabpfhkcolaaDoorW.PrintLast
open Go.Proofs.YtjbpabpfhkcolaaDoor.Pl
theorem LexTabs : cooperagelaw8_LexTabs.Pure := by
  intro a b _ _
  obtain ⟨K0, h0⟩ := shown_ev
  dsimp only at h0
  have stop : ∀ k, 1 ≤ k → cooperagelaw8_LexTabs.j0 k a b true true = some true := by
    intro k hk
    obtain ⟨m, rfl⟩ : ∃ m, k = m + 1 := ⟨k - 1, by omega⟩
    rw [cooperagelaw8_LexTabs.j0, if_pos rfl]
  by_cases h1 : (a.size : Int) > 300
  · refine ⟨K0 + 1, ?_⟩
    unfold cooperagelaw8_LexTabs.f
    rw [h0 _ (by omega)]
    simp only [Option.bind_some, if_true]
    rw [if_pos h1]
    exact stop _ (by omega)
  by_cases h2 : (b.size : Int) > 300
  · refine ⟨K0 + 1, ?_⟩
    unfold cooperagelaw8_LexTabs.f
    rw [h0 _ (by omega)]
    simp only [Option.bind_some, if_true]
    rw [if_neg h1, decide_eq_true h2]
    exact stop _ (by omega)
  obtain ⟨K, hK⟩ := tabs_l0 a b (by omega) (by omega) (bl a ++ bl b).length 0 (by omega) (by simp) (by simp)
  dsimp only at hK
  refine ⟨K0 + K + 1, ?_⟩
  unfold cooperagelaw8_LexTabs.f
  rw [h0 _ (by omega)]
  simp only [Option.bind_some, if_true]
  rw [if_neg h1, decide_eq_false h2, cooperagelaw8_LexTabs.j0, if_neg (by decide), if_pos (by omega)]
  exact hK _ (by omega)
end Go.Proofs.YtjbpabpfhkcolaaDoor.Pure
