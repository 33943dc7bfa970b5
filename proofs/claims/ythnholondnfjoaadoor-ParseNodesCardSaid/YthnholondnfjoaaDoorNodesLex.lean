/- What lex.Lex comes to, in plain words (beside the parser). -/
import Derived.Test.YthnholondnfjoaaDoorPParsex14
import Derived.Test.YthnholondnfjoaaDoorPParsex15
import Derived.Test.YthnholondnfjoaaDoorLexSpec
import Derived.Test.YthnholondnfjoaaDoorRounds
import Derived.KernelRfl
namespace Go.Proofs.YthnholondnfjoaaDoor.Pl.Lx
open Go.RowKit Go.Proofs.YthnholondnfjoaaDoor.PParse Go.Proofs.YthnholondnfjoaaDoorW.PrintWords Go.Proofs.YthnholondnfjoaaDoorW.PrintLast

theorem ofL_size (l : List UInt8) : (ofL l).size = l.length := by rw [bl_size, bl_ofL]
theorem trR_len (l cs : List UInt8) : (Lib.trimRightS l cs).length ≤ l.length := by
  unfold Lib.trimRightS
  rw [List.length_reverse]
  exact Nat.le_trans (List.dropWhile_suffix _).length_le (by simp)
theorem trL_len (l cs : List UInt8) : (Lib.trimLeftS l cs).length ≤ l.length := (List.dropWhile_suffix _).length_le
theorem goesL_len (l : List UInt8) : (goesL l).1.length ≤ l.length := by
  unfold goesL
  split
  · exact Nat.le_refl _
  · simp
theorem goes_f (l : List UInt8) (h : l.length ≤ 1000000000) : lex_goes.f (ofL l) = some (ofL (goesL l).1, (goesL l).2) := by
  unfold lex_goes.f strings_TrimRight.f
  have hs := ofL_size l
  have ht := trR_len l [92]
  rw [if_pos (show _ ∧ _ ∧ _ from ⟨by omega, by decide, by decide⟩)]
  simp only [Option.bind_some]
  rw [show (⟨(Lib.trimRightS (ofL l).data.toList (⟨#[92]⟩ : ByteArray).data.toList).toArray⟩ : ByteArray) = ofL (Lib.trimRightS l [92]) by rw [show (ofL l).data.toList = l from bl_ofL l]; rfl]
  unfold goesL
  generalize Lib.trimRightS l [92] = m at ht ⊢
  rw [hs, ofL_size m, wrap_sm (by omega) (by omega), show (l.length : Int) - m.length = ((l.length - m.length : Nat) : Int) by omega,
    show Int.tmod ((l.length - m.length : Nat) : Int) 2 = (((l.length - m.length) % 2 : Nat) : Int) from rfl]
  by_cases c : (l.length - m.length) % 2 = 0
  · rw [if_pos (by omega), if_pos c]
  · rw [if_neg (by omega), if_neg c, wrap_sm (by omega) (by omega), if_pos (by omega), if_pos (by omega)]
    rw [show (ofL l).extract 0 ((l.length : Int) - 1).toNat = ofL (l.take (l.length - 1)) from bl_inj (by rw [bl_extract_from, bl_ofL, bl_ofL]; congr 1; omega)]
theorem trimL_f (l : List UInt8) : strings_TrimLeft.f (ofL l) ⟨#[32, 9]⟩ = some (ofL (triL l)) := by
  unfold strings_TrimLeft.f
  rw [if_pos (show _ ∧ _ from ⟨by decide, by decide⟩), show (ofL l).data.toList = l from bl_ofL l]
  rfl
theorem trimR_f (l : List UInt8) (h : l.length ≤ 1000000000) : strings_TrimRight.f (ofL l) ⟨#[32, 9]⟩ = some (ofL (triR l)) := by
  unfold strings_TrimRight.f
  have hs := ofL_size l
  rw [if_pos (show _ ∧ _ ∧ _ from ⟨by omega, by decide, by decide⟩), show (ofL l).data.toList = l from bl_ofL l]
  rfl
theorem trim_f (l : List UInt8) (h : l.length ≤ 1000000000) : text_Trim.f (ofL l) = some (ofL (tri l)) := by
  unfold text_Trim.f strings_Trim.f
  have hs := ofL_size l
  rw [if_pos (show _ ∧ _ ∧ _ from ⟨by omega, by decide, by decide⟩), show (ofL l).data.toList = l from bl_ofL l]
  rfl
theorem cut35_no : ∀ (l : List UInt8), 35 ∉ l → cut35 l = l
  | [], _ => rfl
  | c :: l, h => by
    have hc : (c != 35) = true := bne_iff_ne.2 (fun e => h (by simp [e]))
    have := cut35_no l (fun m => h (by simp [m]))
    unfold cut35 at this ⊢
    rw [List.takeWhile_cons, if_pos hc, this]
theorem cut35_at : ∀ (a b : List UInt8), 35 ∉ a → cut35 (a ++ 35 :: b) = a
  | [], b, _ => by simp [cut35]
  | c :: a, b, h => by
    have hc : (c != 35) = true := bne_iff_ne.2 (fun e => h (by simp [e]))
    have := cut35_at a b (fun m => h (by simp [m]))
    unfold cut35 at this ⊢
    rw [List.cons_append, List.takeWhile_cons, if_pos hc, this]
theorem cut_f {α : Type} (l : List UInt8) (h : l.length ≤ 1000000000) (g : ByteArray → Option α) : ((strings_Cut.f (ofL l) ⟨#[35]⟩).bind fun bt => g bt.1) = g (ofL (cut35 l)) := by
  rcases text_cut 35 (ofL l) (by rw [ofL_size]; exact h) with ⟨hn, e⟩ | ⟨a, b, hl, ha, e⟩
  · rw [bl_ofL] at hn
    rw [e, cut35_no l hn]
    rfl
  · rw [bl_ofL] at hl
    rw [e, hl, cut35_at a b ha]
    rfl
theorem prefix_f (l : List UInt8) (h : l.length ≤ 1000000000) : strings_HasPrefix.f (ofL l) ⟨#[9]⟩ = some (tabOf l) := by
  have hs := ofL_size l
  unfold strings_HasPrefix.f stringslite_HasPrefix.f
  have h9 : ((⟨#[9]⟩ : ByteArray).size : Int) = 1 := rfl
  rw [h9, hs]
  cases l with
  | nil => rfl
  | cons c t =>
    have hl : (1 : Int) ≤ ((c :: t).length : Int) := by simp only [List.length_cons]; omega
    rw [if_pos hl, if_pos (by omega), if_pos hl]
    simp only [Option.bind_some]
    rw [bl_toList, bl_toList, bl_extract_from, bl_ofL]
    show some (([c] : List UInt8) == [9]) = some (some c == some 9)
    congr 1
    rw [Bool.eq_iff_iff]
    simp
def toS (x : Row) : S43 := ⟨(x.no : Int), x.tab, ofL x.text⟩
/-- What the lines come to, x5 being what there is. -/
def fin (x5 : List S43) (rows : List Row) : List S43 × Int × Int := match chk x5.length rows with
  | none => (x5 ++ rows.map toS, 0, 0)
  | some n => ([], 3, (n : Int))
theorem fin_nil (x5 : List S43) : fin x5 [] = (x5, 0, 0) := by simp [fin, chk]
theorem fin_bad (x5 : List S43) (x : Row) (rows : List Row) (h : 1000 < x.text.length ∨ 300 ≤ x5.length) : fin x5 (x :: rows) = ([], 3, (x.no : Int)) := by
  unfold fin
  rw [show chk x5.length (x :: rows) = some x.no by unfold chk; rw [if_pos h]]
theorem fin_good (x5 : List S43) (x : Row) (rows : List Row) (h : ¬ (1000 < x.text.length ∨ 300 ≤ x5.length)) : fin x5 (x :: rows) = fin (x5 ++ [toS x]) rows := by
  unfold fin
  rw [show chk x5.length (x :: rows) = chk (x5.length + 1) rows by rw [chk, if_neg h], List.length_append, List.length_singleton]
  cases chk (x5.length + 1) rows with
  | none => simp
  | some n => rfl
/-- The end of a line: what is told of it, and on with the next one. -/
theorem j3_ev (ls : List (List UInt8)) (x5 : List S43) (c no : Nat) (tab : Bool) (e : ByteArray) (all : List UInt8) (rows : List Row) (hx : x5.length ≤ 300) (hc : c < 1000000) (ha : all.length ≤ 1000000000)
    (h : ∀ x6 : List S43, x6.length ≤ 300 → Ev (fun k => lex_Lex.l0 k x6 (ls.map ofL) ((c + 1 : Nat) : Int)) (fin x6 rows)) :
    Ev (fun k => lex_Lex.j3 k x5 (ls.map ofL) (c : Int) (ofL all) (no : Int) tab e) (fin x5 ((if tri all = [] then [] else [⟨no, tab, tri all⟩]) ++ rows)) := by
  have hw := wrap_succ c (by omega)
  by_cases c0 : tri all = []
  · obtain ⟨K, hK⟩ := h x5 hx
    refine ⟨K + 1, fun k hk => ?_⟩
    obtain ⟨m, rfl⟩ : ∃ m, k = m + 1 := ⟨k - 1, by omega⟩
    dsimp only
    rw [if_pos c0, List.nil_append, lex_Lex.j3, trim_f all ha]
    simp only [Option.bind_some]
    rw [bl_toList, bl_ofL, if_pos c0, hw]
    exact hK m (by omega)
  · rw [if_neg c0]
    by_cases c1 : 1000 < (tri all).length ∨ 300 ≤ x5.length
    · refine ⟨1, fun k hk => ?_⟩
      obtain ⟨m, rfl⟩ : ∃ m, k = m + 1 := ⟨k - 1, by omega⟩
      dsimp only
      rw [List.cons_append, List.nil_append, fin_bad x5 _ rows c1, lex_Lex.j3, trim_f all ha]
      simp only [Option.bind_some]
      rw [bl_toList, bl_ofL, if_neg c0, ofL_size]
      by_cases c2 : 1000 < (tri all).length
      · rw [if_pos (by omega)]
      · rw [if_neg (by omega), if_pos (by omega)]
    · obtain ⟨K, hK⟩ := h (x5 ++ [toS ⟨no, tab, tri all⟩]) (by simp; omega)
      refine ⟨K + 1, fun k hk => ?_⟩
      obtain ⟨m, rfl⟩ : ∃ m, k = m + 1 := ⟨k - 1, by omega⟩
      dsimp only
      rw [List.cons_append, List.nil_append, fin_good x5 _ rows c1, lex_Lex.j3, trim_f all ha]
      simp only [Option.bind_some]
      rw [bl_toList, bl_ofL, if_neg c0, ofL_size, if_neg (by omega), if_neg (by omega), if_pos (by omega), hw]
      exact hK m (by omega)
/-- A line with what goes on. -/
theorem l1_ev (ls : List (List UInt8)) (hls : ∀ l ∈ ls, l.length ≤ 5000) (hn : ls.length ≤ 5000) (x5 : List S43) (no : Nat) (tab : Bool) (e : ByteArray) (a0 : Nat) (T : Nat → List UInt8 → List S43 × Int × Int)
    (hT : ∀ c all, a0 ≤ c → c < ls.length → all.length ≤ 5001 * (c + 1) → Ev (fun k => lex_Lex.j3 k x5 (ls.map ofL) (c : Int) (ofL (if tab then all else cut35 all)) (no : Int) tab e) (T c all)) :
    ∀ (r : List (List UInt8)) (c : Nat) (all : List UInt8) (on : Bool), a0 ≤ c → c < ls.length → ls.drop (c + 1) = r → all.length ≤ 5001 * (c + 1) →
      Ev (fun k => lex_Lex.l1 k x5 (ls.map ofL) (c : Int) (ofL all) on (no : Int) tab e) (T (c + (r.length - (joinL all on r).2.length)) (joinL all on r).1) := by
  have stop : ∀ (c : Nat) (all : List UInt8), a0 ≤ c → c < ls.length → all.length ≤ 5001 * (c + 1) → Ev (fun k => lex_Lex.j2 k x5 (ls.map ofL) (c : Int) (ofL all) false (no : Int) tab e) (T c all) := by
    intro c all hac hc ha
    obtain ⟨K, hK⟩ := hT c all hac hc ha
    refine ⟨K + 1, fun k hk => ?_⟩
    obtain ⟨m, rfl⟩ : ∃ m, k = m + 1 := ⟨k - 1, by omega⟩
    dsimp only
    have h := hK m (by omega)
    rw [lex_Lex.j2, if_neg (by decide)]
    cases tab with
    | true => rw [if_pos rfl]; exact h
    | false =>
      rw [if_neg (by decide), cut_f all (by omega) (fun b => lex_Lex.j3 m x5 (ls.map ofL) (c : Int) b (no : Int) false e)]
      exact h
  intro r
  induction r with
  | nil =>
    intro c all on hac hc hd ha
    have hl : ls.length ≤ c + 1 := by have := congrArg List.length hd; simp at this; omega
    rw [joinL_nil]
    obtain ⟨K, hK⟩ := stop c all hac hc ha
    refine ⟨K + 1, fun k hk => ?_⟩
    obtain ⟨m, rfl⟩ : ∃ m, k = m + 1 := ⟨k - 1, by omega⟩
    dsimp only
    have h := hK m (by omega)
    rw [lex_Lex.l1, wrap_succ c (by omega), List.length_map, show decide (((c + 1 : Nat) : Int) < (ls.length : Int)) = false from decide_eq_false (by omega)]
    rw [ite_self]
    exact h
  | cons x r ih =>
    intro c all on hac hc hd ha
    have hl : c + 1 < ls.length := by have := congrArg List.length hd; simp at this; omega
    cases on with
    | false =>
      rw [joinL_false, Nat.sub_self]
      obtain ⟨K, hK⟩ := stop c all hac hc ha
      refine ⟨K + 1, fun k hk => ?_⟩
      obtain ⟨m, rfl⟩ : ∃ m, k = m + 1 := ⟨k - 1, by omega⟩
      dsimp only
      rw [lex_Lex.l1, if_neg (by decide)]
      exact hK m (by omega)
    | true =>
      have hd' := hd
      rw [drop_cons ls (c + 1) hl] at hd'
      injection hd' with hx hr
      have hx5 : x.length ≤ 5000 := by rw [← hx]; exact hls _ (List.getElem_mem hl)
      have h1 : (triL x).length ≤ 5000 := Nat.le_trans (trL_len x _) hx5
      have h2 := goesL_len (triL x)
      have h3 : (triR all).length ≤ all.length := trR_len all _
      have hlen : (triR all ++ 32 :: (goesL (triL x)).1).length ≤ 5001 * (c + 1 + 1) := by
        rw [List.length_append, List.length_cons]
        omega
      obtain ⟨K, hK⟩ := ih (c + 1) (triR all ++ 32 :: (goesL (triL x)).1) (goesL (triL x)).2 (by omega) hl hr hlen
      have hjl := joinL_len r (triR all ++ 32 :: (goesL (triL x)).1) (goesL (triL x)).2
      rw [joinL_cons, List.length_cons, show c + (r.length + 1 - (joinL (triR all ++ 32 :: (goesL (triL x)).1) (goesL (triL x)).2 r).2.length) = c + 1 + (r.length - (joinL (triR all ++ 32 :: (goesL (triL x)).1) (goesL (triL x)).2 r).2.length) by omega]
      refine ⟨K + 2, fun k hk => ?_⟩
      obtain ⟨m, rfl⟩ : ∃ m, k = m + 1 + 1 := ⟨k - 2, by omega⟩
      dsimp only
      have h := hK m (by omega)
      have hrd : rdOf ByteArray.empty (ls.map ofL) ((c + 1 : Nat) : Int) = ofL x := by
        rw [rdOf_nat _ _ (c + 1) (by rw [List.length_map]; exact hl), List.getElem_map, hx]
      rw [lex_Lex.l1, if_pos rfl, wrap_succ c (by omega), List.length_map, show decide (((c + 1 : Nat) : Int) < (ls.length : Int)) = true from decide_eq_true (by omega), lex_Lex.j2, if_pos rfl,
        wrap_succ c (by omega), List.length_map, if_pos (by omega), if_pos (by omega), hrd, trimL_f]
      simp only [Option.bind_some]
      rw [goes_f _ (by omega), trimR_f all (by omega)]
      simp only [Option.bind_some]
      have hap : (ofL (triR all) ++ (⟨#[32]⟩ : ByteArray)) ++ ofL (goesL (triL x)).1 = ofL (triR all ++ 32 :: (goesL (triL x)).1) := bl_inj (by rw [bl_append, bl_append, bl_ofL, bl_ofL, bl_ofL]; simp [bl])
      have hs1 : (ofL (triR all) ++ (⟨#[32]⟩ : ByteArray)).size = (triR all).length + 1 := by rw [bl_size, bl_append, bl_ofL]; simp [bl]
      rw [hap, hs1, ofL_size, ofL_size, if_pos (by omega), if_pos (by omega)]
      exact h
set_option maxHeartbeats 2000000 in
theorem l0_ev (ls : List (List UInt8)) (hls : ∀ l ∈ ls, l.length ≤ 5000) (hn : ls.length ≤ 5000) :
    ∀ (f a : Nat), a ≤ ls.length → ls.length - a ≤ f → ∀ x5 : List S43, x5.length ≤ 300 → Ev (fun k => lex_Lex.l0 k x5 (ls.map ofL) (a : Int)) (fin x5 (grp f a (ls.drop a))) := by
  intro f
  induction f with
  | zero =>
    intro a ha hf x5 hx
    refine ⟨1, fun k hk => ?_⟩
    obtain ⟨m, rfl⟩ : ∃ m, k = m + 1 := ⟨k - 1, by omega⟩
    dsimp only
    rw [lex_Lex.l0, List.length_map, if_neg (by omega)]
    unfold grp
    rw [fin_nil]
  | succ f ih =>
    intro a ha hf x5 hx
    by_cases hlt : a < ls.length
    · rw [drop_cons ls a hlt]
      have hl5 := hls _ (List.getElem_mem hlt)
      have hlen : (ls.drop (a + 1)).length = ls.length - (a + 1) := List.length_drop
      have hT : ∀ c all, a ≤ c → c < ls.length → all.length ≤ 5001 * (c + 1) → Ev (fun k => lex_Lex.j3 k x5 (ls.map ofL) (c : Int) (ofL (if tabOf ls[a] then all else cut35 all)) ((a + 1 : Nat) : Int) (tabOf ls[a]) ⟨#[]⟩)
          (fin x5 ((if textOf (tabOf ls[a]) all = [] then [] else [⟨a + 1, tabOf ls[a], textOf (tabOf ls[a]) all⟩]) ++ grp f (c + 1) (ls.drop (c + 1)))) := by
        intro c all hac hc hall
        have hta : (if tabOf ls[a] then all else cut35 all).length ≤ 1000000000 := by
          split
          · omega
          · have : (cut35 all).length ≤ all.length := (List.takeWhile_prefix _).length_le
            omega
        exact j3_ev ls x5 c (a + 1) (tabOf ls[a]) ⟨#[]⟩ _ _ hx (by omega) hta (fun x6 h6 => ih (c + 1) (by omega) (by omega) x6 h6)
      obtain ⟨K, hK⟩ := l1_ev ls hls hn x5 (a + 1) (tabOf ls[a]) ⟨#[]⟩ a (fun c all => fin x5 ((if textOf (tabOf ls[a]) all = [] then [] else [⟨a + 1, tabOf ls[a], textOf (tabOf ls[a]) all⟩]) ++ grp f (c + 1) (ls.drop (c + 1)))) hT
        (ls.drop (a + 1)) a (goesL ls[a]).1 (goesL ls[a]).2 (Nat.le_refl _) hlt rfl (by have := goesL_len ls[a]; omega)
      refine ⟨K + 1, fun k hk => ?_⟩
      obtain ⟨m, rfl⟩ : ∃ m, k = m + 1 := ⟨k - 1, by omega⟩
      dsimp only
      have h := hK m (by omega)
      have hjl := joinL_len (ls.drop (a + 1)) (goesL ls[a]).1 (goesL ls[a]).2
      have hjd := joinL_drop (ls.drop (a + 1)) (goesL ls[a]).1 (goesL ls[a]).2
      have hrd : rdOf ByteArray.empty (ls.map ofL) (a : Int) = ofL ls[a] := by
        rw [rdOf_nat _ _ a (by rw [List.length_map]; exact hlt), List.getElem_map]
      rw [lex_Lex.l0, List.length_map, if_pos (by omega), if_pos (by omega), hrd, prefix_f _ (by omega), goes_f _ (by omega)]
      simp only [Option.bind_some]
      rw [wrap_succ a (by omega)]
      rw [grp]
      have e1 : grp f (a + 1 + ((ls.drop (a + 1)).length - (joinL (goesL ls[a]).1 (goesL ls[a]).2 (ls.drop (a + 1))).2.length)) (joinL (goesL ls[a]).1 (goesL ls[a]).2 (ls.drop (a + 1))).2 =
          grp f (a + ((ls.drop (a + 1)).length - (joinL (goesL ls[a]).1 (goesL ls[a]).2 (ls.drop (a + 1))).2.length) + 1) (ls.drop (a + ((ls.drop (a + 1)).length - (joinL (goesL ls[a]).1 (goesL ls[a]).2 (ls.drop (a + 1))).2.length) + 1)) := by
        congr 1
        · omega
        · rw [List.drop_drop] at hjd
          rw [show a + ((ls.drop (a + 1)).length - (joinL (goesL ls[a]).1 (goesL ls[a]).2 (ls.drop (a + 1))).2.length) + 1 = a + 1 + ((ls.drop (a + 1)).length - (joinL (goesL ls[a]).1 (goesL ls[a]).2 (ls.drop (a + 1))).2.length) by omega]
          exact hjd
      rw [e1]
      exact h
    · refine ⟨1, fun k hk => ?_⟩
      obtain ⟨m, rfl⟩ : ∃ m, k = m + 1 := ⟨k - 1, by omega⟩
      dsimp only
      rw [lex_Lex.l0, List.length_map, if_neg (by omega), List.drop_eq_nil_of_le (by omega)]
      unfold grp
      rw [fin_nil]
theorem linesGo_mem : ∀ (t cur l : List UInt8), l ∈ linesGo cur t → l.length ≤ cur.length + t.length
  | [], cur, l, h => by
    unfold linesGo at h
    split at h
    · simp at h
    · rw [List.mem_singleton] at h
      subst h
      omega
  | c :: t, cur, l, h => by
    unfold linesGo at h
    split at h
    · rcases List.mem_cons.1 h with rfl | h'
      · omega
      · have := linesGo_mem t [] l h'
        simp at this ⊢
        omega
    · have := linesGo_mem t (cur ++ [c]) l h
      simp at this ⊢
      omega
theorem lex_ev (s : ByteArray) (hs : s.size ≤ 5000) : Ev (fun k => lex_Lex.f k s) (fin [] (rowsOf (bl s))) := by
  have hb : (bl s).length ≤ 5000 := by rw [← bl_size]; exact hs
  obtain ⟨K, hK⟩ := l0_ev (linesL (bl s)) (fun l hl => by have := linesGo_mem (bl s) [] l hl; simp at this; omega) (by have := linesL_len (bl s); omega) (linesL (bl s)).length 0 (Nat.zero_le _) (by omega) [] (by simp)
  refine ⟨K, fun k hk => ?_⟩
  have h := hK k hk
  dsimp only
  unfold lex_Lex.f text_Lines.f
  rw [if_pos (by omega)]
  exact h
/-- What is told of a text. -/
theorem fin_none (rows : List Row) (h : chk 0 rows = none) : fin [] rows = (rows.map toS, 0, 0) := by
  unfold fin
  rw [show chk ([] : List S43).length rows = none from h]
  simp
theorem fin_some (rows : List Row) (n : Nat) (h : chk 0 rows = some n) : fin [] rows = ([], 3, (n : Int)) := by
  unfold fin
  rw [show chk ([] : List S43).length rows = some n from h]
theorem bt_ofL (l : List UInt8) (j : Nat) (h : j < l.length) : bt (ofL l) (j : Int) = (l[j].toNat : Int) := by
  rw [bt_nat (ofL l) j (by rw [bl_ofL]; exact h)]
  simp only [bl_ofL]
theorem u8_ne {x c : UInt8} (h : x ≠ c) : ¬ ((x.toNat : Int) = (c.toNat : Int)) := fun e => h ((u8_eq x c).1 e)
theorem n10 {x : UInt8} (h : x ≠ 10) : ¬ ((x.toNat : Int) = 10) := u8_ne (c := 10) h
theorem n32 {x : UInt8} (h : x ≠ 32) : ¬ ((x.toNat : Int) = 32) := u8_ne (c := 32) h
theorem n9 {x : UInt8} (h : x ≠ 9) : ¬ ((x.toNat : Int) = 9) := u8_ne (c := 9) h
theorem n35 {x : UInt8} (h : x ≠ 35) : ¬ ((x.toNat : Int) = 35) := u8_ne (c := 35) h
theorem n92 {x : UInt8} (h : x ≠ 92) : ¬ ((x.toNat : Int) = 92) := u8_ne (c := 92) h
end Go.Proofs.YthnholondnfjoaaDoor.Pl.Lx
