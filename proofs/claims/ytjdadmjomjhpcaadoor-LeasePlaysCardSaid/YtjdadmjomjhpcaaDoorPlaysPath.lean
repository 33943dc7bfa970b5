/- The program and the document call the same texts paths. -/
import Derived.Test.YtjdadmjomjhpcaaDoorPLeasex3
import Derived.Test.YtjdadmjomjhpcaaDoorPLeasex14
import Derived.Test.YtjdadmjomjhpcaaDoorRounds
import Derived.KernelRfl
namespace Go.Proofs.YtjdadmjomjhpcaaDoor.Pl
open Go.RowKit Go.Proofs.YtjdadmjomjhpcaaDoor.PLease Go.Proofs.YtjdadmjomjhpcaaDoorW.PrintWords Go.Proofs.YtjdadmjomjhpcaaDoorW.PrintLast
theorem Ev.le {α : Type} {g : Nat → Option α} {r : α} (K : Nat) (h : ∀ k, K ≤ k → g k = some r) : Ev g r := ⟨K, h⟩
theorem plain_all : ((List.range 256).all fun b => (cooperageref1_plain.f (b : Int)).isSome && text_plain.f 12 (b : Int) == cooperageref1_plain.f (b : Int)) = true := by kernel_rfl
def plB (c : UInt8) : Bool := (cooperageref1_plain.f (c.toNat : Int)).getD false
theorem plain_ref (c : UInt8) : cooperageref1_plain.f (c.toNat : Int) = some (plB c) := by
  have h := List.all_eq_true.1 plain_all c.toNat (List.mem_range.2 (UInt8.toNat_lt c))
  obtain ⟨r, e⟩ := Option.isSome_iff_exists.1 (Bool.and_eq_true_iff.1 h).1
  unfold plB
  rw [e]
  rfl
theorem plain_pr (c : UInt8) (k : Nat) (hk : 12 ≤ k) : text_plain.f k (c.toNat : Int) = some (plB c) := by
  have h := List.all_eq_true.1 plain_all c.toNat (List.mem_range.2 (UInt8.toNat_lt c))
  exact at_rounds (fun k => text_plain.mono _ k) hk ((beq_iff_eq.1 (Bool.and_eq_true_iff.1 h).2).trans (plain_ref c))
theorem bt_at (s : ByteArray) (pre t : List UInt8) (c : UInt8) (h : bl s = pre ++ c :: t) : bt s (pre.length : Int) = (c.toNat : Int) := by
  rw [bt_nat s pre.length (by rw [h]; simp)]
  simp [h]
theorem path_l0 (s : ByteArray) (hs : (bl s).length ≤ 1000000) : ∀ (rest pre : List UInt8), bl s = pre ++ rest → ∀ k, rest.length + 20 ≤ k → text_Path.l0 k s (pre.length : Int) = some (rest.all plB)
  | [], pre, hd, k, hk => by
    obtain ⟨m, rfl⟩ : ∃ m, k = m + 1 := ⟨k - 1, by omega⟩
    have hz : s.size = pre.length := by rw [bl_size, hd]; simp
    rw [text_Path.l0, if_neg (by omega)]
    rfl
  | c :: t, pre, hd, k, hk => by
    rw [List.length_cons] at hk
    obtain ⟨m, rfl⟩ : ∃ m, k = m + 1 := ⟨k - 1, by omega⟩
    have hz : s.size = pre.length + (t.length + 1) := by rw [bl_size, hd]; simp
    have hs' := hs
    rw [← bl_size, hz] at hs'
    rw [text_Path.l0, if_pos (by omega), if_pos (by omega), bt_at s pre t c hd, plain_pr c m (by omega), List.all_cons]
    simp only [Option.bind_some]
    cases plB c with
    | false => rw [if_neg (by decide)]; rfl
    | true =>
      rw [if_pos rfl, wrap_succ _ (by omega), Bool.true_and]
      have ih := path_l0 s hs t (pre ++ [c]) (by rw [hd]; simp) m (by omega)
      rw [show (pre ++ [c]).length = pre.length + 1 by simp] at ih
      exact ih
def okP (p : List UInt8) : Bool := p != [] && (p != [46] && p != [46, 46])
theorem path_l1 (l : List (List UInt8)) (hl : l.length ≤ 1000000) : ∀ (d i : Nat), i + d = l.length → ∀ k, d + 1 ≤ k → text_Path.l1 k (l.map ofL) (i : Int) = some ((l.drop i).all okP)
  | 0, i, e, k, hk => by
    obtain ⟨m, rfl⟩ : ∃ m, k = m + 1 := ⟨k - 1, by omega⟩
    rw [text_Path.l1, List.length_map, if_neg (by omega), List.drop_of_length_le (by omega)]
    rfl
  | d + 1, i, e, k, hk => by
    obtain ⟨m, rfl⟩ : ∃ m, k = m + 1 := ⟨k - 1, by omega⟩
    have hi : i < l.length := by omega
    have hrd : rdOf ByteArray.empty (l.map ofL) (i : Int) = ofL l[i] := by rw [rdOf_nat _ _ i (by rw [List.length_map]; exact hi), List.getElem_map]
    rw [text_Path.l1, List.length_map, if_pos (by omega), if_pos (by omega), hrd, wrap_succ i (by omega), path_l1 l hl d (i + 1) (by omega) m (by omega), drop_cons l i hi, List.all_cons, bl_toList, bl_ofL]
    unfold okP
    by_cases c1 : l[i] = []
    · rw [if_pos c1, c1]; rfl
    · rw [if_neg c1, bne_iff_ne.2 c1]
      by_cases c2 : l[i] = [46]
      · rw [if_pos c2, c2]; rfl
      · rw [if_neg c2, bne_iff_ne.2 c2]
        by_cases c3 : l[i] = [46, 46]
        · rw [if_pos c3, c3]; rfl
        · rw [if_neg c3, bne_iff_ne.2 c3]; rfl
/-- A text's parts, cut at strokes. -/
def splG : List UInt8 → List UInt8 → List (List UInt8)
  | cur, [] => [cur]
  | cur, c :: t => if c = 47 then cur :: splG [] t else splG (cur ++ [c]) t
theorem splG_app : ∀ (a cur t : List UInt8), 47 ∉ a → splG cur (a ++ t) = splG (cur ++ a) t
  | [], cur, t, _ => by simp
  | c :: a, cur, t, h => by
    have hc : c ≠ 47 := fun e => h (by simp [e])
    rw [List.cons_append, splG, if_neg hc, splG_app a _ t (fun m => h (by simp [m]))]
    simp
theorem splG_len : ∀ (t cur : List UInt8), (splG cur t).length = t.count 47 + 1
  | [], cur => rfl
  | c :: t, cur => by
    rw [splG]
    by_cases h : c = 47
    · rw [if_pos h, List.length_cons, splG_len t [], h, List.count_cons_self]
    · rw [if_neg h, splG_len t _, List.count_cons_of_ne h]
theorem split_last (k i n : Nat) (s : ByteArray) (row : List ByteArray) (e : i + 1 = n) (hr : row.length = n) (hn : n ≤ 1000000) (n1 : Int) (hn1 : n1 = (n : Int) - 1) :
    strings_genSplit.l0 (k + 1) s ⟨#[47]⟩ 0 n1 row (i : Int) = some (row.take i ++ [s]) := by
  rw [strings_genSplit.l0, if_neg (by omega), if_pos (by omega), if_pos (by omega), wrap_succ i (by omega), if_pos (by omega), if_pos (by omega), Int.toNat_natCast, Int.toNat_natCast]
  congr 1
  rw [List.take_succ_eq_append_getElem (by simp; omega), List.getElem_set_self, List.take_set_of_le (Nat.le_refl _)]
theorem split_more (k i n : Nat) (a b : List UInt8) (ha : 47 ∉ a) (row : List ByteArray) (e : i + 1 < n) (hr : row.length = n) (hn : n ≤ 1000000) (hs : a.length + (b.length + 1) ≤ 1000000) (n1 : Int) (hn1 : n1 = (n : Int) - 1) :
    strings_genSplit.l0 (k + 1) (ofL (a ++ 47 :: b)) ⟨#[47]⟩ 0 n1 row (i : Int) = strings_genSplit.l0 k (ofL b) ⟨#[47]⟩ 0 n1 (row.set i (ofL a)) ((i + 1 : Nat) : Int) := by
  have hz : (ofL (a ++ 47 :: b)).size = a.length + (b.length + 1) := by rw [bl_size, bl_ofL]; simp
  obtain ⟨t, ht⟩ : ∃ t : Int, t = (a.length : Int) := ⟨_, rfl⟩
  have hf : Unit → strings_Index.f (ofL (a ++ 47 :: b)) ⟨#[47]⟩ = some t := fun _ => by
    rw [ht]
    unfold strings_Index.f stringslite_Index.f
    rw [if_pos (show (⟨#[47]⟩ : ByteArray).size = 1 from rfl)]
    rcases ib_cases 47 (a ++ 47 :: b) with ⟨_, hno⟩ | ⟨a', b', hl, ha', hi⟩
    · exact absurd (by simp) hno
    · have : a' = a := by
        have h1 := congrArg (List.takeWhile (· != 47)) hl
        rw [List.takeWhile_append_of_pos (fun x hx => bne_iff_ne.2 (fun q : x = 47 => ha (q ▸ hx))), List.takeWhile_append_of_pos (fun x hx => bne_iff_ne.2 (fun q : x = 47 => ha' (q ▸ hx)))] at h1
        simpa using h1.symm
      rw [this] at hi
      show (some (Lib.indexByte (bl (ofL (a ++ 47 :: b))) 47)).bind _ = _
      rw [bl_ofL, hi]
      rfl
  have hw : Unit → wrap64 (t + ((⟨#[47]⟩ : ByteArray).size : Int)) = t + 1 := fun _ => by
    rw [ht, show ((⟨#[47]⟩ : ByteArray).size : Int) = 1 from rfl]
    exact wrap_sm (by omega) (by omega)
  have hw0 : Unit → wrap64 (t + 0) = t := fun _ => by rw [Int.add_zero]; exact wrap_sm (by omega) (by omega)
  have hx : (ofL (a ++ 47 :: b)).extract (a.length + 1) (ofL (a ++ 47 :: b)).size = ofL b := bl_inj (by
    rw [bl_extract_to, bl_ofL, bl_ofL, show a ++ 47 :: b = (a ++ [47]) ++ b by simp, show a.length + 1 = (a ++ [47]).length by simp, List.drop_left])
  have hy : (ofL (a ++ 47 :: b)).extract 0 a.length = ofL a := bl_inj (by rw [bl_extract_from, bl_ofL, bl_ofL, List.take_left])
  rw [strings_genSplit.l0, if_pos (by omega), hf ()]
  simp only [Option.bind_some]
  rw [if_neg (by omega), hw0 (), hw (), if_pos (by omega), if_pos (by omega), if_pos (by omega), if_pos (by omega), if_pos (by omega), if_pos (by omega), wrap_succ i (by omega), Int.toNat_natCast, show (t + 1).toNat = a.length + 1 by omega, show t.toNat = a.length by omega, hx, hy]
theorem split_l0 (n : Nat) (hn : n ≤ 1000000) (n1 : Int) (hn1 : n1 = (n : Int) - 1) (d : Nat) : ∀ (i : Nat) (l : List UInt8) (row : List ByteArray), l.count 47 = d → i + d + 1 = n → row.length = n → l.length ≤ 1000000 →
    ∀ k, d + 1 ≤ k → strings_genSplit.l0 k (ofL l) ⟨#[47]⟩ 0 n1 row (i : Int) = some (row.take i ++ (splG [] l).map ofL) := by
  induction d with
  | zero =>
    intro i l row hd e hr hs k hk
    obtain ⟨m, rfl⟩ : ∃ m, k = m + 1 := ⟨k - 1, by omega⟩
    have hsp : splG [] l = [l] := by
      have := splG_app l [] [] (List.count_eq_zero.1 hd)
      rw [List.append_nil] at this
      exact this
    rw [split_last m i n (ofL l) row (by omega) hr hn n1 hn1, hsp]
    rfl
  | succ d ih =>
    intro i l row hd e hr hs k hk
    obtain ⟨m, rfl⟩ : ∃ m, k = m + 1 := ⟨k - 1, by omega⟩
    rcases ib_cases 47 l with ⟨_, hno⟩ | ⟨a, b, rfl, ha, _⟩
    · rw [List.count_eq_zero.2 hno] at hd
      exact absurd hd (by simp)
    · have hcb : b.count 47 = d := by
        rw [List.count_append, List.count_eq_zero.2 ha, List.count_cons_self, Nat.zero_add] at hd
        exact Nat.succ.inj hd
      clear hd
      have hlen : a.length + (b.length + 1) ≤ 1000000 := by simpa using hs
      rw [split_more m i n a b ha row (by omega) hr hn hlen n1 hn1, ih (i + 1) b (row.set i (ofL a)) hcb (by omega) (by simpa using hr) (by omega) m (by omega)]
      congr 1
      rw [splG_app a [] _ ha, splG, if_pos rfl, List.take_succ_eq_append_getElem (by simp; omega), List.getElem_set_self, List.take_set_of_le (Nat.le_refl _)]
      simp
theorem split_f (s : ByteArray) (hs : s.size ≤ 10000) (k : Nat) (hk : 20000 ≤ k) : strings_Split.f k s ⟨#[47]⟩ = some ((splG [] (bl s)).map ofL) := by
  have hz := bl_size s
  have hc : (bl s).count 47 ≤ (bl s).length := List.count_le_length
  obtain ⟨m, rfl⟩ : ∃ m, k = m + 1 := ⟨k - 1, by omega⟩
  obtain ⟨n, hn⟩ : ∃ n, n = (bl s).count 47 := ⟨_, rfl⟩
  obtain ⟨t, ht⟩ : ∃ t : Int, t = (n : Int) := ⟨_, rfl⟩
  have hcf : Unit → strings_Count.f s ⟨#[47]⟩ = some t := fun _ => by
    unfold strings_Count.f
    rw [if_pos (show (⟨#[47]⟩ : ByteArray).size = 1 from rfl), ht, hn]
    rfl
  rw [← hn] at hc
  have h := split_l0 (n + 1) (by omega) (n : Int) (by omega) n 0 (bl s) (List.replicate (n + 1) ⟨#[]⟩) hn.symm (by omega) (by simp) (by omega) m (by omega)
  rw [ofL_bl, show ((0 : Nat) : Int) = 0 from rfl] at h
  clear hn
  have hmn : Unit → mn (t + 1) ((s.size : Int) + 1) = t + 1 := fun _ => by
    unfold mn
    split <;> omega
  unfold strings_Split.f strings_genSplit.f
  rw [if_neg (by decide), if_neg (by rw [bl_toList]; exact List.cons_ne_nil _ _), if_pos (by decide), hcf ()]
  simp only [Option.bind_some]
  rw [wrap_sm (i := t + 1) (by omega) (by omega), strings_genSplit.j0, wrap_sm (i := (s.size : Int) + 1) (by omega) (by omega), hmn (), if_pos (by omega), show (t + 1).toNat = n + 1 by omega, if_pos (by omega), wrap_sm (i := t + 1 - 1) (by omega) (by omega), show t + 1 - 1 = (n : Int) by omega, h]
  simp
def pathS (s : ByteArray) : Bool := (bl s).all plB && ((splG [] (bl s)).all okP && (decide (s.size ≤ 100) && decide ((splG [] (bl s)).length ≤ 8)))
theorem path_f (s : ByteArray) (hs : s.size ≤ 150) (k : Nat) (hk : 40000 ≤ k) : text_Path.f k s = some (pathS s) := by
  have hz := bl_size s
  have hc : (bl s).count 47 ≤ (bl s).length := List.count_le_length
  have h0 := path_l0 s (by omega) (bl s) [] rfl k (by omega)
  have hsl := splG_len (bl s) []
  have h1 := path_l1 (splG [] (bl s)) (by omega) (splG [] (bl s)).length 0 (by omega) k (by omega)
  unfold text_Path.f pathS
  rw [if_pos (by omega), show text_Path.l0 k s 0 = _ from h0, split_f s (by omega) k (by omega)]
  simp only [Option.bind_some]
  rw [show text_Path.l1 k _ 0 = _ from h1, List.drop_zero]
  simp only [Option.bind_some, List.length_map]
  cases (bl s).all plB with
  | false => rfl
  | true =>
    cases (splG [] (bl s)).all okP with
    | false => rfl
    | true =>
      simp only [if_true, Bool.true_and]
      by_cases c : s.size ≤ 100
      · rw [if_pos (by omega), decide_eq_true c, Bool.true_and]
        congr 1
        rw [Bool.eq_iff_iff, decide_eq_true_eq, decide_eq_true_eq]
        omega
      · rw [if_neg (by omega), decide_eq_false c]; rfl
theorem refpath_l0 (s : ByteArray) (hs : (bl s).length ≤ 1000) : ∀ (rest pre cur : List UInt8) (n : Nat), bl s = pre ++ rest → cur.length ≤ pre.length → n ≤ pre.length →
    Ev (fun k => cooperageref1_Path.l0 k s (n : Int) (ofL cur) (pre.length : Int)) (rest.all plB && ((splG cur rest).all okP && decide (n + (splG cur rest).length ≤ 8)))
  | [], pre, cur, n, hd, hcur, hn => by
    have hz : s.size = pre.length := by rw [bl_size, hd]; simp
    have hs' := hs
    rw [← bl_size, hz] at hs'
    refine Ev.step (f := fun k => cooperageref1_Path.j2 k s (n : Int) (ofL cur) (pre.length : Int) false) (fun k => by rw [cooperageref1_Path.l0, if_pos (by omega), if_neg (by omega)]) ?_
    refine Ev.step (f := fun k => cooperageref1_Path.j3 k s (n : Int) (ofL cur) (pre.length : Int) false) (fun k => by rw [cooperageref1_Path.j2, if_neg (by decide), if_neg (by omega)]) ?_
    have e : (([] : List UInt8).all plB && ((splG cur []).all okP && decide (n + (splG cur []).length ≤ 8))) = (okP cur && decide (n + 1 ≤ 8)) := by simp [splG]
    rw [e]
    unfold okP
    by_cases c1 : cur = []
    · refine Ev.step (f := fun _ => some false) (fun k => by rw [cooperageref1_Path.j3, if_neg (by decide), bl_toList, bl_ofL, if_pos c1]) (by rw [c1]; exact Ev.now _)
    by_cases c2 : cur = [46]
    · refine Ev.step (f := fun _ => some false) (fun k => by rw [cooperageref1_Path.j3, if_neg (by decide), bl_toList, bl_ofL, if_neg c1, if_pos c2]) (by rw [c2]; exact Ev.now _)
    by_cases c3 : cur = [46, 46]
    · refine Ev.step (f := fun _ => some false) (fun k => by rw [cooperageref1_Path.j3, if_neg (by decide), bl_toList, bl_ofL, if_neg c1, if_neg c2, if_pos c3]) (by rw [c3]; exact Ev.now _)
    refine Ev.step (f := fun k => cooperageref1_Path.l0 k s ((n + 1 : Nat) : Int) ⟨#[]⟩ ((pre.length + 1 : Nat) : Int)) (fun k => by rw [cooperageref1_Path.j3, if_neg (by decide), bl_toList, bl_ofL, if_neg c1, if_neg c2, if_neg c3, wrap_succ n (by omega), wrap_succ _ (by omega)]) ?_
    refine Ev.step (f := fun _ => some (decide (((n + 1 : Nat) : Int) ≤ 8))) (fun k => by rw [cooperageref1_Path.l0, if_neg (by omega)]) ?_
    rw [bne_iff_ne.2 c1, bne_iff_ne.2 c2, bne_iff_ne.2 c3, show decide (((n + 1 : Nat) : Int) ≤ 8) = decide (n + 1 ≤ 8) by rw [Bool.eq_iff_iff, decide_eq_true_eq, decide_eq_true_eq]; omega]
    exact Ev.now _
  | c :: t, pre, cur, n, hd, hcur, hn => by
    have hz : s.size = pre.length + (t.length + 1) := by rw [bl_size, hd]; simp
    have hs' := hs
    rw [← bl_size, hz] at hs'
    have hb : Unit → bt s (pre.length : Int) = (c.toNat : Int) := fun _ => bt_at s pre t c hd
    refine Ev.step (f := fun k => cooperageref1_Path.j2 k s (n : Int) (ofL cur) (pre.length : Int) (!plB c)) (fun k => by rw [cooperageref1_Path.l0, if_pos (by omega), if_pos (by omega), if_pos (by omega), hb (), plain_ref, Option.bind_some]) ?_
    rw [List.all_cons]
    cases hp : plB c with
    | false => exact Ev.step (f := fun _ => some false) (fun k => by rw [cooperageref1_Path.j2, if_pos (by decide)]) (Ev.now _)
    | true =>
      refine Ev.step (f := fun k => cooperageref1_Path.j3 k s (n : Int) (ofL cur) (pre.length : Int) ((c.toNat : Int) != 47)) (fun k => by rw [cooperageref1_Path.j2, if_neg (by decide), if_pos (by omega), if_pos (by omega), hb ()]) ?_
      rw [Bool.true_and, splG]
      by_cases h : c = 47
      · rw [if_pos h, h, show (((47 : UInt8).toNat : Int) != 47) = false from rfl]
        have hok : ((cur :: splG [] t).all okP) = (okP cur && (splG [] t).all okP) := List.all_cons
        rw [hok]
        have ih := refpath_l0 s hs t (pre ++ [c]) [] (n + 1) (by rw [hd]; simp) (by simp) (by simp; omega)
        unfold okP
        by_cases c1 : cur = []
        · refine Ev.step (f := fun _ => some false) (fun k => by rw [cooperageref1_Path.j3, if_neg (by decide), bl_toList, bl_ofL, if_pos c1]) (by rw [c1]; simp; exact Ev.now _)
        by_cases c2 : cur = [46]
        · refine Ev.step (f := fun _ => some false) (fun k => by rw [cooperageref1_Path.j3, if_neg (by decide), bl_toList, bl_ofL, if_neg c1, if_pos c2]) (by rw [c2]; simp; exact Ev.now _)
        by_cases c3 : cur = [46, 46]
        · refine Ev.step (f := fun _ => some false) (fun k => by rw [cooperageref1_Path.j3, if_neg (by decide), bl_toList, bl_ofL, if_neg c1, if_neg c2, if_pos c3]) (by rw [c3]; simp; exact Ev.now _)
        refine Ev.step (f := fun k => cooperageref1_Path.l0 k s ((n + 1 : Nat) : Int) ⟨#[]⟩ ((pre.length + 1 : Nat) : Int)) (fun k => by rw [cooperageref1_Path.j3, if_neg (by decide), bl_toList, bl_ofL, if_neg c1, if_neg c2, if_neg c3, wrap_succ n (by omega), wrap_succ _ (by omega)]) ?_
        rw [bne_iff_ne.2 c1, bne_iff_ne.2 c2, bne_iff_ne.2 c3, show decide (n + (cur :: splG [] t).length ≤ 8) = decide (n + 1 + (splG [] t).length ≤ 8) by rw [List.length_cons, Bool.eq_iff_iff, decide_eq_true_eq, decide_eq_true_eq]; omega]
        rw [show (pre ++ [c]).length = pre.length + 1 by simp] at ih
        simp only [Bool.true_and]
        unfold okP at ih
        refine Ev.congr (fun k => rfl) ?_
        have key : ∀ x y z : Bool, (x && (y && z)) = true → x = true := by decide
        by_cases hall : t.all plB = true
        · rw [hall]
          rw [hall] at ih
          exact ih
        · rw [Bool.eq_false_iff.2 hall, Bool.false_and]
          rw [Bool.eq_false_iff.2 hall, Bool.false_and] at ih
          exact ih
      · rw [if_neg h, show ((c.toNat : Int) != 47) = true from bne_iff_ne.2 (fun e => h ((u8_eq c 47).1 e))]
        have ih := refpath_l0 s hs t (pre ++ [c]) (cur ++ [c]) n (by rw [hd]; simp) (by simp; omega) (by simp; omega)
        rw [show (pre ++ [c]).length = pre.length + 1 by simp] at ih
        have hx : s.extract ((pre.length : Int)).toNat (((pre.length + 1 : Nat) : Int)).toNat = ofL [c] := bl_inj (by
          rw [bl_extract, bl_ofL, Int.toNat_natCast, Int.toNat_natCast, hd, show pre ++ c :: t = (pre ++ [c]) ++ t by simp, show pre.length + 1 = (pre ++ [c]).length by simp, List.take_left, List.drop_left])
        have hcs : (ofL cur).size = cur.length := by rw [bl_size, bl_ofL]
        have hap : ofL cur ++ ofL [c] = ofL (cur ++ [c]) := bl_inj (by rw [bl_append, bl_ofL, bl_ofL, bl_ofL])
        refine Ev.step (fun k => ?_) ih
        rw [cooperageref1_Path.j3, if_pos rfl, if_pos (by omega), wrap_succ _ (by omega), if_pos (by omega), if_pos (by omega), hx, hcs, if_pos (by show cur.length + 1 ≤ _; omega), hap]
theorem refpath_ev (s : ByteArray) : Ev (fun k => cooperageref1_Path.f k s) (pathS s) := by
  have hz := bl_size s
  unfold cooperageref1_Path.f pathS
  by_cases c0 : s.size < 1
  · simp only [if_pos (show (s.size : Int) < 1 by omega)]
    have e : bl s = [] := List.eq_nil_of_length_eq_zero (by omega)
    rw [e]
    exact Ev.step (f := fun _ => some false) (fun k => by rw [cooperageref1_Path.j0, if_pos rfl]) (Ev.now _)
  · simp only [if_neg (show ¬ (s.size : Int) < 1 by omega)]
    by_cases c : s.size ≤ 100
    · rw [decide_eq_false (show ¬ ((s.size : Int) > 100) by omega), decide_eq_true c, Bool.true_and]
      have h := refpath_l0 s (by omega) (bl s) [] [] 0 rfl (Nat.le_refl _) (Nat.le_refl _)
      rw [Nat.zero_add] at h
      exact Ev.step (fun k => by rw [cooperageref1_Path.j0, if_neg (by decide)]; rfl) h
    · rw [decide_eq_true (show (s.size : Int) > 100 by omega), decide_eq_false c, Bool.false_and, Bool.and_false, Bool.and_false]
      exact Ev.step (f := fun _ => some false) (fun k => by rw [cooperageref1_Path.j0, if_pos rfl]) (Ev.now _)
end Go.Proofs.YtjdadmjomjhpcaaDoor.Pl
