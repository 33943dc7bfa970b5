/- What the document's answer to layer 2 comes to, in plain words. -/
import Derived.Test.YtlfagipdhdcjlaaGlobPure
import Derived.Test.YtlfagipdhdcjlaaRounds
namespace Go.Proofs.Ytlfagipdhdcjlaa.Pure
open Go.RowKit Go.Proofs.Ytlfagipdhdcjlaa.PGlob Go.Proofs.YtlfagipdhdcjlaaW.PrintWords Go.Proofs.YtlfagipdhdcjlaaW.PrintLast
open Go.Proofs.Ytlfagipdhdcjlaa.Pl

/-- Where the last sign is. -/
def lastAt : Bs → Nat → Int → Int
  | [], _, at_ => at_
  | x :: l, i, at_ => lastAt l (i + 1) (if x = 37 then (i : Int) else at_)
theorem lastAt_no : ∀ (l : Bs) (i : Nat) (at_ : Int), (37 : UInt8) ∉ l → lastAt l i at_ = at_
  | [], _, _, _ => rfl
  | x :: l, i, at_, h => by
    unfold lastAt
    rw [if_neg (fun e => h (by rw [e]; exact List.mem_cons_self)), lastAt_no l _ _ (fun e => h (List.mem_cons_of_mem _ e))]
theorem lastAt_one : ∀ (a b : Bs) (i : Nat) (at_ : Int), (37 : UInt8) ∉ a → (37 : UInt8) ∉ b → lastAt (a ++ 37 :: b) i at_ = ((i + a.length : Nat) : Int)
  | [], b, i, at_, _, h => by
    show lastAt (37 :: b) i at_ = _
    unfold lastAt
    rw [if_pos rfl, lastAt_no b _ _ h]
    simp
  | x :: a, b, i, at_, ha, h => by
    show lastAt (x :: (a ++ 37 :: b)) i at_ = _
    unfold lastAt
    rw [lastAt_one a b (i + 1) _ (fun e => ha (List.mem_cons_of_mem _ e)) h]
    simp
    omega
theorem marks_l0 (p : ByteArray) (hp : p.size ≤ 1000000) : ∀ (d : Nat) (k i n : Nat) (at_ : Int), i + d = (bl p).length → n ≤ i → d < k →
    cooperageref2_marks.l0 k p n at_ i = some (((n + ((bl p).drop i).count 37 : Nat) : Int), lastAt ((bl p).drop i) i at_) := by
  have hl := bl_size p
  intro d
  induction d with
  | zero =>
    intro k i n at_ hi hn hk
    obtain ⟨k, rfl⟩ : ∃ m, k = m + 1 := ⟨k - 1, by omega⟩
    simp only [cooperageref2_marks.l0]
    rw [if_neg (by omega), List.drop_eq_nil_of_le (by omega)]
    rfl
  | succ d ih =>
    intro k i n at_ hi hn hk
    obtain ⟨k, rfl⟩ : ∃ m, k = m + 1 := ⟨k - 1, by omega⟩
    have hlt : i < (bl p).length := by omega
    simp only [cooperageref2_marks.l0]
    rw [if_pos (show (i : Int) < p.size by omega), if_pos (show (0 : Int) ≤ i by omega), bt_nat p i hlt, wrap_succ i (by omega), drop_cons _ _ hlt]
    by_cases h : (bl p)[i] = 37
    · rw [if_pos (show (((bl p)[i].toNat : Nat) : Int) = 37 from (u8_eq _ 37).2 h), wrap_succ n (by omega), ih k (i + 1) (n + 1) _ (by omega) (by omega) (by omega), h, List.count_cons_self]
      congr 2
      omega
    · rw [if_neg (show ¬ (((bl p)[i].toNat : Nat) : Int) = 37 from fun e => h ((u8_eq _ 37).1 e)), ih k (i + 1) n _ (by omega) (by omega) (by omega), List.count_cons_of_ne h]
      congr 2
      simp [lastAt, h]
theorem marks_f (p : ByteArray) (hp : p.size ≤ 1000000) (k : Nat) (hk : 1000002 ≤ k) : cooperageref2_marks.f k p = some ((((bl p).count 37 : Nat) : Int), lastAt (bl p) 0 (-1)) := by
  have hl := bl_size p
  unfold cooperageref2_marks.f
  have := marks_l0 p hp (bl p).length k 0 0 (-1) (by omega) (by omega) (by omega)
  simpa using this
theorem small_l0 (l : List ByteArray) (hl : l.length ≤ 1000000) : ∀ (d k i : Nat), i + d = l.length → d < k →
    cooperagelaw2_small.l0 k l i = some (decide (∀ x ∈ l.drop i, x.size ≤ 100)) := by
  intro d
  induction d with
  | zero =>
    intro k i hi hk
    obtain ⟨k, rfl⟩ : ∃ m, k = m + 1 := ⟨k - 1, by omega⟩
    simp only [cooperagelaw2_small.l0]
    rw [if_neg (by omega), List.drop_eq_nil_of_le (by omega)]
    simp
  | succ d ih =>
    intro k i hi hk
    obtain ⟨k, rfl⟩ : ∃ m, k = m + 1 := ⟨k - 1, by omega⟩
    have hlt : i < l.length := by omega
    simp only [cooperagelaw2_small.l0]
    rw [if_pos (show (i : Int) < l.length by omega), if_pos (show (0 : Int) ≤ i by omega), rdOf_nat _ l i hlt, wrap_succ i (by omega), drop_cons _ _ hlt]
    by_cases h : ((l[i]).size : Int) > 100
    · rw [if_pos h]
      congr 1
      symm
      rw [decide_eq_false_iff_not]
      intro c
      have := c l[i] List.mem_cons_self
      omega
    · rw [if_neg h, ih k (i + 1) (by omega) (by omega)]
      congr 1
      rw [Bool.eq_iff_iff, decide_eq_true_iff, decide_eq_true_iff]
      simp only [List.mem_cons, forall_eq_or_imp]
      exact ⟨fun c => ⟨by omega, c⟩, fun c => c.2⟩
def smallB (l : List ByteArray) : Bool := decide (l.length ≤ 40 ∧ ∀ x ∈ l, x.size ≤ 100)
theorem small_f (l : List ByteArray) (k : Nat) (hk : 42 ≤ k) : cooperagelaw2_small.f k l = some (smallB l) := by
  unfold cooperagelaw2_small.f smallB
  by_cases h : (l.length : Int) > 40
  · rw [if_pos h]
    congr 1
    symm
    rw [decide_eq_false_iff_not]
    intro c
    omega
  · rw [if_neg h]
    have := small_l0 l (by omega) l.length k 0 (by omega) (by omega)
    simp only [List.drop_zero] at this
    rw [show (0 : Int) = ((0 : Nat) : Int) from rfl, this]
    congr 1
    rw [Bool.eq_iff_iff, decide_eq_true_iff, decide_eq_true_iff]
    exact ⟨fun c => ⟨by omega, c⟩, fun c => c.2⟩

/-- One round of the search. -/
theorem match_l1 (p s : ByteArray) (a b : Bs) (hl : bl p = a ++ 37 :: b) (hp : p.size ≤ 1000000) (hs : s.size ≤ 1000000) (k i j : Nat) (hij : i ≤ j) (hj : j ≤ (bl s).length) :
    cooperageref2_Match.l1 (k + 1) p s a.length i j = if a ++ ((bl s).take j).drop i ++ b = bl s ∧ i = a.length then some (ofL (((bl s).take j).drop i), true) else cooperageref2_Match.l1 k p s a.length i ((j + 1 : Nat) : Int) := by
  have hlp := bl_size p
  have hls := bl_size s
  have hlen : (bl p).length = a.length + (b.length + 1) := by rw [hl]; simp
  have e1 : bl (p.extract 0 a.length) = a := by rw [bl_extract_from, hl, List.take_left]
  have e2 : bl (p.extract (a.length + 1) p.size) = b := by
    rw [bl_extract_to, hl, show a.length + 1 = (a ++ [37]).length by simp; done, show a ++ 37 :: b = (a ++ [37]) ++ b by simp, List.drop_left]
  have e3 : bl (s.extract i j) = ((bl s).take j).drop i := bl_extract s i j
  have z1 := bl_size (p.extract 0 a.length)
  have z2 := bl_size (p.extract (a.length + 1) p.size)
  have z3 := bl_size (s.extract i j)
  rw [e1] at z1
  rw [e2] at z2
  rw [e3] at z3
  have z4 : (((bl s).take j).drop i).length ≤ (bl s).length := by simp; omega
  simp only [cooperageref2_Match.l1]
  rw [wrap_succ _ (by omega), wrap_succ _ (by omega), Int.toNat_natCast, Int.toNat_natCast, Int.toNat_natCast, Int.toNat_natCast]
  rw [if_pos (show (j : Int) ≤ s.size by omega), if_pos (show (0 : Int) ≤ (a.length : Nat) by omega), if_pos (show ((a.length : Nat) : Int) ≤ p.size by omega), if_pos (show (0 : Int) ≤ (i : Nat) by omega), if_pos (show ((i : Nat) : Int) ≤ j by omega),
    if_pos (by omega), if_pos (show (0 : Int) ≤ ((a.length + 1 : Nat) : Int) by omega), if_pos (show ((a.length + 1 : Nat) : Int) ≤ p.size by omega),
    if_pos (by rw [bl_size (_ ++ _), bl_append, e1, e3, List.length_append]; omega)]
  rw [bl_toList, bl_toList, bl_append, bl_append, e1, e2, e3]
  by_cases c : a ++ ((bl s).take j).drop i ++ b = bl s
  · rw [if_pos c]
    by_cases d : i = a.length
    · rw [if_pos (show ((i : Nat) : Int) = a.length by omega), if_pos ⟨c, d⟩, show s.extract i j = ofL (((bl s).take j).drop i) from bl_inj (by rw [e3, bl_ofL])]
    · rw [if_neg (show ¬ ((i : Nat) : Int) = a.length by omega), if_neg (fun e => d e.2)]
  · rw [if_neg c, if_neg (fun e => c e.1)]
/-- Where no stem fits at i, the search goes on behind it. -/
theorem match_pass (p s : ByteArray) (a b : Bs) (hl : bl p = a ++ 37 :: b) (hp : p.size ≤ 1000000) (hs : s.size ≤ 1000000) (i : Nat) (r : ByteArray × Bool)
    (hno : ∀ j, ¬ (a ++ ((bl s).take j).drop i ++ b = bl s ∧ i = a.length)) (h : Ev (fun k => cooperageref2_Match.l0 k p s a.length ((i + 1 : Nat) : Int)) r) :
    ∀ (d j : Nat), j + d = (bl s).length + 1 → i ≤ j → Ev (fun k => cooperageref2_Match.l1 k p s a.length i j) r := by
  have hls := bl_size s
  intro d
  induction d with
  | zero =>
    intro j hj hij
    refine Ev.step (f := fun k => cooperageref2_Match.l0 k p s a.length ((i + 1 : Nat) : Int)) (fun k => ?_) h
    simp only [cooperageref2_Match.l1]
    rw [if_neg (show ¬ (j : Int) ≤ s.size by omega), wrap_succ i (by omega)]
  | succ d ih =>
    intro j hj hij
    refine Ev.step (fun k => ?_) (ih (j + 1) (by omega) (by omega))
    rw [match_l1 p s a b hl hp hs k i j hij (by omega), if_neg (hno j)]
theorem match_none (p s : ByteArray) (a b : Bs) (hl : bl p = a ++ 37 :: b) (hp : p.size ≤ 1000000) (hs : s.size ≤ 1000000) (h : unglue a b (bl s) = none) :
    ∀ (d i : Nat), i + d = (bl s).length + 1 → Ev (fun k => cooperageref2_Match.l0 k p s a.length i) ((⟨#[]⟩ : ByteArray), false) := by
  have hls := bl_size s
  intro d
  induction d with
  | zero =>
    intro i hi
    refine Ev.step (fun k => ?_) (Ev.now _)
    simp only [cooperageref2_Match.l0]
    rw [if_neg (show ¬ (i : Int) ≤ s.size by omega)]
  | succ d ih =>
    intro i hi
    refine Ev.step (f := fun k => cooperageref2_Match.l1 k p s a.length i i) (fun k => ?_) (match_pass p s a b hl hp hs i _ (fun j c => ?_) (ih (i + 1) (by omega)) (d + 1) i (by omega) (Nat.le_refl _))
    · simp only [cooperageref2_Match.l0]
      rw [if_pos (show (i : Int) ≤ s.size by omega)]
    · rw [(unglue_iff a b (bl s) _).2 c.1.symm] at h
      cases h
theorem match_at (p s : ByteArray) (a b t : Bs) (hl : bl p = a ++ 37 :: b) (hp : p.size ≤ 1000000) (hs : s.size ≤ 1000000) (h : bl s = a ++ t ++ b) :
    ∀ (d j : Nat), j + d = a.length + t.length → a.length ≤ j → Ev (fun k => cooperageref2_Match.l1 k p s a.length a.length j) (ofL t, true) := by
  have hlen : (bl s).length = a.length + t.length + b.length := by rw [h]; simp [Nat.add_assoc]
  have key : ∀ j, a ++ ((bl s).take j).drop a.length ++ b = bl s → ((bl s).take j).drop a.length = t := fun j c => by
    have h1 := unglue_glue a (((bl s).take j).drop a.length) b
    rw [c, (unglue_iff a b (bl s) t).2 h] at h1
    exact (Option.some.inj h1).symm
  intro d
  induction d with
  | zero =>
    intro j hj hij
    refine Ev.step (fun k => ?_) (Ev.now _)
    have e : ((bl s).take j).drop a.length = t := by
      rw [h, show j = (a ++ t).length by simp; omega, List.take_left, List.drop_left]
    rw [match_l1 p s a b hl hp hs k a.length j hij (by omega), if_pos ⟨by rw [e, h], rfl⟩, e]
  | succ d ih =>
    intro j hj hij
    refine Ev.step (fun k => ?_) (ih (j + 1) (by omega) (by omega))
    rw [match_l1 p s a b hl hp hs k a.length j hij (by omega), if_neg]
    rintro ⟨c, _⟩
    have := congrArg List.length (key j c)
    simp at this
    omega
theorem match_some (p s : ByteArray) (a b t : Bs) (hl : bl p = a ++ 37 :: b) (hp : p.size ≤ 1000000) (hs : s.size ≤ 1000000) (h : bl s = a ++ t ++ b) :
    ∀ (d i : Nat), i + d = a.length → Ev (fun k => cooperageref2_Match.l0 k p s a.length i) (ofL t, true) := by
  have hls := bl_size s
  have hlen : (bl s).length = a.length + t.length + b.length := by rw [h]; simp [Nat.add_assoc]
  intro d
  induction d with
  | zero =>
    intro i hi
    obtain rfl : i = a.length := by omega
    refine Ev.step (f := fun k => cooperageref2_Match.l1 k p s a.length a.length a.length) (fun k => ?_) (match_at p s a b t hl hp hs h t.length a.length rfl (Nat.le_refl _))
    simp only [cooperageref2_Match.l0]
    rw [if_pos (show ((a.length : Nat) : Int) ≤ s.size by omega)]
  | succ d ih =>
    intro i hi
    refine Ev.step (f := fun k => cooperageref2_Match.l1 k p s a.length i i) (fun k => ?_) (match_pass p s a b hl hp hs i _ (fun j c => by omega) (ih (i + 1) (by omega)) ((bl s).length + 1 - i) i (by omega) (Nat.le_refl _))
    simp only [cooperageref2_Match.l0]
    rw [if_pos (show (i : Int) ≤ s.size by omega)]
theorem refMatch (p s : ByteArray) (hp : p.size ≤ 1000000) (hs : s.size ≤ 1000000) : Ev (fun k => cooperageref2_Match.f k p s) (ofL (mt (bl p) (bl s)).1, (mt (bl p) (bl s)).2) := by
  have go : Ev (fun k => if bl p = [] then cooperageref2_Match.j0 k p s (((bl p).count 37 : Nat) : Int) (lastAt (bl p) 0 (-1)) true else cooperageref2_Match.j0 k p s (((bl p).count 37 : Nat) : Int) (lastAt (bl p) 0 (-1)) (decide ((((bl p).count 37 : Nat) : Int) > 1))) (ofL (mt (bl p) (bl s)).1, (mt (bl p) (bl s)).2) := by
    by_cases h0 : bl p = []
    · refine Ev.step (fun k => ?_) (Ev.now _)
      rw [if_pos h0, h0, mt_nil]
      simp only [cooperageref2_Match.j0]
      rfl
    · rcases cshape 37 (bl p) with ⟨hc, hn⟩ | ⟨a, b, hl, ha, hb, hc⟩ | ⟨hc, _⟩
      · refine Ev.step (fun k => ?_) (Ev.now _)
        rw [if_neg h0, mt_shut h0 hc, hc]
        simp only [cooperageref2_Match.j0]
        rw [if_neg (by decide), if_pos (show ((0 : Nat) : Int) = 0 from rfl), bl_toList, bl_toList]
        rfl
      · have e : lastAt (bl p) 0 (-1) = ((a.length : Nat) : Int) := by rw [hl, lastAt_one a b 0 _ ha hb]; simp
        have st : ∀ r, Ev (fun k => cooperageref2_Match.l0 k p s a.length ((0 : Nat) : Int)) r → Ev (fun k => if bl p = [] then cooperageref2_Match.j0 k p s (((bl p).count 37 : Nat) : Int) (lastAt (bl p) 0 (-1)) true else cooperageref2_Match.j0 k p s (((bl p).count 37 : Nat) : Int) (lastAt (bl p) 0 (-1)) (decide ((((bl p).count 37 : Nat) : Int) > 1))) r := fun r h => by
          refine Ev.step (fun k => ?_) h
          rw [if_neg h0, hc, e]
          simp only [cooperageref2_Match.j0]
          rw [if_neg (by decide), if_neg (by decide)]
          rfl
        rw [hl, mt_open ha hb, ← hl]
        rcases o : unglue a b (bl s) with _ | t
        · exact st _ (match_none p s a b hl hp hs o ((bl s).length + 1) 0 (by omega))
        · exact st _ (match_some p s a b t hl hp hs (glue_unglue o) a.length 0 (by omega))
      · refine Ev.step (fun k => ?_) (Ev.now _)
        rw [if_neg h0, mt_many hc]
        simp only [cooperageref2_Match.j0]
        rw [if_pos (by rw [decide_eq_true_iff]; omega)]
        rfl
  obtain ⟨K, h⟩ := go
  refine ⟨max K 1000002, fun k hk => ?_⟩
  show cooperageref2_Match.f k p s = _
  unfold cooperageref2_Match.f
  rw [marks_f p hp k (by omega)]
  simp only [Option.bind_some]
  rw [bl_toList]
  exact h k (by omega)
theorem refFill (p t : ByteArray) (hp : p.size ≤ 1000000) (ht : t.size ≤ 1000000) (k : Nat) (hk : 1000002 ≤ k) : cooperageref2_Fill.f k p t = some (ofL (fl (bl p) (bl t))) := by
  have hlp := bl_size p
  have hlt := bl_size t
  unfold cooperageref2_Fill.f
  rw [marks_f p hp k hk]
  simp only [Option.bind_some]
  by_cases hc : (bl p).count 37 = 1
  · rw [if_pos (show (((bl p).count 37 : Nat) : Int) = 1 by omega)]
    rcases cshape 37 (bl p) with ⟨hc', hn⟩ | ⟨a, b, hl, ha, hb, _⟩ | ⟨hc', _⟩
    · omega
    · have hlen : (bl p).length = a.length + (b.length + 1) := by rw [hl]; simp
      have e : lastAt (bl p) 0 (-1) = ((a.length : Nat) : Int) := by rw [hl, lastAt_one a b 0 _ ha hb]; simp
      have e1 : bl (p.extract 0 a.length) = a := by rw [bl_extract_from, hl, List.take_left]
      have e2 : bl (p.extract (a.length + 1) p.size) = b := by
        rw [bl_extract_to, hl, show a.length + 1 = (a ++ [37]).length by simp; done, show a ++ 37 :: b = (a ++ [37]) ++ b by simp, List.drop_left]
      have z1 := bl_size (p.extract 0 a.length)
      have z2 := bl_size (p.extract (a.length + 1) p.size)
      rw [e1] at z1
      rw [e2] at z2
      rw [e, wrap_succ _ (by omega), Int.toNat_natCast, Int.toNat_natCast, if_pos (show (0 : Int) ≤ (a.length : Nat) by omega), if_pos (show ((a.length : Nat) : Int) ≤ p.size by omega), if_pos (by omega), if_pos (show (0 : Int) ≤ ((a.length + 1 : Nat) : Int) by omega), if_pos (show ((a.length + 1 : Nat) : Int) ≤ p.size by omega),
        if_pos (by rw [bl_size (_ ++ _), bl_append, e1, List.length_append]; omega)]
      rw [show (p.extract 0 a.length ++ t) ++ p.extract (a.length + 1) p.size = ofL (fl (bl p) (bl t)) from bl_inj (by rw [bl_append, bl_append, e1, e2, bl_ofL, hl, fl_open ha hb])]
    · omega
  · rw [if_neg (show ¬ (((bl p).count 37 : Nat) : Int) = 1 by omega), fl_shut hc, ofL_bl]
theorem refSubst (p q s : ByteArray) (hp : p.size ≤ 1000000) (hq : q.size ≤ 1000000) (hs : s.size ≤ 1000000) : Ev (fun k => cooperageref2_Subst.f k p q s) (ofL (sb (bl p) (bl q) (bl s))) := by
  obtain ⟨K, h⟩ := refMatch p s hp hs
  refine ⟨max K 1000002, fun k hk => ?_⟩
  show cooperageref2_Subst.f k p q s = _
  unfold cooperageref2_Subst.f sb
  rw [show cooperageref2_Match.f k p s = _ from h k (by omega)]
  simp only [Option.bind_some]
  by_cases c : (mt (bl p) (bl s)).2 = true
  · rw [if_pos c, if_pos c, refFill q _ hq (by have := mt_len (bl p) (bl s); rw [bl_size, bl_ofL]; rw [bl_size] at hs; omega) k (by omega), bl_ofL]
    rfl
  · rw [if_neg c, if_neg c, ofL_bl]
end Go.Proofs.Ytlfagipdhdcjlaa.Pure
