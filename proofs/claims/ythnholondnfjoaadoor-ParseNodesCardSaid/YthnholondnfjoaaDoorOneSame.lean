/- The program's node and the document's say the same of a line. -/
import Derived.Test.YthnholondnfjoaaDoorPParsex12
import Derived.Test.YthnholondnfjoaaDoorRuleSame
namespace Go.Proofs.YthnholondnfjoaaDoor.Pl
open Go.RowKit Go.Proofs.YthnholondnfjoaaDoor.PParse Go.Proofs.YthnholondnfjoaaDoorW.PrintWords Go.Proofs.YthnholondnfjoaaDoorW.PrintLast

theorem toL_ofL (l : List UInt8) : (ofL l).toList = l := by rw [bl_toList, bl_ofL]
theorem two_eta {g G : Nat → Option NodeT} {no : Int} (k : Two g G no) :
    Two (fun n => (g n).bind fun t => (some (t.1, t.2.1, t.2.2.1, t.2.2.2.1, t.2.2.2.2.1, t.2.2.2.2.2.1, t.2.2.2.2.2.2.1, t.2.2.2.2.2.2.2.1, t.2.2.2.2.2.2.2.2.1, t.2.2.2.2.2.2.2.2.2.1, t.2.2.2.2.2.2.2.2.2.2))) G no := by
  obtain ⟨r, R, h1, h2, h3⟩ := k
  exact ⟨r, R, Ev.bind (f := fun _ t => some t) h1 (Ev.now r), h2, h3⟩
theorem two_leq {g g' G : Nat → Option NodeT} {no : Int} (h : ∀ n, g n = g' n) (k : Two g' G no) : Two g G no := (funext h : g = g') ▸ k
theorem two_req {g G G' : Nat → Option NodeT} {no : Int} (h : ∀ n, G n = G' n) (k : Two g G' no) : Two g G no := (funext h : G = G') ▸ k
theorem two_etar {g G : Nat → Option NodeT} {no : Int} (k : Two g G no) :
    Two g (fun n => (G n).bind fun t => (some (t.1, t.2.1, t.2.2.1, t.2.2.2.1, t.2.2.2.2.1, t.2.2.2.2.2.1, t.2.2.2.2.2.2.1, t.2.2.2.2.2.2.2.1, t.2.2.2.2.2.2.2.2.1, t.2.2.2.2.2.2.2.2.2.1, t.2.2.2.2.2.2.2.2.2.2))) no := by
  obtain ⟨r, R, h1, h2, h3⟩ := k
  exact ⟨r, R, h1, Ev.bind (f := fun _ t => some t) h2 (Ev.now R), h3⟩
theorem pre_yes (m l : List UInt8) : strings_CutPrefix.f (ofL (m ++ l)) (ofL m) = some (ofL l, true) := by
  unfold strings_CutPrefix.f stringslite_CutPrefix.f
  have hp := hp_f (ofL (m ++ l)) (ofL m)
  unfold strings_HasPrefix.f at hp
  simp only [Option.bind_fun_some] at hp
  have h1 := ofL_size (m ++ l)
  have h2 := ofL_size m
  rw [List.length_append] at h1
  rw [hp, bl_ofL, bl_ofL]
  simp only [Option.bind_some]
  rw [if_pos (List.isPrefixOf_iff_prefix.2 (List.prefix_append m l)), if_pos (by omega), if_pos (by omega)]
  rw [show (ofL (m ++ l)).extract ((ofL m).size : Int).toNat (ofL (m ++ l)).size = ofL l from bl_inj (by rw [bl_extract_to, bl_ofL, bl_ofL, Int.toNat_natCast, h2, List.drop_left])]
  rfl
theorem pre_no (m l : List UInt8) (h : m.isPrefixOf l = false) : strings_CutPrefix.f (ofL l) (ofL m) = some (ofL l, false) := by
  unfold strings_CutPrefix.f stringslite_CutPrefix.f
  have hp := hp_f (ofL l) (ofL m)
  unfold strings_HasPrefix.f at hp
  simp only [Option.bind_fun_some] at hp
  rw [hp, bl_ofL, bl_ofL, h]
  rfl
theorem tp_yes (m l : List UInt8) : strings_TrimPrefix.f (ofL (m ++ l)) (ofL m) = some (ofL l) := by
  unfold strings_TrimPrefix.f stringslite_TrimPrefix.f
  have hp := hp_f (ofL (m ++ l)) (ofL m)
  unfold strings_HasPrefix.f at hp
  simp only [Option.bind_fun_some] at hp
  have h1 := ofL_size (m ++ l)
  have h2 := ofL_size m
  rw [List.length_append] at h1
  rw [hp, bl_ofL, bl_ofL]
  simp only [Option.bind_some]
  rw [if_pos (List.isPrefixOf_iff_prefix.2 (List.prefix_append m l)), if_pos (by omega), if_pos (by omega)]
  rw [show (ofL (m ++ l)).extract ((ofL m).size : Int).toNat (ofL (m ++ l)).size = ofL l from bl_inj (by rw [bl_extract_to, bl_ofL, bl_ofL, Int.toNat_natCast, h2, List.drop_left])]
  rfl
theorem suf_nil (d : UInt8) : strings_CutSuffix.f (ofL []) (ofL [d]) = some (ofL [], false) := by
  unfold strings_CutSuffix.f stringslite_CutSuffix.f stringslite_HasSuffix.f
  rw [ofL_size, ofL_size, if_neg (show ¬ ((([] : List UInt8).length : Int) ≥ (([d] : List UInt8).length : Int)) by rw [List.length_nil, List.length_singleton]; decide)]
  rfl
theorem suf_one (u : List UInt8) (c d : UInt8) (h : u.length ≤ 1000000) : strings_CutSuffix.f (ofL (u ++ [c])) (ofL [d]) = some (if c = d then (ofL u, true) else (ofL (u ++ [c]), false)) := by
  unfold strings_CutSuffix.f stringslite_CutSuffix.f stringslite_HasSuffix.f
  have h1 := ofL_size (u ++ [c])
  have h2 := ofL_size [d]
  rw [List.length_append, List.length_singleton] at h1
  rw [List.length_singleton] at h2
  have hw : Unit → wrap64 (((ofL (u ++ [c])).size : Int) - ((ofL [d]).size : Int)) = (u.length : Int) := fun _ => by rw [wrap_sm] <;> omega
  rw [if_pos (by omega), hw (), if_pos (by omega), if_pos (by omega)]
  simp only [Option.bind_some]
  rw [show ((ofL (u ++ [c])).extract (u.length : Int).toNat (ofL (u ++ [c])).size).toList = [c] by rw [bl_toList, bl_extract_to, bl_ofL, Int.toNat_natCast, List.drop_left], toL_ofL]
  by_cases e : c = d
  · rw [if_pos (by rw [e]; exact beq_self_eq_true _), if_pos (by omega), if_pos (by omega), if_pos e]
    rw [show (ofL (u ++ [c])).extract 0 (u.length : Int).toNat = ofL u from bl_inj (by rw [bl_extract_from, bl_ofL, bl_ofL, Int.toNat_natCast, List.take_left])]
    rfl
  · rw [if_neg (fun q => e (by simpa using q)), if_neg e]
    rfl
theorem behind_ev (w q : List UInt8) (h : q.length ≤ 1000000) : Ev (fun k => cooperageref9_behind.f k (ofL (w ++ q)) (ofL w)) (ofL (triB q)) := by
  unfold cooperageref9_behind.f
  have h1 := ofL_size (w ++ q)
  have h2 := ofL_size w
  rw [List.length_append] at h1
  simp only [if_pos (show (0 : Int) ≤ ((ofL w).size : Int) by omega), if_pos (show ((ofL w).size : Int) ≤ ((ofL (w ++ q)).size : Int) by omega)]
  rw [show (ofL (w ++ q)).extract ((ofL w).size : Int).toNat (ofL (w ++ q)).size = ofL q from bl_inj (by rw [bl_extract_to, bl_ofL, bl_ofL, Int.toNat_natCast, h2, List.drop_left])]
  exact Ev.bind (f := fun _ t => some t) (reftrim_ev q (by omega)) (Ev.now _)
theorem bne_dec (l : List UInt8) : (l != ([] : List UInt8)) = decide (l ≠ []) := by
  cases l <;> rfl
/-- ifeq, ifneq: what is behind the word. -/
theorem eq_same (W : List ByteArray) (w r S : List UInt8) (hr : r.length ≤ 1000) (no : Int) (tab : Bool) :
    Two (fun k => parse_conditional.j0 k (ofL r) false 3 0 (ofL w) (⟨#[]⟩ : ByteArray) (⟨#[]⟩ : ByteArray) (⟨#[]⟩ : ByteArray) (⟨#[]⟩ : ByteArray) (⟨#[]⟩ : ByteArray) (⟨#[]⟩ : ByteArray))
      (fun k => cooperageref9_one.j0 k W (ofL r) (ofL w) true no tab (ofL S) 0 no (ofL w) (⟨#[]⟩ : ByteArray) (⟨#[]⟩ : ByteArray) (⟨#[]⟩ : ByteArray) (⟨#[]⟩ : ByteArray) (⟨#[]⟩ : ByteArray) (⟨#[]⟩ : ByteArray)) no := by
  refine two_sl (two_sr ?_)
  simp only [parse_conditional.j0, cooperageref9_one.j0, Bool.false_eq_true, if_false, if_true]
  rw [show (⟨#[40]⟩ : ByteArray) = ofL [40] from rfl, show (⟨#[41]⟩ : ByteArray) = ofL [41] from rfl]
  have bad : ∀ (q : List UInt8) (b1 b2 : Bool), q.length ≤ 1000 → (b1 && b2) = false → Two (fun k => ((parse_sides.f k (ofL q) (⟨#[44]⟩ : ByteArray)).bind fun bt147 => (if b1 = true then (if b2 = true then (some (3, 0, (ofL w), bt147.1, bt147.2.1, (⟨#[]⟩ : ByteArray), (⟨#[]⟩ : ByteArray), (⟨#[]⟩ : ByteArray), (⟨#[]⟩ : ByteArray), ([] : List ByteArray), bt147.2.2)) else (some (3, 0, (ofL w), bt147.1, bt147.2.1, (⟨#[]⟩ : ByteArray), (⟨#[]⟩ : ByteArray), (⟨#[]⟩ : ByteArray), (⟨#[]⟩ : ByteArray), ([] : List ByteArray), false))) else (some (3, 0, (ofL w), bt147.1, bt147.2.1, (⟨#[]⟩ : ByteArray), (⟨#[]⟩ : ByteArray), (⟨#[]⟩ : ByteArray), (⟨#[]⟩ : ByteArray), ([] : List ByteArray), false)))))
      (fun k => cooperageref9_one.j1 k (ofL r) true 3 no (ofL w) (⟨#[]⟩ : ByteArray) (⟨#[]⟩ : ByteArray) (⟨#[]⟩ : ByteArray) (⟨#[]⟩ : ByteArray) (⟨#[]⟩ : ByteArray) (⟨#[]⟩ : ByteArray)) no := by
    intro q b1 b2 hq hb
    refine two_sr ?_
    simp only [cooperageref9_one.j1, if_true]
    refine two_bl (f := fun _ t => _) (sides_ev q 44 (by omega)) ?_
    cases b1 <;> cases b2 <;> first | exact absurd hb (by decide) | (simp only [Bool.false_eq_true, if_false, if_true]; exact two_bad _ _ _ _ _ _ _ _ _ _ _ _ _ _ _ _ _ _ _)
  have hsz := ofL_size r
  rcases r with _ | ⟨c, t⟩
  · refine two_leq (fun n => by rw [pre_no _ _ rfl, Option.bind_some, suf_nil, Option.bind_some]) ?_
    refine two_req (fun n => by rw [if_pos (by rw [hsz]; decide)]) ?_
    exact bad [] false false (by simp) rfl
  · have hb : Unit → bt (ofL (c :: t)) 0 = (c.toNat : Int) := fun _ => bt_mid _ [] t c (bl_ofL _)
    rw [List.length_cons] at hr hsz
    by_cases hc : c = 40
    · subst hc
      have hpy := pre_yes [40] t
      rw [List.singleton_append] at hpy
      rcases List.eq_nil_or_concat t with rfl | ⟨u, d, rfl⟩
      · refine two_leq (fun n => by rw [hpy, Option.bind_some, suf_nil, Option.bind_some]) ?_
        refine two_req (fun n => by rw [if_pos (by rw [hsz]; decide)]) ?_
        exact bad [] true false (by simp) rfl
      · rw [List.concat_eq_append] at *
        rw [List.length_append, List.length_singleton] at hr hsz
        have hw : Unit → wrap64 (((ofL (40 :: (u ++ [d]))).size : Int) - 1) = ((u.length + 1 : Nat) : Int) := fun _ => by rw [wrap_sm] <;> omega
        have hbl : Unit → bt (ofL (40 :: (u ++ [d]))) ((u.length + 1 : Nat) : Int) = (d.toNat : Int) := fun _ => bt_mid _ (40 :: u) [] d (by rw [bl_ofL]; simp)
        refine two_leq (fun n => by rw [hpy, Option.bind_some, suf_one u d 41 (by omega), Option.bind_some]) ?_
        refine two_req (fun n => by rw [if_neg (by omega), if_pos (by omega), hb (), if_pos (show (((40 : UInt8).toNat : Nat) : Int) = 40 from rfl), hw (), hbl (), if_pos (by omega), if_pos (by omega)]) ?_
        by_cases hd : d = 41
        · subst hd
          rw [if_pos rfl, show (((41 : UInt8).toNat : Int) != 41) = false from rfl]
          refine two_sr ?_
          simp only [cooperageref9_one.j1, Bool.false_eq_true, if_false, if_true]
          refine two_req (fun n => by rw [hw (), if_pos (by omega), if_pos (by omega)]) ?_
          rw [show (ofL (40 :: (u ++ [41]))).extract 1 ((u.length + 1 : Nat) : Int).toNat = ofL u from bl_inj (by
            rw [bl_extract, bl_ofL, bl_ofL, Int.toNat_natCast, List.take_succ_cons, List.take_left]
            rfl)]
          obtain ⟨l1, l2⟩ := cut_lens [[44]] u
          refine two_bl (f := fun _ t => _) (sides_ev u 44 (by omega)) ?_
          refine two_br (f := fun _ t => _) (refcut1_ev u 44 (by omega)) ?_
          dsimp only
          refine two_br (f := fun _ t => _) (reftrim_ev (cutL [[44]] u).1 (by omega)) ?_
          refine two_br (f := fun _ t => _) (reftrim_ev (cutL [[44]] u).2.2 (by omega)) ?_
          rw [toL_ofL, bne_dec]
          exact two_same _ _ _ _ _ _ _ _ _ _ (by decide)
        · rw [if_neg hd, show ((d.toNat : Int) != 41) = true from bne_iff_ne.2 (fun q => hd ((u8_eq d 41).1 q))]
          exact bad (u ++ [d]) true false (by rw [List.length_append, List.length_singleton]; omega) rfl
    · obtain ⟨p, b2, hp, hpl⟩ := suffix_f (c :: t) [41] (by rw [List.length_cons]; omega)
      rw [List.length_cons] at hpl
      have hno : ([40] : List UInt8).isPrefixOf (c :: t) = false := by
        show (((40 : UInt8) == c) && _) = false
        rw [show ((40 : UInt8) == c) = false from beq_eq_false_iff_ne.2 (fun q => hc q.symm)]
        rfl
      refine two_leq (fun n => by rw [pre_no _ _ hno, Option.bind_some, hp, Option.bind_some]) ?_
      by_cases h2 : ((ofL (c :: t)).size : Int) < 2
      · refine two_req (fun n => by rw [if_pos h2]) ?_
        exact bad p false b2 (by omega) rfl
      · refine two_req (fun n => by rw [if_neg h2, if_pos (by omega), hb (), if_neg (show ¬ ((c.toNat : Int) = 40) from fun q => hc ((u8_eq c 40).1 q))]) ?_
        exact bad p false b2 (by omega) rfl
/-- ifdef, ifndef. -/
theorem def_same (W : List ByteArray) (w r S : List UInt8) (hr : r.length ≤ 1000) (no : Int) (tab : Bool) :
    Two (fun k => parse_conditional.j0 k (ofL r) true 3 0 (ofL w) (⟨#[]⟩ : ByteArray) (⟨#[]⟩ : ByteArray) (⟨#[]⟩ : ByteArray) (⟨#[]⟩ : ByteArray) (⟨#[]⟩ : ByteArray) (⟨#[]⟩ : ByteArray))
      (fun k => cooperageref9_one.j2 k W (ofL r) (ofL w) true no tab (ofL S) 0 no (ofL w) (⟨#[]⟩ : ByteArray) (⟨#[]⟩ : ByteArray) (⟨#[]⟩ : ByteArray) (⟨#[]⟩ : ByteArray) (⟨#[]⟩ : ByteArray) (⟨#[]⟩ : ByteArray)) no := by
  refine two_sl (two_sr ?_)
  simp only [parse_conditional.j0, cooperageref9_one.j2, if_true]
  refine two_bl (f := fun _ t => _) (name_ev (ofL r) (by rw [bl_ofL]; omega)) ?_
  refine two_br (f := fun _ t => _) (refname_ev (ofL r) (by rw [bl_ofL]; omega)) ?_
  exact two_same _ _ _ _ _ _ _ _ _ _ (by decide)
theorem one_none (l : List UInt8) (h : wordsL l = []) (hl : l.length ≤ 1000) (no : Int) (tab : Bool) :
    ∃ R, Ev (fun k => cooperageref9_one.f k no tab (ofL l)) R ∧ R.2.2.2.2.2.2.2.2.2.2 = false := by
  have hs := triB_len l
  unfold cooperageref9_one.f
  refine ex_bind (f := fun _ t => _) (reftrim_ev l (by omega)) ?_
  refine ex_bind (f := fun _ t => _) (refwords_ev (triB l) (by omega)) ?_
  rw [words_triB, h]
  exact ex_some _ rfl
theorem one_same (l : List UInt8) (h : wordsL l ≠ []) (hl : l.length ≤ 1000) (no : Int) (tab : Bool) :
    Two (fun k => parse_node.f k (ofL (triB l))) (fun k => cooperageref9_one.f k no tab (ofL l)) no := by
  have hs := triB_len l
  obtain ⟨w, q, hq, hw⟩ := first_word l (by rw [words_triB]; exact h)
  unfold cooperageref9_one.f parse_node.f
  refine two_br (f := fun _ t => _) (reftrim_ev l (by omega)) ?_
  refine two_br (f := fun _ t => _) (refwords_ev (triB l) (by omega)) ?_
  rw [words_f (triB l) (by omega)]
  simp only [Option.bind_some]
  rw [hw, hq]
  have hql : q.length ≤ 1000 := by
    have := congrArg List.length hq
    rw [List.length_append] at this
    omega
  have hsl : (w ++ q).length ≤ 1000 := by rw [← hq]; omega
  have hrd : rdOf ByteArray.empty (List.map ofL (w :: wordsL q)) 0 = ofL w := rfl
  have hlen : ((List.map ofL (w :: wordsL q)).length : Int) = ((wordsL q).length : Int) + 1 := by rw [List.length_map, List.length_cons]; omega
  have hone : (((List.map ofL (w :: wordsL q)).length : Int) == 1) = (triB q == []) := by
    rw [hlen, Bool.eq_iff_iff, beq_iff_eq, beq_iff_eq, words_nil]
    constructor
    · intro e
      exact List.length_eq_zero_iff.1 (by omega)
    · intro e
      rw [e]
      rfl
  obtain ⟨W, hW⟩ : ∃ W, W = List.map ofL (w :: wordsL q) := ⟨_, rfl⟩
  rw [← hW] at hrd hlen hone ⊢
  simp only [hrd, if_pos (show (0 : Int) < (W.length : Int) by omega), if_neg (show ¬ ((W.length : Int) = 0) by omega)]
  rw [tp_yes]
  simp only [Option.bind_some]
  rw [trim_f q (by omega)]
  simp only [Option.bind_some]
  refine two_br (f := fun _ t => _) (behind_ev w q (by omega)) ?_
  have hrl := triB_len q
  obtain ⟨r, hr⟩ : ∃ r, r = triB q := ⟨_, rfl⟩
  rw [← hr] at hone hrl ⊢
  simp only [toL_ofL]
  by_cases e1 : w = [105, 102, 101, 113]
  · subst e1
    simp only [if_true, beq_self_eq_true]
    refine two_sl ?_
    simp only [parse_node.j0, if_true]
    refine two_eta ?_
    unfold parse_conditional.f
    simp only [toL_ofL, if_neg (show ¬ (([105, 102, 101, 113] : List UInt8) = [105, 102, 100, 101, 102]) by decide), show (([105, 102, 101, 113] : List UInt8) == [105, 102, 110, 100, 101, 102]) = false from rfl]
    exact eq_same W _ r _ (by omega) no tab
  simp only [if_neg e1]
  by_cases e2 : w = [105, 102, 110, 101, 113]
  · subst e2
    simp only [if_true, beq_self_eq_true]
    refine two_sl ?_
    simp only [parse_node.j0, if_true]
    refine two_eta ?_
    unfold parse_conditional.f
    simp only [toL_ofL, if_neg (show ¬ (([105, 102, 110, 101, 113] : List UInt8) = [105, 102, 100, 101, 102]) by decide), show (([105, 102, 110, 101, 113] : List UInt8) == [105, 102, 110, 100, 101, 102]) = false from rfl]
    exact eq_same W _ r _ (by omega) no tab
  simp only [if_neg e2, show (w == [105, 102, 110, 101, 113]) = false from beq_eq_false_iff_ne.2 e2]
  refine two_sr ?_
  simp only [cooperageref9_one.j0, toL_ofL, Bool.false_eq_true, if_false]
  by_cases e3 : w = [105, 102, 100, 101, 102]
  · subst e3
    simp only [if_true, beq_self_eq_true]
    refine two_sl ?_
    simp only [parse_node.j0, if_true]
    refine two_eta ?_
    unfold parse_conditional.f
    simp only [toL_ofL, if_true]
    exact def_same W _ r _ (by omega) no tab
  simp only [if_neg e3]
  by_cases e4 : w = [105, 102, 110, 100, 101, 102]
  · subst e4
    simp only [beq_self_eq_true]
    refine two_sl ?_
    simp only [parse_node.j0, if_true]
    refine two_eta ?_
    unfold parse_conditional.f
    simp only [toL_ofL, if_neg e3, beq_self_eq_true]
    exact def_same W _ r _ (by omega) no tab
  simp only [show (w == [105, 102, 110, 100, 101, 102]) = false from beq_eq_false_iff_ne.2 e4]
  refine two_sl (two_sr ?_)
  simp only [parse_node.j0, cooperageref9_one.j2, toL_ofL, Bool.false_eq_true, if_false]
  by_cases e5 : w = [101, 108, 115, 101]
  · simp only [if_pos e5]
    rw [hone]
    exact two_same _ _ _ _ _ _ _ _ _ _ (by decide)
  simp only [if_neg e5]
  by_cases e6 : w = [101, 110, 100, 105, 102]
  · simp only [if_pos e6]
    rw [hone]
    exact two_same _ _ _ _ _ _ _ _ _ _ (by decide)
  simp only [if_neg e6]
  by_cases e7 : w = [105, 110, 99, 108, 117, 100, 101]
  · simp only [if_pos e7]
    exact two_same _ _ _ _ _ _ _ _ _ _ (by decide)
  simp only [if_neg e7]
  by_cases e8 : w = [45, 105, 110, 99, 108, 117, 100, 101]
  · simp only [if_pos e8]
    exact two_same _ _ _ _ _ _ _ _ _ _ (by decide)
  simp only [if_neg e8]
  obtain ⟨s, hs'⟩ : ∃ s, s = w ++ q := ⟨_, rfl⟩
  rw [← hs'] at hsl ⊢
  have hc := cut_ev five (by decide) (ofL s) (by rw [ofL_size]; omega)
  have hC := refcut_ev (ofL s) five (by rw [bl_ofL]; omega) (by decide) (by decide)
  rw [bl_ofL] at hc hC
  obtain ⟨h1, h2⟩ := cut_lens five s
  obtain ⟨⟨ca, cx, cb⟩, hcl⟩ : ∃ q, q = cutL five s := ⟨_, rfl⟩
  rw [← hcl] at hc hC h1 h2
  have hc' : Ev (fun n => parse_Cut.f n (ofL s) [(⟨#[58, 61]⟩ : ByteArray), (⟨#[63, 61]⟩ : ByteArray), (⟨#[43, 61]⟩ : ByteArray), (⟨#[61]⟩ : ByteArray), (⟨#[58]⟩ : ByteArray)]) (ofL ca, ofL cx, ofL cb) := hc
  have hC' : Ev (fun n => cooperageref9_Cut.f n (ofL s) [(⟨#[58, 61]⟩ : ByteArray), (⟨#[63, 61]⟩ : ByteArray), (⟨#[43, 61]⟩ : ByteArray), (⟨#[61]⟩ : ByteArray), (⟨#[58]⟩ : ByteArray)]) (ofL ca, ofL cx, ofL cb) := hC
  refine two_bl (f := fun _ t => _) hc' ?_
  refine two_br (f := fun _ t => _) hC' ?_
  dsimp only
  dsimp only at h1 h2
  simp only [toL_ofL]
  by_cases f1 : cx = []
  · simp only [if_pos f1]
    exact two_bad _ _ _ _ _ _ _ _ _ _ _ _ _ _ _ _ _ _ _
  simp only [if_neg f1]
  by_cases f2 : cx = [58]
  · simp only [if_pos f2]
    exact two_eta (two_etar (rule_same ca cb (by omega) (by omega) no))
  simp only [if_neg f2]
  rw [trim_f ca (by omega), trim_f cb (by omega)]
  simp only [Option.bind_some]
  have hca := triB_len ca
  refine two_br (f := fun _ t => _) (reftrim_ev ca (by omega)) ?_
  refine two_br (f := fun _ t => _) (reftrim_ev cb (by omega)) ?_
  refine two_bl (f := fun _ t => _) (name_ev (ofL (triB ca)) (by rw [bl_ofL]; omega)) ?_
  refine two_br (f := fun _ t => _) (refname_ev (ofL (triB ca)) (by rw [bl_ofL]; omega)) ?_
  exact two_same _ _ _ _ _ _ _ _ _ _ (by decide)
end Go.Proofs.YthnholondnfjoaaDoor.Pl
