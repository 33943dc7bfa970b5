/- parse.node answers at every line that has a word; what parse.nest's take does. -/
import Derived.Test.YthnholondnfjoaaDoorPParsex6
import Derived.Test.YthnholondnfjoaaDoorPParsex5
import Derived.Test.YthnholondnfjoaaDoorPParsex4
import Derived.Test.YthnholondnfjoaaDoorCutPure
import Derived.Test.YthnholondnfjoaaDoorNamePure
import Derived.Test.YthnholondnfjoaaDoorWordsSpec
namespace Go.Proofs.YthnholondnfjoaaDoor.Pl
open Go.RowKit Go.Proofs.YthnholondnfjoaaDoor.PParse Go.Proofs.YthnholondnfjoaaDoorW.PrintWords Go.Proofs.YthnholondnfjoaaDoorW.PrintLast

section
variable {α β : Type}
theorem ex_bind {g : Nat → Option α} {f : Nat → α → Option β} {P : β → Prop} {a : α} (h : Ev g a) (k : ∃ r, Ev (fun n => f n a) r ∧ P r) : ∃ r, Ev (fun n => (g n).bind (f n)) r ∧ P r := by
  obtain ⟨r, h1, h2⟩ := k
  exact ⟨r, Ev.bind h h1, h2⟩
theorem ex_succ {g : Nat → Option β} {P : β → Prop} (k : ∃ r, Ev (fun n => g (n + 1)) r ∧ P r) : ∃ r, Ev g r ∧ P r := by
  obtain ⟨r, h1, h2⟩ := k
  exact ⟨r, Ev.step (f := fun n => g (n + 1)) (fun _ => rfl) h1, h2⟩
theorem ex_now {P : β → Prop} {r : β} (h : P r) : ∃ r, Ev (fun _ => some r) r ∧ P r := ⟨r, Ev.now r, h⟩
theorem ex_some {P : β → Prop} (r : β) (h : P r) : ∃ q, Ev (fun _ => some r) q ∧ P q := ⟨r, Ev.now r, h⟩
end
def triB (l : List UInt8) : List UInt8 := Lib.trimS l [32, 9]
theorem triB_len (l : List UInt8) : (triB l).length ≤ l.length := by
  unfold triB Lib.trimS Lib.trimLeftS Lib.trimRightS
  refine Nat.le_trans (List.dropWhile_suffix _).length_le ?_
  rw [List.length_reverse]
  exact Nat.le_trans (List.dropWhile_suffix _).length_le (by rw [List.length_reverse]; exact Nat.le_refl _)
theorem trim_f (l : List UInt8) (h : l.length ≤ 1000000000) : text_Trim.f (ofL l) = some (ofL (triB l)) := by
  unfold text_Trim.f strings_Trim.f
  have hs := ofL_size l
  rw [if_pos (show _ ∧ _ ∧ _ from ⟨by omega, by decide, by decide⟩), show (ofL l).data.toList = l from bl_ofL l]
  rfl
theorem words_f (l : List UInt8) (h : l.length ≤ 1000000) : text_Words.f (ofL l) = some ((wordsL l).map ofL) := by
  unfold text_Words.f
  rw [if_pos (show (ofL l).size ≤ 1000000 by rw [ofL_size]; exact h), bl_ofL]
theorem wordsGo_blanks : ∀ (b : List UInt8), (∀ c ∈ b, isBlank c = true) → wordsGo [] b = []
  | [], _ => rfl
  | c :: b, h => by rw [wordsGo, if_pos (h c (by simp)), if_pos rfl, wordsGo_blanks b (fun x hx => h x (by simp [hx]))]
theorem wordsGo_end : ∀ (a cur b : List UInt8), (∀ c ∈ b, isBlank c = true) → wordsGo cur (a ++ b) = wordsGo cur a
  | [], cur, [], _ => rfl
  | [], cur, c :: b, h => by
    rw [List.nil_append]
    conv => lhs; rw [wordsGo, if_pos (h c (by simp)), wordsGo_blanks b (fun x hx => h x (by simp [hx]))]
    rfl
  | x :: a, cur, b, h => by
    rw [List.cons_append, wordsGo, wordsGo]
    split
    · split
      · exact wordsGo_end a [] b h
      · rw [wordsGo_end a [] b h]
    · exact wordsGo_end a _ b h
theorem words_triB (l : List UInt8) : wordsL (triB l) = wordsL l := by
  unfold triB Lib.trimS
  rw [wordsL_trim]
  unfold Lib.trimRightS
  have e : l = (l.reverse.dropWhile (([32, 9] : List UInt8).contains ·)).reverse ++ (l.reverse.takeWhile (([32, 9] : List UInt8).contains ·)).reverse := by
    rw [← List.reverse_append, List.takeWhile_append_dropWhile, List.reverse_reverse]
  conv => rhs; rw [e]
  unfold wordsL
  rw [wordsGo_end _ _ _ (fun c hc => ?_)]
  rw [List.mem_reverse] at hc
  have := List.all_takeWhile (p := (([32, 9] : List UInt8).contains ·)) (l := l.reverse)
  exact List.all_eq_true.1 this c hc
theorem cut_lens (signs : List (List UInt8)) (l : List UInt8) : (cutL signs l).1.length ≤ l.length ∧ (cutL signs l).2.2.length ≤ l.length := by
  obtain ⟨r, w1, w2, _⟩ := cutGo_whole signs l.length [] [] l
  rw [List.nil_append] at w1
  unfold cutL
  have := congrArg List.length w2
  simp at this
  rw [w1]
  omega
theorem sides_ev (l : List UInt8) (x : UInt8) (h : l.length ≤ 1000000) : Ev (fun k => parse_sides.f k (ofL l) (ofL [x])) (ofL (triB (cutL [[x]] l).1), ofL (triB (cutL [[x]] l).2.2), decide ((cutL [[x]] l).2.1 ≠ [])) := by
  have hc := cut1_ev (ofL l) (ofL [x]) (by rw [ofL_size]; omega)
  rw [bl_ofL, bl_ofL] at hc
  obtain ⟨h1, h2⟩ := cut_lens [[x]] l
  obtain ⟨K, hK⟩ := hc
  refine ⟨K, fun k hk => ?_⟩
  have hk' : parse_Cut.f k (ofL l) [ofL [x]] = _ := hK k hk
  dsimp only
  unfold parse_sides.f
  rw [hk']
  simp only [Option.bind_some, tr3]
  rw [trim_f _ (by omega), Option.bind_some, trim_f _ (by omega), Option.bind_some, bl_toList, bl_ofL]
  congr 3
  by_cases e : (cutL [[x]] l).2.1 = []
  · simp [e]
  · simp [e]
/-- What sides answers: two texts no longer, and whether. -/
theorem sides_tot (l : List UInt8) (x : UInt8) (h : l.length ≤ 1000000) : ∃ (a b : List UInt8) (c : Bool), Ev (fun k => parse_sides.f k (ofL l) (ofL [x])) (ofL a, ofL b, c) ∧ a.length ≤ l.length ∧ b.length ≤ l.length := by
  obtain ⟨h1, h2⟩ := cut_lens [[x]] l
  exact ⟨_, _, _, sides_ev l x h, Nat.le_trans (triB_len _) h1, Nat.le_trans (triB_len _) h2⟩
theorem has_tot (l : List UInt8) (x : UInt8) (h : l.length ≤ 1000000) : ∃ c : Bool, Ev (fun k => parse_has.f k (ofL l) (ofL [x])) c := by
  obtain ⟨a, b, c, hs, _⟩ := sides_tot l x h
  refine ⟨c, ?_⟩
  unfold parse_has.f
  exact Ev.bind (f := fun _ t => some t.2.2) hs (Ev.now _)
theorem suffix_f (l m : List UInt8) (h : l.length ≤ 1000000000) : ∃ (q : List UInt8) (b : Bool), strings_CutSuffix.f (ofL l) (ofL m) = some (ofL q, b) ∧ q.length ≤ l.length := by
  unfold strings_CutSuffix.f stringslite_CutSuffix.f stringslite_HasSuffix.f
  have h1 := ofL_size l
  have h2 := ofL_size m
  by_cases c : ((ofL l).size : Int) ≥ (ofL m).size
  · have hw : Unit → wrap64 (((ofL l).size : Int) - ((ofL m).size : Int)) = ((l.length - m.length : Nat) : Int) := fun _ => by rw [wrap_sm] <;> omega
    rw [if_pos c, hw (), if_pos (by omega), if_pos (by omega)]
    simp only [Option.bind_some]
    split
    · rw [if_pos (by omega), if_pos (by omega)]
      refine ⟨l.take (l.length - m.length), true, ?_, by rw [List.length_take]; omega⟩
      rw [show (ofL l).extract 0 ((l.length - m.length : Nat) : Int).toNat = ofL (l.take (l.length - m.length)) from bl_inj (by rw [bl_extract_from, bl_ofL, bl_ofL, Int.toNat_natCast])]
      rfl
    · exact ⟨l, false, rfl, Nat.le_refl _⟩
  · rw [if_neg c]
    exact ⟨l, false, rfl, Nat.le_refl _⟩
theorem prefix_f (l m : List UInt8) : ∃ (q : List UInt8) (b : Bool), strings_CutPrefix.f (ofL l) (ofL m) = some (ofL q, b) ∧ q.length ≤ l.length := by
  unfold strings_CutPrefix.f stringslite_CutPrefix.f
  have hp := hp_f (ofL l) (ofL m)
  unfold strings_HasPrefix.f at hp
  simp only [Option.bind_fun_some] at hp
  have h1 := ofL_size l
  have h2 := ofL_size m
  rw [hp, bl_ofL, bl_ofL]
  simp only [Option.bind_some]
  split
  · rename_i c
    have hle := (List.isPrefixOf_iff_prefix.1 c).length_le
    rw [if_pos (by omega), if_pos (by omega)]
    refine ⟨l.drop m.length, true, ?_, by rw [List.length_drop]; omega⟩
    rw [show (ofL l).extract ((ofL m).size : Int).toNat (ofL l).size = ofL (l.drop m.length) from bl_inj (by rw [bl_extract_to, bl_ofL, bl_ofL, Int.toNat_natCast, h2])]
    rfl
  · exact ⟨l, false, rfl, Nat.le_refl _⟩
theorem trimPrefix_f (l m : List UInt8) : ∃ q : List UInt8, strings_TrimPrefix.f (ofL l) (ofL m) = some (ofL q) ∧ q.length ≤ l.length := by
  unfold strings_TrimPrefix.f stringslite_TrimPrefix.f
  have hp := hp_f (ofL l) (ofL m)
  unfold strings_HasPrefix.f at hp
  simp only [Option.bind_fun_some] at hp
  have h1 := ofL_size l
  have h2 := ofL_size m
  rw [hp, bl_ofL, bl_ofL]
  simp only [Option.bind_some]
  split
  · rename_i c
    have hle := (List.isPrefixOf_iff_prefix.1 c).length_le
    rw [if_pos (by omega), if_pos (by omega)]
    refine ⟨l.drop m.length, ?_, by rw [List.length_drop]; omega⟩
    rw [show (ofL l).extract ((ofL m).size : Int).toNat (ofL l).size = ofL (l.drop m.length) from bl_inj (by rw [bl_extract_to, bl_ofL, bl_ofL, Int.toNat_natCast, h2])]
    rfl
  · exact ⟨l, rfl, Nat.le_refl _⟩
/-- What a node of a line says: a kind of six where it is right; no recipe yet. -/
def NodeP (r : Int × Int × ByteArray × ByteArray × ByteArray × ByteArray × ByteArray × ByteArray × ByteArray × List ByteArray × Bool) : Prop := (r.2.2.2.2.2.2.2.2.2.2 = true → 1 ≤ r.1 ∧ r.1 ≤ 6) ∧ r.2.2.2.2.2.2.2.2.2.1 = []
theorem nodeP_kind (c x1 : Int) (x2 x3 x4 x5 x6 x7 x8 : ByteArray) (b : Bool) (h : 1 ≤ c ∧ c ≤ 6) : NodeP (c, x1, x2, x3, x4, x5, x6, x7, x8, [], b) := ⟨fun _ => h, rfl⟩
theorem nodeP_bad (c x1 : Int) (x2 x3 x4 x5 x6 x7 x8 : ByteArray) : NodeP (c, x1, x2, x3, x4, x5, x6, x7, x8, [], false) := ⟨fun h => Bool.noConfusion h, rfl⟩
theorem cond_tot (w m : List UInt8) (hm : m.length ≤ 1000) : ∃ r, Ev (fun k => parse_conditional.f k (ofL w) (ofL m)) r ∧ NodeP r := by
  have hj : ∀ (b : Bool) (a1 a2 a3 a4 a5 a6 a7 : ByteArray), ∃ r, Ev (fun k => parse_conditional.j0 k (ofL m) b 3 0 a1 a2 a3 a4 a5 a6 a7) r ∧ NodeP r := by
    intro b a1 a2 a3 a4 a5 a6 a7
    refine ex_succ ?_
    simp only [parse_conditional.j0]
    cases b with
    | true =>
      simp only [if_true]
      refine ex_bind (f := fun _ t => _) (name_ev (ofL m) (by rw [bl_ofL]; omega)) (ex_some _ (nodeP_kind _ _ _ _ _ _ _ _ _ _ (by decide)))
    | false =>
      simp only [Bool.false_eq_true, if_false]
      obtain ⟨q, b1, hq, hql⟩ := prefix_f m [40]
      obtain ⟨p, b2, hp, hpl⟩ := suffix_f q [41] (by omega)
      rw [show (⟨#[40]⟩ : ByteArray) = ofL [40] from rfl, show (⟨#[41]⟩ : ByteArray) = ofL [41] from rfl, hq]
      simp only [Option.bind_some]
      rw [hp]
      simp only [Option.bind_some]
      obtain ⟨x, y, c, hs, _⟩ := sides_tot p 44 (by omega)
      refine ex_bind (f := fun _ t => _) hs ?_
      cases b1 <;> cases b2 <;> simp only [Bool.false_eq_true, if_false, if_true] <;> exact ex_some _ (nodeP_kind _ _ _ _ _ _ _ _ _ _ (by decide))
  unfold parse_conditional.f
  by_cases c : (ofL w).toList = ([105, 102, 100, 101, 102] : List UInt8)
  · simp only [if_pos c]
    exact hj _ _ _ _ _ _ _ _
  · simp only [if_neg c]
    exact hj _ _ _ _ _ _ _ _
theorem rule_tot (a b : List UInt8) (ha : a.length ≤ 1000) (hb : b.length ≤ 1000) : ∃ r, Ev (fun k => parse_rule.f k (ofL a) (ofL b)) r ∧ NodeP r := by
  have hj1 : ∀ (m : List UInt8) (a1 a2 a3 a4 a5 a6 a7 : ByteArray), m.length ≤ 1000 → ∃ r, Ev (fun k => parse_rule.j1 k (ofL m) 2 0 a1 a2 a3 a4 a5 a6 a7) r ∧ NodeP r := by
    intro m a1 a2 a3 a4 a5 a6 a7 hm
    refine ex_succ ?_
    simp only [parse_rule.j1]
    obtain ⟨x, y, c, hs, hx, hy⟩ := sides_tot m 124 (by omega)
    refine ex_bind (f := fun _ t => _) hs ?_
    simp only
    split
    · exact ex_some _ (nodeP_bad _ _ _ _ _ _ _ _ _)
    · cases c with
      | true =>
        simp only [if_true]
        obtain ⟨z, hz⟩ := has_tot y 124 (by omega)
        exact ex_bind (f := fun _ t => _) hz (ex_some _ (nodeP_kind _ _ _ _ _ _ _ _ _ _ (by decide)))
      | false =>
        simp only [Bool.false_eq_true, if_false]
        exact ex_some _ (nodeP_kind _ _ _ _ _ _ _ _ _ _ (by decide))
  have hj : ∀ (m : List UInt8) (q : Bool) (a1 a2 a3 a4 a5 a6 a7 : ByteArray), m.length ≤ 1000 → ∃ r, Ev (fun k => parse_rule.j0 k (ofL m) q 2 0 a1 a2 a3 a4 a5 a6 a7) r ∧ NodeP r := by
    intro m q a1 a2 a3 a4 a5 a6 a7 hm
    refine ex_succ ?_
    simp only [parse_rule.j0]
    cases q with
    | true =>
      simp only [if_true]
      exact ex_some _ (nodeP_bad _ _ _ _ _ _ _ _ _)
    | false =>
      simp only [Bool.false_eq_true, if_false]
      exact hj1 m a1 a2 a3 a4 a5 a6 a7 hm
  unfold parse_rule.f
  rw [trim_f a (by omega)]
  simp only [Option.bind_some]
  obtain ⟨x, y, c, hs, hx, hy⟩ := sides_tot b 58 (by omega)
  refine ex_bind (f := fun _ t => _) hs ?_
  simp only
  cases c with
  | true =>
    simp only [if_true]
    split
    · exact hj _ _ _ _ _ _ _ _ _ (by omega)
    · obtain ⟨z, hz⟩ := has_tot y 58 (by omega)
      exact ex_bind (f := fun _ t => _) hz (hj _ _ _ _ _ _ _ _ _ (by omega))
  | false =>
    simp only [Bool.false_eq_true, if_false]
    exact hj1 _ _ _ _ _ _ _ _ (by omega)
/-- The signs that a line is cut at. -/
def five : List (List UInt8) := [[58, 61], [63, 61], [43, 61], [61], [58]]
theorem node_tot (l : List UInt8) (h : wordsL l ≠ []) (hl : l.length ≤ 1000) : ∃ r, Ev (fun k => parse_node.f k (ofL l)) r ∧ NodeP r := by
  have hj : ∀ (w m : List UInt8) (b : Bool), m.length ≤ 1000 → ∃ r, Ev (fun k => parse_node.j0 k (ofL l) (ofL w) (ofL m) (ofL w) b) r ∧ NodeP r := by
    intro w m b hm
    refine ex_succ ?_
    simp only [parse_node.j0]
    cases b with
    | true =>
      simp only [if_true]
      obtain ⟨r, hr, hP⟩ := cond_tot w m hm
      exact ex_bind (f := fun _ t => _) hr (ex_some _ hP)
    | false =>
      simp only [Bool.false_eq_true, if_false]
      split
      · exact ex_some _ (nodeP_kind _ _ _ _ _ _ _ _ _ _ (by decide))
      split
      · exact ex_some _ (nodeP_kind _ _ _ _ _ _ _ _ _ _ (by decide))
      split
      · exact ex_some _ (nodeP_kind _ _ _ _ _ _ _ _ _ _ (by decide))
      split
      · exact ex_some _ (nodeP_kind _ _ _ _ _ _ _ _ _ _ (by decide))
      have hc := cut_ev five (by decide) (ofL l) (by rw [ofL_size]; omega)
      rw [bl_ofL] at hc
      obtain ⟨h1, h2⟩ := cut_lens five l
      obtain ⟨⟨ca, cx, cb⟩, hcl⟩ : ∃ q, q = cutL five l := ⟨_, rfl⟩
      rw [← hcl] at hc h1 h2
      have hc' : Ev (fun n => parse_Cut.f n (ofL l) [(⟨#[58, 61]⟩ : ByteArray), (⟨#[63, 61]⟩ : ByteArray), (⟨#[43, 61]⟩ : ByteArray), (⟨#[61]⟩ : ByteArray), (⟨#[58]⟩ : ByteArray)]) (ofL ca, ofL cx, ofL cb) := hc
      refine ex_bind (f := fun _ t => _) hc' ?_
      dsimp only
      dsimp only at h1 h2
      by_cases e1 : (ofL cx).toList = ([] : List UInt8)
      · simp only [if_pos e1]
        exact ex_some _ (nodeP_bad _ _ _ _ _ _ _ _ _)
      simp only [if_neg e1]
      by_cases e2 : (ofL cx).toList = ([58] : List UInt8)
      · simp only [if_pos e2]
        obtain ⟨r, hr, hP⟩ := rule_tot ca cb (by omega) (by omega)
        exact ex_bind (f := fun _ t => _) hr (ex_some _ hP)
      · simp only [if_neg e2]
        rw [trim_f ca (by omega), trim_f cb (by omega)]
        simp only [Option.bind_some]
        exact ex_bind (f := fun _ t => _) (name_ev _ (by rw [bl_ofL]; have := triB_len ca; omega)) (ex_some _ (nodeP_kind _ _ _ _ _ _ _ _ _ _ (by decide)))
  unfold parse_node.f
  rw [words_f l (by omega)]
  simp only [Option.bind_some]
  rcases hw : wordsL l with _ | ⟨w, ws⟩
  · exact absurd hw h
  have hrd : rdOf ByteArray.empty (List.map ofL (w :: ws)) 0 = ofL w := rfl
  have h0 : 0 < ((List.map ofL (w :: ws)).length : Int) := by rw [List.length_map, List.length_cons]; omega
  simp only [if_pos h0, hrd]
  obtain ⟨q, hq, hql⟩ := trimPrefix_f l w
  rw [hq]
  simp only [Option.bind_some]
  rw [trim_f q (by omega)]
  simp only [Option.bind_some]
  have ht := triB_len q
  by_cases e1 : (ofL w).toList = ([105, 102, 101, 113] : List UInt8)
  · simp only [if_pos e1]
    exact hj _ _ _ (by omega)
  simp only [if_neg e1]
  by_cases e2 : (ofL w).toList = ([105, 102, 110, 101, 113] : List UInt8)
  · simp only [if_pos e2]
    exact hj _ _ _ (by omega)
  simp only [if_neg e2]
  by_cases e3 : (ofL w).toList = ([105, 102, 100, 101, 102] : List UInt8)
  · simp only [if_pos e3]
    exact hj _ _ _ (by omega)
  simp only [if_neg e3]
  exact hj _ _ _ (by omega)
/-- What take makes of what is open. -/
def takeL (o : List Bool) (c : Int) : List Bool × Int :=
  if c = 3 then (if o.length = 20 then (o, 15) else (o ++ [false], 0)) else if c ≠ 4 ∧ c ≠ 5 then (o, 0) else match o.reverse with
    | [] => (o, 2)
    | b :: u => if c = 4 then (if b = true then (o, 2) else (u.reverse ++ [true], 0)) else (u.reverse, 0)
theorem take_ev (o : List Bool) (c : Int) (h : o.length ≤ 1000) : Ev (fun k => parse_nest_take.f k o c) (takeL o c) := by
  refine ⟨3, fun k hk => ?_⟩
  obtain ⟨n, rfl⟩ : ∃ n, k = n + 3 := ⟨k - 3, by omega⟩
  dsimp only
  unfold parse_nest_take.f takeL
  by_cases c3 : c = 3
  · rw [if_pos c3, if_pos c3, parse_nest_take.j0]
    by_cases e : o.length = 20
    · rw [if_pos (by rw [e]; rfl), if_pos e]
    · rw [if_neg (by rw [beq_iff_eq]; omega), if_pos c3, if_pos (by omega), if_neg e]
  · rw [if_neg c3, if_neg c3, parse_nest_take.j0, if_neg (by decide), if_neg c3]
    by_cases c45 : c ≠ 4 ∧ c ≠ 5
    · rw [if_pos c45, if_neg c45.1, parse_nest_take.j1, if_pos (bne_iff_ne.2 c45.2)]
    · rw [if_neg c45]
      have hj : (if c = 4 then parse_nest_take.j1 (n + 2) o c (o.length : Int) false else parse_nest_take.j1 (n + 2) o c (o.length : Int) (c != 5)) = parse_nest_take.j1 (n + 2) o c (o.length : Int) false := by
        by_cases c4 : c = 4
        · rw [if_pos c4]
        · have c5 : c = 5 := by
            by_cases c5 : c = 5
            · exact c5
            · exact absurd ⟨c4, c5⟩ c45
          rw [if_neg c4, show (c != 5) = false from bne_eq_false_iff_eq.2 c5]
      rw [hj, parse_nest_take.j1, if_neg (by decide)]
      rcases List.eq_nil_or_concat o with rfl | ⟨u, b, rfl⟩
      · rw [if_pos (by rfl), parse_nest_take.j2, if_pos rfl]
        rfl
      · have hul : ((u.concat b).length : Int) = (u.length : Int) + 1 := by rw [List.length_concat]; omega
        have hw : Unit → wrap64 (((u.concat b).length : Int) - 1) = (u.length : Int) := fun _ => by
          rw [hul, wrap_sm]
          · omega
          · omega
          · have := h; rw [List.length_concat] at this; omega
        have hrev : (u.concat b).reverse = b :: u.reverse := by simp
        have hrd : rdOf false (u.concat b) (u.length : Int) = b := by
          rw [rdOf_nat _ _ _ (by rw [List.length_concat]; omega)]
          simp
        rw [if_neg (by omega), hw (), hrev]
        simp only [List.reverse_reverse]
        by_cases c4 : c = 4
        · rw [if_pos c4, if_pos (by omega), if_pos (by omega), hrd, if_pos c4, parse_nest_take.j2, hw ()]
          cases b with
          | true => rw [if_pos rfl, if_pos rfl]
          | false =>
            rw [if_neg (by decide), if_pos c4, if_pos (by omega), if_pos (by omega), if_neg (by decide)]
            congr 2
            rw [Int.toNat_natCast]
            simp
        · rw [if_neg c4, if_neg c4, parse_nest_take.j2, if_neg (by decide), if_neg c4, hw (), if_pos (by omega), if_pos (by omega)]
          congr 2
          rw [Int.toNat_natCast]
          simp
end Go.Proofs.YthnholondnfjoaaDoor.Pl
