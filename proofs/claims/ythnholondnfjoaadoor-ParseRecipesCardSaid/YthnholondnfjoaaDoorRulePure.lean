/- What parse.node comes to at a rule whose target is a name. -/
import Derived.Test.YthnholondnfjoaaDoorPParsex5
import Derived.Test.YthnholondnfjoaaDoorPParsex4
import Derived.Test.YthnholondnfjoaaDoorCutPure
import Derived.Test.YthnholondnfjoaaDoorNamePure
import Derived.Test.YthnholondnfjoaaDoorWordsSpec
namespace Go.Proofs.YthnholondnfjoaaDoor.Pl
open Go.RowKit Go.Proofs.YthnholondnfjoaaDoor.PParse Go.Proofs.YthnholondnfjoaaDoorW.PrintWords Go.Proofs.YthnholondnfjoaaDoorW.PrintLast

def triB (l : List UInt8) : List UInt8 := Lib.trimS l [32, 9]
theorem trim_f (l : List UInt8) (h : l.length ≤ 1000000000) : text_Trim.f (ofL l) = some (ofL (triB l)) := by
  unfold text_Trim.f strings_Trim.f
  have hs := ofL_size l
  rw [if_pos (show _ ∧ _ ∧ _ from ⟨by omega, by decide, by decide⟩), show (ofL l).data.toList = l from bl_ofL l]
  rfl
theorem blank_iff (c : UInt8) : ([32, 9] : List UInt8).contains c = isBlank c := rfl
theorem triL_id (l : List UInt8) (h : ∀ c, l.head? = some c → isBlank c = false) : Lib.trimLeftS l [32, 9] = l := by
  unfold Lib.trimLeftS
  cases l with
  | nil => rfl
  | cons c t => rw [List.dropWhile_cons, if_neg (by rw [blank_iff, h c rfl]; decide)]
theorem triB_id (l : List UInt8) (h : ∀ c, l.head? = some c → isBlank c = false) (h2 : ∀ c, l.getLast? = some c → isBlank c = false) : triB l = l := by
  unfold triB Lib.trimS Lib.trimRightS
  have := triL_id l.reverse (by rw [List.head?_reverse]; exact h2)
  unfold Lib.trimLeftS at this
  rw [this, List.reverse_reverse]
  exact triL_id l h
theorem ok8_blank (c : UInt8) (h : ok8 c = true) : isBlank c = false := by
  obtain ⟨_, _, _, _, _, _, h1, h2, _⟩ := ok8_facts c h
  simp [isBlank, h1, h2]
theorem words_f (l : List UInt8) (h : l.length ≤ 1000000) (ha : l.all (fun b => decide (b.toNat < 128)) = true) : text_Words.f (ofL l) = some ((wordsL l).map ofL) := by
  unfold text_Words.f
  rw [if_pos (show _ ∧ _ from ⟨by rw [ofL_size]; exact h, by rw [show (ofL l).data.toList = l from bl_ofL l]; exact ha⟩), bl_ofL]
/-- The signs that a line is cut at. -/
def five : List (List UInt8) := [[58, 61], [63, 61], [43, 61], [61], [58]]
theorem sign_none (c : UInt8) (t : List UInt8) (h : c ≠ 58 ∧ c ≠ 63 ∧ c ≠ 43 ∧ c ≠ 61) : signAt five (c :: t) = none := by
  obtain ⟨h1, h2, h3, h4⟩ := h
  unfold signAt five
  rw [List.find?_eq_none]
  intro x hx
  simp only [List.mem_cons, List.not_mem_nil, or_false] at hx
  rcases hx with rfl | rfl | rfl | rfl | rfl <;> simp [List.isPrefixOf, h1.symm, h2.symm, h3.symm, h4.symm]
theorem cut_name : ∀ (u pre : List UInt8) (f : Nat), u.all ok8 = true → u.length + 3 ≤ f → cutGo five f [] pre (u ++ [58, 32, 120]) = (pre ++ u, [58], [32, 120])
  | u, pre, 0, _, hf => by omega
  | [], pre, f + 1, _, _ => by
    rw [List.nil_append, cutGo, if_neg (by decide), if_neg (by decide), if_neg (by decide), if_pos rfl]
    rw [show signAt five [58, 32, 120] = some [58] from by decide]
    simp
  | c :: u, pre, f + 1, h, hf => by
    rw [List.all_cons, Bool.and_eq_true] at h
    obtain ⟨_, h1, h2, h3, h4, h5, _⟩ := ok8_facts c h.1
    rw [List.cons_append, cutGo, if_neg (fun e => h1 e.1), if_neg (fun e => h1 e.1), if_neg (by simp), if_pos rfl, sign_none c _ ⟨h2, h3, h4, h5⟩]
    simp only
    rw [cut_name u (pre ++ [c]) f h.2 (by simp at hf; omega)]
    simp
theorem sides_ev (l : List UInt8) (x : UInt8) (h : l.length ≤ 1000000) : Ev (fun k => parse_sides.f k (ofL l) (ofL [x])) (ofL (triB (cutL [[x]] l).1), ofL (triB (cutL [[x]] l).2.2), decide ((cutL [[x]] l).2.1 ≠ [])) := by
  have hc := cut1_ev (ofL l) (ofL [x]) (by rw [ofL_size]; omega)
  rw [bl_ofL, bl_ofL] at hc
  obtain ⟨r, w1, w2, _⟩ := cutGo_whole [[x]] l.length [] [] l
  rw [List.nil_append] at w1
  have h1 : (cutL [[x]] l).1.length ≤ l.length := by
    unfold cutL
    rw [w1]
    have := congrArg List.length w2
    simp at this
    omega
  have h2 : (cutL [[x]] l).2.2.length ≤ l.length := by
    unfold cutL
    have := congrArg List.length w2
    simp at this
    omega
  obtain ⟨K, hK⟩ := hc
  refine ⟨K, fun k hk => ?_⟩
  have hk' : parse_Cut.f k (ofL l) [ofL [x]] = _ := hK k hk
  dsimp only
  unfold parse_sides.f
  rw [hk']
  simp only [Option.bind_some, tr3]
  rw [trim_f _ (by omega), Option.bind_some, trim_f _ (by omega), Option.bind_some, bl_toList, bl_ofL]
  congr 3
  by_cases e : (cutL [[x]] l).2.1 = []
  · simp [e]
  · simp [e]
theorem rule_ev (t : List UInt8) (ht : t.all ok8 = true) (hne : t ≠ []) (hl : t.length ≤ 40) :
    Ev (fun k => parse_rule.f k (ofL t) (ofL [32, 120])) (2, 0, ofL [], ofL [], ofL [], ofL t, ofL [], ofL [120], ofL [], [], true) := by
  have hT : triB t = t := triB_id t (fun c hc => ok8_blank c (List.all_eq_true.1 ht c (List.mem_of_mem_head? hc))) (fun c hc => ok8_blank c (List.all_eq_true.1 ht c (List.mem_of_getLast? hc)))
  obtain ⟨K1, h1⟩ := sides_ev [32, 120] 58 (by decide)
  obtain ⟨K2, h2⟩ := sides_ev [32, 120] 124 (by decide)
  refine ⟨max K1 K2, fun k hk => ?_⟩
  have h1' : parse_sides.f k (ofL [32, 120]) (⟨#[58]⟩ : ByteArray) = some (ofL [120], ofL [], false) := h1 k (by omega)
  have h2' : parse_sides.f k (ofL [32, 120]) (⟨#[124]⟩ : ByteArray) = some (ofL [120], ofL [], false) := h2 k (by omega)
  dsimp only
  unfold parse_rule.f
  rw [trim_f t (by omega), hT, Option.bind_some, h1', Option.bind_some]
  dsimp only
  rw [if_neg (by decide), h2', Option.bind_some, if_neg (by rw [bl_toList, bl_ofL]; exact hne)]
  rfl
theorem last_ne (t s : List UInt8) (h : s.getLast? ≠ some 58) : t ++ [58] ≠ s := by
  intro e
  apply h
  rw [← e]
  simp
theorem node_ev (t : List UInt8) (ht : t.all ok8 = true) (hne : t ≠ []) (hl : t.length ≤ 40) :
    Ev (fun k => parse_node.f k (ofL (t ++ [58, 32, 120]))) (2, 0, ofL [], ofL [], ofL [], ofL t, ofL [], ofL [120], ofL [], [], true) := by
  have hall : (t ++ [58, 32, 120]).all (fun b => decide (b.toNat < 128)) = true := by
    rw [List.all_append, Bool.and_eq_true]
    exact ⟨List.all_eq_true.2 fun c hc => decide_eq_true (ok8_facts c (List.all_eq_true.1 ht c hc)).1, by decide⟩
  have hw : wordsL (t ++ [58, 32, 120]) = [t ++ [58], [120]] := by
    rw [show t ++ [58, 32, 120] = (t ++ [58]) ++ 32 :: [120] by simp, wordsL_cons _ _ _ (by simp) (fun c hc => by
      rcases List.mem_append.1 hc with h | h
      · exact ok8_blank c (List.all_eq_true.1 ht c h)
      · simp at h; rw [h]; rfl) rfl]
    rfl
  have hcut := cut_ev five (by decide) (ofL (t ++ [58, 32, 120])) (by rw [ofL_size]; simp; omega)
  rw [bl_ofL] at hcut
  unfold cutL at hcut
  rw [cut_name t [] _ ht (by simp)] at hcut
  obtain ⟨K1, h1⟩ := hcut
  obtain ⟨K2, h2⟩ := rule_ev t ht hne hl
  refine ⟨max K1 K2 + 1, fun k hk => ?_⟩
  obtain ⟨m, rfl⟩ : ∃ m, k = m + 1 := ⟨k - 1, by omega⟩
  have h1' : parse_Cut.f m (ofL (t ++ [58, 32, 120])) [(⟨#[58, 61]⟩ : ByteArray), (⟨#[63, 61]⟩ : ByteArray), (⟨#[43, 61]⟩ : ByteArray), (⟨#[61]⟩ : ByteArray), (⟨#[58]⟩ : ByteArray)] = some (ofL t, ofL [58], ofL [32, 120]) := h1 m (by omega)
  have h2' : parse_rule.f m (ofL t) (ofL [32, 120]) = some (2, 0, ofL [], ofL [], ofL [], ofL t, ofL [], ofL [120], ofL [], [], true) := h2 m (by omega)
  dsimp only
  unfold parse_node.f
  rw [words_f _ (by simp; omega) hall, hw, Option.bind_some]
  rw [if_pos (by simp), show rdOf ByteArray.empty (List.map ofL [t ++ [58], [120]]) 0 = ofL (t ++ [58]) from rfl]
  have htp : strings_TrimPrefix.f (ofL (t ++ [58, 32, 120])) (ofL (t ++ [58])) = some (ofL [32, 120]) := by
    unfold strings_TrimPrefix.f stringslite_TrimPrefix.f
    have hp := hp_f (ofL (t ++ [58, 32, 120])) (ofL (t ++ [58]))
    unfold strings_HasPrefix.f at hp
    simp only [Option.bind_fun_some] at hp
    have hpre : (bl (ofL (t ++ [58]))).isPrefixOf (bl (ofL (t ++ [58, 32, 120]))) = true := by
      rw [bl_ofL, bl_ofL, List.isPrefixOf_iff_prefix]
      exact ⟨[32, 120], by simp⟩
    rw [hp, hpre, Option.bind_some, if_pos rfl, if_pos (by omega), if_pos (by rw [ofL_size, ofL_size]; simp)]
    simp only [Option.bind_some]
    congr 1
    refine bl_inj ?_
    rw [bl_extract_to, bl_ofL, bl_ofL, Int.toNat_natCast, ofL_size, show t ++ [58, 32, 120] = (t ++ [58]) ++ [32, 120] by simp, List.drop_left]
  have h120 : text_Trim.f (ofL [32, 120]) = some (ofL [120]) := by
    rw [trim_f _ (by decide)]
    rfl
  have hbl : (ofL (t ++ [58])).toList = t ++ [58] := by rw [bl_toList, bl_ofL]
  rw [htp, Option.bind_some, h120, Option.bind_some, hbl]
  rw [if_neg (last_ne t [105, 102, 101, 113] (by decide)), if_neg (last_ne t [105, 102, 110, 101, 113] (by decide)), if_neg (last_ne t [105, 102, 100, 101, 102] (by decide))]
  rw [beq_eq_false_iff_ne.2 (last_ne t [105, 102, 110, 100, 101, 102] (by decide)), parse_node.j0, if_neg (by decide), hbl]
  rw [if_neg (last_ne t [101, 108, 115, 101] (by decide)), if_neg (last_ne t [101, 110, 100, 105, 102] (by decide)), if_neg (last_ne t [105, 110, 99, 108, 117, 100, 101] (by decide)), if_neg (last_ne t [45, 105, 110, 99, 108, 117, 100, 101] (by decide))]
  rw [h1', Option.bind_some]
  dsimp only
  rw [if_neg (by rw [bl_toList, bl_ofL]; decide), if_pos (by rw [bl_toList, bl_ofL]), h2']
  rfl
theorem take_ev (k : List Bool) : Ev (fun n => parse_nest_take.f n k 2) (k, 0) := by
  refine ⟨2, fun n hn => ?_⟩
  obtain ⟨m, rfl⟩ : ∃ m, n = m + 2 := ⟨n - 2, by omega⟩
  dsimp only
  unfold parse_nest_take.f
  rw [if_neg (by decide), parse_nest_take.j0, if_neg (by decide), if_neg (by decide), if_neg (by decide), parse_nest_take.j1, if_pos (by decide)]
end Go.Proofs.YthnholondnfjoaaDoor.Pl
