/- What parse.Parse comes to at a rule and the lines of its recipe. -/
import Derived.Test.YthnholondnfjoaaDoorPParsex6
import Derived.Test.YthnholondnfjoaaDoorPParsex7
import Derived.Test.YthnholondnfjoaaDoorRulePure
namespace Go.Proofs.YthnholondnfjoaaDoor.Pl
open Go.RowKit Go.Proofs.YthnholondnfjoaaDoor.PParse Go.Proofs.YthnholondnfjoaaDoorW.PrintWords Go.Proofs.YthnholondnfjoaaDoorW.PrintLast

/-- The lines with a tab, numbered from n + 2 on. -/
def recs : Nat → List ByteArray → List S43
  | _, [] => []
  | n, x :: l => ⟨((n + 2 : Nat) : Int), true, x⟩ :: recs (n + 1) l
theorem recs_len : ∀ (l : List ByteArray) (n : Nat), (recs n l).length = l.length
  | [], _ => rfl
  | x :: l, n => by rw [recs, List.length_cons, List.length_cons, recs_len l]
theorem recs_snoc (x : ByteArray) : ∀ (l : List ByteArray) (n : Nat), recs n (l ++ [x]) = recs n l ++ [⟨((n + l.length + 2 : Nat) : Int), true, x⟩]
  | [], n => rfl
  | y :: l, n => by
    rw [List.cons_append, recs, recs, recs_snoc x l (n + 1), List.cons_append, List.length_cons, show n + 1 + l.length + 2 = n + (l.length + 1) + 2 by omega]
theorem recs_at : ∀ (l : List ByteArray) (n i : Nat) (h : i < l.length), (recs n l)[i]? = some ⟨((n + i + 2 : Nat) : Int), true, l[i]⟩
  | [], n, i, h => by simp at h
  | x :: l, n, 0, h => rfl
  | x :: l, n, i + 1, h => by
    rw [recs, List.getElem?_cons_succ, recs_at l (n + 1) i (by simp at h; omega), show n + 1 + i + 2 = n + (i + 1) + 2 by omega]
    rfl
def nd (t : List UInt8) (r : List ByteArray) : S45 := ⟨2, 1, ofL [], ofL [], ofL [], ofL t, ofL [], ofL [120], ofL [], r⟩
theorem recipe_ev (t : List UInt8) (r0 : S43) (l : List ByteArray) (hl : l.length ≤ 1000) : ∀ (rest done : List ByteArray), l = done ++ rest →
    Ev (fun k => parse_Parse.l0 k [nd t done] [] (r0 :: recs 0 l) ((r0 :: recs 0 l).length : Int) ((done.length + 1 : Nat) : Int)) ([nd t l], 0, 0)
  | [], done, hd => by
    have hd' : l = done := by rw [hd, List.append_nil]
    subst hd'
    refine Ev.step (f := fun _ => some ([nd t l], 0, 0)) (fun k => ?_) (Ev.now _)
    have := recs_len l 0
    rw [parse_Parse.l0, if_neg (by rw [List.length_cons]; omega), if_neg (by simp)]
  | x :: rest, done, hd => by
    have hlen : done.length + rest.length + 1 = l.length := by rw [hd]; simp; omega
    have hrl := recs_len l 0
    have ih := recipe_ev t r0 l hl rest (done ++ [x]) (by rw [hd]; simp)
    refine Ev.step (fun k => ?_) ih
    have hrd : rd_T43 (r0 :: recs 0 l) ((done.length + 1 : Nat) : Int) = ⟨((done.length + 2 : Nat) : Int), true, x⟩ := by
      unfold rd_T43
      rw [Int.toNat_natCast, List.getD_eq_getElem?_getD, List.getElem?_cons_succ, recs_at l 0 done.length (by omega)]
      simp [hd]
    have hw0 : wrap64 (([nd t done].length : Int) - 1) = 0 := by rw [show ([nd t done].length : Int) = 1 from rfl, wrap_sm] <;> omega
    have hz : rd_T45 [nd t done] 0 = nd t done := rfl
    have hs : [nd t done].set (0 : Int).toNat (nd t (done ++ [x])) = [nd t (done ++ [x])] := rfl
    rw [parse_Parse.l0, if_pos (by rw [List.length_cons]; omega), if_pos (by omega), if_pos (by rw [List.length_cons]; omega), hrd, if_pos rfl, if_neg (by simp), hw0, if_pos (by decide), if_pos (by simp), hz, if_pos (show (nd t done).f0 = 2 from rfl), if_pos (show (nd t done).f9.length < 8796093022208 by show done.length < _; omega)]
    rw [wrap_succ _ (by omega), show ((done ++ [x]).length + 1 : Nat) = done.length + 1 + 1 by simp]
    exact congrArg (fun q => parse_Parse.l0 k q [] (r0 :: recs 0 l) ((r0 :: recs 0 l).length : Int) ((done.length + 1 + 1 : Nat) : Int)) hs
theorem parse_rule_ev (t : List UInt8) (ht : t.all ok8 = true) (hne : t ≠ []) (htl : t.length ≤ 40) (l : List ByteArray) (hl : l.length ≤ 1000) :
    Ev (fun k => parse_Parse.f k (⟨1, false, ofL (t ++ [58, 32, 120])⟩ :: recs 0 l)) ([nd t l], 0, 0) := by
  unfold parse_Parse.f
  have hall : (t ++ [58, 32, 120]).all (fun b => decide (b.toNat < 128)) = true := by
    rw [List.all_append, Bool.and_eq_true]
    exact ⟨List.all_eq_true.2 fun c hc => decide_eq_true (ok8_facts c (List.all_eq_true.1 ht c hc)).1, by decide⟩
  have hw : wordsL (t ++ [58, 32, 120]) = [t ++ [58], [120]] := by
    rw [show t ++ [58, 32, 120] = (t ++ [58]) ++ 32 :: [120] by simp, wordsL_cons _ _ _ (by simp) (fun c hc => by
      rcases List.mem_append.1 hc with h | h
      · exact ok8_blank c (List.all_eq_true.1 ht c h)
      · simp at h; rw [h]; rfl) rfl]
    rfl
  have htri : triB (t ++ [58, 32, 120]) = t ++ [58, 32, 120] := by
    refine triB_id _ (fun c hc => ?_) (fun c hc => ?_)
    · cases t with
      | nil => exact absurd rfl hne
      | cons d u =>
        simp at hc
        subst hc
        exact ok8_blank _ (List.all_eq_true.1 ht _ (by simp))
    · simp at hc
      subst hc
      rfl
  obtain ⟨K1, h1⟩ := node_ev t ht hne htl
  obtain ⟨K2, h2⟩ := take_ev []
  obtain ⟨K3, h3⟩ := recipe_ev t ⟨1, false, ofL (t ++ [58, 32, 120])⟩ l hl l [] rfl
  refine ⟨max K1 (max K2 K3) + 1, fun k hk => ?_⟩
  obtain ⟨m, rfl⟩ : ∃ m, k = m + 1 := ⟨k - 1, by omega⟩
  have h1' : parse_node.f m (ofL (t ++ [58, 32, 120])) = _ := h1 m (by omega)
  have h2' : parse_nest_take.f m [] 2 = _ := h2 m (by omega)
  have h3' := h3 m (by omega)
  have hrd : rd_T43 (⟨1, false, ofL (t ++ [58, 32, 120])⟩ :: recs 0 l) 0 = ⟨1, false, ofL (t ++ [58, 32, 120])⟩ := rfl
  dsimp only
  rw [parse_Parse.l0, if_pos (by rw [List.length_cons]; omega), if_pos (by omega), if_pos (by rw [List.length_cons]; omega), hrd]
  rw [if_neg (show ¬ (false = true) by decide), words_f _ (by simp; omega) hall, hw, Option.bind_some, if_neg (by simp), trim_f _ (by simp; omega), htri, Option.bind_some, h1', Option.bind_some]
  dsimp only
  rw [if_pos rfl, h2', Option.bind_some]
  dsimp only
  rw [if_pos rfl, if_pos (by decide), show wrap64 (0 + 1) = ((([] : List ByteArray).length + 1 : Nat) : Int) by rw [wrap_sm] <;> simp]
  exact h3'
theorem alone_ev (l : List ByteArray) : Ev (fun k => parse_Parse.f k (recs 0 l)) (if l = [] then ([], 0, 0) else ([], 2, 2)) := by
  unfold parse_Parse.f
  cases l with
  | nil =>
    refine Ev.step (f := fun _ => some ([], 0, 0)) (fun k => ?_) (Ev.now _)
    rw [recs, parse_Parse.l0, if_neg (by decide), if_neg (by decide)]
  | cons x l =>
    rw [if_neg (by simp)]
    refine Ev.step (f := fun _ => some ([], 2, 2)) (fun k => ?_) (Ev.now _)
    have hrd : rd_T43 (recs 0 (x :: l)) 0 = ⟨2, true, x⟩ := rfl
    have hrl := recs_len (x :: l) 0
    rw [List.length_cons] at hrl
    rw [parse_Parse.l0, if_pos (by omega), if_pos (by omega), if_pos (by omega), hrd, if_pos rfl, if_pos (by rfl)]
theorem sames_ev (l : List ByteArray) (hl : l.length ≤ 1000) : Ev (fun k => cooperagelaw9_sames.f k l l) true := by
  unfold cooperagelaw9_sames.f
  simp only [if_pos]
  have : ∀ (m i : Nat), l.length - i ≤ m → i ≤ l.length → Ev (fun k => cooperagelaw9_sames.l0 k l l (i : Int)) true := by
    intro m
    induction m with
    | zero =>
      intro i h1 h2
      refine Ev.step (f := fun _ => some true) (fun k => ?_) (Ev.now _)
      rw [cooperagelaw9_sames.l0, if_neg (by omega)]
    | succ m ih =>
      intro i h1 h2
      by_cases h : i < l.length
      · refine Ev.step (fun k => ?_) (ih (i + 1) (by omega) (by omega))
        rw [cooperagelaw9_sames.l0, if_pos (by omega), if_pos (by omega), if_pos (by omega), if_pos rfl, wrap_succ i (by omega)]
      · refine Ev.step (f := fun _ => some true) (fun k => ?_) (Ev.now _)
        rw [cooperagelaw9_sames.l0, if_neg (by omega)]
  exact this l.length 0 (by omega) (by omega)
end Go.Proofs.YthnholondnfjoaaDoor.Pl
