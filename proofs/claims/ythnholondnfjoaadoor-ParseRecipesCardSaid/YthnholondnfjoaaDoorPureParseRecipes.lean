/- ParseRecipes is so: the lines with a tab behind a rule are its recipe; without a rule ahead they are wrong. -/
import Derived.Test.YthnholondnfjoaaDoorPParsex9
import Derived.Test.YthnholondnfjoaaDoorRecipePure
import Derived.Test.YthnholondnfjoaaDoorParseShown
namespace Go.Proofs.YthnholondnfjoaaDoor.Pl
open Go.RowKit Go.Proofs.YthnholondnfjoaaDoor.PParse Go.Proofs.YthnholondnfjoaaDoorW.PrintWords Go.Proofs.YthnholondnfjoaaDoorW.PrintLast

theorem recipes_ev (t : List UInt8) (ht : t.all ok8 = true) (hne : t ≠ []) (htl : t.length ≤ 40) (l : List ByteArray) (hl : l.length ≤ 40) : ∀ (rest done : List ByteArray), l = done ++ rest →
    Ev (fun k => cooperagelaw9_ParseRecipes.l0 k (ofL t) l (⟨1, false, ofL (t ++ [58, 32, 120])⟩ :: recs 0 done) (recs 0 done) (done.length : Int)) true
  | [], done, hd => by
    have hd' : l = done := by rw [hd, List.append_nil]
    subst hd'
    obtain ⟨K1, h1⟩ := parse_rule_ev t ht hne htl l (by omega)
    obtain ⟨K2, h2⟩ := alone_ev l
    obtain ⟨K3, h3⟩ := sames_ev l (by omega)
    refine ⟨max K1 (max K2 K3) + 1, fun k hk => ?_⟩
    obtain ⟨m, rfl⟩ : ∃ m, k = m + 1 := ⟨k - 1, by omega⟩
    have h1' : parse_Parse.f m (⟨1, false, ofL (t ++ [58, 32, 120])⟩ :: recs 0 l) = _ := h1 m (by omega)
    have h2' : parse_Parse.f m (recs 0 l) = _ := h2 m (by omega)
    have h3' : cooperagelaw9_sames.f m l l = _ := h3 m (by omega)
    dsimp only
    rw [cooperagelaw9_ParseRecipes.l0, if_neg (by omega), h1', Option.bind_some, h2', Option.bind_some]
    have hz : rd_T45 [nd t l] 0 = nd t l := rfl
    dsimp only
    rw [if_pos rfl, if_pos (by rfl), if_pos (by show (0 : Int) < 1; decide), hz]
    rw [if_pos (show (nd t l).f5.toList = (ofL t).toList from rfl), if_pos (show (nd t l).f7.toList = [120] from (bl_toList _).trans (bl_ofL _)), show (nd t l).f9 = l from rfl, h3', Option.bind_some, if_pos rfl]
    cases l with
    | nil => rfl
    | cons x l =>
      rw [if_neg (show ¬ (x :: l = []) by simp)]
      have e1 : (((x :: l).length : Int) == 0) = false := beq_eq_false_iff_ne.2 (by simp; omega)
      dsimp only
      rw [e1, if_pos (by decide), if_neg (by simp; omega), if_pos rfl]
      rfl
  | x :: rest, done, hd => by
    have hlen : done.length + rest.length + 1 = l.length := by rw [hd]; simp; omega
    have hrd : rdOf ByteArray.empty l (done.length : Int) = x := by
      rw [rdOf_nat _ _ _ (by omega)]
      simp [hd]
    by_cases c : (x.size : Int) > 300
    · refine Ev.step (f := fun _ => some true) (fun k => ?_) (Ev.now _)
      rw [cooperagelaw9_ParseRecipes.l0, if_pos (by omega), if_pos (by omega), hrd, if_pos c]
    · refine Ev.step (fun k => ?_) (recipes_ev t ht hne htl l hl rest (done ++ [x]) (by rw [hd]; simp))
      have hrl := recs_len done 0
      rw [cooperagelaw9_ParseRecipes.l0, if_pos (by omega), if_pos (by omega), hrd, if_neg c, if_pos (by rw [List.length_cons]; omega), if_pos (by omega), wrap_succ _ (by omega), recs_snoc]
      rw [show wrap64 ((done.length : Int) + 2) = ((0 + done.length + 2 : Nat) : Int) by rw [wrap_sm (by omega) (by omega)]; omega]
      rw [show (done ++ [x]).length = done.length + 1 by simp, List.cons_append]
end Go.Proofs.YthnholondnfjoaaDoor.Pl
namespace Go.Proofs.YthnholondnfjoaaDoor.Pure
open Go.RowKit Go.Proofs.YthnholondnfjoaaDoor.PParse Go.Proofs.YthnholondnfjoaaDoorW.PrintWords Go.Proofs.YthnholondnfjoaaDoor.Pl

theorem ParseRecipes : cooperagelaw9_ParseRecipes.Pure := by
  intro a0 l1 h0 _ _ _
  have hT : Ev (fun k => cooperagelaw9_ParseRecipes.j0 k a0 l1 true true) true := Ev.step (f := fun _ => some true) (fun k => by rw [cooperagelaw9_ParseRecipes.j0, if_pos rfl]) (Ev.now _)
  refine Ev.rounds (g := fun k => cooperagelaw9_ParseRecipes.f k a0 l1) ?_
  unfold cooperagelaw9_ParseRecipes.f
  refine Ev.bind (f := fun k t => _) shown_ev ?_
  simp only [if_true]
  by_cases h : (l1.length : Int) > 40
  · simp only [if_pos h]
    exact hT
  simp only [if_neg h]
  rw [bl_size] at h0
  refine Ev.bind (f := fun k t => _) (name_ev a0 (by omega)) ?_
  by_cases hn : nameOk (bl a0) = true
  · have hF : Ev (fun k => cooperagelaw9_ParseRecipes.j0 k a0 l1 true false) true := by
      unfold nameOk at hn
      rw [Bool.and_eq_true, Bool.and_eq_true, bne_iff_ne, decide_eq_true_eq] at hn
      have hl0 := recipes_ev (bl a0) hn.1 hn.2.1 hn.2.2 l1 (by omega) l1 [] rfl
      rw [ofL_bl] at hl0
      refine Ev.step (fun k => ?_) hl0
      have hs0 := bl_size a0
      rw [cooperagelaw9_ParseRecipes.j0, if_neg (by decide), if_pos (by omega)]
      rw [show a0 ++ (⟨#[58, 32, 120]⟩ : ByteArray) = ofL (bl a0 ++ [58, 32, 120]) from bl_inj (by rw [bl_append, bl_ofL]; rfl)]
      rfl
    have hb : ∀ b, Ev (fun k => cooperagelaw9_ParseRecipes.j0 k a0 l1 true b) true := fun b => by cases b <;> assumption
    simp only [hn, if_true]
    repeat' split
    all_goals (first | exact hT | exact hb _)
  · simp only [if_neg hn]
    exact hT
end Go.Proofs.YthnholondnfjoaaDoor.Pure
