/- ParseNodes' pure statement, in plain Lean. -/
import Derived.Test.YthnholondnfjoaaDoorPParsex18
import Derived.Test.YthnholondnfjoaaDoorSamePure
import Derived.Test.YthnholondnfjoaaDoorRefLex
import Derived.Test.YthnholondnfjoaaDoorParseShown
namespace Go.Proofs.YthnholondnfjoaaDoor.Pure
open Go.RowKit Go.Proofs.YthnholondnfjoaaDoor.PParse Go.Proofs.YthnholondnfjoaaDoorW.PrintWords Go.Proofs.YthnholondnfjoaaDoor.Pl

theorem ParseNodes : cooperagelaw9_ParseNodes.Pure := by
  intro a0 _
  refine Ev.rounds (g := fun k => cooperagelaw9_ParseNodes.f k a0) ?_
  unfold cooperagelaw9_ParseNodes.f
  refine Ev.bind (f := fun k t => _) shown_ev ?_
  simp only [if_true]
  by_cases c : (a0.size : Int) > 2000
  · rw [decide_eq_true c]
    exact Ev.step (f := fun _ => some true) (fun k => by rw [cooperagelaw9_ParseNodes.j0, if_pos rfl]) (Ev.now _)
  rw [decide_eq_false c]
  refine Ev.step (f := fun k => _) (fun k => by rw [cooperagelaw9_ParseNodes.j0, if_neg (by decide)]) ?_
  refine Ev.bind (f := fun k t => _) (Lx.lex_ev a0 (by omega)) ?_
  cases hc : chk 0 (rowsOf (bl a0)) with
  | some n =>
    rw [Lx.fin_some _ n hc]
    exact Ev.now _
  | none =>
    rw [Lx.fin_none _ hc]
    obtain ⟨hlen, hs⟩ := Lx.chk_len _ 0 hc (by omega)
    have hx : ∀ x ∈ (rowsOf (bl a0)).map Lx.toS, (bl x.f2).length ≤ 1000 := by
      intro x hx
      obtain ⟨y, hy, rfl⟩ := List.mem_map.1 hx
      show (bl (ofL y.text)).length ≤ 1000
      rw [bl_ofL]
      exact hs y hy
    have hm : (rowsOf (bl a0)).map Lx.rS = ((rowsOf (bl a0)).map Lx.toS).map m53 := by rw [List.map_map]; rfl
    obtain ⟨res, h1, h2, h3, h4⟩ := run_same ((rowsOf (bl a0)).map Lx.toS) (by rw [List.length_map]; omega) hx _ [] [] [] rfl (Nat.le_refl _) (Nat.le_refl _) (fun _ h => by simp at h)
    simp only [if_true]
    refine Ev.bind (f := fun k t => _) (show Ev (fun k => parse_Parse.f k ((rowsOf (bl a0)).map Lx.toS)) res from h1) ?_
    refine Ev.bind (f := fun k t => _) (Lx.reflex_ev a0 (by omega)) ?_
    rw [Lx.rfin_none _ hc, hm]
    refine Ev.bind (f := fun k t => _) (show Ev (fun k => cooperageref9_Parse.f k (((rowsOf (bl a0)).map Lx.toS).map m53)) (res.1.map m64, res.2) from h2) ?_
    simp only [if_true]
    refine Ev.bind (f := fun k t => _) (same_ev res.1 (by omega) (fun nd hn => Nat.le_trans (h4 nd hn) (by omega))) ?_
    simp only [if_true, beq_self_eq_true]
    exact Ev.now _
end Go.Proofs.YthnholondnfjoaaDoor.Pure
