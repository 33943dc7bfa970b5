/- ParseCuts is so: a text is cut where the document says. -/
import Derived.Test.YthnholondnfjoaaDoorPParsex11
import Derived.Test.YthnholondnfjoaaDoorOutPure
import Derived.Test.YthnholondnfjoaaDoorParseShown
namespace Go.Proofs.YthnholondnfjoaaDoor.Pl
open Go.RowKit Go.Proofs.YthnholondnfjoaaDoor.PParse Go.Proofs.YthnholondnfjoaaDoorW.PrintWords Go.Proofs.YthnholondnfjoaaDoorW.PrintLast

theorem cuts_ev (s : ByteArray) (l : List ByteArray) (hs : s.size ≤ 1000) (hl : l.length ≤ 10) : ∀ (rest done : List ByteArray), l = done ++ rest → (∀ x ∈ done, x.size ≤ 20) →
    Ev (fun k => cooperagelaw9_ParseCuts.l0 k s l (done.length : Int)) true
  | [], done, hd, hx => by
    have hd' : l = done := by rw [hd, List.append_nil]
    subst hd'
    have hb := bl_size s
    have hmap : (l.map bl).map ofL = l := by rw [List.map_map, show (ofL ∘ bl) = id from funext ofL_bl, List.map_id]
    have h1 := cut_ev (l.map bl) (by rw [List.length_map]; omega) s (by omega)
    have h2 := refcut_ev s (l.map bl) (by omega) (by rw [List.length_map]; omega) (fun x hm => by
      obtain ⟨y, hy, rfl⟩ := List.mem_map.1 hm
      have := hx y hy
      rw [bl_size] at this
      omega)
    rw [hmap] at h1 h2
    obtain ⟨K1, h1⟩ := h1
    obtain ⟨K2, h2⟩ := h2
    refine ⟨max K1 K2 + 1, fun k hk => ?_⟩
    obtain ⟨m, rfl⟩ : ∃ m, k = m + 1 := ⟨k - 1, by omega⟩
    have h1' : parse_Cut.f m s l = _ := h1 m (by omega)
    have h2' : cooperageref9_Cut.f m s l = _ := h2 m (by omega)
    dsimp only
    rw [cooperagelaw9_ParseCuts.l0, if_neg (by omega), h1', Option.bind_some, h2', Option.bind_some, if_pos rfl, if_pos rfl]
    simp
  | x :: rest, done, hd, hx => by
    have hlen : done.length + rest.length + 1 = l.length := by rw [hd]; simp; omega
    have hrd : rdOf ByteArray.empty l (done.length : Int) = x := by
      rw [rdOf_nat _ _ _ (by omega)]
      simp [hd]
    by_cases c : (x.size : Int) > 20
    · refine Ev.step (f := fun _ => some true) (fun k => ?_) (Ev.now _)
      rw [cooperagelaw9_ParseCuts.l0, if_pos (by omega), if_pos (by omega), hrd, if_pos c]
    · refine Ev.step (fun k => ?_) (cuts_ev s l hs hl rest (done ++ [x]) (by rw [hd]; simp) (fun y hy => ?_))
      · rw [cooperagelaw9_ParseCuts.l0, if_pos (by omega), if_pos (by omega), hrd, if_neg c, wrap_succ _ (by omega), show (done ++ [x]).length = done.length + 1 by simp]
      · rcases List.mem_append.1 hy with h | h
        · exact hx y h
        · simp at h
          rw [h]
          omega
end Go.Proofs.YthnholondnfjoaaDoor.Pl
namespace Go.Proofs.YthnholondnfjoaaDoor.Pure
open Go.RowKit Go.Proofs.YthnholondnfjoaaDoor.PParse Go.Proofs.YthnholondnfjoaaDoorW.PrintWords Go.Proofs.YthnholondnfjoaaDoor.Pl

theorem ParseCuts : cooperagelaw9_ParseCuts.Pure := by
  intro a0 l1 _ _ _ _
  have hT : Ev (fun k => cooperagelaw9_ParseCuts.j0 k a0 l1 true true) true := Ev.step (f := fun _ => some true) (fun k => by rw [cooperagelaw9_ParseCuts.j0, if_pos rfl]) (Ev.now _)
  refine Ev.rounds (g := fun k => cooperagelaw9_ParseCuts.f k a0 l1) ?_
  unfold cooperagelaw9_ParseCuts.f
  refine Ev.bind (f := fun k t => _) shown_ev ?_
  simp only [if_true]
  by_cases h : (a0.size : Int) > 1000
  · simp only [if_pos h]
    exact hT
  simp only [if_neg h]
  by_cases h2 : (l1.length : Int) > 10
  · simp only [decide_eq_true h2]
    exact hT
  · simp only [decide_eq_false h2]
    refine Ev.step (fun k => ?_) (cuts_ev a0 l1 (by omega) (by omega) l1 [] rfl (fun x hx => by simp at hx))
    rw [cooperagelaw9_ParseCuts.j0, if_neg (by decide)]
    rfl
end Go.Proofs.YthnholondnfjoaaDoor.Pure
