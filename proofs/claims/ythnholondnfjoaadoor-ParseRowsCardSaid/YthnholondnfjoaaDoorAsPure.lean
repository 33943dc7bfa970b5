/- as: the lines, or that they are too many or too long. -/
import Derived.Test.YthnholondnfjoaaDoorPParsex9
import Derived.Test.YthnholondnfjoaaDoorRunPure
namespace Go.Proofs.YthnholondnfjoaaDoor.Pl
open Go.RowKit Go.Proofs.YthnholondnfjoaaDoor.PParse Go.Proofs.YthnholondnfjoaaDoorW.PrintWords Go.Proofs.YthnholondnfjoaaDoorW.PrintLast

/-- as: the lines, or that they are too many or too long. -/
theorem as_ev (L : List S43) : ∃ res, Ev (fun k => cooperagelaw9_as.f k L) res ∧ (res.2 = true → L.length ≤ 60 ∧ ∀ x ∈ L, (bl x.f2).length ≤ 400) := by
  unfold cooperagelaw9_as.f
  by_cases c : (L.length : Int) > 60
  · simp only [if_pos c]
    exact ex_some _ (fun h => Bool.noConfusion h)
  simp only [if_neg c]
  have : ∀ (rest pre : List S43) (out : List S53), L = pre ++ rest → out.length = pre.length → (∀ x ∈ pre, (bl x.f2).length ≤ 400) → ∃ res, Ev (fun k => cooperagelaw9_as.l0 k L out (pre.length : Int)) res ∧ (res.2 = true → L.length ≤ 60 ∧ ∀ x ∈ L, (bl x.f2).length ≤ 400) := by
    intro rest
    induction rest with
    | nil =>
      intro pre out hd _ hp
      have hd' : L = pre := by rw [hd, List.append_nil]
      refine ⟨(out, true), Ev.step (f := fun _ => some (out, true)) (fun n => ?_) (Ev.now _), fun _ => ⟨by omega, by rw [hd']; exact hp⟩⟩
      rw [cooperagelaw9_as.l0, if_neg (by rw [hd']; omega)]
    | cons x rest ih =>
      intro pre out hd ho hp
      have hl : (pre.length : Int) < (L.length : Int) := by rw [hd, List.length_append, List.length_cons]; omega
      have hrd := rd43_mid hd
      by_cases d : ((x.f2).size : Int) > 400
      · refine ⟨([], false), Ev.step (f := fun _ => some ([], false)) (fun n => ?_) (Ev.now _), fun h => Bool.noConfusion h⟩
        rw [cooperagelaw9_as.l0, if_pos hl, if_pos (by omega), hrd, if_pos d]
      · have hxs := bl_size x.f2
        obtain ⟨res, h1, h2⟩ := ih (pre ++ [x]) (out ++ [⟨x.f0, x.f1, x.f2⟩]) (by rw [hd]; simp) (by simp [ho]) (fun y hy => by
          rcases List.mem_append.1 hy with h | h
          · exact hp y h
          · rw [List.mem_singleton] at h
            rw [h]
            omega)
        refine ⟨res, Ev.step (fun n => ?_) h1, h2⟩
        rw [cooperagelaw9_as.l0, if_pos hl, if_pos (by omega), hrd, if_neg d, if_pos (by omega), wrap_succ _ (by omega), show (pre ++ [x]).length = pre.length + 1 by simp]
  exact this L [] [] rfl rfl (fun x hx => by simp at hx)
end Go.Proofs.YthnholondnfjoaaDoor.Pl
