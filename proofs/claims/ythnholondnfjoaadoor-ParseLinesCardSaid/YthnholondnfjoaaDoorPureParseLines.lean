/- ParseLines' pure statement, in plain Lean. -/
import Derived.Test.YthnholondnfjoaaDoorPParsex15
import Derived.Test.YthnholondnfjoaaDoorPParsex9
import Derived.Test.YthnholondnfjoaaDoorPParsex8
import Derived.Test.YthnholondnfjoaaDoorRunSame
import Derived.Test.YthnholondnfjoaaDoorParseShown
namespace Go.Proofs.YthnholondnfjoaaDoor.Pl
open Go.RowKit Go.Proofs.YthnholondnfjoaaDoor.PParse Go.Proofs.YthnholondnfjoaaDoorW.PrintWords Go.Proofs.YthnholondnfjoaaDoorW.PrintLast

/-- as: the lines, or that they are too many or too long. -/
theorem as_lines (L : List S43) : ∃ res, Ev (fun k => cooperagelaw9_as.f k L) res ∧ (res.2 = true → L.length ≤ 60 ∧ (∀ x ∈ L, (bl x.f2).length ≤ 400) ∧ res.1 = L.map m53) := by
  unfold cooperagelaw9_as.f
  by_cases c : (L.length : Int) > 60
  · simp only [if_pos c]
    exact ex_some _ (fun h => Bool.noConfusion h)
  simp only [if_neg c]
  have : ∀ (rest pre : List S43), L = pre ++ rest → (∀ x ∈ pre, (bl x.f2).length ≤ 400) → ∃ res, Ev (fun k => cooperagelaw9_as.l0 k L (pre.map m53) (pre.length : Int)) res ∧ (res.2 = true → L.length ≤ 60 ∧ (∀ x ∈ L, (bl x.f2).length ≤ 400) ∧ res.1 = L.map m53) := by
    intro rest
    induction rest with
    | nil =>
      intro pre hd hp
      have hd' : L = pre := by rw [hd, List.append_nil]
      refine ⟨(pre.map m53, true), Ev.step (f := fun _ => some (pre.map m53, true)) (fun n => ?_) (Ev.now _), fun _ => ⟨by omega, by rw [hd']; exact hp, by rw [hd']⟩⟩
      rw [cooperagelaw9_as.l0, if_neg (by rw [hd']; omega)]
    | cons x rest ih =>
      intro pre hd hp
      have hl : (pre.length : Int) < (L.length : Int) := by rw [hd, List.length_append, List.length_cons]; omega
      have hrd := rd43_mid hd
      by_cases d : ((x.f2).size : Int) > 400
      · refine ⟨([], false), Ev.step (f := fun _ => some ([], false)) (fun n => ?_) (Ev.now _), fun h => Bool.noConfusion h⟩
        rw [cooperagelaw9_as.l0, if_pos hl, if_pos (by omega), hrd, if_pos d]
      · have hxs := bl_size x.f2
        obtain ⟨res, h1, h2⟩ := ih (pre ++ [x]) (by rw [hd]; simp) (fun y hy => by
          rcases List.mem_append.1 hy with h | h
          · exact hp y h
          · rw [List.mem_singleton] at h
            rw [h]
            omega)
        refine ⟨res, Ev.step (fun n => ?_) h1, h2⟩
        rw [cooperagelaw9_as.l0, if_pos hl, if_pos (by omega), hrd, if_neg d, if_pos (by rw [List.length_map]; omega), wrap_succ _ (by omega), show (pre ++ [x]).length = pre.length + 1 by simp, List.map_append]
        rfl
  exact this L [] rfl (fun x hx => by simp at hx)
theorem sames_l0 (a : List ByteArray) (h : a.length ≤ 1000) : ∀ (m i : Nat), a.length - i ≤ m → i ≤ a.length → Ev (fun k => cooperagelaw9_sames.l0 k a a (i : Int)) true
  | m, i, hm, hi => by
    by_cases c : i < a.length
    · cases m with
      | zero => omega
      | succ m =>
        refine Ev.step (fun k => ?_) (sames_l0 a h m (i + 1) (by omega) (by omega))
        rw [cooperagelaw9_sames.l0, if_pos (by omega), if_pos (by omega), if_pos (by omega), if_pos rfl, wrap_succ i (by omega)]
    · refine Ev.step (f := fun _ => some true) (fun k => ?_) (Ev.now _)
      rw [cooperagelaw9_sames.l0, if_neg (by omega)]
theorem sames_ev (a : List ByteArray) (h : a.length ≤ 1000) : Ev (fun k => cooperagelaw9_sames.f k a a) true := by
  unfold cooperagelaw9_sames.f
  simp only [if_true]
  exact sames_l0 a h a.length 0 (by omega) (by omega)
theorem rd45_mid (pre post : List S45) (nd : S45) : rd_T45 (pre ++ nd :: post) (pre.length : Int) = nd := by
  unfold rd_T45
  rw [Int.toNat_natCast, List.getD_eq_getElem?_getD, List.getElem?_append_right (Nat.le_refl _), Nat.sub_self]
  rfl
theorem rd64_mid (pre post : List S45) (nd : S45) : rd_T64 ((pre ++ nd :: post).map m64) (pre.length : Int) = m64 nd := by
  unfold rd_T64
  rw [Int.toNat_natCast, List.map_append, List.map_cons, List.getD_eq_getElem?_getD, List.getElem?_append_right (by rw [List.length_map]; exact Nat.le_refl _), List.length_map, Nat.sub_self]
  rfl
theorem same_l0 (l : List S45) (h : l.length ≤ 1000) (hr : ∀ nd ∈ l, nd.f9.length ≤ 1000) : ∀ rest pre : List S45, l = pre ++ rest → Ev (fun k => cooperagelaw9_same.l0 k l (l.map m64) (pre.length : Int)) true
  | [], pre, hd => by
    have hd' : l = pre := by rw [hd, List.append_nil]
    refine Ev.step (f := fun _ => some true) (fun k => ?_) (Ev.now _)
    rw [cooperagelaw9_same.l0, if_neg (by rw [hd']; omega)]
  | nd :: rest, pre, hd => by
    have hll : l.length = pre.length + (rest.length + 1) := by rw [hd, List.length_append, List.length_cons]
    have hl : (pre.length : Int) < (l.length : Int) := by omega
    have hl2 : (pre.length : Int) < ((l.map m64).length : Int) := by rw [List.length_map]; exact hl
    have ih := same_l0 l h hr rest (pre ++ [nd]) (by rw [hd]; simp)
    rw [show (pre ++ [nd]).length = pre.length + 1 by simp] at ih
    have e1 : rd_T45 l (pre.length : Int) = nd := by rw [hd]; exact rd45_mid pre rest nd
    have e2 : rd_T64 (l.map m64) (pre.length : Int) = m64 nd := by rw [hd]; exact rd64_mid pre rest nd
    refine Ev.step (f := fun k => (cooperagelaw9_sames.f k nd.f9 nd.f9).bind fun t => cooperagelaw9_same.j1 k l (l.map m64) (pre.length : Int) (!t)) (fun k => ?_) ?_
    · rw [cooperagelaw9_same.l0, if_pos hl, if_pos (by omega), if_pos hl2, e1, e2,
        if_pos (show nd.f0 = (m64 nd).f0 from rfl), if_pos (show nd.f1 = (m64 nd).f1 from rfl), if_pos (show nd.f2.toList = (m64 nd).f2.toList from rfl), if_pos (show nd.f3.toList = (m64 nd).f3.toList from rfl), if_pos (show nd.f4.toList = (m64 nd).f4.toList from rfl), if_pos (show nd.f5.toList = (m64 nd).f5.toList from rfl), if_pos (show nd.f6.toList = (m64 nd).f6.toList from rfl), if_pos (show nd.f7.toList = (m64 nd).f7.toList from rfl), if_pos (show nd.f8.toList = (m64 nd).f8.toList from rfl)]
      rfl
    · refine Ev.bind (f := fun k t => cooperagelaw9_same.j1 k l (l.map m64) (pre.length : Int) (!t)) (sames_ev nd.f9 (hr nd (by rw [hd]; simp))) ?_
      refine Ev.step (fun k => ?_) ih
      rw [cooperagelaw9_same.j1, if_neg (by decide), wrap_succ _ (by omega)]
theorem same_ev (l : List S45) (h : l.length ≤ 1000) (hr : ∀ nd ∈ l, nd.f9.length ≤ 1000) : Ev (fun k => cooperagelaw9_same.f k l (l.map m64)) true := by
  unfold cooperagelaw9_same.f
  simp only [List.length_map, if_true]
  exact same_l0 l h hr l [] rfl
end Go.Proofs.YthnholondnfjoaaDoor.Pl
namespace Go.Proofs.YthnholondnfjoaaDoor.Pure
open Go.RowKit Go.Proofs.YthnholondnfjoaaDoor.PParse Go.Proofs.YthnholondnfjoaaDoorW.PrintWords Go.Proofs.YthnholondnfjoaaDoor.Pl

theorem ParseLines : cooperagelaw9_ParseLines.Pure := by
  intro l0 a1 _ _ _ _
  refine Ev.rounds (g := fun k => cooperagelaw9_ParseLines.f k l0 a1) ?_
  unfold cooperagelaw9_ParseLines.f
  refine Ev.bind (f := fun k t => _) shown_ev ?_
  obtain ⟨ra, a1', a2⟩ := as_lines l0
  refine Ev.bind (f := fun k t => _) a1' ?_
  simp only [if_true]
  have hT : ∀ l, Ev (fun k => cooperagelaw9_ParseLines.j0 k l0 a1 true l true) true := fun l => Ev.step (f := fun _ => some true) (fun k => by rw [cooperagelaw9_ParseLines.j0, if_pos rfl]) (Ev.now _)
  rcases ha : ra.2 with _ | _
  · simp only [Bool.false_eq_true, if_false]
    exact hT _
  simp only [if_true]
  obtain ⟨hl, hs, he⟩ := a2 ha
  rw [he]
  by_cases c : (a1.size : Int) > 300
  · rw [decide_eq_true c]
    exact hT _
  rw [decide_eq_false c]
  obtain ⟨res, h1, h2, h3, h4⟩ := run_same l0 (by omega) hs l0 [] [] [] rfl (Nat.le_refl _) (Nat.le_refl _) (fun _ h => by simp at h)
  have hsz := bl_size a1
  refine Ev.step (f := fun k => _) (fun k => by rw [cooperagelaw9_ParseLines.j0, if_neg (by decide)]) ?_
  refine Ev.bind (f := fun k t => _) (show Ev (fun k => parse_Parse.f k l0) res from h1) ?_
  refine Ev.bind (f := fun k t => _) (show Ev (fun k => cooperageref9_Parse.f k (l0.map m53)) (res.1.map m64, res.2) from h2) ?_
  refine Ev.bind (f := fun k t => _) (same_ev res.1 (by omega) (fun nd hn => Nat.le_trans (h4 nd hn) (by omega))) ?_
  simp only [if_true]
  refine Ev.bind (f := fun k t => _) (name_ev a1 (by omega)) ?_
  refine Ev.bind (f := fun k t => _) (refname_ev a1 (by omega)) ?_
  rw [beq_self_eq_true]
  exact Ev.now _
end Go.Proofs.YthnholondnfjoaaDoor.Pure
