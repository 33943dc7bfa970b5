/- The law's comparison of nodes, at nodes that are one. -/
import Derived.Test.YthnholondnfjoaaDoorPParsex14
import Derived.Test.YthnholondnfjoaaDoorPParsex8
import Derived.Test.YthnholondnfjoaaDoorRunSame
namespace Go.Proofs.YthnholondnfjoaaDoor.Pl
open Go.RowKit Go.Proofs.YthnholondnfjoaaDoor.PParse Go.Proofs.YthnholondnfjoaaDoorW.PrintWords Go.Proofs.YthnholondnfjoaaDoorW.PrintLast

theorem sames_l0 (a : List ByteArray) (h : a.length ≤ 1000) : ∀ (m i : Nat), a.length - i ≤ m → i ≤ a.length → Ev (fun k => cooperagelaw9_sames.l0 k a a (i : Int)) true
  | m, i, hm, hi => by
    by_cases c : i < a.length
    · cases m with
      | zero => omega
      | succ m =>
        refine Ev.step (fun k => ?_) (sames_l0 a h m (i + 1) (by omega) (by omega))
        rw [cooperagelaw9_sames.l0, if_pos (by omega), if_pos (by omega), if_pos (by omega), if_pos rfl, wrap_succ i (by omega)]
    · refine Ev.step (f := fun _ => some true) (fun k => ?_) (Ev.now _)
      rw [cooperagelaw9_sames.l0, if_neg (by omega)]
theorem sames_ev (a : List ByteArray) (h : a.length ≤ 1000) : Ev (fun k => cooperagelaw9_sames.f k a a) true := by
  unfold cooperagelaw9_sames.f
  simp only [if_true]
  exact sames_l0 a h a.length 0 (by omega) (by omega)
theorem rd45_mid (pre post : List S45) (nd : S45) : rd_T45 (pre ++ nd :: post) (pre.length : Int) = nd := by
  unfold rd_T45
  rw [Int.toNat_natCast, List.getD_eq_getElem?_getD, List.getElem?_append_right (Nat.le_refl _), Nat.sub_self]
  rfl
theorem rd64_mid (pre post : List S45) (nd : S45) : rd_T64 ((pre ++ nd :: post).map m64) (pre.length : Int) = m64 nd := by
  unfold rd_T64
  rw [Int.toNat_natCast, List.map_append, List.map_cons, List.getD_eq_getElem?_getD, List.getElem?_append_right (by rw [List.length_map]; exact Nat.le_refl _), List.length_map, Nat.sub_self]
  rfl
theorem same_l0 (l : List S45) (h : l.length ≤ 1000) (hr : ∀ nd ∈ l, nd.f9.length ≤ 1000) : ∀ rest pre : List S45, l = pre ++ rest → Ev (fun k => cooperagelaw9_same.l0 k l (l.map m64) (pre.length : Int)) true
  | [], pre, hd => by
    have hd' : l = pre := by rw [hd, List.append_nil]
    refine Ev.step (f := fun _ => some true) (fun k => ?_) (Ev.now _)
    rw [cooperagelaw9_same.l0, if_neg (by rw [hd']; omega)]
  | nd :: rest, pre, hd => by
    have hll : l.length = pre.length + (rest.length + 1) := by rw [hd, List.length_append, List.length_cons]
    have hl : (pre.length : Int) < (l.length : Int) := by omega
    have hl2 : (pre.length : Int) < ((l.map m64).length : Int) := by rw [List.length_map]; exact hl
    have ih := same_l0 l h hr rest (pre ++ [nd]) (by rw [hd]; simp)
    rw [show (pre ++ [nd]).length = pre.length + 1 by simp] at ih
    have e1 : rd_T45 l (pre.length : Int) = nd := by rw [hd]; exact rd45_mid pre rest nd
    have e2 : rd_T64 (l.map m64) (pre.length : Int) = m64 nd := by rw [hd]; exact rd64_mid pre rest nd
    refine Ev.step (f := fun k => (cooperagelaw9_sames.f k nd.f9 nd.f9).bind fun t => cooperagelaw9_same.j1 k l (l.map m64) (pre.length : Int) (!t)) (fun k => ?_) ?_
    · rw [cooperagelaw9_same.l0, if_pos hl, if_pos (by omega), if_pos hl2, e1, e2,
        if_pos (show nd.f0 = (m64 nd).f0 from rfl), if_pos (show nd.f1 = (m64 nd).f1 from rfl), if_pos (show nd.f2.toList = (m64 nd).f2.toList from rfl), if_pos (show nd.f3.toList = (m64 nd).f3.toList from rfl), if_pos (show nd.f4.toList = (m64 nd).f4.toList from rfl), if_pos (show nd.f5.toList = (m64 nd).f5.toList from rfl), if_pos (show nd.f6.toList = (m64 nd).f6.toList from rfl), if_pos (show nd.f7.toList = (m64 nd).f7.toList from rfl), if_pos (show nd.f8.toList = (m64 nd).f8.toList from rfl)]
      rfl
    · refine Ev.bind (f := fun k t => cooperagelaw9_same.j1 k l (l.map m64) (pre.length : Int) (!t)) (sames_ev nd.f9 (hr nd (by rw [hd]; simp))) ?_
      refine Ev.step (fun k => ?_) ih
      rw [cooperagelaw9_same.j1, if_neg (by decide), wrap_succ _ (by omega)]
theorem same_ev (l : List S45) (h : l.length ≤ 1000) (hr : ∀ nd ∈ l, nd.f9.length ≤ 1000) : Ev (fun k => cooperagelaw9_same.f k l (l.map m64)) true := by
  unfold cooperagelaw9_same.f
  simp only [List.length_map, if_true]
  exact same_l0 l h hr l [] rfl
end Go.Proofs.YthnholondnfjoaaDoor.Pl
