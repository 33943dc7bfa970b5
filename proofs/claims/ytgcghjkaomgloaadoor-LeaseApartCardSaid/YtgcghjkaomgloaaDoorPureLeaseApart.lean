/- LeaseApart, in plain words. -/
import Derived.Test.YtgcghjkaomgloaaDoorPLeasex12
import Derived.Test.YtgcghjkaomgloaaDoorLeaseDoes
import Derived.Test.YtgcghjkaomgloaaDoorLeaseShown
namespace Go.Proofs.YtgcghjkaomgloaaDoor.Pl
open Go.RowKit Go.Proofs.YtgcghjkaomgloaaDoor.PLease Go.Proofs.YtgcghjkaomgloaaDoorW.PrintWords Go.Proofs.YtgcghjkaomgloaaDoorW.PrintLast
theorem rd52 (l : List S52) (i : Nat) (hi : i < l.length) : rd_T52 l (i : Int) = l[i] := by
  unfold rd_T52
  rw [Int.toNat_natCast, List.getD_eq_getElem?_getD, List.getElem?_eq_getElem hi]
  rfl
theorem apart_l1 (l : List S52) (who op : Int) (i : Nat) (hi : i < l.length) (hi2 : i ≤ 1000) (last : Int) (L : List S34) (Q : List S32) (was : Int) (W : List S34) (V : List S32) (hL : L.length ≤ 1000) (hW : W.length ≤ 1000)
    (hv : op < 8 → ∀ z ∈ W, z.f1 ≠ l[i].f5 → L.any (validP z.f0 z.f1 z.f3) = true) (K : Nat) (hn : ∀ k, K ≤ k → cooperagelaw16_LeaseApart.l0 k l who ((i + 1 : Nat) : Int) last L Q = some true) :
    ∀ (d j : Nat), j + d = W.length → ∀ k, K + 3 * d + 10000 ≤ k → cooperagelaw16_LeaseApart.l1 k l who i op j last L Q was W V = some true
  | 0, j, e, k, hk => by
    obtain ⟨m, rfl⟩ : ∃ m, k = m + 2 := ⟨k - 2, by omega⟩
    rw [cooperagelaw16_LeaseApart.l1, if_neg (by omega), cooperagelaw16_LeaseApart.j3, if_neg (by decide), wrap_succ i (by omega)]
    exact hn m (by omega)
  | d + 1, j, e, k, hk => by
    obtain ⟨m, rfl⟩ : ∃ m, k = m + 3 := ⟨k - 3, by omega⟩
    have hj : j < W.length := by omega
    have ih := apart_l1 l who op i hi hi2 last L Q was W V hL hW hv K hn d (j + 1) (by omega) m (by omega)
    rw [cooperagelaw16_LeaseApart.l1, if_pos (by omega)]
    by_cases ho : op < 8
    · rw [decide_eq_true ho, cooperagelaw16_LeaseApart.j3, if_pos rfl, if_pos (by omega), if_pos (by omega), if_pos (by omega), if_pos (by omega), rd34 W j hj, rd52 l i hi]
      by_cases c : W[j].f1 = l[i].f5
      · rw [if_pos ((toList_iff _ _).2 c), cooperagelaw16_LeaseApart.j4, if_neg (by decide), wrap_succ j (by omega)]
        exact ih
      · rw [if_neg (fun d => c ((toList_iff _ _).1 d)), valid_f last L Q _ _ _ (by omega) (m + 1) (by omega), hv ho _ (List.getElem_mem hj) c]
        simp only [Option.bind_some]
        rw [cooperagelaw16_LeaseApart.j4, if_neg (by decide), wrap_succ j (by omega)]
        exact ih
    · rw [decide_eq_false ho, cooperagelaw16_LeaseApart.j3, if_neg (by decide), wrap_succ i (by omega)]
      exact hn (m + 1) (by omega)
theorem apart_l3 (who last : Int) (L : List S34) (Q : List S32) (a : Int) (M : List S34) (R : List S32) (hL : L.length ≤ 1000) (hM : M.length ≤ 1000) (hR : R.length ≤ 1000)
    (hv : ∀ x ∈ L, x.f0 ≠ who → M.any (validP x.f0 x.f1 x.f3) = true) (hw : R.filter (fun b => decide (b.f0 = who)) = []) :
    ∀ (d j : Nat), j + d = L.length → ∀ k, 3 * d + 10000 ≤ k → cooperagelaw16_LeaseApart.l3 k who j last L Q a M R = some true
  | 0, j, e, k, hk => by
    obtain ⟨m, rfl⟩ : ∃ m, k = m + 1 := ⟨k - 1, by omega⟩
    rw [cooperagelaw16_LeaseApart.l3, if_neg (by omega), waits_f a M R who (by omega) m (by omega), hw]
    rfl
  | d + 1, j, e, k, hk => by
    obtain ⟨m, rfl⟩ : ∃ m, k = m + 2 := ⟨k - 2, by omega⟩
    have hj : j < L.length := by omega
    have ih := apart_l3 who last L Q a M R hL hM hR hv hw d (j + 1) (by omega) m (by omega)
    rw [cooperagelaw16_LeaseApart.l3, if_pos (by omega), if_pos (by omega), rd34 L j hj]
    by_cases c : L[j].f0 = who
    · rw [if_pos c, cooperagelaw16_LeaseApart.j7, if_neg (by decide), wrap_succ j (by omega)]
      exact ih
    · rw [if_neg c, valid_f a M R _ _ _ (by omega) (m + 1) (by omega), hv _ (List.getElem_mem hj) c]
      simp only [Option.bind_some]
      rw [cooperagelaw16_LeaseApart.j7, if_neg (by decide), wrap_succ j (by omega)]
      exact ih
theorem apart_l2 (who last : Int) (L : List S34) (Q : List S32) (a : Int) (M : List S34) (R : List S32) (hM : M.length ≤ 1000) (hn : ∀ x ∈ M, x.f0 ≠ who) (K : Nat)
    (h3 : ∀ k, K ≤ k → cooperagelaw16_LeaseApart.l3 k who 0 last L Q a M R = some true) :
    ∀ (d j : Nat), j + d = M.length → ∀ k, K + d + 1 ≤ k → cooperagelaw16_LeaseApart.l2 k who j last L Q a M R = some true
  | 0, j, e, k, hk => by
    obtain ⟨m, rfl⟩ : ∃ m, k = m + 1 := ⟨k - 1, by omega⟩
    rw [cooperagelaw16_LeaseApart.l2, if_neg (by omega)]
    exact h3 m (by omega)
  | d + 1, j, e, k, hk => by
    obtain ⟨m, rfl⟩ : ∃ m, k = m + 1 := ⟨k - 1, by omega⟩
    have hj : j < M.length := by omega
    rw [cooperagelaw16_LeaseApart.l2, if_pos (by omega), if_pos (by omega), rd34 M j hj, if_neg (hn _ (List.getElem_mem hj)), wrap_succ j (by omega)]
    exact apart_l2 who last L Q a M R hM hn K h3 d (j + 1) (by omega) m (by omega)
theorem valid_of {L : List S34} {z y : S34} (hy : y ∈ L) (h : y.f0 = z.f0 ∧ y.f1 = z.f1 ∧ y.f3 = z.f3) : L.any (validP z.f0 z.f1 z.f3) = true :=
  List.any_eq_true.2 ⟨y, hy, by simp [validP, h.1, h.2.1, h.2.2]⟩
theorem apart_l0 (l : List S52) (who : Int) (hl : l.length ≤ 60) (hs : ∀ x ∈ l, x.f5.size ≤ 150) (hw : ∀ x ∈ l, (Lit.int .i64 x.f0).wf = true) : ∀ (d i : Nat) (last : Int) (L : List S34) (Q : List S32), i + d = l.length → St i last L Q →
    ∃ K, ∀ k, K ≤ k → cooperagelaw16_LeaseApart.l0 k l who i last L Q = some true
  | 0, i, last, L, Q, e, h => by
    have b0 := h.b0; have bl := h.bl; have bq := h.bq
    have hq : (Q.filter (fun y => !decide (y.f0 = who))).length ≤ Q.length := List.length_filter_le _ _
    have hf : (L.filter (fun y => !decide (y.f0 = who))).length ≤ L.length := List.length_filter_le _ _
    obtain ⟨a, M, R, es, hSt, _, hsub, G, hG, hG2⟩ := settle_St i (by omega) (l.length : Int) last (L.filter (fun y => !decide (y.f0 = who))) (Q.filter (fun y => !decide (y.f0 = who))) b0 (by omega) (by omega) (h.pw.sublist List.filter_sublist) (fun x hx => h.tk x (List.mem_filter.1 hx).1)
      (h.wd.sublist List.filter_sublist) (fun a ha y hy => h.nh a (List.mem_filter.1 ha).1 y (List.mem_filter.1 hy).1)
    have bl' := hSt.bl; have bq' := hSt.bq; have b0' := hSt.b0
    have hlv : leaveS last L Q who (l.length : Int) = (a, M, R) := by
      unfold leaveS
      rw [if_pos (by unfold timeP; simp; omega), es]
    have hM : ∀ x ∈ M, x.f0 ≠ who := by
      intro x hx
      rw [hG] at hx
      rcases List.mem_append.1 hx with k | k
      · have := (List.mem_filter.1 k).2
        simpa using this
      · obtain ⟨_, b, hb, eb⟩ := hG2 x k
        have := (List.mem_filter.1 hb).2
        rw [eb]
        simpa using this
    have hR : R.filter (fun b => decide (b.f0 = who)) = [] := by
      rw [List.filter_eq_nil_iff]
      intro b hb
      have := (List.mem_filter.1 (hsub.subset hb)).2
      simpa using this
    have h3 := apart_l3 who last L Q a M R (by omega) (by omega) (by omega) (fun x hx c => valid_of (y := x) (by rw [hG]; exact List.mem_append_left _ (List.mem_filter.2 ⟨hx, by simp [c]⟩)) ⟨rfl, rfl, rfl⟩) hR L.length 0 (by omega)
    refine ⟨100000, fun k hk => ?_⟩
    obtain ⟨m, rfl⟩ : ∃ m, k = m + 1 := ⟨k - 1, by omega⟩
    rw [cooperagelaw16_LeaseApart.l0, if_neg (by omega), leave_f last L Q who _ (by omega) (by omega) m (by omega), hlv]
    exact apart_l2 who last L Q a M R (by omega) hM (3 * L.length + 10000) h3 M.length 0 (by omega) m (by omega)
  | d + 1, i, last, L, Q, e, h => by
    have hi : i < l.length := by omega
    have b0 := h.b0; have bl := h.bl; have bq := h.bq
    obtain ⟨t, tok, er, hd, hN⟩ := does_f i (by omega) last L Q h l[i] (wf_i64 (hw _ (List.getElem_mem hi))) (hs _ (List.getElem_mem hi)) (i : Int)
    obtain ⟨K, hK⟩ := apart_l0 l who hl hs hw d (i + 1) t.1 t.2.1 t.2.2 (by omega) hN.1
    have bl' := hN.1.bl; have bq' := hN.1.bq
    push_cast at bq'
    have h1 := apart_l1 l who (pickS l[i].f0 10) i hi (by omega) t.1 t.2.1 t.2.2 last L Q (by omega) (by omega) (fun ho z hz hn => by
      obtain ⟨y, hy, ey⟩ := hN.2.2.2 ho z hz hn
      exact valid_of hy ey) K hK L.length 0 (by omega)
    refine ⟨K + 3 * L.length + 100000, fun k hk => ?_⟩
    obtain ⟨m, rfl⟩ : ∃ m, k = m + 1 := ⟨k - 1, by omega⟩
    rw [cooperagelaw16_LeaseApart.l0, if_pos (by omega), if_pos (by omega), rd52 l i hi, hd m (by omega), pick_f _ 10 (wf_i64 (hw _ (List.getElem_mem hi))) (by omega)]
    exact h1 m (by omega)
end Go.Proofs.YtgcghjkaomgloaaDoor.Pl
namespace Go.Proofs.YtgcghjkaomgloaaDoor.Pure
open Go.RowKit Go.Proofs.YtgcghjkaomgloaaDoor.PLease Go.Proofs.YtgcghjkaomgloaaDoorW.PrintWords Go.Proofs.YtgcghjkaomgloaaDoorW.PrintLast
open Go.Proofs.YtgcghjkaomgloaaDoor.Pl
theorem LeaseApart : cooperagelaw16_LeaseApart.Pure := by
  intro l who _ _ hl _
  obtain ⟨K0, h0⟩ := shown_ev
  obtain ⟨b, hb, K1, h1⟩ := right_f l
  cases b with
  | false =>
    refine ⟨K0 + K1 + 1, ?_⟩
    unfold cooperagelaw16_LeaseApart.f
    rw [h0 _ (by omega), h1 _ (by omega)]
    simp only [Option.bind_some, if_true]
    rw [cooperagelaw16_LeaseApart.j0, if_pos (by decide)]
  | true =>
    obtain ⟨hlen, hs⟩ := hb rfl
    obtain ⟨K, h⟩ := apart_l0 l who hlen hs (fun x hx => (hl x hx).1) l.length 0 0 [] [] (by omega) ⟨by omega, by simp, by simp, by simp, by simp, by simp, by simp, by simp⟩
    refine ⟨K0 + K1 + K + 1, ?_⟩
    unfold cooperagelaw16_LeaseApart.f
    rw [h0 _ (by omega), h1 _ (by omega)]
    simp only [Option.bind_some, if_true]
    rw [cooperagelaw16_LeaseApart.j0, if_neg (by decide)]
    exact h _ (by omega)
end Go.Proofs.YtgcghjkaomgloaaDoor.Pure
