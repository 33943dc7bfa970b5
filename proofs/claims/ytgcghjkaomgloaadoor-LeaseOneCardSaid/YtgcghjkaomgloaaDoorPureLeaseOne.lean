/- LeaseOne, in plain words. -/
import Derived.Test.YtgcghjkaomgloaaDoorPLeasex10
import Derived.Test.YtgcghjkaomgloaaDoorLeaseDoes
import Derived.Test.YtgcghjkaomgloaaDoorLeaseShown
namespace Go.Proofs.YtgcghjkaomgloaaDoor.Pl
open Go.RowKit Go.Proofs.YtgcghjkaomgloaaDoor.PLease Go.Proofs.YtgcghjkaomgloaaDoorW.PrintWords Go.Proofs.YtgcghjkaomgloaaDoorW.PrintLast
theorem rd52n (l : List S52) (i : Nat) (hi : i < l.length) : rd_T52 l (i : Int) = l[i] := by
  unfold rd_T52
  rw [Int.toNat_natCast, List.getD_eq_getElem?_getD, List.getElem?_eq_getElem hi]
  rfl
/-- Two leases. -/
theorem one_l2 (l : List S52) (now : Int) (i : Nat) (last : Int) (L : List S34) (Q : List S32) (hL : L.length ≤ 1000) (pw : L.Pairwise RL) (tk : ∀ x ∈ L, x.f3 ≤ last) (q : Nat) (hq : q < L.length) (K : Nat)
    (h : ∀ k, K ≤ k → cooperagelaw16_LeaseOne.l1 k l now i ((q + 1 : Nat) : Int) last L Q = some true) :
    ∀ (d j : Nat), j + d = q → ∀ k, K + 2 * d + 1 ≤ k → cooperagelaw16_LeaseOne.l2 k l now i q j last L Q = some true
  | 0, j, e, k, hk => by
    obtain ⟨m, rfl⟩ : ∃ m, k = m + 1 := ⟨k - 1, by omega⟩
    rw [cooperagelaw16_LeaseOne.l2, if_neg (by omega), wrap_succ q (by omega)]
    exact h m (by omega)
  | d + 1, j, e, k, hk => by
    obtain ⟨m, rfl⟩ : ∃ m, k = m + 2 := ⟨k - 2, by omega⟩
    have hj : j < L.length := by omega
    have r := List.pairwise_iff_getElem.1 pw j q hj hq (by omega)
    have t := tk _ (List.getElem_mem hq)
    have ih := one_l2 l now i last L Q hL pw tk q hq K h d (j + 1) (by omega) m (by omega)
    have r1 := r.1
    have j4 : cooperagelaw16_LeaseOne.j4 (m + 1) l now i q j (decide (L[q].f3 > last)) last L Q = some true := by
      rw [decide_eq_false (by omega), cooperagelaw16_LeaseOne.j4, if_neg (by decide), wrap_succ j (by omega)]
      exact ih
    rw [cooperagelaw16_LeaseOne.l2, if_pos (by omega), if_pos (by omega), if_pos (by omega), if_pos (by omega), if_pos (by omega), rd34 L q hq, rd34 L j hj]
    by_cases c : L[q].f1 = L[j].f1
    · obtain ⟨a1, a2, a3⟩ := r.2 c.symm
      rw [if_pos ((toList_iff _ _).2 c), if_neg (by rw [a2]; decide), if_neg (by rw [a1]; decide), if_neg (fun d => a3 d.symm), if_neg (by omega)]
      exact j4
    · rw [if_neg (fun d => c ((toList_iff _ _).1 d)), if_neg (by omega)]
      exact j4
theorem one_l1 (l : List S52) (now : Int) (i : Nat) (last : Int) (L : List S34) (Q : List S32) (hL : L.length ≤ 1000) (pw : L.Pairwise RL) (tk : ∀ x ∈ L, x.f3 ≤ last) (K : Nat)
    (h : ∀ k, K ≤ k → cooperagelaw16_LeaseOne.l3 k l now i 0 last L Q = some true) :
    ∀ (d q : Nat), q + d = L.length → ∃ K', ∀ k, K' ≤ k → cooperagelaw16_LeaseOne.l1 k l now i q last L Q = some true
  | 0, q, e => ⟨K + 1, fun k hk => by
    obtain ⟨m, rfl⟩ : ∃ m, k = m + 1 := ⟨k - 1, by omega⟩
    rw [cooperagelaw16_LeaseOne.l1, if_neg (by omega)]
    exact h m (by omega)⟩
  | d + 1, q, e => by
    obtain ⟨K', h'⟩ := one_l1 l now i last L Q hL pw tk K h d (q + 1) (by omega)
    refine ⟨K' + 2 * q + 2, fun k hk => ?_⟩
    obtain ⟨m, rfl⟩ : ∃ m, k = m + 1 := ⟨k - 1, by omega⟩
    rw [cooperagelaw16_LeaseOne.l1, if_pos (by omega)]
    exact one_l2 l now i last L Q hL pw tk q (by omega) K' h' q 0 (by omega) m (by omega)
/-- Those ahead in the queue. -/
theorem one_l5 (l : List S52) (now : Int) (i q : Nat) (last : Int) (L : List S34) (Q : List S32) (hL : L.length ≤ 1000) (hQ : Q.length ≤ 1000) (a : S32) (hq : q < Q.length) (ha : a = Q[q]) (wd : Q.Pairwise (fun a b => a.f0 ≠ b.f0))
    (hh : L.filter (heldP a.f0 a.f1) = []) (b0 : Bool) (hb0 : (b0 || (Q.take q).any (fun c => decide (c.f1 = a.f1))) = true) (K : Nat)
    (h : ∀ k, K ≤ k → cooperagelaw16_LeaseOne.l3 k l now i ((q + 1 : Nat) : Int) last L Q = some true) :
    ∀ (d j : Nat) (b : Bool), j + d = q → b = (b0 || (Q.take j).any (fun c => decide (c.f1 = a.f1))) → ∀ k, K + 2 * d + 3000 ≤ k → cooperagelaw16_LeaseOne.l5 k l now i q b j last L Q a.f0 a.f1 a.f2 a.f3 = some true
  | 0, j, b, e, hb, k, hk => by
    obtain ⟨m, rfl⟩ : ∃ m, k = m + 2 := ⟨k - 2, by omega⟩
    obtain rfl : j = q := by omega
    rw [hb0] at hb
    subst hb
    rw [cooperagelaw16_LeaseOne.l5, if_neg (by omega), held_f last L Q _ _ (by omega) (m + 1) (by omega), hh]
    simp only [Option.bind_some, if_true, one34]
    rw [cooperagelaw16_LeaseOne.j9, if_neg (by decide), wrap_succ j (by omega)]
    exact h m (by omega)
  | d + 1, j, b, e, hb, k, hk => by
    obtain ⟨m, rfl⟩ : ∃ m, k = m + 2 := ⟨k - 2, by omega⟩
    have hj : j < Q.length := by omega
    have hne : Q[j].f0 ≠ a.f0 := by rw [ha]; exact List.pairwise_iff_getElem.1 wd j q hj hq (by omega)
    have ht : (b0 || (Q.take (j + 1)).any (fun c => decide (c.f1 = a.f1))) = (b || decide (Q[j].f1 = a.f1)) := by
      rw [List.take_add_one, List.getElem?_eq_getElem hj, List.any_append, hb]
      simp [Bool.or_assoc]
    rw [cooperagelaw16_LeaseOne.l5, if_pos (by omega)]
    cases b with
    | true =>
      rw [if_pos rfl, cooperagelaw16_LeaseOne.j8, if_pos (by omega), if_pos (by omega), rd32 Q j hj, if_neg hne, wrap_succ j (by omega)]
      exact one_l5 l now i q last L Q hL hQ a hq ha wd hh b0 hb0 K h d (j + 1) true (by omega) (by rw [ht]; rfl) m (by omega)
    | false =>
      rw [if_neg (by decide), if_pos (by omega), if_pos (by omega), rd32 Q j hj, toList_beq, cooperagelaw16_LeaseOne.j8, if_pos (by omega), if_pos (by omega), rd32 Q j hj, if_neg hne, wrap_succ j (by omega)]
      exact one_l5 l now i q last L Q hL hQ a hq ha wd hh b0 hb0 K h d (j + 1) _ (by omega) (by rw [ht]; rfl) m (by omega)
/-- The leases that an ask waits for. -/
theorem one_l4 (l : List S52) (now : Int) (i q : Nat) (last : Int) (L : List S34) (Q : List S32) (hL : L.length ≤ 1000) (a : S32) (K : Nat)
    (h : ∀ k, K ≤ k → cooperagelaw16_LeaseOne.l5 k l now i q (L.any (hitP a)) 0 last L Q a.f0 a.f1 a.f2 a.f3 = some true) :
    ∀ (d j : Nat) (b : Bool), j + d = L.length → b = (L.take j).any (hitP a) → ∀ k, K + d + 1 ≤ k → cooperagelaw16_LeaseOne.l4 k l now i q b j last L Q a.f0 a.f1 a.f2 a.f3 = some true
  | 0, j, b, e, hb, k, hk => by
    obtain ⟨m, rfl⟩ : ∃ m, k = m + 1 := ⟨k - 1, by omega⟩
    rw [List.take_of_length_le (by omega)] at hb
    rw [cooperagelaw16_LeaseOne.l4, if_neg (by omega), hb]
    exact h m (by omega)
  | d + 1, j, b, e, hb, k, hk => by
    obtain ⟨m, rfl⟩ : ∃ m, k = m + 1 := ⟨k - 1, by omega⟩
    have hj : j < L.length := by omega
    have ht : (L.take (j + 1)).any (hitP a) = (b || hitP a L[j]) := by
      rw [List.take_add_one, List.getElem?_eq_getElem hj, List.any_append, hb]
      simp
    have ih := fun (b' : Bool) (hb' : b' = (b || hitP a L[j])) => one_l4 l now i q last L Q hL a K h d (j + 1) b' (by omega) (by rw [ht]; exact hb') m (by omega)
    rw [cooperagelaw16_LeaseOne.l4, if_pos (by omega), wrap_succ j (by omega)]
    cases b with
    | true =>
      rw [if_pos rfl]
      exact ih true (by simp)
    | false =>
      rw [if_neg (by decide), if_pos (by omega), rd34 L j hj]
      by_cases c : L[j].f1 = a.f1
      · rw [if_pos ((toList_iff _ _).2 c)]
        by_cases c2 : L[j].f2 = true
        · rw [if_pos c2]
          exact ih true (by simp [hitP, c, c2])
        · rw [if_neg c2]
          exact ih a.f2 (by simp [hitP, c, c2])
      · rw [if_neg (fun d => c ((toList_iff _ _).1 d))]
        exact ih false (by simp [hitP, c])
theorem one_l3 (l : List S52) (now : Int) (i : Nat) (hi : i ≤ 1000) (last : Int) (L : List S34) (Q : List S32) (C : Nat) (hC : C ≤ 100) (hS : St C last L Q) (K : Nat)
    (h : ∀ k, K ≤ k → cooperagelaw16_LeaseOne.l0 k l now ((i + 1 : Nat) : Int) last L Q = some true) :
    ∀ (d q : Nat), q + d = Q.length → ∃ K', ∀ k, K' ≤ k → cooperagelaw16_LeaseOne.l3 k l now i q last L Q = some true
  | 0, q, e => ⟨K + 1, fun k hk => by
    obtain ⟨m, rfl⟩ : ∃ m, k = m + 1 := ⟨k - 1, by omega⟩
    rw [cooperagelaw16_LeaseOne.l3, if_neg (by omega), wrap_succ i (by omega)]
    exact h m (by omega)⟩
  | d + 1, q, e => by
    have b0 := hS.b0; have bl := hS.bl; have bq := hS.bq
    obtain ⟨K', h'⟩ := one_l3 l now i hi last L Q C hC hS K h d (q + 1) (by omega)
    have hq : q < Q.length := by omega
    have hh : L.filter (heldP Q[q].f0 Q[q].f1) = [] := by
      rw [List.filter_eq_nil_iff]
      intro x hx c
      simp only [heldP, Bool.and_eq_true, decide_eq_true_eq] at c
      exact hS.nh _ (List.getElem_mem hq) x hx c
    have hb := hS.bk (Q.take q) Q[q] (Q.drop (q + 1)) (by rw [← drop_cons Q q hq, List.take_append_drop])
    unfold blkS at hb
    have h5 := one_l5 l now i q last L Q (by omega) (by omega) Q[q] hq rfl hS.wd hh (L.any (hitP Q[q])) hb K' h' q 0 (L.any (hitP Q[q])) (by omega) (by simp)
    have h4 := one_l4 l now i q last L Q (by omega) Q[q] (K' + 2 * q + 3000) h5 L.length 0 false (by omega) (by simp)
    refine ⟨K' + 2 * q + 3000 + L.length + 2, fun k hk => ?_⟩
    obtain ⟨m, rfl⟩ : ∃ m, k = m + 1 := ⟨k - 1, by omega⟩
    rw [cooperagelaw16_LeaseOne.l3, if_pos (by omega), if_pos (by omega), rd32 Q q hq]
    exact h4 m (by omega)
theorem one_l0 (l : List S52) (hl : l.length ≤ 60) (hs : ∀ x ∈ l, x.f5.size ≤ 150) (hw : ∀ x ∈ l, (Lit.int .i64 x.f0).wf = true ∧ (Lit.int .i64 x.f4).wf = true) : ∀ (d i : Nat) (now last : Int) (L : List S34) (Q : List S32), i + d = l.length → St i last L Q → 0 ≤ now → now ≤ 5 * i →
    ∃ K, ∀ k, K ≤ k → cooperagelaw16_LeaseOne.l0 k l now i last L Q = some true
  | 0, i, now, last, L, Q, e, h, _, _ => ⟨1, fun k hk => by
    obtain ⟨m, rfl⟩ : ∃ m, k = m + 1 := ⟨k - 1, by omega⟩
    rw [cooperagelaw16_LeaseOne.l0, if_neg (by omega)]⟩
  | d + 1, i, now, last, L, Q, e, h, hn0, hn1 => by
    have hi : i < l.length := by omega
    have hp := pickS_lt l[i].f4 5 (by omega)
    have hnw : wrap64 (now + pickS l[i].f4 5) = now + pickS l[i].f4 5 := wrap_sm (by omega) (by omega)
    obtain ⟨t, tok, er, hd, hN⟩ := does_f i (by omega) last L Q h l[i] (wf_i64 (hw _ (List.getElem_mem hi)).1) (hs _ (List.getElem_mem hi)) (now + pickS l[i].f4 5)
    have hS := hN.1
    have b0' := hS.b0; have bl' := hS.bl; have bq' := hS.bq
    push_cast at bq'
    obtain ⟨K, hK⟩ := one_l0 l hl hs hw d (i + 1) (now + pickS l[i].f4 5) t.1 t.2.1 t.2.2 (by omega) hS (by omega) (by push_cast; omega)
    obtain ⟨K3, h3⟩ := one_l3 l (now + pickS l[i].f4 5) i (by omega) t.1 t.2.1 t.2.2 (i + 1) (by omega) hS K hK t.2.2.length 0 (by omega)
    obtain ⟨K1, h1⟩ := one_l1 l (now + pickS l[i].f4 5) i t.1 t.2.1 t.2.2 (by omega) hS.pw hS.tk K3 h3 t.2.1.length 0 (by omega)
    refine ⟨K1 + 100000, fun k hk => ?_⟩
    obtain ⟨m, rfl⟩ : ∃ m, k = m + 1 := ⟨k - 1, by omega⟩
    rw [cooperagelaw16_LeaseOne.l0, if_pos (by omega), if_pos (by omega), rd52n l i hi, pick_f _ 5 (wf_i64 (hw _ (List.getElem_mem hi)).2) (by omega)]
    simp only [Option.bind_some]
    rw [hnw, hd m (by omega)]
    simp only [Option.bind_some]
    exact h1 m (by omega)
end Go.Proofs.YtgcghjkaomgloaaDoor.Pl
namespace Go.Proofs.YtgcghjkaomgloaaDoor.Pure
open Go.RowKit Go.Proofs.YtgcghjkaomgloaaDoor.PLease Go.Proofs.YtgcghjkaomgloaaDoorW.PrintWords Go.Proofs.YtgcghjkaomgloaaDoorW.PrintLast
open Go.Proofs.YtgcghjkaomgloaaDoor.Pl
theorem LeaseOne : cooperagelaw16_LeaseOne.Pure := by
  intro l _ _ hl
  obtain ⟨K0, h0⟩ := shown_ev
  obtain ⟨b, hb, K1, h1⟩ := right_f l
  cases b with
  | false =>
    refine ⟨K0 + K1 + 1, ?_⟩
    unfold cooperagelaw16_LeaseOne.f
    rw [h0 _ (by omega), h1 _ (by omega)]
    simp only [Option.bind_some, if_true]
    rw [cooperagelaw16_LeaseOne.j0, if_pos (by decide)]
  | true =>
    obtain ⟨hlen, hs⟩ := hb rfl
    obtain ⟨K, h⟩ := one_l0 l hlen hs (fun x hx => ⟨(hl x hx).1, (hl x hx).2.2.2.2.1⟩) l.length 0 0 0 [] [] (by omega) ⟨by omega, by simp, by simp, by simp, by simp, by simp, by simp, by simp⟩ (by omega) (by omega)
    refine ⟨K0 + K1 + K + 1, ?_⟩
    unfold cooperagelaw16_LeaseOne.f
    rw [h0 _ (by omega), h1 _ (by omega)]
    simp only [Option.bind_some, if_true]
    rw [cooperagelaw16_LeaseOne.j0, if_neg (by decide)]
    exact h _ (by omega)
end Go.Proofs.YtgcghjkaomgloaaDoor.Pure
