/- LeaseOver, in plain words. -/
import Derived.Test.YtgcghjkaomgloaaDoorPLeasex11
import Derived.Test.YtgcghjkaomgloaaDoorLeaseDoes
import Derived.Test.YtgcghjkaomgloaaDoorLeaseShown
namespace Go.Proofs.YtgcghjkaomgloaaDoor.Pl
open Go.RowKit Go.Proofs.YtgcghjkaomgloaaDoor.PLease Go.Proofs.YtgcghjkaomgloaaDoorW.PrintWords Go.Proofs.YtgcghjkaomgloaaDoorW.PrintLast
theorem rd52o (l : List S52) (i : Nat) (hi : i < l.length) : rd_T52 l (i : Int) = l[i] := by
  unfold rd_T52
  rw [Int.toNat_natCast, List.getD_eq_getElem?_getD, List.getElem?_eq_getElem hi]
  rfl
/-- What is told as over is over. -/
structure Ov (over : List Int) (last : Int) (L : List S34) : Prop where
  len : over.length = 400
  gone : ∀ k : Nat, k < 400 → rd over (k : Int) > 0 → (k : Int) ≤ last ∧ ∀ x ∈ L, x.f3 ≠ (k : Int)
theorem rd_set (over : List Int) (k j : Nat) (hk : k < over.length) (v : Int) : rd (over.set k v) (j : Int) = if j = k then v else rd over (j : Int) := by
  unfold rd
  rw [Int.toNat_natCast, List.getD_eq_getElem?_getD, List.getD_eq_getElem?_getD, List.getElem?_set]
  by_cases c : j = k
  · subst c; rw [if_pos rfl, if_pos rfl, if_pos hk]; rfl
  · rw [if_neg (fun d => c d.symm), if_neg c]
theorem over_l2 (l : List S52) (now : Int) (over : List Int) (i k0 : Nat) (last : Int) (L : List S34) (Q : List S32) (hL : L.length ≤ 1000) (K : Nat)
    (h : ∀ k, K ≤ k → ∀ k1, K ≤ k1 → (if L.any (fun x => decide (x.f3 = (k0 : Int))) = true then (if 0 ≤ (k0 : Int) then (if (k0 : Int) < (over.length : Int) then (cooperagelaw16_LeaseOver.j5 k l now over i k0 true (decide ((rd over k0) > 0)) last L Q) else (none)) else (none)) else (cooperagelaw16_LeaseOver.j5 k l now over i k0 false false last L Q)) = some true) :
    ∀ (d j : Nat) (b : Bool), j + d = L.length → b = (L.take j).any (fun x => decide (x.f3 = (k0 : Int))) → ∀ k, K + d + 1 ≤ k → cooperagelaw16_LeaseOver.l2 k l now over i k0 b j last L Q = some true
  | 0, j, b, e, hb, k, hk => by
    obtain ⟨m, rfl⟩ : ∃ m, k = m + 1 := ⟨k - 1, by omega⟩
    rw [List.take_of_length_le (by omega)] at hb
    rw [cooperagelaw16_LeaseOver.l2, if_neg (by omega), hb]
    have := h m (by omega) m (by omega)
    by_cases c : L.any (fun x => decide (x.f3 = (k0 : Int))) = true
    · rw [if_pos c] at this ⊢
      rw [c]
      exact this
    · rw [if_neg c] at this ⊢
      rw [Bool.eq_false_iff.2 c]
      exact this
  | d + 1, j, b, e, hb, k, hk => by
    obtain ⟨m, rfl⟩ : ∃ m, k = m + 1 := ⟨k - 1, by omega⟩
    have hj : j < L.length := by omega
    have ht : (L.take (j + 1)).any (fun x => decide (x.f3 = (k0 : Int))) = (b || decide (L[j].f3 = (k0 : Int))) := by
      rw [List.take_add_one, List.getElem?_eq_getElem hj, List.any_append, hb]
      simp
    rw [cooperagelaw16_LeaseOver.l2, if_pos (by omega), wrap_succ j (by omega)]
    cases b with
    | true =>
      rw [if_pos rfl]
      exact over_l2 l now over i k0 last L Q hL K h d (j + 1) true (by omega) (by rw [ht]; rfl) m (by omega)
    | false =>
      rw [if_neg (by decide), if_pos (by omega), rd34 L j hj, beq_int]
      exact over_l2 l now over i k0 last L Q hL K h d (j + 1) _ (by omega) (by rw [ht]; rfl) m (by omega)
theorem over_l1 (l : List S52) (now : Int) (hnow : 0 ≤ now ∧ now ≤ 100000) (i : Nat) (hi : i < l.length) (hi2 : i ≤ 1000) (last : Int) (L : List S34) (Q : List S32) (hL : L.length ≤ 200) (hQ : Q.length ≤ 200) (hlast : 0 ≤ last ∧ last ≤ 300)
    (hnext : ∀ over, Ov over last L → ∃ K, ∀ k, K ≤ k → cooperagelaw16_LeaseOver.l0 k l now over ((i + 1 : Nat) : Int) last L Q = some true) :
    ∀ (d k0 : Nat) (over : List Int), (k0 : Int) + d = last + 1 → Ov over last L → ∃ K, ∀ k, K ≤ k → cooperagelaw16_LeaseOver.l1 k l now over i k0 last L Q = some true
  | 0, k0, over, e, hO => by
    obtain ⟨K, h⟩ := hnext over hO
    refine ⟨K + 1, fun k hk => ?_⟩
    obtain ⟨m, rfl⟩ : ∃ m, k = m + 1 := ⟨k - 1, by omega⟩
    rw [cooperagelaw16_LeaseOver.l1, if_neg (by omega), wrap_succ i (by omega)]
    exact h m (by omega)
  | d + 1, k0, over, e, hO => by
    have hk0 : k0 < 400 := by omega
    have hlen := hO.len
    by_cases c : L.any (fun x => decide (x.f3 = (k0 : Int))) = true
    · -- it is valid
      obtain ⟨K, h⟩ := over_l1 l now hnow i hi hi2 last L Q hL hQ hlast hnext d (k0 + 1) over (by push_cast; omega) hO
      have hz : ¬ rd over (k0 : Int) > 0 := by
        intro g
        obtain ⟨x, hx, ex⟩ := List.any_eq_true.1 c
        exact (hO.gone k0 hk0 g).2 x hx (by simpa using ex)
      refine ⟨K + L.length + 10, fun k hk => ?_⟩
      obtain ⟨m, rfl⟩ : ∃ m, k = m + 1 := ⟨k - 1, by omega⟩
      rw [cooperagelaw16_LeaseOver.l1, if_pos (by omega)]
      refine over_l2 l now over i k0 last L Q (by omega) (K + 2) (fun k hk k1 _ => ?_) L.length 0 false (by omega) (by simp) m (by omega)
      obtain ⟨m', rfl⟩ : ∃ m', k = m' + 1 := ⟨k - 1, by omega⟩
      rw [if_pos c, if_pos (by omega), if_pos (by omega), decide_eq_false hz, cooperagelaw16_LeaseOver.j5, if_neg (by decide), if_pos rfl, wrap_succ k0 (by omega)]
      exact h m' (by omega)
    · have hno : ∀ x ∈ L, x.f3 ≠ (k0 : Int) := fun x hx ex => c (List.any_eq_true.2 ⟨x, hx, by simp [ex]⟩)
      have hO' : Ov (over.set k0 1) last L := by
        refine ⟨by simpa using hlen, fun j hj g => ?_⟩
        rw [rd_set over k0 j (by omega)] at g
        by_cases cj : j = k0
        · subst cj; exact ⟨by omega, hno⟩
        · rw [if_neg cj] at g; exact hO.gone j hj g
      obtain ⟨K, h⟩ := over_l1 l now hnow i hi hi2 last L Q hL hQ hlast hnext d (k0 + 1) (over.set k0 1) (by push_cast; omega) hO'
      have hv : L.any (validP l[i].f1 l[i].f5 (k0 : Int)) = false := by
        rw [List.any_eq_false]
        intro x hx
        simp [validP, hno x hx]
      have hti : timeP now = true := by unfold timeP; simp; omega
      have hg : giveS last L Q l[i].f1 l[i].f5 (k0 : Int) now = (0, [], [], 8) := by
        unfold giveS
        rw [if_pos hti, hv]
        rfl
      refine ⟨K + L.length + 100010, fun k hk => ?_⟩
      obtain ⟨m, rfl⟩ : ∃ m, k = m + 1 := ⟨k - 1, by omega⟩
      rw [cooperagelaw16_LeaseOver.l1, if_pos (by omega)]
      refine over_l2 l now over i k0 last L Q (by omega) (K + 100005) (fun k hk k1 _ => ?_) L.length 0 false (by omega) (by simp) m (by omega)
      obtain ⟨m', rfl⟩ : ∃ m', k = m' + 2 := ⟨k - 2, by omega⟩
      rcases renew_f last L Q l[i].f1 l[i].f5 (k0 : Int) 5 now (by omega) with ⟨hv', _⟩ | ⟨er, _, he8, hr⟩
      · rw [hv] at hv'; cases hv'
      · obtain rfl := he8 (by decide) hti
        rw [if_neg c, cooperagelaw16_LeaseOver.j5, if_neg (by decide), if_neg (by decide), if_pos (by omega), if_pos (by omega)]
        simp only [Option.bind_some]
        rw [if_pos (by omega), if_pos (by omega), rd52o l i hi, give_f last L Q _ _ _ now (by omega) (by omega) (m' + 1) (by omega), hr (m' + 1) (by omega), hg]
        simp only [Option.bind_some]
        rw [if_pos (by decide), if_pos (by decide), show ((([] : List S34).length : Int) != 0) = false by decide, cooperagelaw16_LeaseOver.j6, if_neg (by decide), wrap_succ k0 (by omega), Int.toNat_natCast]
        exact h m' (by omega)
theorem over_l0 (l : List S52) (hl : l.length ≤ 60) (hs : ∀ x ∈ l, x.f5.size ≤ 150) (hw : ∀ x ∈ l, (Lit.int .i64 x.f0).wf = true ∧ (Lit.int .i64 x.f4).wf = true) : ∀ (d i : Nat) (now last : Int) (L : List S34) (Q : List S32) (over : List Int), i + d = l.length → St i last L Q → Ov over last L → 0 ≤ now → now ≤ 5 * i →
    ∃ K, ∀ k, K ≤ k → cooperagelaw16_LeaseOver.l0 k l now over i last L Q = some true
  | 0, i, now, last, L, Q, over, e, h, hO, _, _ => ⟨1, fun k hk => by
    obtain ⟨m, rfl⟩ : ∃ m, k = m + 1 := ⟨k - 1, by omega⟩
    rw [cooperagelaw16_LeaseOver.l0, if_neg (by omega)]⟩
  | d + 1, i, now, last, L, Q, over, e, h, hO, hn0, hn1 => by
    have hi : i < l.length := by omega
    have b0 := h.b0; have bl := h.bl; have bq := h.bq
    have hp := pickS_lt l[i].f4 5 (by omega)
    have hnw : wrap64 (now + pickS l[i].f4 5) = now + pickS l[i].f4 5 := wrap_sm (by omega) (by omega)
    obtain ⟨t, tok, er, hd, hN⟩ := does_f i (by omega) last L Q h l[i] (wf_i64 (hw _ (List.getElem_mem hi)).1) (hs _ (List.getElem_mem hi)) (now + pickS l[i].f4 5)
    have bl' := hN.1.bl; have bq' := hN.1.bq; have b0' := hN.1.b0
    push_cast at bq'
    have hle := hN.2.1
    have hO' : Ov over t.1 t.2.1 := ⟨hO.len, fun k hk g => by
      obtain ⟨g1, g2⟩ := hO.gone k hk g
      refine ⟨by omega, fun y hy ey => ?_⟩
      rcases hN.2.2.1 y hy with ⟨z, hz, ez⟩ | hlt
      · exact g2 z hz (ez.trans ey)
      · omega⟩
    obtain ⟨K, hK⟩ := over_l1 l (now + pickS l[i].f4 5) (by omega) i hi (by omega) t.1 t.2.1 t.2.2 (by omega) (by omega) (by omega)
      (fun ov hov => over_l0 l hl hs hw d (i + 1) (now + pickS l[i].f4 5) t.1 t.2.1 t.2.2 ov (by omega) hN.1 hov (by omega) (by push_cast; omega)) t.1.toNat 1 over (by omega) hO'
    have hlen := hO.len
    refine ⟨K + 100000, fun k hk => ?_⟩
    obtain ⟨m, rfl⟩ : ∃ m, k = m + 2 := ⟨k - 2, by omega⟩
    rw [cooperagelaw16_LeaseOver.l0, if_pos (by omega), if_pos (by omega), rd52o l i hi, pick_f _ 5 (wf_i64 (hw _ (List.getElem_mem hi)).2) (by omega)]
    simp only [Option.bind_some]
    rw [hnw, hd (m + 1) (by omega)]
    simp only [Option.bind_some]
    rw [if_neg (by omega), decide_eq_false (by omega), cooperagelaw16_LeaseOver.j2, if_neg (by decide)]
    exact hK m (by omega)
end Go.Proofs.YtgcghjkaomgloaaDoor.Pl
namespace Go.Proofs.YtgcghjkaomgloaaDoor.Pure
open Go.RowKit Go.Proofs.YtgcghjkaomgloaaDoor.PLease Go.Proofs.YtgcghjkaomgloaaDoorW.PrintWords Go.Proofs.YtgcghjkaomgloaaDoorW.PrintLast
open Go.Proofs.YtgcghjkaomgloaaDoor.Pl
theorem LeaseOver : cooperagelaw16_LeaseOver.Pure := by
  intro l _ _ hl
  obtain ⟨K0, h0⟩ := shown_ev
  obtain ⟨b, hb, K1, h1⟩ := right_f l
  cases b with
  | false =>
    refine ⟨K0 + K1 + 1, ?_⟩
    unfold cooperagelaw16_LeaseOver.f
    rw [h0 _ (by omega), h1 _ (by omega)]
    simp only [Option.bind_some, if_true]
    rw [cooperagelaw16_LeaseOver.j0, if_pos (by decide)]
  | true =>
    obtain ⟨hlen, hs⟩ := hb rfl
    obtain ⟨K, h⟩ := over_l0 l hlen hs (fun x hx => ⟨(hl x hx).1, (hl x hx).2.2.2.2.1⟩) l.length 0 0 0 [] [] (List.replicate 400 0) (by omega) ⟨by omega, by simp, by simp, by simp, by simp, by simp, by simp, by simp⟩
      ⟨List.length_replicate, fun k hk g => by
        exfalso
        have : rd (List.replicate 400 0) (k : Int) = 0 := by
          unfold rd
          rw [Int.toNat_natCast, List.getD_eq_getElem?_getD, List.getElem?_replicate]
          split <;> rfl
        omega⟩ (by omega) (by omega)
    refine ⟨K0 + K1 + K + 1, ?_⟩
    unfold cooperagelaw16_LeaseOver.f
    rw [h0 _ (by omega), h1 _ (by omega)]
    simp only [Option.bind_some, if_true]
    rw [cooperagelaw16_LeaseOver.j0, if_neg (by decide), if_pos (by decide)]
    exact h _ (by omega)
end Go.Proofs.YtgcghjkaomgloaaDoor.Pure
