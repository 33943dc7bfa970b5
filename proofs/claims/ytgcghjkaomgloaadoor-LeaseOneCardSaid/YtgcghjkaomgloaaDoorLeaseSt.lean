/- What stays so of a table of leases, step by step. No program in sight but settleS. -/
import Derived.Test.YtgcghjkaomgloaaDoorLeaseMore
namespace Go.Proofs.YtgcghjkaomgloaaDoor.Pl
open Go.RowKit Go.Proofs.YtgcghjkaomgloaaDoor.PLease

/-- An invariant over what settles. -/
theorem settle_ind (now : Int) (I : List S32 → Int → List S34 → List S32 → Prop)
    (hb : ∀ q last L Q, I q last L Q → L.length < 200 ∧ -1000000 ≤ last ∧ last ≤ 1000000)
    (hg : ∀ a q last L Q, I (a :: q) last L Q → blkS L Q a = false → ∀ u, I q (last + 1) (L ++ [⟨a.f0, a.f1, a.f2, last + 1, u⟩]) Q)
    (hw : ∀ a q last L Q, I (a :: q) last L Q → blkS L Q a = true → I q last L (Q ++ [a])) :
    ∀ (q : List S32) (last : Int) (L : List S34) (Q : List S32), I q last L Q → ∃ last' L' Q', settleS now q last L Q = (last', L', Q') ∧ I [] last' L' Q'
  | [], last, L, Q, h => ⟨last, L, Q, rfl, h⟩
  | a :: q, last, L, Q, h => by
    have b := hb _ _ _ _ h
    unfold settleS
    by_cases c : blkS L Q a = true
    · rw [if_pos (.inl c)]
      exact settle_ind now I hb hg hw q last L (Q ++ [a]) (hw _ _ _ _ _ h c)
    · rw [if_neg (fun d => d.elim c (fun d => by omega)), wrap_sm (i := last + 1) (by omega) (by omega)]
      exact settle_ind now I hb hg hw q (last + 1) _ Q (hg _ _ _ _ _ h (Bool.eq_false_iff.2 c) _)
def RL (x y : S34) : Prop := x.f3 < y.f3 ∧ (x.f1 = y.f1 → x.f2 = false ∧ y.f2 = false ∧ x.f0 ≠ y.f0)
structure St (C : Nat) (last : Int) (L : List S34) (Q : List S32) : Prop where
  b0 : 0 ≤ last
  bl : (L.length : Int) ≤ last
  bq : last + (Q.length : Int) ≤ C
  pw : L.Pairwise RL
  tk : ∀ x ∈ L, x.f3 ≤ last
  wd : Q.Pairwise (fun a b => a.f0 ≠ b.f0)
  nh : ∀ a ∈ Q, ∀ x ∈ L, ¬ (x.f0 = a.f0 ∧ x.f1 = a.f1)
  bk : ∀ Q1 a Q2, Q = Q1 ++ a :: Q2 → blkS L Q1 a = true
/-- What is so while it settles. -/
structure Mid (C : Nat) (last0 : Int) (L0 : List S34) (q0 : List S32) (q : List S32) (last : Int) (L : List S34) (Q : List S32) : Prop where
  b0 : 0 ≤ last0
  b1 : last0 ≤ last
  bl : (L.length : Int) ≤ last
  bq : last + (q.length : Int) + (Q.length : Int) ≤ C
  pw : L.Pairwise RL
  tk : ∀ x ∈ L, x.f3 ≤ last
  wd : (Q ++ q).Pairwise (fun a b => a.f0 ≠ b.f0)
  nh : ∀ a ∈ Q ++ q, ∀ x ∈ L, ¬ (x.f0 = a.f0 ∧ x.f1 = a.f1)
  bk : ∀ Q1 a Q2, Q = Q1 ++ a :: Q2 → blkS L Q1 a = true
  sub : (Q ++ q).Sublist q0
  app : ∃ G, L = L0 ++ G ∧ ∀ g ∈ G, last0 < g.f3 ∧ ∃ a ∈ q0, g.f0 = a.f0
theorem blkS_mono {L G : List S34} {Q : List S32} {a : S32} (h : blkS L Q a = true) : blkS (L ++ G) Q a = true := by
  unfold blkS at h ⊢
  rw [List.any_append]
  rw [Bool.or_eq_true] at h ⊢
  rcases h with h | h
  · exact .inl (by rw [h]; rfl)
  · exact .inr h
theorem blkS_false {L : List S34} {Q : List S32} {a : S32} (h : blkS L Q a = false) : (∀ x ∈ L, x.f1 = a.f1 → x.f2 = false ∧ a.f2 = false) := by
  unfold blkS at h
  rw [Bool.or_eq_false_iff, List.any_eq_false] at h
  intro x hx e
  have := h.1 x hx
  simp only [hitP, e, decide_true, Bool.true_and, Bool.or_eq_true, not_or, Bool.not_eq_true] at this
  exact this
theorem Mid.grant {C : Nat} {last0 : Int} {L0 : List S34} {q0 : List S32} {a : S32} {q : List S32} {last : Int} {L : List S34} {Q : List S32} (h : Mid C last0 L0 q0 (a :: q) last L Q) (hb : blkS L Q a = false) (u : Int) :
    Mid C last0 L0 q0 q (last + 1) (L ++ [⟨a.f0, a.f1, a.f2, last + 1, u⟩]) Q := by
  have hm : a ∈ Q ++ a :: q := by simp
  have hsub : (Q ++ q).Sublist (Q ++ a :: q) := List.Sublist.append_left (List.sublist_cons_self a q) Q
  have ha : a ∈ q0 := h.sub.subset hm
  have hwa : ∀ b ∈ Q ++ q, b.f0 ≠ a.f0 := by
    intro b hb'
    have hw := List.pairwise_append.1 h.wd
    rcases List.mem_append.1 hb' with k | k
    · exact hw.2.2 b k a (by simp)
    · exact fun c => (List.pairwise_cons.1 hw.2.1).1 b k c.symm
  have hbl := h.bl; have hbq := h.bq
  simp only [List.length_cons] at hbq
  refine ⟨h.b0, by have := h.b1; omega, by simp; omega, by push_cast at hbq ⊢; omega, ?_, ?_, h.wd.sublist hsub, ?_, ?_, hsub.trans h.sub, ?_⟩
  · refine List.pairwise_append.2 ⟨h.pw, by simp, ?_⟩
    intro x hx y hy
    obtain rfl := List.mem_singleton.1 hy
    refine ⟨by have := h.tk x hx; show x.f3 < last + 1; omega, fun e => ?_⟩
    have := blkS_false hb x hx e
    exact ⟨this.1, this.2, fun c => h.nh a hm x hx ⟨c, e⟩⟩
  · intro x hx
    rcases List.mem_append.1 hx with k | k
    · have := h.tk x k; omega
    · obtain rfl := List.mem_singleton.1 k; exact Int.le_refl _
  · intro b hb' x hx
    rcases List.mem_append.1 hx with k | k
    · exact h.nh b (hsub.subset hb') x k
    · obtain rfl := List.mem_singleton.1 k
      exact fun c => hwa b hb' c.1.symm
  · intro Q1 b Q2 e
    exact blkS_mono (h.bk Q1 b Q2 e)
  · obtain ⟨G, e, hG⟩ := h.app
    refine ⟨G ++ [⟨a.f0, a.f1, a.f2, last + 1, u⟩], by rw [e, List.append_assoc], ?_⟩
    intro g hg
    rcases List.mem_append.1 hg with k | k
    · exact hG g k
    · obtain rfl := List.mem_singleton.1 k
      exact ⟨by have := h.b1; show last0 < last + 1; omega, a, ha, rfl⟩
theorem Mid.wait {C : Nat} {last0 : Int} {L0 : List S34} {q0 : List S32} {a : S32} {q : List S32} {last : Int} {L : List S34} {Q : List S32} (h : Mid C last0 L0 q0 (a :: q) last L Q) (hb : blkS L Q a = true) :
    Mid C last0 L0 q0 q last L (Q ++ [a]) := by
  have e1 : Q ++ [a] ++ q = Q ++ a :: q := by simp
  have hbq := h.bq
  simp only [List.length_cons] at hbq
  refine ⟨h.b0, h.b1, h.bl, by simp only [List.length_append, List.length_singleton]; push_cast at hbq ⊢; omega, h.pw, h.tk, by rw [e1]; exact h.wd, by rw [e1]; exact h.nh, ?_, by rw [e1]; exact h.sub, h.app⟩
  intro Q1 b Q2 e
  rcases List.eq_nil_or_concat Q2 with rfl | ⟨Q3, c, rfl⟩
  · obtain ⟨rfl, k⟩ := List.append_inj' e rfl
    obtain rfl : a = b := (List.cons.inj k).1
    exact hb
  · rw [List.concat_eq_append, ← List.cons_append, ← List.append_assoc] at e
    exact h.bk Q1 b Q3 (List.append_inj' e rfl).1
theorem settle_St (C : Nat) (hC : C ≤ 100) (now last : Int) (L : List S34) (q : List S32) (b0 : 0 ≤ last) (bl : (L.length : Int) ≤ last) (bq : last + (q.length : Int) ≤ C) (pw : L.Pairwise RL) (tk : ∀ x ∈ L, x.f3 ≤ last)
    (wd : q.Pairwise (fun a b => a.f0 ≠ b.f0)) (nh : ∀ a ∈ q, ∀ x ∈ L, ¬ (x.f0 = a.f0 ∧ x.f1 = a.f1)) :
    ∃ last' L' Q', settleS now q last L [] = (last', L', Q') ∧ St C last' L' Q' ∧ last ≤ last' ∧ Q'.Sublist q ∧ ∃ G, L' = L ++ G ∧ ∀ g ∈ G, last < g.f3 ∧ ∃ a ∈ q, g.f0 = a.f0 := by
  obtain ⟨last', L', Q', e, h⟩ := settle_ind now (Mid C last L q) (fun q' l' L' Q' h => by
      have h1 := h.bl; have h2 := h.bq; have h3 := h.b0; have h4 := h.b1
      omega) (fun a q' l' L' Q' h hb u => h.grant hb u) (fun a q' l' L' Q' h hb => h.wait hb) q last L []
    ⟨b0, Int.le_refl _, bl, by simpa using bq, pw, tk, by simpa using wd, by simpa using nh, by simp, by simp, [], by simp, by simp⟩
  refine ⟨last', L', Q', e, ⟨by have := h.b1; omega, h.bl, by have := h.bq; simpa using this, h.pw, h.tk, by simpa using h.wd, by simpa using h.nh, h.bk⟩, h.b1, by simpa using h.sub, h.app⟩
/-- What a row of leases says, but for when they end. -/
def keyL (x : S34) : Int × ByteArray × Bool × Int := (x.f0, x.f1, x.f2, x.f3)
theorem key_mem {L L' : List S34} (h : L'.map keyL = L.map keyL) : ∀ x ∈ L', ∃ y ∈ L, keyL y = keyL x := by
  intro x hx
  have : keyL x ∈ L.map keyL := h ▸ List.mem_map.2 ⟨x, hx, rfl⟩
  obtain ⟨y, hy, e⟩ := List.mem_map.1 this
  exact ⟨y, hy, e⟩
theorem key_eq {x y : S34} (h : keyL y = keyL x) : y.f0 = x.f0 ∧ y.f1 = x.f1 ∧ y.f2 = x.f2 ∧ y.f3 = x.f3 := by
  simp only [keyL, Prod.mk.injEq] at h
  exact h
theorem St.key {C : Nat} {last : Int} {L L' : List S34} {Q : List S32} (h : St C last L Q) (k : L'.map keyL = L.map keyL) : St C last L' Q := by
  have hl : L'.length = L.length := by have := congrArg List.length k; simpa using this
  refine ⟨h.b0, by rw [hl]; exact h.bl, h.bq, ?_, ?_, h.wd, ?_, ?_⟩
  · have e : ∀ M : List S34, M.Pairwise RL ↔ (M.map keyL).Pairwise (fun x y => x.2.2.2 < y.2.2.2 ∧ (x.2.1 = y.2.1 → x.2.2.1 = false ∧ y.2.2.1 = false ∧ x.1 ≠ y.1)) := fun M => by rw [List.pairwise_map]; rfl
    rw [e, k, ← e]
    exact h.pw
  · intro x hx
    obtain ⟨y, hy, e⟩ := key_mem k x hx
    have := h.tk y hy
    have := (key_eq e).2.2.2
    omega
  · intro a ha x hx
    obtain ⟨y, hy, e⟩ := key_mem k x hx
    have := h.nh a ha y hy
    rw [(key_eq e).1, (key_eq e).2.1] at this
    exact this
  · intro Q1 a Q2 e
    have e2 : ∀ M : List S34, M.any (hitP a) = (M.map keyL).any (fun x => decide (x.2.1 = a.f1) && (x.2.2.1 || a.f2)) := fun M => by rw [List.any_map]; rfl
    have := h.bk Q1 a Q2 e
    unfold blkS at this ⊢
    rw [e2, k, ← e2]
    exact this
end Go.Proofs.YtgcghjkaomgloaaDoor.Pl
