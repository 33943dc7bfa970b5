/- LeaseTurn, in plain words. -/
import Derived.Test.YtgcghjkaomgloaaDoorPLeasex8
import Derived.Test.YtgcghjkaomgloaaDoorLeasePure
import Derived.Test.YtgcghjkaomgloaaDoorLeaseShown
namespace Go.Proofs.YtgcghjkaomgloaaDoor.Pl
open Go.RowKit Go.Proofs.YtgcghjkaomgloaaDoor.PLease Go.Proofs.YtgcghjkaomgloaaDoorW.PrintWords Go.Proofs.YtgcghjkaomgloaaDoorW.PrintLast

theorem map_mem_range {B : List S34} {a n : Nat} (h : B.map (fun x => x.f0) = (List.range' a n).map (fun j : Nat => (j : Int))) : ∀ x ∈ B, (a : Int) ≤ x.f0 ∧ x.f0 < ((a + n : Nat) : Int) := by
  intro x hx
  have hm : x.f0 ∈ B.map (fun x => x.f0) := List.mem_map.2 ⟨x, hx, rfl⟩
  rw [h] at hm
  obtain ⟨j, hj, e⟩ := List.mem_map.1 hm
  have := List.mem_range'_1.1 hj
  omega
def N110 : ByteArray := ⟨#[110]⟩
def askT (W : List Bool) (j : Nat) : S32 := ⟨(j : Int) + 1, N110, W.getD j false, 10⟩
theorem settle_T (W : List Bool) (now : Int) (h0 : 0 ≤ now) (h1 : now ≤ 100000) : ∀ (n g : Nat) (L : List S34), g + n ≤ 100 → L.length + n ≤ 150 → (∀ x ∈ L, x.f1 = N110) →
    ∃ (d : Nat) (B : List S34), d ≤ n ∧ settleS now ((List.range' g n).map (askT W)) (g : Int) L [] = (((g + d : Nat) : Int), L ++ B, (List.range' (g + d) (n - d)).map (askT W)) ∧
      B.map (fun x => x.f0) = (List.range' (g + 1) d).map (fun j : Nat => (j : Int)) ∧ (∀ x ∈ B, x.f1 = N110 ∧ x.f4 = now + 10) ∧
      ((List.range' (g + d) (n - d)).map (askT W) = [] ∨ ∃ a q, (List.range' (g + d) (n - d)).map (askT W) = a :: q ∧ blkS (L ++ B) [] a = true)
  | 0, g, L, _, _, _ => ⟨0, [], by omega, by simp [settleS], by simp, by simp, .inl (by simp)⟩
  | n + 1, g, L, hg, hl, hL => by
    rw [List.range'_succ, List.map_cons]
    unfold settleS
    by_cases hb : blkS L [] (askT W g) = true
    · refine ⟨0, [], by omega, ?_, by simp, by simp, .inr ⟨askT W g, (List.range' (g + 1) n).map (askT W), ?_, by simpa using hb⟩⟩
      · rw [if_pos (.inl hb), settle_stuck N110 now g L _ _ (fun a ha => by obtain ⟨j, _, rfl⟩ := List.mem_map.1 ha; rfl) ⟨askT W g, by simp, rfl⟩]
        simp [List.range'_succ]
      · simp [List.range'_succ]
    · rw [if_neg (fun c => c.elim hb (fun c => by omega))]
      have e1 : wrap64 ((g : Int) + 1) = ((g + 1 : Nat) : Int) := wrap_succ g (by omega)
      have e2 : wrap64 (now + (askT W g).f3) = now + 10 := wrap_sm (by show _ ≤ now + 10; omega) (by show now + 10 ≤ _; omega)
      rw [e1, e2]
      obtain ⟨d, B, hd, e, hm, hB, hh⟩ := settle_T W now h0 h1 n (g + 1) (L ++ [⟨(askT W g).f0, (askT W g).f1, (askT W g).f2, ((g + 1 : Nat) : Int), now + 10⟩]) (by omega) (by simp; omega) (by
        intro x hx
        rcases List.mem_append.1 hx with h | h
        · exact hL x h
        · obtain rfl := List.mem_singleton.1 h; rfl)
      refine ⟨d + 1, ⟨(askT W g).f0, (askT W g).f1, (askT W g).f2, ((g + 1 : Nat) : Int), now + 10⟩ :: B, by omega, ?_, ?_, ?_, ?_⟩
      · rw [e, List.append_assoc, show g + 1 + d = g + (d + 1) by omega, show n - d = n + 1 - (d + 1) by omega]
        rfl
      · rw [List.map_cons, hm, List.range'_succ, List.map_cons]
        rfl
      · intro x hx
        rcases List.mem_cons.1 hx with rfl | h
        · exact ⟨rfl, rfl⟩
        · exact hB x h
      · rw [List.append_assoc] at hh
        rw [show g + (d + 1) = g + 1 + d by omega, show n + 1 - (d + 1) = n - d by omega]
        exact hh
structure InvT (W : List Bool) (c g p : Nat) (now : Int) (L : List S34) (Q : List S32) : Prop where
  gc : g ≤ c
  c40 : c ≤ 40
  q : Q = (List.range' g (c - g)).map (askT W)
  all : ∀ x ∈ L, x.f1 = N110 ∧ 1 ≤ x.f0 ∧ x.f0 ≤ (g : Int) ∧ x.f4 ≤ now + 10
  len : L.length ≤ g
  hd : Q = [] ∨ ∃ a q, Q = a :: q ∧ blkS L [] a = true
  p1 : 1 ≤ p
  pg : p ≤ g + 1
  ab : ∃ A B, L = A ++ B ∧ (∀ x ∈ A, x.f0 < (p : Int)) ∧ B.map (fun x => x.f0) = (List.range' p (g + 1 - p)).map (fun j : Nat => (j : Int))
/-- What is settled stays in order: 'L0' of elder ones is left. -/
theorem InvT.settle {W : List Bool} {c g : Nat} {now : Int} {L0 : List S34} {n : Nat} (hn0 : 0 ≤ now) (hn1 : now ≤ 100000) (hgn : g + n = c) (hc : c ≤ 40)
    (hall : ∀ x ∈ L0, x.f1 = N110 ∧ 1 ≤ x.f0 ∧ x.f0 ≤ (g : Int) ∧ x.f4 ≤ now + 10) (hlen : L0.length ≤ g) :
    ∃ (g' : Nat) (L' : List S34) (Q' : List S32), settleS now ((List.range' g n).map (askT W)) (g : Int) L0 [] = ((g' : Int), L', Q') ∧ InvT W c g' (g + 1) now L' Q' ∧ L'.length + Q'.length = L0.length + n := by
  obtain ⟨d, B, hd, e, hm, hB, hh⟩ := settle_T W now hn0 hn1 n g L0 (by omega) (by omega) (fun x hx => (hall x hx).1)
  have hBl : B.length = d := by have := congrArg List.length hm; simpa using this
  have hr := map_mem_range hm
  refine ⟨g + d, L0 ++ B, _, e, ⟨by omega, hc, by rw [show c - (g + d) = n - d by omega], ?_, by simp; omega, hh, by omega, by omega, L0, B, rfl, ?_, ?_⟩, by simp; omega⟩
  · intro x hx
    rcases List.mem_append.1 hx with h | h
    · have := hall x h
      exact ⟨this.1, this.2.1, by omega, this.2.2.2⟩
    · have h1 := hB x h
      have h2 := hr x h
      exact ⟨h1.1, by omega, by omega, by omega⟩
  · intro x hx
    have := hall x hx
    omega
  · rw [hm, show g + d + 1 - (g + 1) = d by omega]
/-- The order is looked at: all goes by. -/
theorem turn_scan (W O : List Bool) (now last r : Int) (g : Nat) (hg : g ≤ 100) (L : List S34) (Q : List S32) (hL : L.length ≤ 100) (K : Nat)
    (hR : ∀ k, K ≤ k → ∀ b, cooperagelaw16_LeaseTurn.j5 k W O now ((g + 1 : Nat) : Int) r b last L Q = some true) (hr : 0 ≤ r) :
    ∀ (n i p : Nat) (A B : List S34), i + n = L.length → L.drop i = A ++ B → (∀ x ∈ A, x.f0 < (p : Int)) → B.map (fun x => x.f0) = (List.range' p (g + 1 - p)).map (fun j : Nat => (j : Int)) → p ≤ g + 1 →
      ∀ k, K + n + 1 ≤ k → cooperagelaw16_LeaseTurn.l2 k W O now (p : Int) r (i : Int) last L Q = some true
  | 0, i, p, A, B, e, hd, hA, hB, hp, k, hk => by
    obtain ⟨m, rfl⟩ : ∃ m, k = m + 1 := ⟨k - 1, by omega⟩
    rw [List.drop_of_length_le (by omega)] at hd
    obtain ⟨rfl, rfl⟩ := List.append_eq_nil_iff.1 hd.symm
    have hpg : p = g + 1 := by have := congrArg List.length hB; simp at this; omega
    subst hpg
    rw [cooperagelaw16_LeaseTurn.l2, if_neg (by omega)]
    split
    · first | exact hR m (by omega) _ | (rw [if_pos hr]; exact hR m (by omega) _)
    · exact hR m (by omega) _
  | n + 1, i, p, A, B, e, hd, hA, hB, hp, k, hk => by
    obtain ⟨m, rfl⟩ : ∃ m, k = m + 1 := ⟨k - 1, by omega⟩
    have hi : i < L.length := by omega
    rw [drop_cons L i hi] at hd
    rw [cooperagelaw16_LeaseTurn.l2, if_pos (by omega), if_pos (by omega), rd34 L i hi, wrap_succ i (by omega)]
    cases A with
    | cons x A =>
      obtain ⟨hx, hd⟩ := List.cons.inj hd
      have := hA x (List.mem_cons_self ..)
      rw [hx]
      rw [if_neg (by omega), if_neg (by omega)]
      exact turn_scan W O now last r g hg L Q hL K hR hr n (i + 1) p A B (by omega) hd (fun y hy => hA y (by simp [hy])) hB hp m (by omega)
    | nil =>
      cases B with
      | nil => cases hd
      | cons x B =>
        obtain ⟨hx, hd⟩ := List.cons.inj hd
        have hpg : p ≤ g := by
          have := congrArg List.length hB
          simp at this
          omega
        rw [show g + 1 - p = (g - p) + 1 by omega, List.range'_succ, List.map_cons, List.map_cons] at hB
        obtain ⟨h1, h2⟩ := List.cons.inj hB
        have hf : L[i].f0 = (p : Int) := by rw [hx]; exact h1
        rw [if_neg (by omega), if_pos hf, wrap_succ p (by omega)]
        exact turn_scan W O now last r g hg L Q hL K hR hr n (i + 1) (p + 1) [] B (by omega) (by simpa using hd) (by simp) (by rw [h2, show g + 1 - (p + 1) = g - p by omega]) (by omega) m (by omega)
theorem turn_rounds (W O : List Bool) (hW : W.length ≤ 40) : ∀ (μ r g p : Nat) (now : Int) (L : List S34) (Q : List S32), InvT W W.length g p now L Q → L.length + Q.length = μ → r + μ ≤ 60 → 0 ≤ now → now ≤ 10 * r →
    ∃ K, ∀ k, K ≤ k → cooperagelaw16_LeaseTurn.l1 k W O now (p : Int) (r : Int) (g : Int) L Q = some true := by
  intro μ
  induction μ using Nat.strongRecOn with
  | ind μ ih =>
    intro r g p now L Q hI hμ hr hn0 hn1
    have hQl : Q.length = W.length - g := by rw [hI.q]; simp
    have hgc := hI.gc
    have hlen := hI.len
    obtain ⟨A, B, hAB, hA, hB⟩ := hI.ab
    cases hL : L with
    | nil =>
      subst hL
      obtain ⟨rfl, rfl⟩ := List.append_eq_nil_iff.1 hAB.symm
      have hpg : p = g + 1 := by have h := congrArg List.length hB; simp at h; have := hI.pg; omega
      have hQ : Q = [] := by
        rcases hI.hd with h | ⟨a, q, h, hb⟩
        · exact h
        · simp [blkS] at hb
      have hgW : g = W.length := by rw [hQ] at hQl; simp at hQl; omega
      refine ⟨2, fun k hk => ?_⟩
      obtain ⟨m, rfl⟩ : ∃ m, k = m + 2 := ⟨k - 2, by omega⟩
      rw [cooperagelaw16_LeaseTurn.l1, if_pos (by omega), show decide (((([] : List S34)).length : Int) > 0) = false by decide, cooperagelaw16_LeaseTurn.j3, if_neg (by decide), if_pos (by rw [hQ]; rfl), if_pos (by rfl), if_pos (by rw [wrap_succ _ (by omega)]; omega), hgW]
      simp
    | cons x L1 =>
      have hpos : 0 < L.length := by rw [hL]; simp
      -- one is given back
      have hgive : ∃ K, ∀ k, K ≤ k → cooperagelaw16_LeaseTurn.j5 (k + 1) W O now ((g + 1 : Nat) : Int) (r : Int) false (g : Int) L Q = some true := by
        have hx : rd_T34 L 0 = x := by have := rd34 L 0 hpos; rw [show ((0 : Nat) : Int) = 0 from rfl] at this; rw [this]; simp [hL]
        have hfl : (L.filter (fun y => !heldP x.f0 x.f1 y)).length ≤ L1.length := by
          rw [hL, List.filter_cons_of_neg (by simp [heldP])]
          exact List.length_filter_le _ _
        have hl1 : L.length = L1.length + 1 := by rw [hL]; simp
        obtain ⟨g', L', Q', e, hI', hlt⟩ := InvT.settle (W := W) (c := W.length) (g := g) (now := now) (L0 := L.filter (fun y => !heldP x.f0 x.f1 y)) (n := W.length - g) hn0 (by omega) (by omega) hW (fun y hy => hI.all y (List.mem_filter.1 hy).1) (by omega)
        obtain ⟨K, h⟩ := ih (L'.length + Q'.length) (by omega) (r + 1) g' (g + 1) now L' Q' hI' rfl (by omega) hn0 (by omega)
        refine ⟨max K 70000, fun k hk => ?_⟩
        have ht : timeP now = true := by unfold timeP; simp; omega
        have hv : L.any (validP x.f0 x.f1 x.f3) = true := List.any_eq_true.2 ⟨x, by rw [hL]; simp, by simp [validP]⟩
        rw [cooperagelaw16_LeaseTurn.j5, if_neg (by decide), if_pos (by omega), hx, give_f (g : Int) L Q x.f0 x.f1 x.f3 now (by omega) (by omega) k (by omega)]
        simp only [Option.bind_some]
        unfold giveS
        rw [if_pos ht, if_pos hv, hI.q, e]
        simp only [if_true]
        rw [wrap_succ r (by omega)]
        exact h k (by omega)
      -- time goes by
      have htick : ∃ K, ∀ k, K ≤ k → cooperagelaw16_LeaseTurn.j5 (k + 1) W O now ((g + 1 : Nat) : Int) (r : Int) true (g : Int) L Q = some true := by
        have hf : L.filter (fun y => !decide (y.f4 ≤ now + 10)) = [] := by
          rw [List.filter_eq_nil_iff]
          intro y hy
          have := (hI.all y hy).2.2.2
          simp [this]
        obtain ⟨g', L', Q', e, hI', hlt⟩ := InvT.settle (W := W) (c := W.length) (g := g) (now := now + 10) (L0 := []) (n := W.length - g) (by omega) (by omega) (by omega) hW (by simp) (by simp)
        obtain ⟨K, h⟩ := ih (L'.length + Q'.length) (by simp at hlt; omega) (r + 1) g' (g + 1) (now + 10) L' Q' hI' rfl (by simp at hlt; omega) (by omega) (by omega)
        refine ⟨max K 70000, fun k hk => ?_⟩
        have ht : timeP (now + 10) = true := by unfold timeP; simp; omega
        rw [cooperagelaw16_LeaseTurn.j5, if_pos rfl, wrap_sm (i := now + 10) (by omega) (by omega), tick_f (g : Int) L Q (now + 10) (by omega) (by omega) k (by omega)]
        simp only [Option.bind_some]
        unfold tickS
        rw [if_pos ht, hf, hI.q, e, wrap_succ r (by omega)]
        exact h k (by omega)
      obtain ⟨K1, h1⟩ := hgive
      obtain ⟨K2, h2⟩ := htick
      refine ⟨K1 + K2 + L.length + 10, fun k hk => ?_⟩
      obtain ⟨m, rfl⟩ : ∃ m, k = m + 2 := ⟨k - 2, by omega⟩
      rw [← hL]
      rw [cooperagelaw16_LeaseTurn.l1, if_pos (by omega), show decide ((L.length : Int) > 0) = true by simp; omega, cooperagelaw16_LeaseTurn.j3, if_pos rfl]
      refine turn_scan W O now g r g (by omega) L Q (by omega) (K1 + K2 + 1) (fun k hk b => ?_) (by omega) L.length 0 p A B (by omega) (by simpa using hAB) hA hB hI.pg m (by omega)
      obtain ⟨m, rfl⟩ : ∃ m, k = m + 1 := ⟨k - 1, by omega⟩
      cases b with
      | false => exact h1 m (by omega)
      | true => exact h2 m (by omega)
theorem turn_takes (W O : List Bool) (hW : W.length ≤ 40) : ∀ (n i g : Nat) (L : List S34) (Q : List S32), i + n = W.length → InvT W i g 1 0 L Q →
    ∃ K, ∀ k, K ≤ k → cooperagelaw16_LeaseTurn.l0 k W O 0 (i : Int) (g : Int) L Q = some true
  | 0, i, g, L, Q, e, hI => by
    obtain rfl : i = W.length := by omega
    have hQl : Q.length = W.length - g := by rw [hI.q]; simp
    have := hI.len
    have := hI.gc
    obtain ⟨K, h⟩ := turn_rounds W O hW (L.length + Q.length) 0 g 1 0 L Q hI rfl (by omega) (by omega) (by omega)
    refine ⟨K + 1, fun k hk => ?_⟩
    obtain ⟨m, rfl⟩ : ∃ m, k = m + 1 := ⟨k - 1, by omega⟩
    rw [cooperagelaw16_LeaseTurn.l0, if_neg (by omega)]
    exact h m (by omega)
  | n + 1, i, g, L, Q, e, hI => by
    have hQl : Q.length = i - g := by rw [hI.q]; simp
    have hlen := hI.len
    have hgc := hI.gc
    have hr : rdOf false W (i : Int) = W.getD i false := by
      rw [rdOf_nat false W i (by omega), List.getD_eq_getElem?_getD, List.getElem?_eq_getElem (by omega)]
      rfl
    have hq : Q ++ [askT W i] = (List.range' g (i + 1 - g)).map (askT W) := by
      rw [hI.q, show i + 1 - g = (i - g) + 1 by omega, List.range'_concat, List.map_append, show g + 1 * (i - g) = i by omega]
      rfl
    obtain ⟨d, B, hd, es, hm, hB, hh⟩ := settle_T W 0 (by omega) (by omega) (i + 1 - g) g L (by omega) (by omega) (fun x hx => (hI.all x hx).1)
    have hBl : B.length = d := by have := congrArg List.length hm; simpa using this
    have hrm := map_mem_range hm
    obtain ⟨A0, B0, hAB, hA0, hB0⟩ := hI.ab
    have hA0n : A0 = [] := by
      cases A0 with
      | nil => rfl
      | cons x A0 =>
        have h1 := hA0 x (by simp)
        have h2 := (hI.all x (by rw [hAB]; simp)).2.1
        omega
    have hI' : InvT W (i + 1) (g + d) 1 0 (L ++ B) ((List.range' (g + d) (i + 1 - g - d)).map (askT W)) := by
      refine ⟨by omega, by omega, by rw [show i + 1 - (g + d) = i + 1 - g - d by omega], ?_, by simp; omega, hh, by omega, by omega, [], L ++ B, rfl, by simp, ?_⟩
      · intro x hx
        rcases List.mem_append.1 hx with h | h
        · have := hI.all x h
          exact ⟨this.1, this.2.1, by omega, this.2.2.2⟩
        · have h1 := hB x h
          have h2 := hrm x h
          exact ⟨h1.1, by omega, by omega, by omega⟩
      · rw [List.map_append, hm, hAB, hA0n, List.nil_append, hB0, ← List.map_append, show g + 1 - 1 = g by omega, show g + d + 1 - 1 = g + d by omega, Nat.add_comm g 1, List.range'_append_1]
    obtain ⟨K, h⟩ := turn_takes W O hW n (i + 1) (g + d) _ _ (by omega) hI'
    refine ⟨max K 80000 + 1, fun k hk => ?_⟩
    obtain ⟨m, rfl⟩ : ∃ m, k = m + 1 := ⟨k - 1, by omega⟩
    have ht := take_ok (g : Int) L Q (askT W i) 0 (by omega) (by omega) (by show 1 ≤ (i : Int) + 1 ∧ (i : Int) + 1 ≤ 1000; omega) (fun k hk => path_n k hk) (show livesP 10 = true by decide) (by decide)
      (by
        rw [List.filter_eq_nil_iff]
        intro x hx
        have := (hI.all x hx).2.2.1
        have hne : ¬ x.f0 = (i : Int) + 1 := by omega
        simp [heldP, askT, hne])
      (by
        rw [List.filter_eq_nil_iff]
        intro a ha
        rw [hI.q] at ha
        obtain ⟨j, hj, rfl⟩ := List.mem_map.1 ha
        have := List.mem_range'_1.1 hj
        have hne : ¬ ((j : Int) + 1 = (i : Int) + 1) := by omega
        simp [askT, hne])
      m (by omega) _ (by rw [hq, es]) (by simp; omega)
    rw [cooperagelaw16_LeaseTurn.l0, if_pos (by omega), if_pos (by omega), hr, wrap_succ i (by omega)]
    rw [show lease_Take.f m (g : Int) L Q ((i + 1 : Nat) : Int) ⟨#[110]⟩ (W.getD i false) 10 0 = lease_Take.f m (g : Int) L Q (askT W i).f0 (askT W i).f1 (askT W i).f2 (askT W i).f3 0 from rfl, ht]
    simp only [Option.bind_some, if_true]
    exact h m (by omega)
end Go.Proofs.YtgcghjkaomgloaaDoor.Pl
namespace Go.Proofs.YtgcghjkaomgloaaDoor.Pure
open Go.RowKit Go.Proofs.YtgcghjkaomgloaaDoor.PLease Go.Proofs.YtgcghjkaomgloaaDoorW.PrintWords Go.Proofs.YtgcghjkaomgloaaDoorW.PrintLast
open Go.Proofs.YtgcghjkaomgloaaDoor.Pl
theorem LeaseTurn : cooperagelaw16_LeaseTurn.Pure := by
  intro W O hW0 _ _ hO0 _ _
  obtain ⟨K0, h0⟩ := shown_ev
  by_cases hW : W.length ≤ 40
  · by_cases hO : O.length ≤ 80
    · obtain ⟨K, h⟩ := turn_takes W O hW W.length 0 0 [] [] (by omega) ⟨by omega, by omega, by simp, by simp, by simp, .inl rfl, by omega, by omega, [], [], rfl, by simp, by simp⟩
      refine ⟨K0 + K + 1, ?_⟩
      unfold cooperagelaw16_LeaseTurn.f
      rw [h0 _ (by omega)]
      simp only [Option.bind_some, if_true]
      rw [if_neg (by omega), cooperagelaw16_LeaseTurn.j0, if_neg (by simp; omega)]
      exact h _ (by omega)
    · refine ⟨K0 + 1, ?_⟩
      unfold cooperagelaw16_LeaseTurn.f
      rw [h0 _ (by omega)]
      simp only [Option.bind_some, if_true]
      rw [if_neg (by omega), cooperagelaw16_LeaseTurn.j0, if_pos (by simp; omega)]
  · refine ⟨K0 + 1, ?_⟩
    unfold cooperagelaw16_LeaseTurn.f
    rw [h0 _ (by omega)]
    simp only [Option.bind_some, if_true]
    rw [if_pos (by omega), cooperagelaw16_LeaseTurn.j0, if_pos rfl]
end Go.Proofs.YtgcghjkaomgloaaDoor.Pure
