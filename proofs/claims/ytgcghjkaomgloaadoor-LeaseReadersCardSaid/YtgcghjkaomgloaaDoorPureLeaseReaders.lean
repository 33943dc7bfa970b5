/- LeaseReaders, in plain words. -/
import Derived.Test.YtgcghjkaomgloaaDoorPLeasex10
import Derived.Test.YtgcghjkaomgloaaDoorLeaseMore
import Derived.Test.YtgcghjkaomgloaaDoorLeaseShown
namespace Go.Proofs.YtgcghjkaomgloaaDoor.Pl
open Go.RowKit Go.Proofs.YtgcghjkaomgloaaDoor.PLease Go.Proofs.YtgcghjkaomgloaaDoorW.PrintWords Go.Proofs.YtgcghjkaomgloaaDoorW.PrintLast
def X120 : ByteArray := ⟨#[120]⟩
def askR (n j : Nat) : S32 := ⟨(j : Int), X120, ((j : Int) == (n : Int) + 1), 99⟩
def leaseR (j : Nat) : S34 := ⟨(j : Int), X120, false, (j : Int), 99⟩
theorem settle_grant (now : Int) : ∀ (q : List S32) (last : Int) (L : List S34), (∀ a ∈ q, a.f2 = false) → (∀ x ∈ L, x.f2 = false) → L.length + q.length < 200 →
    ∃ last' L', settleS now q last L [] = (last', L', []) ∧ L'.length = L.length + q.length
  | [], last, L, _, _, _ => ⟨last, L, rfl, rfl⟩
  | a :: q, last, L, hq, hL, hl => by
    have hb : ¬ blkS L [] a = true := by
      unfold blkS
      rw [Bool.or_eq_true, List.any_eq_true]
      rintro (⟨x, hx, h⟩ | h)
      · simp [hitP, hL x hx, hq a (by simp)] at h
      · simp at h
    simp only [List.length_cons] at hl
    unfold settleS
    rw [if_neg (fun c => c.elim hb (fun c => by omega))]
    obtain ⟨last', L', e, h⟩ := settle_grant now q (wrap64 (last + 1)) (L ++ [⟨a.f0, a.f1, a.f2, wrap64 (last + 1), wrap64 (now + a.f3)⟩]) (fun x hx => hq x (by simp [hx])) (by
      intro x hx
      rcases List.mem_append.1 hx with h | h
      · exact hL x h
      · obtain rfl := List.mem_singleton.1 h; exact hq a (by simp)) (by simp; omega)
    exact ⟨last', L', e, by rw [h]; simp; omega⟩
theorem drop_one (nm : ByteArray) : ∀ (L : List S34) (x : S34), x ∈ L → (∀ y ∈ L, y.f1 = nm) → (L.map (fun y => y.f0)).Nodup → (L.filter (fun y => !heldP x.f0 nm y)).length + 1 = L.length
  | [], x, h, _, _ => by cases h
  | y :: L, x, h, hn, hd => by
    rw [List.map_cons, List.nodup_cons] at hd
    rcases List.mem_cons.1 h with rfl | h
    · have e : L.filter (fun z => !heldP x.f0 nm z) = L := by
        rw [List.filter_eq_self]
        intro z hz
        have : z.f0 ≠ x.f0 := fun c => hd.1 (c ▸ List.mem_map.2 ⟨z, hz, rfl⟩)
        simp [heldP, this]
      rw [List.filter_cons_of_neg (by simp [heldP, hn x (by simp)]), e]
      rfl
    · have : y.f0 ≠ x.f0 := fun c => hd.1 (c ▸ List.mem_map.2 ⟨x, h, rfl⟩)
      rw [List.filter_cons_of_pos (by simp [heldP, this]), List.length_cons, drop_one nm L x h (fun z hz => hn z (by simp [hz])) hd.2]
      rfl
structure InvR (n i : Nat) (L : List S34) : Prop where
  all : ∀ x ∈ L, x.f1 = X120 ∧ x.f2 = false ∧ x.f0 ≤ (n : Int)
  nd : (L.map (fun y => y.f0)).Nodup
  len : L.length + i = n
theorem writer_blocked (n : Nat) (L : List S34) (hL : ∀ x ∈ L, x.f1 = X120) (hp : 0 < L.length) : blkS L [] (askR n (n + 1)) = true := by
  cases L with
  | nil => simp at hp
  | cons x L =>
    have := hL x (by simp)
    simp [blkS, hitP, askR, this]
theorem asks_name (n a b : Nat) : ∀ x ∈ (List.range' a b).map (askR n), x.f1 = X120 := fun x hx => by
  obtain ⟨j, _, rfl⟩ := List.mem_map.1 hx
  rfl
theorem settle_waits (n d : Nat) (now last : Int) (L : List S34) (hL : ∀ x ∈ L, x.f1 = X120) (hp : 0 < L.length) :
    settleS now ((List.range' (n + 1) (d + 1)).map (askR n)) last L [] = (last, L, (List.range' (n + 1) (d + 1)).map (askR n)) := by
  rw [List.range'_succ, List.map_cons]
  unfold settleS
  rw [if_pos (.inl (writer_blocked n L hL hp)), settle_stuck X120 now last L _ _ (asks_name n _ _) ⟨_, List.mem_append_right _ (List.mem_singleton.2 rfl), rfl⟩]
  simp
theorem readers_end (x2 : List Int) (n m : Nat) (hn : 1 ≤ n) (hn' : n ≤ 20) (hm : m ≤ 20) (w : S34) (hw : w.f0 = (n : Int) + 1) (hw1 : w.f1 = X120) (hw2 : w.f2 = true) :
    ∀ k, 100000 ≤ k → cooperagelaw16_LeaseReaders.l1 k x2 n m n ((n : Int) + 1) [w] ((List.range' (n + 2) m).map (askR n)) = some true := by
  intro k hk
  obtain ⟨k, rfl⟩ : ∃ k', k = k' + 2 := ⟨k - 2, by omega⟩
  have hf : [w].filter (heldP (((n + 1 : Nat) : Int)) X120) = [w] := by simp [heldP, hw, hw1]
  have hql : ((List.range' (n + 2) m).map (askR n)).length = m := by simp
  have hq : ((List.range' (n + 2) m).map (askR n)).filter (fun a => !decide (a.f0 = ((n + 1 : Nat) : Int))) = (List.range' (n + 2) m).map (askR n) := by
    rw [List.filter_eq_self]
    intro a ha
    obtain ⟨j, hj, rfl⟩ := List.mem_map.1 ha
    have := List.mem_range'_1.1 hj
    have hne : ¬ ((j : Int) = (n : Int) + 1) := by omega
    simp [askR, hne]
  obtain ⟨last', L', e, hl'⟩ := settle_grant 2 ((List.range' (n + 2) m).map (askR n)) ((n : Int) + 1) [] (by
    intro a ha
    obtain ⟨j, hj, rfl⟩ := List.mem_map.1 ha
    have := List.mem_range'_1.1 hj
    have hne : ¬ ((j : Int) = (n : Int) + 1) := by omega
    simp [askR, hne]) (by simp) (by simp; omega)
  have hlv := leave_f ((n : Int) + 1) [w] ((List.range' (n + 2) m).map (askR n)) ((n + 1 : Nat) : Int) 2 (by simp) (by simp; omega) k (by omega)
  unfold leaveS at hlv
  rw [if_pos (by decide), hq, show [w].filter (fun x => !decide (x.f0 = ((n + 1 : Nat) : Int))) = [] by simp [hw], e] at hlv
  rw [cooperagelaw16_LeaseReaders.l1, if_neg (by omega), wrap_succ n (by omega), held_f _ _ _ _ _ (by simp) (k + 1) (by simp; omega), show (⟨#[120]⟩ : ByteArray) = X120 from rfl, hf]
  simp only [Option.bind_some, one34, if_true]
  rw [if_pos hw2, if_pos (by simp), hql, show (((m : Nat) : Int) != (m : Int)) = false by simp, cooperagelaw16_LeaseReaders.j6, if_neg (by decide), wrap_succ n (by omega), hlv]
  simp only [Option.bind_some]
  rw [if_pos (by rw [hl', hql]; simp)]
  rfl
theorem settle_behind (n a b : Nat) (now last : Int) (w : S34) (hw1 : w.f1 = X120) (hw2 : w.f2 = true) :
    settleS now ((List.range' a b).map (askR n)) last [w] [] = (last, [w], (List.range' a b).map (askR n)) := by
  cases b with
  | zero => rfl
  | succ b =>
    rw [List.range'_succ, List.map_cons]
    unfold settleS
    rw [if_pos (.inl (by simp [blkS, hitP, askR, hw1, hw2])), settle_stuck X120 now last [w] _ _ (asks_name n _ _) ⟨_, List.mem_append_right _ (List.mem_singleton.2 rfl), rfl⟩]
    simp
theorem readers_give (x2 : List Int) (hx2 : ∀ c ∈ x2, (Lit.int .i64 c).wf = true) (n m : Nat) (hn : 1 ≤ n) (hn' : n ≤ 20) (hm : m ≤ 20) : ∀ (d i : Nat) (L : List S34), i + d = n → 1 ≤ d → InvR n i L →
    ∃ K, ∀ k, K ≤ k → cooperagelaw16_LeaseReaders.l1 k x2 n m i (n : Int) L ((List.range' (n + 1) (m + 1)).map (askR n)) = some true
  | 0, i, L, _, h, _ => absurd h (by omega)
  | d + 1, i, L, hid, _, hI => by
    have hlen := hI.len
    have main : ∀ c : Int, -9223372036854775808 ≤ c ∧ c ≤ 9223372036854775807 → ∃ K, ∀ k, K ≤ k → cooperagelaw16_LeaseReaders.j4 k x2 n m i c (n : Int) L ((List.range' (n + 1) (m + 1)).map (askR n)) = some true := by
      intro c hc
      have hp := pickS_lt c L.length (by omega)
      obtain ⟨t, ht⟩ : ∃ t : Nat, pickS c L.length = (t : Int) := ⟨(pickS c L.length).toNat, by omega⟩
      have htl : t < L.length := by omega
      obtain ⟨x, hxe⟩ : ∃ x, x = L[t] := ⟨_, rfl⟩
      have hx : x ∈ L := by rw [hxe]; exact List.getElem_mem htl
      have hfl := drop_one X120 L x hx (fun y hy => (hI.all y hy).1) hI.nd
      have hql : ((List.range' (n + 1) (m + 1)).map (askR n)).length = m + 1 := by simp
      have next : ∃ K, ∀ k, K ≤ k → ∀ R, settleS 1 ((List.range' (n + 1) (m + 1)).map (askR n)) (n : Int) (L.filter (fun y => !heldP x.f0 X120 y)) [] = R → cooperagelaw16_LeaseReaders.l1 k x2 n m ((i + 1 : Nat) : Int) R.1 R.2.1 R.2.2 = some true := by
        by_cases hd : d = 0
        · have h0 : L.filter (fun y => !heldP x.f0 X120 y) = [] := List.eq_nil_of_length_eq_zero (by omega)
          refine ⟨100000, fun k hk R hR => ?_⟩
          rw [h0, List.range'_succ, List.map_cons] at hR
          unfold settleS at hR
          rw [if_neg (by simp [blkS]), wrap_succ n (by omega), List.nil_append, settle_behind n _ _ _ _ _ rfl (by simp [askR])] at hR
          subst hR
          have e := readers_end x2 n m hn hn' hm ⟨(askR n (n + 1)).f0, (askR n (n + 1)).f1, (askR n (n + 1)).f2, ((n + 1 : Nat) : Int), wrap64 (1 + (askR n (n + 1)).f3)⟩ (by simp [askR]) rfl (by simp [askR]) k hk
          rw [show i + 1 = n by omega]
          exact e
        · obtain ⟨K, h⟩ := readers_give x2 hx2 n m hn hn' hm d (i + 1) (L.filter (fun y => !heldP x.f0 X120 y)) (by omega) (by omega)
            ⟨fun y hy => hI.all y (List.mem_filter.1 hy).1, List.Nodup.sublist (List.Sublist.map _ List.filter_sublist) hI.nd, by omega⟩
          refine ⟨K, fun k hk R hR => ?_⟩
          rw [settle_waits n m 1 n _ (fun y hy => (hI.all y (List.mem_filter.1 hy).1).1) (by omega)] at hR
          subst hR
          exact h k hk
      obtain ⟨K, h⟩ := next
      refine ⟨max K 100000 + 2, fun k hk => ?_⟩
      obtain ⟨k, rfl⟩ : ∃ k', k = k' + 2 := ⟨k - 2, by omega⟩
      have hf0 : L.filter (heldP ((n + 1 : Nat) : Int) X120) = [] := by
        rw [List.filter_eq_nil_iff]
        intro y hy
        have := (hI.all y hy).2.2
        have hne : ¬ y.f0 = ((n + 1 : Nat) : Int) := by omega
        simp only [heldP, hne, decide_false, Bool.false_and]
        decide
      have hv : L.any (validP x.f0 X120 x.f3) = true := List.any_eq_true.2 ⟨x, hx, by simp [validP, (hI.all x hx).1]⟩
      rw [cooperagelaw16_LeaseReaders.j4, pick_f c L.length hc (by omega), ht]
      simp only [Option.bind_some]
      rw [if_pos (by omega), if_pos (by omega), rd34 L t htl, ← hxe, wrap_succ n (by omega), show (⟨#[120]⟩ : ByteArray) = X120 from rfl, held_f _ _ _ _ _ (by omega) (k + 1) (by omega), hf0]
      simp only [Option.bind_some, one34]
      obtain ⟨R, hR⟩ : ∃ R, R = settleS 1 ((List.range' (n + 1) (m + 1)).map (askR n)) (n : Int) (L.filter (fun y => !heldP x.f0 X120 y)) [] := ⟨_, rfl⟩
      have hg : giveS (n : Int) L ((List.range' (n + 1) (m + 1)).map (askR n)) x.f0 X120 x.f3 1 = (R.1, R.2.1, R.2.2, 0) := by
        unfold giveS
        rw [if_pos (by decide), if_pos hv, ← hR]
      rw [give_f _ _ _ _ _ _ _ (by omega) (by omega) (k + 1) (by omega), hg]
      simp only [Option.bind_some]
      rw [if_neg (by decide), show ((0 : Int) != 0) = false by decide, cooperagelaw16_LeaseReaders.j5, if_neg (by decide), wrap_succ i (by omega)]
      exact h k (by omega) R hR.symm
    by_cases hi : i < x2.length
    · obtain ⟨K, h⟩ := main (rd x2 i) (by
        have e : rd x2 (i : Int) = x2[i] := by
          unfold rd
          rw [Int.toNat_natCast, List.getD_eq_getElem?_getD, List.getElem?_eq_getElem hi]
          rfl
        rw [e]
        exact wf_i64 (hx2 _ (List.getElem_mem hi)))
      refine ⟨K + 1, fun k hk => ?_⟩
      obtain ⟨k, rfl⟩ : ∃ k', k = k' + 1 := ⟨k - 1, by omega⟩
      rw [cooperagelaw16_LeaseReaders.l1, if_pos (by omega), if_pos (by omega), if_pos (by omega)]
      exact h k (by omega)
    · obtain ⟨K, h⟩ := main 0 (by omega)
      refine ⟨K + 1, fun k hk => ?_⟩
      obtain ⟨k, rfl⟩ : ∃ k', k = k' + 1 := ⟨k - 1, by omega⟩
      rw [cooperagelaw16_LeaseReaders.l1, if_pos (by omega), if_neg (by omega)]
      exact h k (by omega)
theorem readers_all (_n g : Nat) : ∀ x ∈ (List.range' 1 g).map leaseR, x.f1 = X120 ∧ x.f2 = false ∧ 1 ≤ x.f0 ∧ x.f0 ≤ (g : Int) := fun x hx => by
  obtain ⟨j, hj, rfl⟩ := List.mem_map.1 hx
  have := List.mem_range'_1.1 hj
  exact ⟨rfl, rfl, by show (1 : Int) ≤ (j : Int); omega, by show (j : Int) ≤ (g : Int); omega⟩
/-- Asks behind the writer. -/
theorem readers_behind (x2 : List Int) (hx2 : ∀ c ∈ x2, (Lit.int .i64 c).wf = true) (n m : Nat) (hn : 1 ≤ n) (hn' : n ≤ 20) (hm : m ≤ 20) : ∀ (d j : Nat), j + d = m + 1 →
    ∃ K, ∀ k, K ≤ k → cooperagelaw16_LeaseReaders.l0 k x2 n m ((n + 1 + j : Nat) : Int) (n : Int) ((List.range' 1 n).map leaseR) ((List.range' (n + 1) j).map (askR n)) = some true
  | 0, j, e => by
    obtain ⟨K, h⟩ := readers_give x2 hx2 n m hn hn' hm n 0 ((List.range' 1 n).map leaseR) (by omega) hn ⟨fun x hx => by
        have := readers_all n n x hx
        exact ⟨this.1, this.2.1, this.2.2.2⟩, by
        rw [List.map_map]
        exact List.Pairwise.map (fun j : Nat => (j : Int)) (fun a b h => by intro c; exact h (by exact_mod_cast c)) List.nodup_range', by simp⟩
    refine ⟨K + 1, fun k hk => ?_⟩
    obtain ⟨k, rfl⟩ : ∃ k', k = k' + 1 := ⟨k - 1, by omega⟩
    rw [cooperagelaw16_LeaseReaders.l0, wrap_succ n (by omega), wrap_sm (by omega) (by omega), if_neg (by omega), show j = m + 1 by omega]
    exact h k (by omega)
  | d + 1, j, e => by
    obtain ⟨K, h⟩ := readers_behind x2 hx2 n m hn hn' hm d (j + 1) (by omega)
    have hq : (List.range' (n + 1) j).map (askR n) ++ [askR n (n + 1 + j)] = (List.range' (n + 1) (j + 1)).map (askR n) := by
      rw [List.range'_concat, List.map_append, Nat.one_mul]
      rfl
    have hs := settle_waits n j 0 n ((List.range' 1 n).map leaseR) (fun x hx => (readers_all n n x hx).1) (by simp; omega)
    have hf : ((List.range' 1 n).map leaseR).filter (heldP (askR n (n + 1 + j)).f0 X120) = [] := by
      rw [List.filter_eq_nil_iff]
      intro y hy
      have := (readers_all n n y hy).2.2.2
      have hne : ¬ y.f0 = ((n + 1 + j : Nat) : Int) := by omega
      simp only [heldP, askR, hne, decide_false, Bool.false_and]
      decide
    refine ⟨max K 100000 + 2, fun k hk => ?_⟩
    obtain ⟨k, rfl⟩ : ∃ k', k = k' + 2 := ⟨k - 2, by omega⟩
    have ht := take_ok (n : Int) ((List.range' 1 n).map leaseR) ((List.range' (n + 1) j).map (askR n)) (askR n (n + 1 + j)) 0 (by simp; omega) (by simp; omega) (by simp only [askR]; omega) (fun k hk => path_x k hk) (show livesP 99 = true by decide) (by decide) hf
      (by
        rw [List.filter_eq_nil_iff]
        intro a ha
        obtain ⟨i, hi, rfl⟩ := List.mem_map.1 ha
        have := List.mem_range'_1.1 hi
        have hne : ¬ ((i : Int) = ((n + 1 + j : Nat) : Int)) := by omega
        simp only [askR, hne, decide_false]
        decide)
      (k + 1) (by omega) ((n : Int), (List.range' 1 n).map leaseR, (List.range' (n + 1) (j + 1)).map (askR n)) (by rw [hq]; exact hs) (by simp; omega)
    rw [cooperagelaw16_LeaseReaders.l0, wrap_succ n (by omega), wrap_sm (i := ((n + 1 : Nat) : Int) + (m : Int)) (by omega) (by omega), if_pos (by omega)]
    rw [show lease_Take.f (k + 1) (n : Int) ((List.range' 1 n).map leaseR) ((List.range' (n + 1) j).map (askR n)) ((n + 1 + j : Nat) : Int) ⟨#[120]⟩ (((n + 1 + j : Nat) : Int) == ((n + 1 : Nat) : Int)) 99 0 = lease_Take.f (k + 1) (n : Int) ((List.range' 1 n).map leaseR) ((List.range' (n + 1) j).map (askR n)) (askR n (n + 1 + j)).f0 (askR n (n + 1 + j)).f1 (askR n (n + 1 + j)).f2 (askR n (n + 1 + j)).f3 0 from rfl, ht]
    simp only [Option.bind_some]
    rw [show (askR n (n + 1 + j)).f1 = X120 from rfl, hf]
    have hj : ∀ b, b = false → cooperagelaw16_LeaseReaders.j2 (k + 1) x2 n m ((n + 1 + j : Nat) : Int) b (n : Int) ((List.range' 1 n).map leaseR) ((List.range' (n + 1) (j + 1)).map (askR n)) = some true := fun b hb => by
      subst hb
      rw [cooperagelaw16_LeaseReaders.j2, if_neg (by decide), wrap_succ (n + 1 + j) (by omega)]
      exact h k (by omega)
    simp only [one34, if_true]
    exact hj _ (by simp; omega)
/-- Readers ahead of the writer. -/
theorem readers_ahead (x2 : List Int) (hx2 : ∀ c ∈ x2, (Lit.int .i64 c).wf = true) (n m : Nat) (hn : 1 ≤ n) (hn' : n ≤ 20) (hm : m ≤ 20) : ∀ (d g : Nat), g + d = n →
    ∃ K, ∀ k, K ≤ k → cooperagelaw16_LeaseReaders.l0 k x2 n m ((g + 1 : Nat) : Int) (g : Int) ((List.range' 1 g).map leaseR) [] = some true
  | 0, g, e => by
    obtain ⟨K, h⟩ := readers_behind x2 hx2 n m hn hn' hm (m + 1) 0 (by omega)
    refine ⟨K, fun k hk => ?_⟩
    obtain rfl : g = n := by omega
    exact h k hk
  | d + 1, g, e => by
    obtain ⟨K, h⟩ := readers_ahead x2 hx2 n m hn hn' hm d (g + 1) (by omega)
    have hne' : ((((g + 1 : Nat) : Int)) == (n : Int) + 1) = false := by rw [beq_int]; exact decide_eq_false (by omega)
    have hl : (List.range' 1 g).map leaseR ++ [leaseR (g + 1)] = (List.range' 1 (g + 1)).map leaseR := by
      rw [List.range'_concat, List.map_append, Nat.one_mul, Nat.add_comm 1 g]
      rfl
    have hs : settleS 0 ([] ++ [askR n (g + 1)]) (g : Int) ((List.range' 1 g).map leaseR) [] = (((g + 1 : Nat) : Int), (List.range' 1 (g + 1)).map leaseR, []) := by
      have hb : ¬ blkS ((List.range' 1 g).map leaseR) [] (askR n (g + 1)) = true := by
        unfold blkS
        rw [Bool.or_eq_true, List.any_eq_true]
        rintro (⟨x, hx, h⟩ | h)
        · have := (readers_all n g x hx).2.1
          simp only [hitP, this, askR, hne', Bool.or_self, Bool.and_false] at h
          cases h
        · simp at h
      rw [List.nil_append]
      unfold settleS
      rw [if_neg (fun c => c.elim hb (fun c => by simp at c; omega)), wrap_succ g (by omega), ← hl]
      unfold settleS
      simp only [askR, hne']
      rw [show wrap64 (0 + 99) = 99 from wrap_sm (i := 0 + 99) (by omega) (by omega)]
      rfl
    have hf : ((List.range' 1 g).map leaseR).filter (heldP (askR n (g + 1)).f0 X120) = [] := by
      rw [List.filter_eq_nil_iff]
      intro y hy
      have := (readers_all n g y hy).2.2.2
      have hne : ¬ y.f0 = ((g + 1 : Nat) : Int) := by omega
      simp only [heldP, askR, hne, decide_false, Bool.false_and]
      decide
    refine ⟨max K 100000 + 2, fun k hk => ?_⟩
    obtain ⟨k, rfl⟩ : ∃ k', k = k' + 2 := ⟨k - 2, by omega⟩
    have ht := take_ok (g : Int) ((List.range' 1 g).map leaseR) [] (askR n (g + 1)) 0 (by simp; omega) (by simp) (by simp only [askR]; omega) (fun k hk => path_x k hk) (show livesP 99 = true by decide) (by decide) hf rfl
      (k + 1) (by omega) _ hs (by simp; omega)
    rw [cooperagelaw16_LeaseReaders.l0, wrap_succ n (by omega), wrap_sm (i := ((n + 1 : Nat) : Int) + (m : Int)) (by omega) (by omega), if_pos (by omega)]
    rw [show lease_Take.f (k + 1) (g : Int) ((List.range' 1 g).map leaseR) [] ((g + 1 : Nat) : Int) ⟨#[120]⟩ (((g + 1 : Nat) : Int) == ((n + 1 : Nat) : Int)) 99 0 = lease_Take.f (k + 1) (g : Int) ((List.range' 1 g).map leaseR) [] (askR n (g + 1)).f0 (askR n (g + 1)).f1 (askR n (g + 1)).f2 (askR n (g + 1)).f3 0 from rfl, ht]
    simp only [Option.bind_some]
    rw [show (askR n (g + 1)).f1 = X120 from rfl, ← hl, List.filter_append, hf, List.nil_append, show [leaseR (g + 1)].filter (heldP (askR n (g + 1)).f0 X120) = [leaseR (g + 1)] by simp [heldP, askR, leaseR]]
    have hj : ∀ b, b = false → cooperagelaw16_LeaseReaders.j2 (k + 1) x2 n m ((g + 1 : Nat) : Int) b ((g + 1 : Nat) : Int) ((List.range' 1 (g + 1)).map leaseR) [] = some true := fun b hb => by
      subst hb
      rw [cooperagelaw16_LeaseReaders.j2, if_neg (by decide), wrap_succ (g + 1) (by omega)]
      exact h k (by omega)
    simp only [one34, if_true]
    rw [hl]
    exact hj _ (by simp [leaseR]; omega)
end Go.Proofs.YtgcghjkaomgloaaDoor.Pl
namespace Go.Proofs.YtgcghjkaomgloaaDoor.Pure
open Go.RowKit Go.Proofs.YtgcghjkaomgloaaDoor.PLease Go.Proofs.YtgcghjkaomgloaaDoorW.PrintWords Go.Proofs.YtgcghjkaomgloaaDoorW.PrintLast
open Go.Proofs.YtgcghjkaomgloaaDoor.Pl
theorem LeaseReaders : cooperagelaw16_LeaseReaders.Pure := by
  intro a0 a1 l2 w0 w1 _ _ e2
  obtain ⟨K0, h0⟩ := shown_ev
  have p0 := pickS_lt a0 20 (by omega)
  have p1 := pickS_lt a1 20 (by omega)
  obtain ⟨n, hn⟩ : ∃ n : Nat, 1 + pickS a0 20 = (n : Int) := ⟨(1 + pickS a0 20).toNat, by omega⟩
  obtain ⟨m, hm⟩ : ∃ m : Nat, pickS a1 20 = (m : Int) := ⟨(pickS a1 20).toNat, by omega⟩
  obtain ⟨K, h⟩ := readers_ahead l2 e2 n m (by omega) (by omega) (by omega) n 0 (by omega)
  refine ⟨K0 + K + 1, ?_⟩
  unfold cooperagelaw16_LeaseReaders.f
  rw [h0 _ (by omega), pick_f a0 20 (wf_i64 w0) (by omega), pick_f a1 20 (wf_i64 w1) (by omega)]
  simp only [Option.bind_some, if_true]
  rw [wrap_sm (by omega) (by omega), hn, hm, cooperagelaw16_LeaseReaders.j0]
  split
  · rfl
  · exact h _ (by omega)
end Go.Proofs.YtgcghjkaomgloaaDoor.Pure
