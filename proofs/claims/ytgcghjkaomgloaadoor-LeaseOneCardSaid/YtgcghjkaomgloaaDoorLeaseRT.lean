/- Renew and Take, in plain words. -/
import Derived.Test.YtgcghjkaomgloaaDoorPLeasex8
import Derived.Test.YtgcghjkaomgloaaDoorLeaseSt
import Derived.Test.YtgcghjkaomgloaaDoorLeasePath
namespace Go.Proofs.YtgcghjkaomgloaaDoor.Pl
open Go.RowKit Go.Proofs.YtgcghjkaomgloaaDoor.PLease Go.Proofs.YtgcghjkaomgloaaDoorW.PrintWords Go.Proofs.YtgcghjkaomgloaaDoorW.PrintLast
theorem map_set_key (L : List S34) (i : Nat) (h : i < L.length) (v : S34) (hv : keyL v = keyL L[i]) : (L.set i v).map keyL = L.map keyL := by
  apply List.ext_getElem
  · simp
  · intro j h1 h2
    simp only [List.getElem_map, List.getElem_set]
    split
    · subst_vars; exact hv
    · rfl
theorem renew_loop (who : Int) (n : ByteArray) (life now last : Int) (Q : List S32) : ∀ (d i : Nat) (L : List S34), i + d = L.length → L.length ≤ 100000 →
    ∃ L', L'.map keyL = L.map keyL ∧ ∀ k, d + 1 ≤ k → ∀ n1 : Int, n1 = (L.length : Int) → lease_Renew.l0 k who n life now n1 (i : Int) last L Q = some (last, L', Q, 0)
  | 0, i, L, e, hl => ⟨L, rfl, fun k hk n1 hn => by
    obtain ⟨m, rfl⟩ : ∃ m, k = m + 1 := ⟨k - 1, by omega⟩
    rw [lease_Renew.l0, if_neg (by omega)]⟩
  | d + 1, i, L, e, hl => by
    have hi : i < L.length := by omega
    by_cases c : L[i].f0 = who ∧ L[i].f1 = n
    · obtain ⟨L', hk', h⟩ := renew_loop who n life now last Q d (i + 1) (L.set i ⟨L[i].f0, L[i].f1, L[i].f2, L[i].f3, wrap64 (now + life)⟩) (by simp; omega) (by simpa using hl)
      refine ⟨L', hk'.trans (map_set_key L i hi _ rfl), fun k hk n1 hn => ?_⟩
      obtain ⟨m, rfl⟩ : ∃ m, k = m + 1 := ⟨k - 1, by omega⟩
      rw [lease_Renew.l0, if_pos (by omega), if_pos (by omega), if_pos (by omega), rd34 L i hi, if_pos c.1, if_pos ((toList_iff _ _).2 c.2), wrap_succ i (by omega), Int.toNat_natCast]
      exact h m (by omega) n1 (by simpa using hn)
    · obtain ⟨L', hk', h⟩ := renew_loop who n life now last Q d (i + 1) L (by omega) hl
      refine ⟨L', hk', fun k hk n1 hn => ?_⟩
      obtain ⟨m, rfl⟩ : ∃ m, k = m + 1 := ⟨k - 1, by omega⟩
      rw [lease_Renew.l0, if_pos (by omega), if_pos (by omega), if_pos (by omega), rd34 L i hi, wrap_succ i (by omega)]
      by_cases c1 : L[i].f0 = who
      · rw [if_pos c1, if_neg (fun c2 => c ⟨c1, (toList_iff _ _).1 c2⟩)]
        exact h m (by omega) n1 hn
      · rw [if_neg c1]
        exact h m (by omega) n1 hn
/-- Renew: what is wrong leaves nothing; else the leases but for when they end. -/
theorem renew_f (last : Int) (L : List S34) (Q : List S32) (who : Int) (n : ByteArray) (token life now : Int) (hL : L.length ≤ 10000) :
    (L.any (validP who n token) = true ∧ ∃ L', L'.map keyL = L.map keyL ∧ ∀ k, 60000 ≤ k → lease_Renew.f k last L Q who n token life now = some (last, L', Q, 0)) ∨
    (∃ e : Int, e ≠ 0 ∧ (livesP life = true → timeP now = true → e = 8) ∧ ∀ k, 60000 ≤ k → lease_Renew.f k last L Q who n token life now = some (0, [], [], e)) := by
  by_cases c : livesP life = true ∧ timeP now = true
  · by_cases v : L.any (validP who n token) = true
    · obtain ⟨L', hk', h⟩ := renew_loop who n life now last Q L.length 0 L (by omega) (by omega)
      refine .inl ⟨v, L', hk', fun k hk => ?_⟩
      obtain ⟨m, rfl⟩ : ∃ m, k = m + 1 := ⟨k - 1, by omega⟩
      unfold lease_Renew.f
      rw [lives_f, c.1]
      simp only [Option.bind_some, if_true]
      rw [time_f, c.2]
      simp only [Option.bind_some]
      rw [lease_Renew.j0, if_neg (by decide), valid_f last L Q who n token (by omega) m (by omega), v]
      simp only [Option.bind_some, if_true]
      unfold lease_Lease_46.f
      simp only [Option.bind_some, List.length_nil, List.nil_append]
      rw [if_pos (by omega)]
      simp only [Option.bind_some]
      exact h m (by omega) _ rfl
    · refine .inr ⟨8, by decide, fun _ _ => rfl, fun k hk => ?_⟩
      obtain ⟨m, rfl⟩ : ∃ m, k = m + 1 := ⟨k - 1, by omega⟩
      unfold lease_Renew.f
      rw [lives_f, c.1]
      simp only [Option.bind_some, if_true]
      rw [time_f, c.2]
      simp only [Option.bind_some]
      rw [lease_Renew.j0, if_neg (by decide), valid_f last L Q who n token (by omega) m (by omega), Bool.eq_false_iff.2 v]
      simp only [Option.bind_some]
      rw [if_neg (by decide)]
  · refine .inr ⟨1, by decide, fun h1 h2 => absurd ⟨h1, h2⟩ c, fun k hk => ?_⟩
    obtain ⟨m, rfl⟩ : ∃ m, k = m + 1 := ⟨k - 1, by omega⟩
    unfold lease_Renew.f
    rw [lives_f]
    simp only [Option.bind_some]
    by_cases h1 : livesP life = true
    · rw [if_pos h1, time_f, Bool.eq_false_iff.2 (fun h2 => c ⟨h1, h2⟩)]
      simp only [Option.bind_some]
      rw [lease_Renew.j0, if_pos (by decide)]
    · rw [if_neg h1, lease_Renew.j0, if_pos rfl]
/-- Take: what is wrong leaves nothing; else the ask is behind the others, and what can be a lease is one. -/
theorem take_f (last : Int) (L : List S34) (Q : List S32) (who : Int) (n : ByteArray) (w : Bool) (life now : Int) (hL : L.length ≤ 200) (hQ : Q.length ≤ 200) (hn : n.size ≤ 150) :
    (∃ e : Int, e ≠ 0 ∧ ∀ k, 80000 ≤ k → lease_Take.f k last L Q who n w life now = some (0, [], [], 0, e)) ∨
    (L.filter (heldP who n) = [] ∧ Q.filter (fun b => decide (b.f0 = who)) = [] ∧ ∀ t : Int × List S34 × List S32, settleS now (Q ++ [⟨who, n, w, life⟩]) last L [] = t → t.2.1.length ≤ 10000 →
      ∃ tok, ∀ k, 80000 ≤ k → lease_Take.f k last L Q who n w life now = some (t.1, t.2.1, t.2.2, tok, 0)) := by
  obtain ⟨b, hb⟩ := path_total n hn
  have open_ : ∀ k, 80000 ≤ k → lease_Take.f k last L Q who n w life now = lease_Take.j0 k now (one34 (L.filter (heldP who n))).2.2.2.2.2 (one32 (Q.filter (fun a => decide (a.f0 = who)))).2.2.2.2 (!(decide (1 ≤ who) && decide (who ≤ 1000) && b && livesP life && timeP now)) last L Q who n w life (one34 (L.filter (heldP who n))).1 (one34 (L.filter (heldP who n))).2.1 (one34 (L.filter (heldP who n))).2.2.1 (one34 (L.filter (heldP who n))).2.2.2.1 (one34 (L.filter (heldP who n))).2.2.2.2.1 := by
    intro k hk
    unfold lease_Take.f
    rw [held_f last L Q who n (by omega) k (by omega), waits_f last L Q who (by omega) k (by omega)]
    simp only [Option.bind_some]
    by_cases h1 : who < 1
    · rw [if_pos h1, decide_eq_false (show ¬ 1 ≤ who by omega)]; rfl
    · rw [if_neg h1, decide_eq_true (show 1 ≤ who by omega)]
      by_cases h2 : who > 1000
      · rw [if_pos h2, decide_eq_false (show ¬ who ≤ 1000 by omega)]; rfl
      · rw [if_neg h2, decide_eq_true (show who ≤ 1000 by omega), hb k (by omega)]
        simp only [Option.bind_some, lives_f, time_f, Bool.true_and]
        cases b with
        | false => rw [if_neg (by decide)]; rfl
        | true =>
          rw [if_pos rfl]
          cases livesP life with
          | false => rw [if_neg (by decide)]; rfl
          | true => rw [if_pos rfl]; rfl
  by_cases bad : (decide (1 ≤ who) && decide (who ≤ 1000) && b && livesP life && timeP now) = true
  · have hg := bad
    simp only [Bool.and_eq_true, decide_eq_true_eq] at hg
    obtain ⟨⟨⟨⟨g1, g2⟩, g3⟩, g4⟩, g5⟩ := hg
    rw [bad] at open_
    cases hh : L.filter (heldP who n) with
    | cons x l =>
      rw [hh] at open_
      simp only [one34, Bool.not_true] at open_
      refine .inl ⟨if w = true ∧ x.f2 = false then 7 else 5, by split <;> decide, fun k hk => ?_⟩
      obtain ⟨m, rfl⟩ : ∃ m, k = m + 2 := ⟨k - 2, by omega⟩
      rw [open_ _ hk, lease_Take.j0, if_neg (by decide), if_pos rfl]
      cases w with
      | false => rw [if_neg (by decide), lease_Take.j1, if_neg (by decide), if_pos rfl, if_neg (by simp)]
      | true =>
        rw [if_pos rfl, lease_Take.j1]
        cases hx : x.f2 with
        | false => rw [if_pos (by decide), if_pos (by simp)]
        | true => rw [if_neg (by decide), if_pos rfl, if_neg (by simp)]
    | nil =>
      rw [hh] at open_
      simp only [one34, Bool.not_true] at open_
      cases hw : Q.filter (fun b => decide (b.f0 = who)) with
      | cons y l =>
        rw [hw] at open_
        simp only [one32] at open_
        refine .inl ⟨7, by decide, fun k hk => ?_⟩
        obtain ⟨m, rfl⟩ : ∃ m, k = m + 2 := ⟨k - 2, by omega⟩
        rw [open_ _ hk, lease_Take.j0, if_neg (by decide), if_neg (by decide), lease_Take.j1, if_neg (by decide), if_neg (by decide), if_pos rfl]
      | nil =>
        rw [hw] at open_
        simp only [one32] at open_
        by_cases hq : Q.length < 100
        · refine .inr ⟨rfl, rfl, fun t ht hl => ⟨(one34 (t.2.1.filter (heldP who n))).2.2.2.1, fun k hk => ?_⟩⟩
          have h := take_ok last L Q ⟨who, n, w, life⟩ now (by omega) hq ⟨g1, g2⟩ (fun k hk => by rw [hb k hk, g3]) g4 g5 hh hw k (by omega) t ht hl
          exact h
        · refine .inl ⟨6, by decide, fun k hk => ?_⟩
          obtain ⟨m, rfl⟩ : ∃ m, k = m + 2 := ⟨k - 2, by omega⟩
          rw [open_ _ hk, lease_Take.j0, if_neg (by decide), if_neg (by decide), lease_Take.j1, if_neg (by decide), if_neg (by decide), if_neg (by decide), if_pos (by omega)]
  · rw [Bool.eq_false_iff.2 bad] at open_
    refine .inl ⟨1, by decide, fun k hk => ?_⟩
    obtain ⟨m, rfl⟩ : ∃ m, k = m + 1 := ⟨k - 1, by omega⟩
    rw [open_ _ hk, lease_Take.j0, if_pos (by decide)]
end Go.Proofs.YtgcghjkaomgloaaDoor.Pl
