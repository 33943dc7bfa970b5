/- An act answers alike in the program and in the document. -/
import Derived.Test.YtjdadmjomjhpcaaDoorPLeasex8
import Derived.Test.YtjdadmjomjhpcaaDoorPLeasex16
import Derived.Test.YtjdadmjomjhpcaaDoorPlaysRef
namespace Go.Proofs.YtjdadmjomjhpcaaDoor.Pl
open Go.RowKit Go.Proofs.YtjdadmjomjhpcaaDoor.PLease Go.Proofs.YtjdadmjomjhpcaaDoorW.PrintWords Go.Proofs.YtjdadmjomjhpcaaDoorW.PrintLast
def Two5 (f : Nat → Option (Int × List S42 × List S49 × Int × Int)) (g : Nat → Option (Int × List S45 × List S52 × Int × Int)) (B : Nat) : Prop :=
  ∃ (r : Int × List S42 × List S49) (tok e : Int), Ev f (r.1, r.2.1, r.2.2, tok, e) ∧ Ev g (r.1, r.2.1.map mL, r.2.2.map mQ, tok, e) ∧ r.2.1.length + r.2.2.length ≤ B ∧ (e ≠ 0 → r = (0, [], []))
theorem two5_err {f : Nat → Option (Int × List S42 × List S49 × Int × Int)} {g : Nat → Option (Int × List S45 × List S52 × Int × Int)} {B : Nat} (e : Int) (h1 : Ev f (0, [], [], 0, e)) (h2 : Ev g (0, [], [], 0, e)) : Two5 f g B :=
  ⟨(0, [], []), 0, e, h1, h2, by simp, fun _ => rfl⟩
/-- Is an ask one at all? -/
def askB (who : Int) (n : ByteArray) (life now : Int) : Bool := decide (1 ≤ who) && (decide (who ≤ 1000) && (pathS n && (livesP life && timeP now)))
theorem take_same (last : Int) (L : List S42) (Q : List S49) (who : Int) (n : ByteArray) (w : Bool) (life now : Int) (hL : L.length ≤ 500) (hQ : Q.length ≤ 500) (hn : n.size ≤ 150) :
    Two5 (fun k => lease_Take.f k last L Q who n w life now) (fun k => cooperageref16_Take.f k last (L.map mL) (Q.map mQ) who n w life now) (L.length + Q.length + 1) := by
  have hh : Ev (fun k => lease_Held.f k last L Q who n) (one42 (L.filter (heldP who n))) := Ev.le (L.length + 1) (fun k hk => held_f last L Q who n (by omega) k hk)
  have hw : Ev (fun k => lease_Waits.f k last L Q who) (one49 (Q.filter (fun a => decide (a.f0 = who)))) := Ev.le (Q.length + 1) (fun k hk => waits_f last L Q who (by omega) k hk)
  have hp : Ev (fun k => text_Path.f k n) (pathS n) := Ev.le 40000 (fun k hk => path_f n hn k hk)
  obtain ⟨H, hH⟩ : ∃ H, H = one42 (L.filter (heldP who n)) := ⟨_, rfl⟩
  obtain ⟨W, hW⟩ : ∃ W, W = one49 (Q.filter (fun a => decide (a.f0 = who))) := ⟨_, rfl⟩
  rw [← hH] at hh
  rw [← hW] at hw
  have hj : ∀ r, Ev (fun k => lease_Take.j0 k now H.2.2.2.2.2 W.2.2.2.2 (!askB who n life now) last L Q who n w life H.1 H.2.1 H.2.2.1 H.2.2.2.1 H.2.2.2.2.1) r → Ev (fun k => lease_Take.f k last L Q who n w life now) r := by
    intro r h
    unfold lease_Take.f
    refine Ev.bind (f := fun k t => _) hh (Ev.bind (f := fun k t => _) hw ?_)
    unfold askB at h
    by_cases c1 : who < 1
    · simp only [if_pos c1]
      rw [decide_eq_false (show ¬ 1 ≤ who by omega), Bool.false_and] at h
      exact h
    · simp only [if_neg c1]
      rw [decide_eq_true (show 1 ≤ who by omega), Bool.true_and] at h
      by_cases c2 : who > 1000
      · simp only [if_pos c2]
        rw [decide_eq_false (show ¬ who ≤ 1000 by omega), Bool.false_and] at h
        exact h
      · simp only [if_neg c2]
        rw [decide_eq_true (show who ≤ 1000 by omega), Bool.true_and] at h
        refine Ev.bind (f := fun k t => _) hp ?_
        cases c3 : pathS n with
        | false => rw [c3, Bool.false_and] at h; exact h
        | true =>
          rw [c3, Bool.true_and] at h
          simp only [if_true, lives_f, Option.bind_some, time_f]
          cases c4 : livesP life with
          | false => rw [c4, Bool.false_and] at h; exact h
          | true => rw [c4, Bool.true_and] at h; exact h
  have hg : ∀ r, Ev (fun k => cooperageref16_Take.j0 k now (!askB who n life now) last (L.map mL) (Q.map mQ) who n w life) r → Ev (fun k => cooperageref16_Take.f k last (L.map mL) (Q.map mQ) who n w life now) r := by
    intro r h
    unfold cooperageref16_Take.f
    refine Ev.bind (f := fun k t => _) (refpath_ev n) ?_
    unfold askB at h
    cases c3 : pathS n with
    | false => rw [c3, Bool.false_and, Bool.and_false, Bool.and_false] at h; exact h
    | true =>
      rw [c3, Bool.true_and] at h
      simp only [if_true]
      by_cases c1 : who < 1
      · simp only [if_pos c1]
        rw [decide_eq_false (show ¬ 1 ≤ who by omega), Bool.false_and] at h
        exact h
      · simp only [if_neg c1]
        rw [decide_eq_true (show 1 ≤ who by omega), Bool.true_and] at h
        by_cases c2 : who > 1000
        · simp only [if_pos c2]
          rw [decide_eq_false (show ¬ who ≤ 1000 by omega), Bool.false_and] at h
          exact h
        · simp only [if_neg c2]
          rw [decide_eq_true (show who ≤ 1000 by omega), Bool.true_and] at h
          rw [reflife_f, reftime_f]
          cases c4 : livesP life with
          | false => rw [c4, Bool.false_and] at h; exact h
          | true => rw [c4, Bool.true_and] at h; exact h
  clear hh hw hp
  by_cases b : askB who n life now = true
  · rw [b] at hj hg
    have hrh := refheld_ev last L (Q.map mQ) who n (by omega)
    have hrw := refwaits_ev last (L.map mL) Q who (by omega)
    rw [← hH] at hrh
    rw [← hW] at hrw
    -- both behind the first test
    have hj0 : ∀ r, Ev (fun k => lease_Take.j1 k now H.2.2.2.2.2 W.2.2.2.2 (H.2.2.2.2.2 && (w && !H.2.2.1)) last L Q who n w life) r → Ev (fun k => lease_Take.f k last L Q who n w life now) r := by
      intro r h
      refine hj r (Ev.step (fun k => by rw [lease_Take.j0, if_neg (by decide)]) ?_)
      cases c1 : H.2.2.2.2.2 with
      | false => rw [c1] at h; exact h
      | true =>
        rw [c1, Bool.true_and] at h
        simp only [if_true]
        cases c2 : w with
        | false => rw [c2] at h; exact h
        | true => rw [c2, Bool.true_and] at h; exact h
    have hg0 : ∀ r, Ev (fun k => cooperageref16_Take.j1 k now H.2.2.2.2.2 (H.2.2.2.2.2 && (w && !H.2.2.1)) last (L.map mL) (Q.map mQ) who n w life) r → Ev (fun k => cooperageref16_Take.f k last (L.map mL) (Q.map mQ) who n w life now) r := by
      intro r h
      refine hg r (Ev.step (fun k => by rw [cooperageref16_Take.j0, if_neg (by decide)]) (Ev.bind (f := fun k t => _) hrh ?_))
      cases c1 : H.2.2.2.2.2 with
      | false => rw [c1] at h; exact h
      | true =>
        rw [c1, Bool.true_and] at h
        simp only [if_true]
        cases c2 : H.2.2.1 with
        | false => rw [c2, Bool.not_false, Bool.and_true] at h; exact h
        | true => rw [c2, Bool.not_true, Bool.and_false] at h; exact h
    clear hj hg
    by_cases e1 : (H.2.2.2.2.2 && (w && !H.2.2.1)) = true
    · rw [e1] at hj0 hg0
      exact two5_err 7 (hj0 _ (Ev.step (f := fun _ => some _) (fun k => by rw [lease_Take.j1, if_pos rfl]) (Ev.now _))) (hg0 _ (Ev.step (f := fun _ => some _) (fun k => by rw [cooperageref16_Take.j1, if_pos rfl]) (Ev.now _)))
    rw [Bool.eq_false_iff.2 e1] at hj0 hg0
    by_cases e2 : H.2.2.2.2.2 = true
    · exact two5_err 5 (hj0 _ (Ev.step (f := fun _ => some _) (fun k => by rw [lease_Take.j1, if_neg (by decide), if_pos e2]) (Ev.now _))) (hg0 _ (Ev.step (f := fun _ => some _) (fun k => by rw [cooperageref16_Take.j1, if_neg (by decide), if_pos e2]) (Ev.now _)))
    by_cases e3 : W.2.2.2.2 = true
    · refine two5_err 7 (hj0 _ (Ev.step (f := fun _ => some _) (fun k => by rw [lease_Take.j1, if_neg (by decide), if_neg e2, if_pos e3]) (Ev.now _))) (hg0 _ (Ev.step (fun k => by rw [cooperageref16_Take.j1, if_neg (by decide), if_neg e2]) (Ev.bind (f := fun k t => _) hrw ?_)))
      simp only [if_pos e3]
      exact Ev.now _
    by_cases e4 : Q.length ≥ 100
    · refine two5_err 6 (hj0 _ (Ev.step (f := fun _ => some _) (fun k => by rw [lease_Take.j1, if_neg (by decide), if_neg e2, if_neg e3, if_pos (by omega)]) (Ev.now _))) (hg0 _ (Ev.step (fun k => by rw [cooperageref16_Take.j1, if_neg (by decide), if_neg e2]) (Ev.bind (f := fun k t => _) hrw ?_)))
      simp only [if_neg e3, List.length_map]
      exact Ev.congr (fun k => by rw [if_pos (by omega)]) (Ev.now _)
    have hsl := settle_len now (Q ++ [⟨who, n, w, life⟩]) last L []
    rw [List.length_append, List.length_singleton, List.length_nil] at hsl
    obtain ⟨t, ht⟩ : ∃ t, t = settleS now (Q ++ [⟨who, n, w, life⟩]) last L [] := ⟨_, rfl⟩
    rw [← ht] at hsl
    refine ⟨t, (one42 (t.2.1.filter (heldP who n))).2.2.2.1, 0, hj0 _ ?_, hg0 _ ?_, by omega, fun h => absurd rfl h⟩
    · refine Ev.step (fun k => by rw [lease_Take.j1, if_neg (by decide), if_neg e2, if_neg e3, if_neg (by omega)]) ?_
      unfold lease_Ask_35.f
      simp only [Option.bind_some, List.length_nil, List.nil_append]
      refine Ev.congr (fun k => by rw [if_pos (by omega), Option.bind_some, if_pos (by rw [List.length_singleton]; omega)]) ?_
      refine Ev.bind (f := fun k t => _) (show Ev (fun k => lease_Table_settle.f k last L (Q ++ [⟨who, n, w, life⟩]) now) t from ht ▸ Ev.le 60000 (fun k hk => settle_f last L _ now (by omega) (by rw [List.length_append, List.length_singleton]; omega) k hk)) ?_
      refine Ev.bind (f := fun k t => _) (Ev.le (t.2.1.length + 1) (fun k hk => held_f t.1 t.2.1 t.2.2 who n (by omega) k hk)) ?_
      exact Ev.now _
    · refine Ev.step (fun k => by rw [cooperageref16_Take.j1, if_neg (by decide), if_neg e2]) (Ev.bind (f := fun k t => _) hrw ?_)
      simp only [if_neg e3, List.length_map, Option.bind_some, List.length_nil, List.nil_append, List.length_singleton]
      refine Ev.congr (fun k => by rw [if_neg (by omega), if_pos (by omega), if_pos (by omega)]) ?_
      refine Ev.bind (f := fun k t => _) (show Ev (fun k => cooperageref16_settle.f k last (L.map mL) (Q.map mQ ++ [⟨who, n, w, life⟩]) now) (mT t) from ?_) ?_
      · have h := refsettle_ev last L (Q ++ [⟨who, n, w, life⟩]) now (by omega) (by rw [List.length_append, List.length_singleton]; omega)
        rw [List.map_append, ← ht] at h
        exact h
      · refine Ev.bind (f := fun k t => _) (refheld_ev t.1 t.2.1 (t.2.2.map mQ) who n (by omega)) ?_
        exact Ev.now _
  · rw [Bool.eq_false_iff.2 b] at hj hg
    exact two5_err 1 (hj _ (Ev.step (f := fun _ => some _) (fun k => by rw [lease_Take.j0, if_pos (by decide)]) (Ev.now _))) (hg _ (Ev.step (f := fun _ => some _) (fun k => by rw [cooperageref16_Take.j0, if_pos (by decide)]) (Ev.now _)))
/-- What an act comes to: the new table, or the old one. -/
def TwoA (f : Nat → Option (Int × List S42 × List S49 × Int × Int)) (g : Nat → Option (Int × List S45 × List S52 × Int × Int)) (B : Nat) : Prop :=
  ∃ (r : Int × List S42 × List S49) (tok e : Int), Ev f (r.1, r.2.1, r.2.2, tok, e) ∧ Ev g (r.1, r.2.1.map mL, r.2.2.map mQ, tok, e) ∧ r.2.1.length + r.2.2.length ≤ B
theorem act_end (last : Int) (L : List S42) (Q : List S49) (B : Nat) (hB : L.length + Q.length ≤ B) (tok e : Int) (r : Int × List S42 × List S49) (hr : r.2.1.length + r.2.2.length ≤ B) (he : e ≠ 0 → r = (0, [], [])) :
    TwoA (fun k => cooperagelaw16_does.j1 k e tok last L Q r.1 r.2.1 r.2.2) (fun k => cooperagelaw16_must.j1 k e tok last (L.map mL) (Q.map mQ) r.1 (r.2.1.map mL) (r.2.2.map mQ)) B := by
  by_cases c : e = 0
  · refine ⟨r, tok, e, Ev.step (f := fun _ => some _) (fun k => by rw [cooperagelaw16_does.j1, if_pos c]) (Ev.now _), Ev.step (f := fun _ => some _) (fun k => by rw [cooperagelaw16_must.j1, if_pos c]) (Ev.now _), hr⟩
  · obtain rfl := he c
    exact ⟨(last, L, Q), 0, e, Ev.step (f := fun _ => some (last, L, Q, 0, e)) (fun k => by
      rw [cooperagelaw16_does.j1, if_neg c]
      show some (last, L, Q, wrap64 (wrap64 (((([] : List S42).length : Nat) : Int) + ((([] : List S49).length : Nat) : Int)) + 0), e) = _
      rw [show wrap64 (wrap64 (((([] : List S42).length : Nat) : Int) + ((([] : List S49).length : Nat) : Int)) + 0) = 0 by simp only [List.length_nil]; unfold wrap64; omega]) (Ev.now _), Ev.step (f := fun _ => some _) (fun k => by rw [cooperagelaw16_must.j1, if_neg c]) (Ev.now _), hB⟩
theorem act_of {f : Nat → Option (Int × List S42 × List S49 × Int × Int)} {g : Nat → Option (Int × List S45 × List S52 × Int × Int)} {f' : Nat → Option (Int × List S42 × List S49 × Int × Int)} {g' : Nat → Option (Int × List S45 × List S52 × Int × Int)} {B : Nat}
    (hf : ∀ r, Ev f r → Ev f' r) (hg : ∀ r, Ev g r → Ev g' r) (h : TwoA f g B) : TwoA f' g' B := by
  obtain ⟨r, tok, e, h1, h2, h3⟩ := h
  exact ⟨r, tok, e, hf _ h1, hg _ h2, h3⟩
theorem act_same (last : Int) (L : List S42) (Q : List S49) (x : S34) (hx : -9223372036854775808 ≤ x.f0 ∧ x.f0 ≤ 9223372036854775807) (hL : L.length + Q.length ≤ 100) (hn : x.f5.size ≤ 150) :
    TwoA (fun k => cooperagelaw16_does.f k last L Q x.f0 x.f1 x.f2 x.f3 x.f4 x.f5 x.f6 x.f4) (fun k => cooperagelaw16_must.f k last (L.map mL) (Q.map mQ) x.f0 x.f1 x.f2 x.f3 x.f4 x.f5 x.f6 x.f4) (L.length + Q.length + 1) := by
  unfold cooperagelaw16_does.f cooperagelaw16_must.f
  rw [pick_f x.f0 10 hx (by decide)]
  simp only [Option.bind_some]
  generalize pickS x.f0 10 = p
  have hj : ∀ b : Bool, TwoA (fun k => cooperagelaw16_does.j0 k x.f4 0 0 p b last L Q x.f0 x.f1 x.f2 x.f3 x.f4 x.f5 x.f6) (fun k => cooperagelaw16_must.j0 k x.f4 0 0 p b last (L.map mL) (Q.map mQ) x.f0 x.f1 x.f2 x.f3 x.f4 x.f5 x.f6) (L.length + Q.length + 1) := by
    intro b
    by_cases c0 : b = true
    · obtain ⟨r, e, h1, h2, h3, h4⟩ := give_same last L Q x.f1 x.f5 x.f3 x.f4 (by omega) (by omega)
      refine act_of (fun r' h => ?_) (fun r' h => ?_) (act_end last L Q _ (by omega) 0 e r (by omega) h4)
      · refine Ev.step (fun k => by rw [cooperagelaw16_does.j0, if_pos c0]) ?_
        exact Ev.bind (f := fun k t => _) h1 h
      · refine Ev.step (fun k => by rw [cooperagelaw16_must.j0, if_pos c0]) ?_
        exact Ev.bind (f := fun k t => _) h2 h
    by_cases c1 : p = 7
    · obtain ⟨r, e, h1, h2, h3, h4⟩ := renew_same last L Q x.f1 x.f5 x.f3 x.f2 x.f4 (by omega)
      refine act_of (fun r' h => ?_) (fun r' h => ?_) (act_end last L Q _ (by omega) 0 e r (by omega) h4)
      · refine Ev.step (fun k => by rw [cooperagelaw16_does.j0, if_neg c0, if_pos c1]) ?_
        exact Ev.bind (f := fun k t => _) h1 h
      · refine Ev.step (fun k => by rw [cooperagelaw16_must.j0, if_neg c0, if_pos c1]) ?_
        exact Ev.bind (f := fun k t => _) h2 h
    by_cases c2 : p = 8
    · obtain ⟨r, h1, h2, h3⟩ := leave_same last L Q x.f1 x.f4 (by omega) (by omega)
      refine act_of (fun r' h => ?_) (fun r' h => ?_) (act_end last L Q _ (by omega) 0 0 r (by omega) (fun h => absurd rfl h))
      · refine Ev.step (fun k => by rw [cooperagelaw16_does.j0, if_neg c0, if_neg c1, if_pos c2]) ?_
        exact Ev.bind (f := fun k t => _) h1 h
      · refine Ev.step (fun k => by rw [cooperagelaw16_must.j0, if_neg c0, if_neg c1, if_pos c2]) ?_
        exact Ev.bind (f := fun k t => _) h2 h
    by_cases c3 : p = 9
    · obtain ⟨r, h1, h2, h3⟩ := tick_same last L Q x.f4 (by omega) (by omega)
      refine act_of (fun r' h => ?_) (fun r' h => ?_) (act_end last L Q _ (by omega) 0 0 r (by omega) (fun h => absurd rfl h))
      · refine Ev.step (fun k => by rw [cooperagelaw16_does.j0, if_neg c0, if_neg c1, if_neg c2, if_pos c3]) ?_
        exact Ev.bind (f := fun k t => _) h1 h
      · refine Ev.step (fun k => by rw [cooperagelaw16_must.j0, if_neg c0, if_neg c1, if_neg c2, if_pos c3]) ?_
        exact Ev.bind (f := fun k t => _) h2 h
    obtain ⟨r, tok, e, h1, h2, h3, h4⟩ := take_same last L Q x.f1 x.f5 x.f6 x.f2 x.f4 (by omega) (by omega) hn
    refine act_of (fun r' h => ?_) (fun r' h => ?_) (act_end last L Q _ (by omega) tok e r h3 h4)
    · refine Ev.step (fun k => by rw [cooperagelaw16_does.j0, if_neg c0, if_neg c1, if_neg c2, if_neg c3]) ?_
      exact Ev.bind (f := fun k t => _) h1 h
    · refine Ev.step (fun k => by rw [cooperagelaw16_must.j0, if_neg c0, if_neg c1, if_neg c2, if_neg c3]) ?_
      exact Ev.bind (f := fun k t => _) h2 h
  by_cases c : p = 5
  · simp only [if_pos c]
    exact hj _
  · simp only [if_neg c]
    exact hj _
end Go.Proofs.YtjdadmjomjhpcaaDoor.Pl
