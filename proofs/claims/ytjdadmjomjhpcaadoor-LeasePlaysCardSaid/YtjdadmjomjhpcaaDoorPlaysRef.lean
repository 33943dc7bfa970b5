/- The document's lease functions come to what the program's come to. -/
import Derived.Test.YtjdadmjomjhpcaaDoorPLeasex15
import Derived.Test.YtjdadmjomjhpcaaDoorPLeasex11
import Derived.Test.YtjdadmjomjhpcaaDoorPLeasex12
import Derived.Test.YtjdadmjomjhpcaaDoorPLeasex13
import Derived.Test.YtjdadmjomjhpcaaDoorPLeasex10
import Derived.Test.YtjdadmjomjhpcaaDoorPLeasex9
import Derived.Test.YtjdadmjomjhpcaaDoorPlaysPure
import Derived.Test.YtjdadmjomjhpcaaDoorPlaysPath
namespace Go.Proofs.YtjdadmjomjhpcaaDoor.Pl
open Go.RowKit Go.Proofs.YtjdadmjomjhpcaaDoor.PLease Go.Proofs.YtjdadmjomjhpcaaDoorW.PrintWords Go.Proofs.YtjdadmjomjhpcaaDoorW.PrintLast
def mL (x : S42) : S45 := ⟨x.f0, x.f1, x.f2, x.f3, x.f4⟩
def mQ (x : S49) : S52 := ⟨x.f0, x.f1, x.f2, x.f3⟩
def mT (t : Int × List S42 × List S49) : Int × List S45 × List S52 := (t.1, t.2.1.map mL, t.2.2.map mQ)
theorem rd45_mid (pre post : List S42) (x : S42) : rd_T45 ((pre ++ x :: post).map mL) (pre.length : Int) = mL x := by
  unfold rd_T45
  rw [Int.toNat_natCast, List.map_append, List.map_cons, List.getD_eq_getElem?_getD, List.getElem?_append_right (by rw [List.length_map]; exact Nat.le_refl _), List.length_map, Nat.sub_self]
  rfl
theorem rd52_mid (pre post : List S49) (x : S49) : rd_T52 ((pre ++ x :: post).map mQ) (pre.length : Int) = mQ x := by
  unfold rd_T52
  rw [Int.toNat_natCast, List.map_append, List.map_cons, List.getD_eq_getElem?_getD, List.getElem?_append_right (by rw [List.length_map]; exact Nat.le_refl _), List.length_map, Nat.sub_self]
  rfl
theorem lt_mid {α β : Type} (f : α → β) (pre post : List α) (x : α) : (pre.length : Int) < (((pre ++ x :: post).map f).length : Int) := by
  rw [List.length_map, List.length_append, List.length_cons]
  omega
theorem len_mid {α : Type} {L pre post : List α} {x : α} {B : Nat} (h : L = pre ++ x :: post) (hB : L.length ≤ B) : pre.length + 1 ≤ B := by
  rw [h, List.length_append, List.length_cons] at hB
  omega
/-- A loop that tells of the first of a row for which something holds. -/
theorem find_loop {α β : Type} (P : α → Bool) (r : α → β) (L : List α) (D : β) (F : Nat → Int → Option β)
    (hF : ∀ pre x post, L = pre ++ x :: post → ∀ k, F (k + 1) (pre.length : Int) = if P x = true then some (r x) else F k ((pre.length + 1 : Nat) : Int))
    (hD : Ev (fun k => F k (L.length : Int)) D) : ∀ (rest pre : List α), L = pre ++ rest → Ev (fun k => F k (pre.length : Int)) (((rest.find? P).map r).getD D)
  | [], pre, hd => by
    rw [List.append_nil] at hd
    rw [← hd]
    exact hD
  | x :: t, pre, hd => by
    have ih := find_loop P r L D F hF hD t (pre ++ [x]) (by rw [hd]; simp)
    rw [show (pre ++ [x]).length = pre.length + 1 by simp] at ih
    rw [List.find?_cons]
    cases c : P x with
    | true => exact Ev.step (f := fun _ => some (r x)) (fun k => by rw [hF pre x t hd k, if_pos c]) (Ev.now _)
    | false => exact Ev.step (fun k => by rw [hF pre x t hd k, if_neg (by rw [c]; decide)]) ih
/-- A loop that gathers those of a row for which something holds. -/
theorem filt_loop {α β : Type} (P : α → Bool) (L : List α) (F : Nat → List α → Int → Option β)
    (hF : ∀ pre x post, L = pre ++ x :: post → ∀ acc, acc.length ≤ pre.length → ∀ k, F (k + 1) acc (pre.length : Int) = if P x = true then F k (acc ++ [x]) ((pre.length + 1 : Nat) : Int) else F k acc ((pre.length + 1 : Nat) : Int))
    (r : β) : ∀ (rest pre acc : List α), L = pre ++ rest → acc.length ≤ pre.length → Ev (fun k => F k (acc ++ rest.filter P) (L.length : Int)) r → Ev (fun k => F k acc (pre.length : Int)) r
  | [], pre, acc, hd, ha, h => by
    rw [List.append_nil] at hd
    rw [← hd]
    rw [List.filter_nil, List.append_nil] at h
    exact h
  | x :: t, pre, acc, hd, ha, h => by
    cases c : P x with
    | true =>
      rw [List.filter_cons_of_pos c] at h
      have ih := filt_loop P L F hF r t (pre ++ [x]) (acc ++ [x]) (by rw [hd]; simp) (by simp; omega) (by simpa using h)
      rw [show (pre ++ [x]).length = pre.length + 1 by simp] at ih
      exact Ev.step (fun k => by rw [hF pre x t hd acc ha k, if_pos c]) ih
    | false =>
      rw [List.filter_cons_of_neg (by rw [c]; decide)] at h
      have ih := filt_loop P L F hF r t (pre ++ [x]) acc (by rw [hd]; simp) (by simp; omega) h
      rw [show (pre ++ [x]).length = pre.length + 1 by simp] at ih
      exact Ev.step (fun k => by rw [hF pre x t hd acc ha k, if_neg (by rw [c]; decide)]) ih
theorem one42_find (P : S42 → Bool) (L : List S42) : one42 (L.filter P) = ((L.find? P).map (fun x => (x.f0, x.f1, x.f2, x.f3, x.f4, true))).getD (0, ⟨#[]⟩, false, 0, 0, false) := by
  rw [← List.head?_filter]
  cases L.filter P <;> rfl
theorem one49_find (P : S49 → Bool) (Q : List S49) : one49 (Q.filter P) = ((Q.find? P).map (fun x => (x.f0, x.f1, x.f2, x.f3, true))).getD (0, ⟨#[]⟩, false, 0, false) := by
  rw [← List.head?_filter]
  cases Q.filter P <;> rfl
theorem any_find {α : Type} (P : α → Bool) (L : List α) : L.any P = ((L.find? P).map (fun _ => true)).getD false := by
  induction L with
  | nil => rfl
  | cons x t ih =>
    rw [List.any_cons, List.find?_cons]
    cases P x
    · rw [Bool.false_or, ih]
    · rfl
theorem tl_mL {x : S42} {n : ByteArray} (h : x.f1 = n) : (mL x).f1.toList = n.toList := by rw [← h]; rfl
theorem tl_mQ {x : S49} {n : ByteArray} (h : x.f1 = n) : (mQ x).f1.toList = n.toList := by rw [← h]; rfl
theorem tn_mL {x : S42} {n : ByteArray} (h : ¬ x.f1 = n) : ¬ (mL x).f1.toList = n.toList := fun q => h ((toList_iff _ _).1 q)
theorem tn_mQ {x : S49} {n : ByteArray} (h : ¬ x.f1 = n) : ¬ (mQ x).f1.toList = n.toList := fun q => h ((toList_iff _ _).1 q)
theorem refheld_ev (last : Int) (L : List S42) (Q : List S52) (who : Int) (n : ByteArray) (hL : L.length ≤ 100000) : Ev (fun k => cooperageref16_Held.f k last (L.map mL) Q who n) (one42 (L.filter (heldP who n))) := by
  rw [one42_find]
  refine find_loop (heldP who n) _ L _ (fun k i => cooperageref16_Held.l0 k who n i last (L.map mL) Q) (fun pre x post h k => ?_) ?_ L [] rfl
  · have hl := len_mid h hL
    have hlt : (pre.length : Int) < ((L.map mL).length : Int) := by rw [h]; exact lt_mid _ _ _ _
    have hrd : rd_T45 (L.map mL) (pre.length : Int) = mL x := by rw [h]; exact rd45_mid _ _ _
    try dsimp only
    rw [cooperageref16_Held.l0, if_pos hlt, if_pos (by omega), hrd, wrap_succ _ (by omega)]
    unfold heldP
    by_cases c1 : x.f0 = who
    · rw [if_pos (show (mL x).f0 = who from c1), decide_eq_true c1]
      by_cases c2 : x.f1 = n
      · rw [if_pos (tl_mL c2), decide_eq_true c2, if_pos (by decide)]
        rfl
      · rw [if_neg (tn_mL c2), decide_eq_false c2, if_neg (by decide)]
    · rw [if_neg (show ¬ (mL x).f0 = who from c1), decide_eq_false c1, if_neg (by simp)]
  · refine Ev.step (f := fun _ => some _) (fun k => ?_) (Ev.now _)
    rw [cooperageref16_Held.l0, if_neg (by rw [List.length_map]; omega)]
theorem refwaits_ev (last : Int) (L : List S45) (Q : List S49) (who : Int) (hQ : Q.length ≤ 100000) : Ev (fun k => cooperageref16_Waits.f k last L (Q.map mQ) who) (one49 (Q.filter (fun a => decide (a.f0 = who)))) := by
  rw [one49_find]
  refine find_loop _ _ Q _ (fun k i => cooperageref16_Waits.l0 k who i last L (Q.map mQ)) (fun pre x post h k => ?_) ?_ Q [] rfl
  · have hl := len_mid h hQ
    have hlt : (pre.length : Int) < ((Q.map mQ).length : Int) := by rw [h]; exact lt_mid _ _ _ _
    have hrd : rd_T52 (Q.map mQ) (pre.length : Int) = mQ x := by rw [h]; exact rd52_mid _ _ _
    try dsimp only
    rw [cooperageref16_Waits.l0, if_pos hlt, if_pos (by omega), hrd, wrap_succ _ (by omega)]
    by_cases c1 : x.f0 = who
    · rw [if_pos (show (mQ x).f0 = who from c1), if_pos (decide_eq_true c1)]
      rfl
    · rw [if_neg (show ¬ (mQ x).f0 = who from c1), if_neg (by rw [decide_eq_false c1]; decide)]
  · refine Ev.step (f := fun _ => some _) (fun k => ?_) (Ev.now _)
    rw [cooperageref16_Waits.l0, if_neg (by rw [List.length_map]; omega)]
theorem refvalid_ev (last : Int) (L : List S42) (Q : List S52) (who : Int) (n : ByteArray) (tok : Int) (hL : L.length ≤ 100000) : Ev (fun k => cooperageref16_Valid.f k last (L.map mL) Q who n tok) (L.any (validP who n tok)) := by
  rw [any_find]
  refine find_loop _ _ L _ (fun k i => cooperageref16_Valid.l0 k who n tok i last (L.map mL) Q) (fun pre x post h k => ?_) ?_ L [] rfl
  · have hl := len_mid h hL
    have hlt : (pre.length : Int) < ((L.map mL).length : Int) := by rw [h]; exact lt_mid _ _ _ _
    have hrd : rd_T45 (L.map mL) (pre.length : Int) = mL x := by rw [h]; exact rd45_mid _ _ _
    try dsimp only
    rw [cooperageref16_Valid.l0, if_pos hlt, if_pos (by omega), hrd, wrap_succ _ (by omega)]
    unfold validP
    by_cases c1 : x.f0 = who
    · rw [if_pos (show (mL x).f0 = who from c1), decide_eq_true c1]
      by_cases c2 : x.f1 = n
      · rw [if_pos (tl_mL c2), decide_eq_true c2]
        by_cases c3 : x.f3 = tok
        · rw [if_pos (show (mL x).f3 = tok from c3), decide_eq_true c3, if_pos (by decide)]
        · rw [if_neg (show ¬ (mL x).f3 = tok from c3), decide_eq_false c3, if_neg (by decide)]
      · rw [if_neg (tn_mL c2), decide_eq_false c2, if_neg (by simp)]
    · rw [if_neg (show ¬ (mL x).f0 = who from c1), decide_eq_false c1, if_neg (by simp)]
  · refine Ev.step (f := fun _ => some _) (fun k => ?_) (Ev.now _)
    rw [cooperageref16_Valid.l0, if_neg (by rw [List.length_map]; omega)]
theorem reffree_ev (L : List S42) (Q : List S49) (a : S49) (hL : L.length ≤ 100000) (hQ : Q.length ≤ 100000) : Ev (fun k => cooperageref16_free.f k (L.map mL) (Q.map mQ) a.f0 a.f1 a.f2 a.f3) (!blkS L Q a && decide (L.length < 200)) := by
  have e : (!blkS L Q a && decide (L.length < 200)) = ((L.find? (hitP a)).map (fun _ => false)).getD (((Q.find? (fun b => decide (b.f1 = a.f1))).map (fun _ => false)).getD (decide (L.length < 200))) := by
    unfold blkS
    rw [any_find, any_find]
    cases L.find? (hitP a) <;> cases Q.find? (fun b => decide (b.f1 = a.f1)) <;> simp
  rw [e]
  refine find_loop (hitP a) _ L _ (fun k i => cooperageref16_free.l0 k (L.map mL) (Q.map mQ) i a.f0 a.f1 a.f2 a.f3) (fun pre x post h k => ?_) ?_ L [] rfl
  · have hl := len_mid h hL
    have hlt : (pre.length : Int) < ((L.map mL).length : Int) := by rw [h]; exact lt_mid _ _ _ _
    have hrd : rd_T45 (L.map mL) (pre.length : Int) = mL x := by rw [h]; exact rd45_mid _ _ _
    try dsimp only
    rw [cooperageref16_free.l0, if_pos hlt, if_pos (by omega), hrd, wrap_succ _ (by omega)]
    unfold hitP
    by_cases c1 : x.f1 = a.f1
    · rw [if_pos (tl_mL c1), decide_eq_true c1, show (mL x).f2 = x.f2 from rfl]
      cases x.f2 <;> cases a.f2 <;> simp
    · rw [if_neg (tn_mL c1), decide_eq_false c1, if_neg (by simp)]
  · refine Ev.step (f := fun k => cooperageref16_free.l1 k (L.map mL) (Q.map mQ) 0 a.f0 a.f1 a.f2 a.f3) (fun k => by rw [cooperageref16_free.l0, if_neg (by rw [List.length_map]; omega)]) ?_
    refine find_loop (fun b => decide (b.f1 = a.f1)) _ Q _ (fun k i => cooperageref16_free.l1 k (L.map mL) (Q.map mQ) i a.f0 a.f1 a.f2 a.f3) (fun pre x post h k => ?_) ?_ Q [] rfl
    · have hl := len_mid h hQ
      have hlt : (pre.length : Int) < ((Q.map mQ).length : Int) := by rw [h]; exact lt_mid _ _ _ _
      have hrd : rd_T52 (Q.map mQ) (pre.length : Int) = mQ x := by rw [h]; exact rd52_mid _ _ _
      try dsimp only
      rw [cooperageref16_free.l1, if_pos hlt, if_pos (by omega), hrd, wrap_succ _ (by omega)]
      by_cases c1 : x.f1 = a.f1
      · rw [if_pos (tl_mQ c1), if_pos (decide_eq_true c1)]
      · rw [if_neg (tn_mQ c1), if_neg (by rw [decide_eq_false c1]; decide)]
    · have e2 : decide ((L.length : Int) < 200) = decide (L.length < 200) := by
        rw [Bool.eq_iff_iff, decide_eq_true_eq, decide_eq_true_eq]
        omega
      refine Ev.step (f := fun _ => some (decide (L.length < 200))) (fun k => ?_) (Ev.now _)
      rw [cooperageref16_free.l1, if_neg (by rw [List.length_map]; omega), List.length_map, e2]
theorem settle_len (now : Int) : ∀ (q : List S49) (last : Int) (L : List S42) (Q : List S49), (settleS now q last L Q).2.1.length + (settleS now q last L Q).2.2.length = q.length + L.length + Q.length
  | [], last, L, Q => by simp [settleS]
  | a :: q, last, L, Q => by
    rw [settleS]
    split
    · rw [settle_len now q last L (Q ++ [a])]
      simp
      omega
    · rw [settle_len now q]
      simp
      omega
theorem refsettle_go (now l0 : Int) (L0 : List S45) (Q0 : List S49) (hQ0 : Q0.length ≤ 1000) : ∀ (rest pre : List S49) (last : Int) (L : List S42) (Q : List S49), Q0 = pre ++ rest → L.length + rest.length ≤ 10000 → Q.length ≤ pre.length →
    Ev (fun k => cooperageref16_settle.l0 k now (pre.length : Int) l0 L0 (Q0.map mQ) last (L.map mL) (Q.map mQ)) (mT (settleS now rest last L Q))
  | [], pre, last, L, Q, hd, hL, hq => by
    refine Ev.step (f := fun _ => some (mT (last, L, Q))) (fun k => ?_) (Ev.now _)
    rw [List.append_nil] at hd
    rw [cooperageref16_settle.l0, if_neg (by rw [hd, List.length_map]; omega)]
    rfl
  | a :: t, pre, last, L, Q, hd, hL, hq => by
    have hl := len_mid hd hQ0
    have hlt : (pre.length : Int) < ((Q0.map mQ).length : Int) := by rw [hd]; exact lt_mid _ _ _ _
    have hrd : rd_T52 (Q0.map mQ) (pre.length : Int) = mQ a := by rw [hd]; exact rd52_mid _ _ _
    rw [List.length_cons] at hL
    refine Ev.step (fun k => by rw [cooperageref16_settle.l0, if_pos hlt, if_pos (by omega), hrd, wrap_succ _ (by omega)]) ?_
    refine Ev.bind (f := fun k t552 => _) (show Ev (fun k => cooperageref16_free.f k (L.map mL) (Q.map mQ) (mQ a).f0 (mQ a).f1 (mQ a).f2 (mQ a).f3) _ from reffree_ev L Q a (by omega) (by omega)) ?_
    rw [settleS]
    by_cases c : blkS L Q a = true ∨ 200 ≤ L.length
    · have e : (!blkS L Q a && decide (L.length < 200)) = false := by
        rcases c with c | c
        · rw [c]; rfl
        · rw [decide_eq_false (by omega), Bool.and_false]
      rw [if_pos c, e]
      have ih := refsettle_go now l0 L0 Q0 hQ0 t (pre ++ [a]) last L (Q ++ [a]) (by rw [hd]; simp) (by omega) (by simp; omega)
      rw [show (pre ++ [a]).length = pre.length + 1 by simp, List.map_append] at ih
      exact Ev.congr (fun k => by rw [if_neg (by decide), if_pos (by rw [List.length_map]; omega)]; rfl) ih
    · have e : (!blkS L Q a && decide (L.length < 200)) = true := by
        rw [Bool.eq_false_iff.2 (fun q => c (.inl q)), decide_eq_true (show L.length < 200 by omega)]; rfl
      rw [if_neg c, e]
      have ih := refsettle_go now l0 L0 Q0 hQ0 t (pre ++ [a]) (wrap64 (last + 1)) (L ++ [⟨a.f0, a.f1, a.f2, wrap64 (last + 1), wrap64 (now + a.f3)⟩]) Q (by rw [hd]; simp) (by simp; omega) (by simp; omega)
      rw [show (pre ++ [a]).length = pre.length + 1 by simp, List.map_append] at ih
      exact Ev.congr (fun k => by rw [if_pos rfl, if_pos (by rw [List.length_map]; omega)]; rfl) ih
theorem refsettle_ev (last : Int) (L : List S42) (Q : List S49) (now : Int) (hL : L.length ≤ 1000) (hQ : Q.length ≤ 1000) : Ev (fun k => cooperageref16_settle.f k last (L.map mL) (Q.map mQ) now) (mT (settleS now Q last L [])) := by
  unfold cooperageref16_settle.f
  simp only [Option.bind_some, List.nil_append, List.length_nil, List.length_map]
  exact Ev.congr (fun k => by rw [if_pos (by omega)]; rfl) (refsettle_go now last (L.map mL) Q hQ Q [] last L [] rfl (by omega) (Nat.le_refl _))
theorem reftime_f (now : Int) : cooperageref16_time.f now = some (timeP now) := by
  unfold cooperageref16_time.f timeP
  by_cases h : now ≥ 0
  · rw [if_pos h]; simp; omega
  · rw [if_neg h]; simp; omega
theorem reflife_f (n : Int) : cooperageref16_life.f n = some (livesP n) := by
  unfold cooperageref16_life.f livesP
  by_cases h : n ≥ 1
  · rw [if_pos h]; simp; omega
  · rw [if_neg h]; simp; omega
/-- Both answer alike, and what is wrong is nothing. -/
def Two3 (f : Nat → Option (Int × List S42 × List S49)) (g : Nat → Option (Int × List S45 × List S52)) (B : Nat) : Prop := ∃ r, Ev f r ∧ Ev g (mT r) ∧ r.2.1.length + r.2.2.length ≤ B
def Two4 (f : Nat → Option (Int × List S42 × List S49 × Int)) (g : Nat → Option (Int × List S45 × List S52 × Int)) (B : Nat) : Prop :=
  ∃ (r : Int × List S42 × List S49) (e : Int), Ev f (r.1, r.2.1, r.2.2, e) ∧ Ev g (r.1, r.2.1.map mL, r.2.2.map mQ, e) ∧ r.2.1.length + r.2.2.length ≤ B ∧ (e ≠ 0 → r = (0, [], []))
theorem two4_err {f : Nat → Option (Int × List S42 × List S49 × Int)} {g : Nat → Option (Int × List S45 × List S52 × Int)} {B : Nat} (e : Int) (h1 : Ev f (0, [], [], e)) (h2 : Ev g (0, [], [], e)) : Two4 f g B :=
  ⟨(0, [], []), e, h1, h2, by simp, fun _ => rfl⟩
theorem give_same (last : Int) (L : List S42) (Q : List S49) (who : Int) (n : ByteArray) (tok now : Int) (hL : L.length ≤ 1000) (hQ : Q.length ≤ 1000) :
    Two4 (fun k => lease_Give.f k last L Q who n tok now) (fun k => cooperageref16_Give.f k last (L.map mL) (Q.map mQ) who n tok now) (L.length + Q.length) := by
  have h1 : Ev (fun k => lease_Give.f k last L Q who n tok now) (giveS last L Q who n tok now) := Ev.le 60000 (fun k hk => give_f last L Q who n tok now (by omega) (by omega) k hk)
  unfold giveS at h1
  by_cases c : timeP now = true
  · rw [if_pos c] at h1
    have hg : ∀ r, Ev (fun k => (cooperageref16_Valid.f k last (L.map mL) (Q.map mQ) who n tok).bind fun t562 => (if t562 = true then (cooperageref16_Give.l0 k who n now ([] : List (S45)) 0 last (L.map mL) (Q.map mQ)) else (some (0, ([] : List (S45)), ([] : List (S52)), 8)))) r → Ev (fun k => cooperageref16_Give.f k last (L.map mL) (Q.map mQ) who n tok now) r := by
      intro r h
      unfold cooperageref16_Give.f
      rw [reftime_f, c]
      simp only [Option.bind_some, if_true]
      exact h
    by_cases v : L.any (validP who n tok) = true
    · rw [if_pos v] at h1
      have hfl : (L.filter (fun x => !heldP who n x)).length ≤ L.length := List.length_filter_le _ _
      have hsl := settle_len now Q last (L.filter (fun x => !heldP who n x)) []
      refine ⟨settleS now Q last (L.filter (fun x => !heldP who n x)) [], 0, h1, hg _ ?_, by rw [List.length_nil] at hsl; omega, fun h => absurd rfl h⟩
      refine Ev.bind (f := fun k t => _) (refvalid_ev last L (Q.map mQ) who n tok (by omega)) ?_
      rw [v]
      simp only [if_true]
      refine filt_loop (fun x => !heldP who n x) L (fun k acc i => cooperageref16_Give.l0 k who n now (acc.map mL) i last (L.map mL) (Q.map mQ)) (fun pre x post h acc ha k => ?_) _ L [] [] rfl (Nat.le_refl _) ?_
      · have hl := len_mid h hL
        have hlt : (pre.length : Int) < ((L.map mL).length : Int) := by rw [h]; exact lt_mid _ _ _ _
        have hrd : rd_T45 (L.map mL) (pre.length : Int) = mL x := by rw [h]; exact rd45_mid _ _ _
        try dsimp only
        rw [cooperageref16_Give.l0, if_pos hlt, if_pos (by omega), hrd, wrap_succ _ (by omega), List.map_append, if_pos (show (acc.map mL).length < 2932031007402 by rw [List.length_map]; omega)]
        unfold heldP
        by_cases c1 : x.f0 = who
        · rw [if_pos (show (mL x).f0 = who from c1), decide_eq_true c1]
          by_cases c2 : x.f1 = n
          · rw [if_pos (tl_mL c2), decide_eq_true c2, if_neg (by decide)]
          · rw [if_neg (tn_mL c2), decide_eq_false c2, if_pos (by decide)]
            rfl
        · rw [if_neg (show ¬ (mL x).f0 = who from c1), decide_eq_false c1, if_pos (by simp)]
          rfl
      · rw [List.nil_append]
        refine Ev.step (fun k => by rw [cooperageref16_Give.l0, if_neg (by rw [List.length_map]; omega)]) ?_
        exact Ev.bind (f := fun k t => _) (refsettle_ev last _ Q now (by omega) hQ) (Ev.now _)
    · rw [if_neg v] at h1
      refine two4_err 8 h1 (hg _ ?_)
      refine Ev.bind (f := fun k t => _) (refvalid_ev last L (Q.map mQ) who n tok (by omega)) ?_
      rw [Bool.eq_false_iff.2 v]
      exact Ev.now _
  · rw [if_neg c] at h1
    refine two4_err 1 h1 ?_
    unfold cooperageref16_Give.f
    rw [reftime_f, Bool.eq_false_iff.2 c]
    exact Ev.now _
theorem tick_same (last : Int) (L : List S42) (Q : List S49) (now : Int) (hL : L.length ≤ 1000) (hQ : Q.length ≤ 1000) :
    Two3 (fun k => lease_Tick.f k last L Q now) (fun k => cooperageref16_Tick.f k last (L.map mL) (Q.map mQ) now) (L.length + Q.length) := by
  refine ⟨tickS last L Q now, Ev.le 60000 (fun k hk => tick_f last L Q now (by omega) (by omega) k hk), ?_, ?_⟩
  · unfold tickS cooperageref16_Tick.f
    rw [reftime_f]
    simp only [Option.bind_some]
    by_cases c : timeP now = true
    · simp only [if_pos c]
      have hfl : (L.filter (fun x => !decide (x.f4 ≤ now))).length ≤ L.length := List.length_filter_le _ _
      refine filt_loop (fun x => !decide (x.f4 ≤ now)) L (fun k acc i => cooperageref16_Tick.l0 k now i last (L.map mL) (Q.map mQ) last (acc.map mL) (Q.map mQ)) (fun pre x post h acc ha k => ?_) _ L [] [] rfl (Nat.le_refl _) ?_
      · have hl := len_mid h hL
        have hlt : (pre.length : Int) < ((L.map mL).length : Int) := by rw [h]; exact lt_mid _ _ _ _
        have hrd : rd_T45 (L.map mL) (pre.length : Int) = mL x := by rw [h]; exact rd45_mid _ _ _
        try dsimp only
        rw [cooperageref16_Tick.l0, if_pos hlt, if_pos (by omega), hrd, wrap_succ _ (by omega), List.map_append, if_pos (show (acc.map mL).length < 2932031007402 by rw [List.length_map]; omega)]
        by_cases c1 : x.f4 ≤ now
        · rw [if_neg (show ¬ (mL x).f4 > now by show ¬ x.f4 > now; omega), decide_eq_true c1, if_neg (by decide)]
        · rw [if_pos (show (mL x).f4 > now by show x.f4 > now; omega), decide_eq_false c1, if_pos (by decide)]
          rfl
      · rw [List.nil_append]
        refine Ev.step (fun k => by rw [cooperageref16_Tick.l0, if_neg (by rw [List.length_map]; omega)]) ?_
        exact Ev.bind (f := fun k t => _) (refsettle_ev last _ Q now (by omega) hQ) (Ev.now _)
    · simp only [if_neg c]
      exact Ev.now _
  · unfold tickS
    split
    · have hfl : (L.filter (fun x => !decide (x.f4 ≤ now))).length ≤ L.length := List.length_filter_le _ _
      have hsl := settle_len now Q last (L.filter (fun x => !decide (x.f4 ≤ now))) []
      rw [List.length_nil] at hsl
      omega
    · exact Nat.le_refl _
theorem leave_same (last : Int) (L : List S42) (Q : List S49) (who now : Int) (hL : L.length ≤ 1000) (hQ : Q.length ≤ 1000) :
    Two3 (fun k => lease_Leave.f k last L Q who now) (fun k => cooperageref16_Leave.f k last (L.map mL) (Q.map mQ) who now) (L.length + Q.length) := by
  have hfl : (L.filter (fun x => !decide (x.f0 = who))).length ≤ L.length := List.length_filter_le _ _
  have hfq : (Q.filter (fun x => !decide (x.f0 = who))).length ≤ Q.length := List.length_filter_le _ _
  refine ⟨leaveS last L Q who now, Ev.le 60000 (fun k hk => leave_f last L Q who now (by omega) (by omega) k hk), ?_, ?_⟩
  · unfold leaveS cooperageref16_Leave.f
    rw [reftime_f]
    simp only [Option.bind_some]
    by_cases c : timeP now = true
    · simp only [if_pos c]
      refine filt_loop (fun x => !decide (x.f0 = who)) L (fun k acc i => cooperageref16_Leave.l0 k who now i last (L.map mL) (Q.map mQ) last (acc.map mL)) (fun pre x post h acc ha k => ?_) _ L [] [] rfl (Nat.le_refl _) ?_
      · have hl := len_mid h hL
        have hlt : (pre.length : Int) < ((L.map mL).length : Int) := by rw [h]; exact lt_mid _ _ _ _
        have hrd : rd_T45 (L.map mL) (pre.length : Int) = mL x := by rw [h]; exact rd45_mid _ _ _
        try dsimp only
        rw [cooperageref16_Leave.l0, if_pos hlt, if_pos (by omega), hrd, wrap_succ _ (by omega), List.map_append, if_pos (show (acc.map mL).length < 2932031007402 by rw [List.length_map]; omega)]
        by_cases c1 : x.f0 = who
        · rw [if_pos (show (mL x).f0 = who from c1), decide_eq_true c1, if_neg (by decide)]
        · rw [if_neg (show ¬ (mL x).f0 = who from c1), decide_eq_false c1, if_pos (by decide)]
          rfl
      · rw [List.nil_append]
        refine Ev.step (fun k => by rw [cooperageref16_Leave.l0, if_neg (by rw [List.length_map]; omega)]) ?_
        refine filt_loop (fun x => !decide (x.f0 = who)) Q (fun k acc i => cooperageref16_Leave.l1 k who now i last (L.map mL) (Q.map mQ) last ((L.filter (fun x => !decide (x.f0 = who))).map mL) (acc.map mQ)) (fun pre x post h acc ha k => ?_) _ Q [] [] rfl (Nat.le_refl _) ?_
        · have hl := len_mid h hQ
          have hlt : (pre.length : Int) < ((Q.map mQ).length : Int) := by rw [h]; exact lt_mid _ _ _ _
          have hrd : rd_T52 (Q.map mQ) (pre.length : Int) = mQ x := by rw [h]; exact rd52_mid _ _ _
          try dsimp only
          rw [cooperageref16_Leave.l1, if_pos hlt, if_pos (by omega), hrd, wrap_succ _ (by omega), List.map_append, if_pos (show (acc.map mQ).length < 3518437208883 by rw [List.length_map]; omega)]
          by_cases c1 : x.f0 = who
          · rw [if_pos (show (mQ x).f0 = who from c1), decide_eq_true c1, if_neg (by decide)]
          · rw [if_neg (show ¬ (mQ x).f0 = who from c1), decide_eq_false c1, if_pos (by decide)]
            rfl
        · rw [List.nil_append]
          refine Ev.step (fun k => by rw [cooperageref16_Leave.l1, if_neg (by rw [List.length_map]; omega)]) ?_
          exact Ev.bind (f := fun k t => _) (refsettle_ev last _ _ now (by omega) (by omega)) (Ev.now _)
    · simp only [if_neg c]
      exact Ev.now _
  · unfold leaveS
    split
    · have hsl := settle_len now (Q.filter (fun a => !decide (a.f0 = who))) last (L.filter (fun x => !decide (x.f0 = who))) []
      rw [List.length_nil] at hsl
      omega
    · exact Nat.le_refl _
/-- Renewed: those of a name. -/
def upd (who : Int) (n : ByteArray) (u : Int) (x : S42) : S42 := if heldP who n x = true then ⟨x.f0, x.f1, x.f2, x.f3, u⟩ else x
theorem renew_go (who : Int) (n : ByteArray) (life now last : Int) (Q : List S49) (N : Nat) (hN : N ≤ 100000) : ∀ (rest pre : List S42), N = pre.length + rest.length →
    Ev (fun k => lease_Renew.l0 k who n life now (N : Int) (pre.length : Int) last (pre ++ rest) Q) (last, pre ++ rest.map (upd who n (wrap64 (now + life))), Q, 0)
  | [], pre, hd => by
    refine Ev.step (f := fun _ => some (last, pre ++ [], Q, 0)) (fun k => ?_) (Ev.now _)
    rw [List.length_nil] at hd
    rw [lease_Renew.l0, if_neg (by omega)]
  | x :: t, pre, hd => by
    rw [List.length_cons] at hd
    have hrd : rd_T42 (pre ++ x :: t) (pre.length : Int) = x := by
      have := rd42 (pre ++ x :: t) pre.length (by simp)
      rw [this]
      simp
    have ih := renew_go who n life now last Q N hN t (pre ++ [upd who n (wrap64 (now + life)) x]) (by simp; omega)
    rw [show (pre ++ [upd who n (wrap64 (now + life)) x]).length = pre.length + 1 by simp, List.append_assoc, List.append_assoc] at ih
    refine Ev.step (fun k => ?_) ih
    rw [lease_Renew.l0, if_pos (by omega), if_pos (by omega), if_pos (by rw [List.length_append, List.length_cons]; omega), hrd, wrap_succ _ (by omega)]
    unfold upd heldP
    by_cases c1 : x.f0 = who
    · rw [if_pos c1, decide_eq_true c1]
      by_cases c2 : x.f1 = n
      · rw [if_pos ((toList_iff _ _).2 c2), decide_eq_true c2, if_pos (by decide), Int.toNat_natCast, List.set_append_right _ _ (Nat.le_refl _), Nat.sub_self]
        rfl
      · rw [if_neg (fun q => c2 ((toList_iff _ _).1 q)), decide_eq_false c2, if_neg (by decide)]
        rfl
    · rw [if_neg c1, decide_eq_false c1, if_neg (by simp)]
      rfl
theorem refrenew_go (who : Int) (n : ByteArray) (life now last : Int) (L0 : List S45) (Q : List S52) (N : Nat) (hN : N ≤ 100000) : ∀ (rest pre : List S42), N = pre.length + rest.length →
    Ev (fun k => cooperageref16_Renew.l0 k who n life now ((pre ++ rest).map mL) (pre.length : Int) last L0 Q) (last, (pre ++ rest.map (upd who n (wrap64 (now + life)))).map mL, Q, 0)
  | [], pre, hd => by
    refine Ev.step (f := fun _ => some (last, (pre ++ []).map mL, Q, 0)) (fun k => ?_) (Ev.now _)
    rw [cooperageref16_Renew.l0, if_neg (by rw [List.append_nil, List.length_map]; omega)]
  | x :: t, pre, hd => by
    rw [List.length_cons] at hd
    have ih := refrenew_go who n life now last L0 Q N hN t (pre ++ [upd who n (wrap64 (now + life)) x]) (by simp; omega)
    rw [show (pre ++ [upd who n (wrap64 (now + life)) x]).length = pre.length + 1 by simp, List.append_assoc, List.append_assoc] at ih
    refine Ev.step (fun k => ?_) ih
    rw [cooperageref16_Renew.l0, if_pos (lt_mid mL pre t x), if_pos (by omega), rd45_mid, wrap_succ _ (by omega)]
    unfold upd heldP
    by_cases c1 : x.f0 = who
    · rw [if_pos (show (mL x).f0 = who from c1), decide_eq_true c1]
      by_cases c2 : x.f1 = n
      · rw [if_pos (tl_mL c2), decide_eq_true c2, if_pos (by decide), Int.toNat_natCast, List.map_append, List.set_append_right _ _ (by rw [List.length_map]; exact Nat.le_refl _), List.length_map, Nat.sub_self, List.map_append]
        rfl
      · rw [if_neg (tn_mL c2), decide_eq_false c2, if_neg (by decide)]
        rfl
    · rw [if_neg (show ¬ (mL x).f0 = who from c1), decide_eq_false c1, if_neg (by simp)]
      rfl
theorem renew_same (last : Int) (L : List S42) (Q : List S49) (who : Int) (n : ByteArray) (tok life now : Int) (hL : L.length ≤ 1000) :
    Two4 (fun k => lease_Renew.f k last L Q who n tok life now) (fun k => cooperageref16_Renew.f k last (L.map mL) (Q.map mQ) who n tok life now) (L.length + Q.length) := by
  have hj : ∀ b r, Ev (fun k => lease_Renew.j0 k who n tok life now (!b) last L Q) r → (livesP life && timeP now) = b → Ev (fun k => lease_Renew.f k last L Q who n tok life now) r := by
    intro b r h e
    unfold lease_Renew.f
    rw [lives_f, time_f]
    cases c : livesP life with
    | false => rw [c] at e; rw [← e] at h; exact h
    | true => rw [c, Bool.true_and] at e; rw [e]; exact h
  have hg : ∀ b r, Ev (fun k => cooperageref16_Renew.j0 k who n tok life now (!b) last (L.map mL) (Q.map mQ)) r → (livesP life && timeP now) = b → Ev (fun k => cooperageref16_Renew.f k last (L.map mL) (Q.map mQ) who n tok life now) r := by
    intro b r h e
    unfold cooperageref16_Renew.f
    rw [reflife_f, reftime_f]
    cases c : livesP life with
    | false => rw [c] at e; rw [← e] at h; exact h
    | true => rw [c, Bool.true_and] at e; rw [e]; exact h
  have hv : Ev (fun k => lease_Valid.f k last L Q who n tok) (L.any (validP who n tok)) := Ev.le (L.length + 1) (fun k hk => valid_f last L Q who n tok (by omega) k hk)
  by_cases c : (livesP life && timeP now) = true
  · by_cases v : L.any (validP who n tok) = true
    · refine ⟨(last, L.map (upd who n (wrap64 (now + life))), Q), 0, hj true _ ?_ c, hg true _ ?_ c, by simp, fun h => absurd rfl h⟩
      · refine Ev.step (fun k => by rw [lease_Renew.j0, if_neg (by decide)]) (Ev.bind (f := fun k t => _) hv ?_)
        rw [v]
        simp only [if_true]
        unfold lease_Lease_38.f
        simp only [Option.bind_some, List.length_nil, List.nil_append]
        refine Ev.congr (fun k => by rw [if_pos (by omega), Option.bind_some]) ?_
        have := renew_go who n life now last Q L.length (by omega) L [] (by simp)
        exact this
      · refine Ev.step (fun k => by rw [cooperageref16_Renew.j0, if_neg (by decide)]) (Ev.bind (f := fun k t => _) (refvalid_ev last L (Q.map mQ) who n tok (by omega)) ?_)
        rw [v]
        simp only [if_true, Option.bind_some, List.length_nil, List.nil_append, List.length_map]
        refine Ev.congr (fun k => by rw [if_pos (by omega)]) ?_
        have := refrenew_go who n life now last (L.map mL) (Q.map mQ) L.length (by omega) L [] (by simp)
        exact this
    · refine two4_err 8 (hj true _ ?_ c) (hg true _ ?_ c)
      · refine Ev.step (fun k => by rw [lease_Renew.j0, if_neg (by decide)]) (Ev.bind (f := fun k t => _) hv ?_)
        rw [Bool.eq_false_iff.2 v]
        exact Ev.now _
      · refine Ev.step (fun k => by rw [cooperageref16_Renew.j0, if_neg (by decide)]) (Ev.bind (f := fun k t => _) (refvalid_ev last L (Q.map mQ) who n tok (by omega)) ?_)
        rw [Bool.eq_false_iff.2 v]
        exact Ev.now _
  · refine two4_err 1 (hj false _ ?_ (Bool.eq_false_iff.2 c)) (hg false _ ?_ (Bool.eq_false_iff.2 c))
    · exact Ev.step (f := fun _ => some _) (fun k => by rw [lease_Renew.j0, if_pos (by decide)]) (Ev.now _)
    · exact Ev.step (f := fun _ => some _) (fun k => by rw [cooperageref16_Renew.j0, if_pos (by decide)]) (Ev.now _)
end Go.Proofs.YtjdadmjomjhpcaaDoor.Pl
