/- LeasePlays' pure statement, in plain Lean. -/
import Derived.Test.YtjdadmjomjhpcaaDoorPLeasex18
import Derived.Test.YtjdadmjomjhpcaaDoorPLeasex17
import Derived.Test.YtjdadmjomjhpcaaDoorPLeasex6
import Derived.Test.YtjdadmjomjhpcaaDoorPlaysTake
namespace Go.Proofs.YtjdadmjomjhpcaaDoor.Pl
open Go.RowKit Go.Proofs.YtjdadmjomjhpcaaDoor.PLease Go.Proofs.YtjdadmjomjhpcaaDoorW.PrintWords Go.Proofs.YtjdadmjomjhpcaaDoorW.PrintLast
theorem rd42_mid (pre post : List S42) (x : S42) : rd_T42 (pre ++ x :: post) (pre.length : Int) = x := by
  rw [rd42 _ pre.length (by simp)]
  simp
theorem rd49_mid (pre post : List S49) (x : S49) : rd_T49 (pre ++ x :: post) (pre.length : Int) = x := by
  rw [rd49 _ pre.length (by simp)]
  simp
theorem rd34_mid (pre post : List S34) (x : S34) : rd_T34 (pre ++ x :: post) (pre.length : Int) = x := by
  unfold rd_T34
  rw [Int.toNat_natCast, List.getD_eq_getElem?_getD, List.getElem?_append_right (Nat.le_refl _), Nat.sub_self]
  rfl
theorem lt_len {α : Type} (pre post : List α) (x : α) : (pre.length : Int) < ((pre ++ x :: post).length : Int) := by
  rw [List.length_append, List.length_cons]
  omega
theorem sameQ (last : Int) (L : List S42) (Q : List S49) (hQ : Q.length ≤ 1000) : ∀ (rest pre : List S49), Q = pre ++ rest → Ev (fun k => cooperagelaw16_sameTable.l1 k (pre.length : Int) last L Q last (L.map mL) (Q.map mQ)) true
  | [], pre, hd => by
    rw [List.append_nil] at hd
    exact Ev.step (f := fun _ => some true) (fun k => by rw [cooperagelaw16_sameTable.l1, if_neg (by rw [hd]; omega)]) (Ev.now _)
  | x :: t, pre, hd => by
    have hl := len_mid hd hQ
    have h1 : (pre.length : Int) < (Q.length : Int) := by rw [hd]; exact lt_len _ _ _
    have h2 : (pre.length : Int) < ((Q.map mQ).length : Int) := by rw [hd]; exact lt_mid _ _ _ _
    have e1 : rd_T49 Q (pre.length : Int) = x := by rw [hd]; exact rd49_mid _ _ _
    have e2 : rd_T52 (Q.map mQ) (pre.length : Int) = mQ x := by rw [hd]; exact rd52_mid _ _ _
    have ih := sameQ last L Q hQ t (pre ++ [x]) (by rw [hd]; simp)
    rw [show (pre ++ [x]).length = pre.length + 1 by simp] at ih
    refine Ev.step (f := fun k => cooperagelaw16_sameTable.j4 k (pre.length : Int) false last L Q last (L.map mL) (Q.map mQ)) (fun k => ?_) (Ev.step (fun k => by rw [cooperagelaw16_sameTable.j4, if_neg (by decide), wrap_succ _ (by omega)]) ih)
    rw [cooperagelaw16_sameTable.l1, if_pos h1, if_pos (by omega), if_pos h2, e1, e2, if_pos (show x.f0 = (mQ x).f0 from rfl), if_pos (show x.f1.toList = (mQ x).f1.toList from rfl), show (mQ x).f2 = x.f2 from rfl, show (mQ x).f3 = x.f3 from rfl, bne_self_eq_false, bne_self_eq_false, if_neg (by decide)]
theorem sameL (last : Int) (L : List S42) (Q : List S49) (hL : L.length ≤ 1000) (hQ : Q.length ≤ 1000) : ∀ (rest pre : List S42), L = pre ++ rest → Ev (fun k => cooperagelaw16_sameTable.l0 k (pre.length : Int) last L Q last (L.map mL) (Q.map mQ)) true
  | [], pre, hd => by
    rw [List.append_nil] at hd
    exact Ev.step (fun k => by rw [cooperagelaw16_sameTable.l0, if_neg (by rw [hd]; omega)]; rfl) (sameQ last L Q hQ Q [] rfl)
  | x :: t, pre, hd => by
    have hl := len_mid hd hL
    have h1 : (pre.length : Int) < (L.length : Int) := by rw [hd]; exact lt_len _ _ _
    have h2 : (pre.length : Int) < ((L.map mL).length : Int) := by rw [hd]; exact lt_mid _ _ _ _
    have e1 : rd_T42 L (pre.length : Int) = x := by rw [hd]; exact rd42_mid _ _ _
    have e2 : rd_T45 (L.map mL) (pre.length : Int) = mL x := by rw [hd]; exact rd45_mid _ _ _
    have ih := sameL last L Q hL hQ t (pre ++ [x]) (by rw [hd]; simp)
    rw [show (pre ++ [x]).length = pre.length + 1 by simp] at ih
    refine Ev.step (f := fun k => cooperagelaw16_sameTable.j2 k (pre.length : Int) false last L Q last (L.map mL) (Q.map mQ)) (fun k => ?_) (Ev.step (fun k => by rw [cooperagelaw16_sameTable.j2, if_neg (by decide), wrap_succ _ (by omega)]) ih)
    rw [cooperagelaw16_sameTable.l0, if_pos h1, if_pos (by omega), if_pos h2, e1, e2, if_pos (show x.f0 = (mL x).f0 from rfl), if_pos (show x.f1.toList = (mL x).f1.toList from rfl), show (mL x).f2 = x.f2 from rfl, show (mL x).f4 = x.f4 from rfl, bne_self_eq_false, bne_self_eq_false, if_neg (by decide), if_pos (show x.f3 = (mL x).f3 from rfl)]
theorem same_ev (last : Int) (L : List S42) (Q : List S49) (hL : L.length ≤ 1000) (hQ : Q.length ≤ 1000) : Ev (fun k => cooperagelaw16_sameTable.f k last L Q last (L.map mL) (Q.map mQ)) true := by
  unfold cooperagelaw16_sameTable.f
  simp only [if_true, List.length_map, bne_self_eq_false]
  exact Ev.step (fun k => by rw [cooperagelaw16_sameTable.j0, if_neg (by decide)]; rfl) (sameL last L Q hL hQ L [] rfl)
/-- Can acts be gone through? Then they are not many, and their names not long. -/
theorem right_l0 (l : List S34) (hl : l.length ≤ 60) : ∀ (rest pre : List S34), l = pre ++ rest → ∃ b, (b = true → ∀ x ∈ rest, x.f5.size ≤ 150) ∧ Ev (fun k => cooperagelaw16_right.l0 k l (pre.length : Int)) b
  | [], pre, hd => by
    rw [List.append_nil] at hd
    exact ⟨true, fun _ x hx => absurd hx (by simp), Ev.step (f := fun _ => some true) (fun k => by rw [cooperagelaw16_right.l0, if_neg (by rw [hd]; omega)]) (Ev.now _)⟩
  | x :: t, pre, hd => by
    have hlm := len_mid hd hl
    have h1 : (pre.length : Int) < (l.length : Int) := by rw [hd]; exact lt_len _ _ _
    have e1 : rd_T34 l (pre.length : Int) = x := by rw [hd]; exact rd34_mid _ _ _
    obtain ⟨b, hb, h⟩ := right_l0 l hl t (pre ++ [x]) (by rw [hd]; simp)
    rw [show (pre ++ [x]).length = pre.length + 1 by simp] at h
    by_cases c : x.f5.size ≤ 150
    · refine ⟨b, fun e y hy => ?_, Ev.step (fun k => by rw [cooperagelaw16_right.l0, if_pos h1, if_pos (by omega), e1, if_neg (by omega), wrap_succ _ (by omega)]) h⟩
      rcases List.mem_cons.1 hy with rfl | hy
      · exact c
      · exact hb e y hy
    · exact ⟨false, fun e => Bool.noConfusion e, Ev.step (f := fun _ => some false) (fun k => by rw [cooperagelaw16_right.l0, if_pos h1, if_pos (by omega), e1, if_pos (by omega)]) (Ev.now _)⟩
theorem right_ev (l : List S34) : ∃ b, (b = true → l.length ≤ 60 ∧ ∀ x ∈ l, x.f5.size ≤ 150) ∧ Ev (fun k => cooperagelaw16_right.f k l) b := by
  unfold cooperagelaw16_right.f
  by_cases hl : l.length ≤ 60
  · obtain ⟨b, hb, h⟩ := right_l0 l hl l [] rfl
    exact ⟨b, fun e => ⟨hl, hb e⟩, Ev.congr (fun k => by rw [if_neg (by omega)]; rfl) h⟩
  · exact ⟨false, fun e => Bool.noConfusion e, Ev.congr (f := fun _ => some false) (fun k => by rw [if_pos (by omega)]) (Ev.now _)⟩
theorem shown_ev : Ev (fun k => cooperagelaw16_shown.f k) true := Ev.of (fun k => cooperagelaw16_shown.mono k) (k := 12) (by kernel_rfl)
theorem plays_l0 (l : List S34) (hl : l.length ≤ 60) (hn : ∀ x ∈ l, x.f5.size ≤ 150) (hw : ∀ x ∈ l, -9223372036854775808 ≤ x.f0 ∧ x.f0 ≤ 9223372036854775807) : ∀ (rest pre : List S34) (last : Int) (L : List S42) (Q : List S49), l = pre ++ rest → L.length + Q.length ≤ pre.length →
    Ev (fun k => cooperagelaw16_LeasePlays.l0 k l (pre.length : Int) last L Q last (L.map mL) (Q.map mQ)) true
  | [], pre, last, L, Q, hd, hs => by
    rw [List.append_nil] at hd
    exact Ev.step (f := fun _ => some true) (fun k => by rw [cooperagelaw16_LeasePlays.l0, if_neg (by rw [hd]; omega)]) (Ev.now _)
  | x :: t, pre, last, L, Q, hd, hs => by
    have hlm := len_mid hd hl
    have h1 : (pre.length : Int) < (l.length : Int) := by rw [hd]; exact lt_len _ _ _
    have e1 : rd_T34 l (pre.length : Int) = x := by rw [hd]; exact rd34_mid _ _ _
    have hx : x ∈ l := by rw [hd]; simp
    obtain ⟨r, tok, e, g1, g2, g3⟩ := act_same last L Q x (hw x hx) (by omega) (hn x hx)
    have hLb : r.2.1.length ≤ 100 := by omega
    have hQb : r.2.2.length ≤ 100 := by omega
    have ih := plays_l0 l hl hn hw t (pre ++ [x]) r.1 r.2.1 r.2.2 (by rw [hd]; simp) (by simp; omega)
    rw [show (pre ++ [x]).length = pre.length + 1 by simp] at ih
    refine Ev.step (fun k => by rw [cooperagelaw16_LeasePlays.l0, if_pos h1, if_pos (by omega), e1]) ?_
    refine Ev.bind (f := fun k t => _) g1 ?_
    refine Ev.bind (f := fun k t => _) g2 ?_
    refine Ev.bind (f := fun k t => _) (same_ev r.1 r.2.1 r.2.2 (by omega) (by omega)) ?_
    simp only [if_true, Bool.not_true]
    refine Ev.step (fun k => by rw [cooperagelaw16_LeasePlays.j2, if_neg (by decide)]) ?_
    have q1 : Ev (fun k => lease_Held.f k r.1 r.2.1 r.2.2 x.f1 x.f5) (one42 (r.2.1.filter (heldP x.f1 x.f5))) := Ev.le (r.2.1.length + 1) (fun k hk => held_f r.1 r.2.1 r.2.2 x.f1 x.f5 (by omega) k hk)
    have q2 : Ev (fun k => lease_Waits.f k r.1 r.2.1 r.2.2 x.f1) (one49 (r.2.2.filter (fun a => decide (a.f0 = x.f1)))) := Ev.le (r.2.2.length + 1) (fun k hk => waits_f r.1 r.2.1 r.2.2 x.f1 (by omega) k hk)
    have q3 : Ev (fun k => lease_Valid.f k r.1 r.2.1 r.2.2 x.f1 x.f5 x.f3) (r.2.1.any (validP x.f1 x.f5 x.f3)) := Ev.le (r.2.1.length + 1) (fun k hk => valid_f r.1 r.2.1 r.2.2 x.f1 x.f5 x.f3 (by omega) k hk)
    refine Ev.bind (f := fun k t => _) q1 ?_
    refine Ev.bind (f := fun k t => _) (refheld_ev r.1 r.2.1 (r.2.2.map mQ) x.f1 x.f5 (by omega)) ?_
    refine Ev.bind (f := fun k t => _) q2 ?_
    refine Ev.bind (f := fun k t => _) (refwaits_ev r.1 (r.2.1.map mL) r.2.2 x.f1 (by omega)) ?_
    simp only [bne_self_eq_false, if_true, Bool.false_eq_true, if_false]
    refine Ev.bind (f := fun k t => _) q3 ?_
    refine Ev.bind (f := fun k t => _) (refvalid_ev r.1 r.2.1 (r.2.2.map mQ) x.f1 x.f5 x.f3 (by omega)) ?_
    simp only [bne_self_eq_false]
    exact Ev.step (fun k => by rw [cooperagelaw16_LeasePlays.j3, if_neg (by decide), wrap_succ _ (by omega)]) ih
end Go.Proofs.YtjdadmjomjhpcaaDoor.Pl
namespace Go.Proofs.YtjdadmjomjhpcaaDoor.Pure
open Go.RowKit Go.Proofs.YtjdadmjomjhpcaaDoor.PLease Go.Proofs.YtjdadmjomjhpcaaDoorW.PrintWords Go.Proofs.YtjdadmjomjhpcaaDoor.Pl
theorem LeasePlays : cooperagelaw16_LeasePlays.Pure := by
  intro l0 _ _ hwf
  refine Ev.rounds (g := fun k => cooperagelaw16_LeasePlays.f k l0) ?_
  unfold cooperagelaw16_LeasePlays.f
  refine Ev.bind (f := fun k t => _) shown_ev ?_
  obtain ⟨b, hb, h⟩ := right_ev l0
  refine Ev.bind (f := fun k t => _) h ?_
  simp only [if_true]
  cases b with
  | false => exact Ev.step (f := fun _ => some true) (fun k => by rw [cooperagelaw16_LeasePlays.j0, if_pos (by decide)]) (Ev.now _)
  | true =>
    obtain ⟨hl, hn⟩ := hb rfl
    exact Ev.step (fun k => by rw [cooperagelaw16_LeasePlays.j0, if_neg (by decide)]; rfl) (plays_l0 l0 hl hn (fun x hx => wf_i64 (hwf x hx).1) l0 [] 0 [] [] rfl (Nat.le_refl _))
end Go.Proofs.YtjdadmjomjhpcaaDoor.Pure
