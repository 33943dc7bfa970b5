/- ParseConds is so: of lines that are right each conditional has its end, none more Elses than it may. -/
import Derived.Test.YthnholondnfjoaaDoorPParsex10
import Derived.Test.YthnholondnfjoaaDoorPParsex9
import Derived.Test.YthnholondnfjoaaDoorRunPure
import Derived.Test.YthnholondnfjoaaDoorParseShown
namespace Go.Proofs.YthnholondnfjoaaDoor.Pl
open Go.RowKit Go.Proofs.YthnholondnfjoaaDoor.PParse Go.Proofs.YthnholondnfjoaaDoorW.PrintWords Go.Proofs.YthnholondnfjoaaDoorW.PrintLast

/-- as: the lines, or that they are too many or too long. -/
theorem as_ev (L : List S43) : ∃ res, Ev (fun k => cooperagelaw9_as.f k L) res ∧ (res.2 = true → L.length ≤ 60 ∧ ∀ x ∈ L, (bl x.f2).length ≤ 400) := by
  unfold cooperagelaw9_as.f
  by_cases c : (L.length : Int) > 60
  · simp only [if_pos c]
    exact ex_some _ (fun h => Bool.noConfusion h)
  simp only [if_neg c]
  have : ∀ (rest pre : List S43) (out : List S53), L = pre ++ rest → out.length = pre.length → (∀ x ∈ pre, (bl x.f2).length ≤ 400) → ∃ res, Ev (fun k => cooperagelaw9_as.l0 k L out (pre.length : Int)) res ∧ (res.2 = true → L.length ≤ 60 ∧ ∀ x ∈ L, (bl x.f2).length ≤ 400) := by
    intro rest
    induction rest with
    | nil =>
      intro pre out hd _ hp
      have hd' : L = pre := by rw [hd, List.append_nil]
      refine ⟨(out, true), Ev.step (f := fun _ => some (out, true)) (fun n => ?_) (Ev.now _), fun _ => ⟨by omega, by rw [hd']; exact hp⟩⟩
      rw [cooperagelaw9_as.l0, if_neg (by rw [hd']; omega)]
    | cons x rest ih =>
      intro pre out hd ho hp
      have hl : (pre.length : Int) < (L.length : Int) := by rw [hd, List.length_append, List.length_cons]; omega
      have hrd := rd43_mid hd
      by_cases d : ((x.f2).size : Int) > 400
      · refine ⟨([], false), Ev.step (f := fun _ => some ([], false)) (fun n => ?_) (Ev.now _), fun h => Bool.noConfusion h⟩
        rw [cooperagelaw9_as.l0, if_pos hl, if_pos (by omega), hrd, if_pos d]
      · have hxs := bl_size x.f2
        obtain ⟨res, h1, h2⟩ := ih (pre ++ [x]) (out ++ [⟨x.f0, x.f1, x.f2⟩]) (by rw [hd]; simp) (by simp [ho]) (fun y hy => by
          rcases List.mem_append.1 hy with h | h
          · exact hp y h
          · rw [List.mem_singleton] at h
            rw [h]
            omega)
        refine ⟨res, Ev.step (fun n => ?_) h1, h2⟩
        rw [cooperagelaw9_as.l0, if_pos hl, if_pos (by omega), hrd, if_neg d, if_pos (by omega), wrap_succ _ (by omega), show (pre ++ [x]).length = pre.length + 1 by simp]
  exact this L [] [] rfl rfl (fun x hx => by simp at hx)
/-- What a scan of nodes' kinds counts: how many are open, Elses, Ifs; none where it fails. -/
def scan : List Int → Option (Nat × Nat × Nat)
  | [] => some (0, 0, 0)
  | c :: l => (scan l).bind fun (d, e, i) =>
    if c = 3 then (if d + 1 ≤ 20 then some (d + 1, e, i + 1) else none)
    else if c = 4 then (if d = 0 then none else some (d, e + 1, i))
    else if c = 5 then (if d = 0 then none else some (d - 1, e, i))
    else some (d, e, i)
theorem scan_le : ∀ (l : List Int) (d e i : Nat), scan l = some (d, e, i) → d ≤ 20
  | [], d, e, i, h => by
    rw [scan] at h
    injection h with h
    injection h with h1 h2
    omega
  | c :: l, d, e, i, h => by
    rw [scan] at h
    rcases hs : scan l with _ | ⟨d0, e0, i0⟩
    · rw [hs] at h
      exact absurd h (by simp)
    · have ih := scan_le l d0 e0 i0 hs
      rw [hs, Option.bind_some] at h
      dsimp only at h
      split at h
      · split at h
        · simp at h; omega
        · simp at h
      · split at h
        · split at h
          · simp at h
          · simp at h; omega
        · split at h
          · split at h
            · simp at h
            · simp at h; omega
          · simp at h; omega
theorem scan_tail (c : Int) (l : List Int) (r : Nat × Nat × Nat) (h : scan (c :: l) = some r) : ∃ q, scan l = some q := by
  rw [scan] at h
  rcases hs : scan l with _ | q
  · rw [hs] at h
    exact absurd h (by simp)
  · exact ⟨q, rfl⟩
theorem scan_app : ∀ (a b : List Int) (r : Nat × Nat × Nat), scan (a ++ b) = some r → ∃ q, scan b = some q
  | [], b, r, h => ⟨r, h⟩
  | c :: a, b, r, h => by
    obtain ⟨q, hq⟩ := scan_tail c (a ++ b) r h
    exact scan_app a b q hq
def CondJ (pre : List S43) (out : List S45) (o : List Bool) : Prop := out.length ≤ pre.length ∧ ∃ e i, scan (out.map S45.f0).reverse = some (o.length, e, i) ∧ e + o.countP (fun b => !b) ≤ i
theorem cond_tab : ∀ pre x o nd open_, CondJ pre (o ++ [nd]) open_ → x.f1 = true → nd.f0 = 2 → CondJ (pre ++ [x]) (o ++ [addR nd x.f2]) open_ := by
  intro pre x o nd open_ h _ _
  unfold CondJ at h ⊢
  rw [List.map_append] at h ⊢
  refine ⟨?_, h.2⟩
  have := h.1
  rw [List.length_append, List.length_singleton] at this ⊢
  rw [List.length_append, List.length_singleton]
  omega
theorem cond_node : ∀ pre x out open_ nd, CondJ pre out open_ → x.f1 = false → nd.f1 = x.f0 → 1 ≤ nd.f0 → nd.f0 ≤ 6 → (takeL open_ nd.f0).2 = 0 → CondJ (pre ++ [x]) (out ++ [nd]) (takeL open_ nd.f0).1 := by
  intro pre x out open_ nd ⟨hln, e, i, h1, h2⟩ _ _ _ _ ht
  have hle := scan_le _ _ _ _ h1
  refine ⟨by rw [List.length_append, List.length_singleton, List.length_append, List.length_singleton]; omega, ?_⟩
  have hr : ((out ++ [nd]).map S45.f0).reverse = nd.f0 :: (out.map S45.f0).reverse := by rw [List.map_append, List.reverse_append]; rfl
  rw [hr, scan, h1, Option.bind_some]
  dsimp only
  by_cases c3 : nd.f0 = 3
  · unfold takeL at ht ⊢
    rw [if_pos c3] at ht ⊢
    rw [if_pos c3]
    by_cases d : open_.length = 20
    · rw [if_pos d] at ht
      exact absurd ht (show ¬ ((15 : Int) = 0) by decide)
    · rw [if_neg d, if_pos (by omega)]
      refine ⟨e, i + 1, by rw [List.length_append]; rfl, ?_⟩
      rw [List.countP_append]
      simp
      omega
  · rw [if_neg c3]
    by_cases c45 : nd.f0 ≠ 4 ∧ nd.f0 ≠ 5
    · unfold takeL
      rw [if_neg c3, if_pos c45, if_neg c45.1, if_neg c45.2]
      exact ⟨e, i, rfl, h2⟩
    · rcases hrev : open_.reverse with _ | ⟨b, u⟩
      · unfold takeL at ht
        rw [if_neg c3, if_neg c45, hrev] at ht
        exact absurd ht (show ¬ ((2 : Int) = 0) by decide)
      · obtain rfl : open_ = u.reverse ++ [b] := by rw [← List.reverse_reverse open_, hrev]; simp
        have hlen : (u.reverse ++ [b]).length = u.length + 1 := by simp
        rw [List.countP_append] at h2
        unfold takeL at ht ⊢
        rw [if_neg c3, if_neg c45, hrev] at ht ⊢
        dsimp only at ht ⊢
        by_cases c4 : nd.f0 = 4
        · rw [if_pos c4] at ht ⊢
          rw [if_pos c4, if_neg (by omega)]
          cases b with
          | true => exact absurd ht (show ¬ ((2 : Int) = 0) by decide)
          | false =>
            rw [if_neg (by decide)]
            refine ⟨e + 1, i, by simp, ?_⟩
            rw [List.countP_append]
            simp at h2 ⊢
            omega
        · have c5 : nd.f0 = 5 := by
            by_cases c5 : nd.f0 = 5
            · exact c5
            · exact absurd ⟨c4, c5⟩ c45
          rw [if_neg c4, if_neg c4, if_pos c5, if_neg (by omega)]
          refine ⟨e, i, by simp, ?_⟩
          dsimp only
          omega
/-- The statement's own loop: what it counts is what scan says. -/
theorem conds_ev (out : List S45) (ho : out.length ≤ 200) (e i : Nat) (hfin : scan (out.map S45.f0).reverse = some (0, e, i)) (hei : e ≤ i) :
    ∀ (rest pre : List S45) (d e1 i1 : Nat), out = pre ++ rest → scan (pre.map S45.f0).reverse = some (d, e1, i1) → e1 ≤ pre.length → i1 ≤ pre.length →
      Ev (fun k => cooperagelaw9_ParseConds.l0 k out (d : Int) (e1 : Int) (i1 : Int) (pre.length : Int)) true
  | [], pre, d, e1, i1, hd, hs, _, _ => by
    have hd' : out = pre := by rw [hd, List.append_nil]
    rw [← hd', hfin] at hs
    injection hs with hs
    injection hs with h1 h2
    injection h2 with h2 h3
    refine Ev.step (f := fun _ => some true) (fun n => ?_) (Ev.now _)
    rw [cooperagelaw9_ParseConds.l0, if_neg (by rw [hd']; omega), if_pos (by omega)]
    congr 1
    exact decide_eq_true (by omega)
  | nd :: rest, pre, d, e1, i1, hd, hs, he1, hi1 => by
    have hl : (pre.length : Int) < (out.length : Int) := by rw [hd, List.length_append, List.length_cons]; omega
    have hpl : pre.length < 200 := by omega
    have hrd : rd_T45 out (pre.length : Int) = nd := by
      unfold rd_T45
      rw [Int.toNat_natCast, hd, List.getD_eq_getElem?_getD, List.getElem?_append_right (Nat.le_refl _), Nat.sub_self]
      rfl
    have hnext : out = (pre ++ [nd]) ++ rest := by rw [hd]; simp
    have hd20 := scan_le _ _ _ _ hs
    have hr : ((pre ++ [nd]).map S45.f0).reverse = nd.f0 :: (pre.map S45.f0).reverse := by rw [List.map_append, List.reverse_append]; rfl
    obtain ⟨q, hq⟩ : ∃ q, scan (nd.f0 :: (pre.map S45.f0).reverse) = some q := by
      rw [hnext, List.map_append, List.reverse_append, hr] at hfin
      exact scan_app _ _ _ hfin
    have hq0 := hq
    rw [scan, hs, Option.bind_some] at hq
    dsimp only at hq
    have hw : Unit → wrap64 ((pre.length : Int) + 1) = ((pre.length + 1 : Nat) : Int) := fun _ => wrap_succ _ (by omega)
    have next : ∀ d' e' i' : Nat, q = (d', e', i') → e' ≤ pre.length + 1 → i' ≤ pre.length + 1 → Ev (fun k => cooperagelaw9_ParseConds.l0 k out (d' : Int) (e' : Int) (i' : Int) ((pre.length + 1 : Nat) : Int)) true := by
      intro d' e' i' hqe h1 h2
      have := conds_ev out ho e i hfin hei rest (pre ++ [nd]) d' e' i' hnext (by rw [hr, hq0, hqe]) (by simp; exact h1) (by simp; exact h2)
      rw [show (pre ++ [nd]).length = pre.length + 1 by simp] at this
      exact this
    have h0 : (0 : Int) ≤ (pre.length : Int) := by omega
    by_cases c3 : nd.f0 = 3
    · rw [if_pos c3] at hq
      by_cases dd : d + 1 ≤ 20
      · rw [if_pos dd] at hq
        have hn := next (d + 1) e1 (i1 + 1) (Option.some.inj hq).symm (by omega) (by omega)
        have w1 : Unit → wrap64 ((d : Int) + 1) = ((d + 1 : Nat) : Int) := fun _ => wrap_succ _ (by omega)
        have w2 : Unit → wrap64 ((i1 : Int) + 1) = ((i1 + 1 : Nat) : Int) := fun _ => wrap_succ _ (by omega)
        refine Ev.step (f := fun k => cooperagelaw9_ParseConds.j2 k out ((d + 1 : Nat) : Int) (e1 : Int) ((i1 + 1 : Nat) : Int) (pre.length : Int)) (fun n => by rw [cooperagelaw9_ParseConds.l0, if_pos hl, if_pos h0, hrd, if_pos c3, w1 (), w2 ()]) ?_
        refine Ev.step (f := fun k => cooperagelaw9_ParseConds.j3 k out ((d + 1 : Nat) : Int) (e1 : Int) ((i1 + 1 : Nat) : Int) (pre.length : Int)) (fun n => by rw [cooperagelaw9_ParseConds.j2, if_pos h0, if_pos hl, hrd, if_neg (by omega)]) ?_
        refine Ev.step (fun n => ?_) hn
        rw [cooperagelaw9_ParseConds.j3, if_pos h0, if_pos hl, hrd, if_neg (by omega), if_neg (by omega), if_neg (by omega), if_neg (by omega), hw ()]
      · rw [if_neg dd] at hq
        exact absurd hq (by simp)
    rw [if_neg c3] at hq
    refine Ev.step (f := fun k => cooperagelaw9_ParseConds.j2 k out (d : Int) (e1 : Int) (i1 : Int) (pre.length : Int)) (fun n => by rw [cooperagelaw9_ParseConds.l0, if_pos hl, if_pos h0, hrd, if_neg c3]) ?_
    by_cases c4 : nd.f0 = 4
    · rw [if_pos c4] at hq
      by_cases d0 : d = 0
      · rw [if_pos d0] at hq
        exact absurd hq (by simp)
      · rw [if_neg d0] at hq
        have hn := next d (e1 + 1) i1 (Option.some.inj hq).symm (by omega) (by omega)
        have w1 : Unit → wrap64 ((e1 : Int) + 1) = ((e1 + 1 : Nat) : Int) := fun _ => wrap_succ _ (by omega)
        refine Ev.step (f := fun k => cooperagelaw9_ParseConds.j3 k out (d : Int) ((e1 + 1 : Nat) : Int) (i1 : Int) (pre.length : Int)) (fun n => by rw [cooperagelaw9_ParseConds.j2, if_pos h0, if_pos hl, hrd, if_pos c4, w1 ()]) ?_
        refine Ev.step (fun n => ?_) hn
        rw [cooperagelaw9_ParseConds.j3, if_pos h0, if_pos hl, hrd, if_neg (by omega), if_neg (by omega), if_neg (by omega), if_pos c4, if_neg (by omega), hw ()]
    rw [if_neg c4] at hq
    refine Ev.step (f := fun k => cooperagelaw9_ParseConds.j3 k out (d : Int) (e1 : Int) (i1 : Int) (pre.length : Int)) (fun n => by rw [cooperagelaw9_ParseConds.j2, if_pos h0, if_pos hl, hrd, if_neg c4]) ?_
    by_cases c5 : nd.f0 = 5
    · rw [if_pos c5] at hq
      by_cases d0 : d = 0
      · rw [if_pos d0] at hq
        exact absurd hq (by simp)
      · rw [if_neg d0] at hq
        have hn := next (d - 1) e1 i1 (Option.some.inj hq).symm (by omega) (by omega)
        have w1 : Unit → wrap64 ((d : Int) - 1) = ((d - 1 : Nat) : Int) := fun _ => by rw [wrap_sm] <;> omega
        refine Ev.step (fun n => ?_) hn
        rw [cooperagelaw9_ParseConds.j3, if_pos h0, if_pos hl, hrd, if_pos c5, w1 (), if_neg (by omega), if_neg (by omega), if_neg c4, hw ()]
    · rw [if_neg c5] at hq
      have hn := next d e1 i1 (Option.some.inj hq).symm (by omega) (by omega)
      refine Ev.step (fun n => ?_) hn
      rw [cooperagelaw9_ParseConds.j3, if_pos h0, if_pos hl, hrd, if_neg c5, if_neg (by omega), if_neg (by omega), if_neg c4, hw ()]
end Go.Proofs.YthnholondnfjoaaDoor.Pl
namespace Go.Proofs.YthnholondnfjoaaDoor.Pure
open Go.RowKit Go.Proofs.YthnholondnfjoaaDoor.PParse Go.Proofs.YthnholondnfjoaaDoorW.PrintWords Go.Proofs.YthnholondnfjoaaDoor.Pl

theorem ParseConds : cooperagelaw9_ParseConds.Pure := by
  intro l0 _ _ _
  have hT : Ev (fun k => cooperagelaw9_ParseConds.j0 k l0 true true) true := Ev.step (f := fun _ => some true) (fun k => by rw [cooperagelaw9_ParseConds.j0, if_pos rfl]) (Ev.now _)
  refine Ev.rounds (g := fun k => cooperagelaw9_ParseConds.f k l0) ?_
  unfold cooperagelaw9_ParseConds.f
  refine Ev.bind (f := fun k t => _) shown_ev ?_
  obtain ⟨res, h1, h2⟩ := as_ev l0
  refine Ev.bind (f := fun k t => _) h1 ?_
  simp only [if_true]
  rcases hb : res.2 with _ | _
  · exact hT
  obtain ⟨hl, hs⟩ := h2 hb
  obtain ⟨r, hr, hP⟩ := parse_tot CondJ cond_tab cond_node ⟨Nat.le_refl _, 0, 0, rfl, by simp⟩ l0 (by omega) hs
  obtain ⟨K, hK⟩ := hr
  rcases hP with ⟨e0, _, hrl, e, i, hsc, hei⟩ | ⟨en, e1, e2⟩
  · obtain ⟨K2, h2⟩ := conds_ev r.1 (by omega) e i hsc (by simpa using hei) r.1 [] 0 0 0 rfl rfl (Nat.le_refl _) (Nat.le_refl _)
    refine ⟨max K K2 + 1, fun k hk => ?_⟩
    obtain ⟨m, rfl⟩ : ∃ m, k = m + 1 := ⟨k - 1, by omega⟩
    have hK' : parse_Parse.f m l0 = some r := hK m (by omega)
    dsimp only
    rw [show (!true) = false from rfl, cooperagelaw9_ParseConds.j0, if_neg (by decide), hK', Option.bind_some, if_pos e0]
    exact h2 m (by omega)
  · refine ⟨K + 1, fun k hk => ?_⟩
    obtain ⟨m, rfl⟩ : ∃ m, k = m + 1 := ⟨k - 1, by omega⟩
    have hK' : parse_Parse.f m l0 = some r := hK m (by omega)
    dsimp only
    rw [show (!true) = false from rfl, cooperagelaw9_ParseConds.j0, if_neg (by decide), hK', Option.bind_some, if_neg e1, if_pos (by rw [en]; rfl)]
    by_cases c : r.2.2 = 0
    · rw [if_pos c]
      simp
    · rw [if_neg c, show (r.2.1 == 14) = false from beq_eq_false_iff_ne.2 (fun q => c (e2 q))]
      rfl
end Go.Proofs.YthnholondnfjoaaDoor.Pure
