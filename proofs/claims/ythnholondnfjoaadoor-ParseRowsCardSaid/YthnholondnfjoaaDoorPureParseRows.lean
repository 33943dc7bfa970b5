/- ParseRows is so: two rows of lines that are right say, one behind the other, what both say; each node has its line's number. -/
import Derived.Test.YthnholondnfjoaaDoorPParsex11
import Derived.Test.YthnholondnfjoaaDoorAsPure
import Derived.Test.YthnholondnfjoaaDoorParseShown
namespace Go.Proofs.YthnholondnfjoaaDoor.Pl
open Go.RowKit Go.Proofs.YthnholondnfjoaaDoor.PParse Go.Proofs.YthnholondnfjoaaDoorW.PrintWords Go.Proofs.YthnholondnfjoaaDoorW.PrintLast

/-- What a run over some lines comes to, it comes to with others ahead and behind, behind the nodes of those. -/
theorem parse_sim (P X S : List S43) (A : List S45) (hX : (P ++ X ++ S).length ≤ 200) (hA : A.length ≤ 200) (hs : ∀ x ∈ X, (bl x.f2).length ≤ 400) (o : List S45) (n0 : Int) :
    ∀ (rest pre : List S43) (out : List S45) (open_ : List Bool), X = pre ++ rest → out.length ≤ pre.length → open_.length ≤ pre.length → (∀ nd ∈ out, nd.f9.length ≤ pre.length) →
      Ev (fun k => parse_Parse.l0 k out open_ X (X.length : Int) (pre.length : Int)) (o, 0, n0) →
      ∀ T, Ev (fun k => parse_Parse.l0 k (A ++ o) [] (P ++ X ++ S) ((P ++ X ++ S).length : Int) (((P ++ X).length : Nat) : Int)) T →
        Ev (fun k => parse_Parse.l0 k (A ++ out) open_ (P ++ X ++ S) ((P ++ X ++ S).length : Int) (((P ++ pre).length : Nat) : Int)) T
  | [], pre, out, open_, hd, _, _, _, hev, T, hT => by
    have hd' : X = pre := by rw [hd, List.append_nil]
    by_cases c : open_ = []
    · have h1 : Ev (fun k => parse_Parse.l0 k out open_ X (X.length : Int) (pre.length : Int)) (out, 0, 0) := by
        refine Ev.step (f := fun _ => some (out, 0, 0)) (fun n => ?_) (Ev.now _)
        rw [parse_Parse.l0, if_neg (by rw [hd']; omega), if_neg (by rw [c]; simp)]
      have e := Ev.unique hev h1
      injection e with e1 e2
      rw [e1, hd'] at hT
      rw [c, hd']
      exact hT
    · have h1 : Ev (fun k => parse_Parse.l0 k out open_ X (X.length : Int) (pre.length : Int)) ([], 14, 0) := by
        refine Ev.step (f := fun _ => some ([], 14, 0)) (fun n => ?_) (Ev.now _)
        have := List.length_pos_iff.2 c
        rw [parse_Parse.l0, if_neg (by rw [hd']; omega), if_pos (by omega)]
      have e := Ev.unique hev h1
      injection e with e1 e2
      injection e2 with e2 e3
      exact absurd e2 (by decide)
  | x :: rest, pre, out, open_, hd, h1, h2, h3, hev, T, hT => by
    have hlen : P.length + (pre.length + (rest.length + 1)) + S.length ≤ 200 := by
      rw [hd, List.length_append, List.length_append, List.length_append, List.length_cons] at hX
      omega
    have hxs := hs x (by rw [hd]; simp)
    have hnext : X = (pre ++ [x]) ++ rest := by rw [hd]; simp
    have hnl : (pre ++ [x]).length = pre.length + 1 := by simp
    have hfull : P ++ X ++ S = (P ++ pre) ++ x :: (rest ++ S) := by rw [hd]; simp
    have hPl : (P ++ pre).length = P.length + pre.length := List.length_append
    have hPn : (P ++ (pre ++ [x])).length = (P ++ pre).length + 1 := by simp; omega
    have wrong : ∀ e : Int, e ≠ 0 → (∃ K, ∀ n, K ≤ n → parse_Parse.l0 (n + 1) out open_ X (X.length : Int) (pre.length : Int) = some ([], e, x.f0)) → False := by
      rintro e he ⟨K, hK⟩
      have q := Ev.unique hev (Ev.shift (f := fun _ => some (([], e, x.f0) : Res)) K hK (Ev.now _))
      injection q with q1 q2
      injection q2 with q2 q3
      exact he q2.symm
    by_cases ht : x.f1 = true
    · rcases List.eq_nil_or_concat out with rfl | ⟨u, nd, rfl⟩
      · exact absurd (wrong 2 (by decide) ⟨0, fun n _ => tab_none open_ hd ht n⟩) id
      · rw [List.concat_eq_append] at *
        rw [List.length_append, List.length_singleton] at h1
        have hr := h3 nd (by simp)
        have hst := fun n => tab_last u nd open_ hd ht (by omega) (by omega) (by omega) n
        by_cases c : nd.f0 = 2
        · simp only [if_pos c] at hst
          have hst2 := fun n => tab_last (A ++ u) nd open_ hfull ht (by rw [List.length_append]; omega) (by omega) (by omega) n
          simp only [if_pos c] at hst2
          have hev2 := Ev.back 0 (fun n _ => hst n) hev
          rw [← hnl] at hev2
          have ih := parse_sim P X S A hX hA hs o n0 rest (pre ++ [x]) (u ++ [addR nd x.f2]) open_ hnext (by rw [List.length_append, List.length_singleton, hnl]; omega) (by omega) (fun q hq => by
            rw [hnl]
            rcases List.mem_append.1 hq with hq | hq
            · have := h3 q (by simp [hq]); omega
            · rw [List.mem_singleton] at hq
              rw [hq]
              show (nd.f9 ++ [x.f2]).length ≤ _
              rw [List.length_append, List.length_singleton]
              omega) hev2 T hT
          rw [hPn, ← List.append_assoc] at ih
          rw [← List.append_assoc]
          exact Ev.shift 0 (fun n _ => hst2 n) ih
        · simp only [if_neg c] at hst
          exact absurd (wrong 2 (by decide) ⟨0, fun n _ => hst n⟩) id
    · have ht' : x.f1 = false := Bool.eq_false_iff.2 ht
      by_cases hw : wordsL (bl x.f2) = []
      · exact absurd (wrong 2 (by decide) ⟨0, fun n _ => line_none out open_ hd ht' hxs hw n⟩) id
      · obtain ⟨r, hr, hP1, hP2⟩ := node_tot (triB (bl x.f2)) (by rw [words_triB]; exact hw) (by have := triB_len (bl x.f2); omega)
        obtain ⟨K, hK⟩ := line_some out open_ hd ht' hxs hw r hr (by omega) (by omega) (by omega)
        obtain ⟨K2, hK2⟩ := line_some (A ++ out) open_ hfull ht' hxs hw r hr (by rw [List.length_append]; omega) (by omega) (by omega)
        by_cases c : r.2.2.2.2.2.2.2.2.2.2 = true
        · simp only [if_pos c] at hK hK2
          by_cases c2 : (takeL open_ r.1).2 = 0
          · simp only [if_pos c2] at hK hK2
            have hlen2 := takeL_len open_ r.1
            have hev2 := Ev.back K hK hev
            rw [← hnl] at hev2
            have ih := parse_sim P X S A hX hA hs o n0 rest (pre ++ [x]) (out ++ [mkN r x.f0]) (takeL open_ r.1).1 hnext (by rw [List.length_append, List.length_singleton, hnl]; omega) (by rw [hnl]; omega) (fun q hq => by
              rw [hnl]
              rcases List.mem_append.1 hq with hq | hq
              · have := h3 q hq; omega
              · rw [List.mem_singleton] at hq
                rw [hq]
                show r.2.2.2.2.2.2.2.2.2.1.length ≤ _
                rw [hP2]
                simp) hev2 T hT
            rw [hPn, ← List.append_assoc] at ih
            exact Ev.shift K2 hK2 ih
          · simp only [if_neg c2] at hK
            exact absurd (wrong _ c2 ⟨K, hK⟩) id
        · simp only [if_neg c] at hK
          exact absurd (wrong 2 (by decide) ⟨K, hK⟩) id
/-- Two rows that are right, one behind the other. -/
theorem parse_two (a b : List S43) (hl : (a ++ b).length ≤ 200) (ha : ∀ x ∈ a, (bl x.f2).length ≤ 400) (hb : ∀ x ∈ b, (bl x.f2).length ≤ 400) (oa ob : List S45) (n1 n2 : Int) (hoa : oa.length ≤ 200)
    (h1 : Ev (fun k => parse_Parse.f k a) (oa, 0, n1)) (h2 : Ev (fun k => parse_Parse.f k b) (ob, 0, n2)) : Ev (fun k => parse_Parse.f k (a ++ b)) (oa ++ ob, 0, 0) := by
  have e0 : Ev (fun k => parse_Parse.l0 k (oa ++ ob) [] (a ++ b ++ []) ((a ++ b ++ []).length : Int) (((a ++ b).length : Nat) : Int)) (oa ++ ob, 0, 0) := by
    rw [List.append_nil]
    refine Ev.step (f := fun _ => some (oa ++ ob, 0, 0)) (fun n => ?_) (Ev.now _)
    rw [parse_Parse.l0, if_neg (by omega), if_neg (by simp)]
  have e1 := parse_sim a b [] oa (by rw [List.append_nil]; exact hl) hoa hb ob n2 b [] [] [] rfl (Nat.le_refl _) (Nat.le_refl _) (fun _ h => by simp at h) h2 _ e0
  rw [List.append_nil, List.append_nil, List.append_nil] at e1
  have e2 := parse_sim [] a b [] hl (by simp) ha oa n1 a [] [] [] rfl (Nat.le_refl _) (Nat.le_refl _) (fun _ h => by simp at h) h1 (oa ++ ob, 0, 0) (by
    rw [List.nil_append, List.nil_append]
    exact e1)
  exact e2
/-- The lines' numbers, of those without a tab. -/
def RowJ (pre : List S43) (out : List S45) (_ : List Bool) : Prop := out.map S45.f1 = (pre.filter (fun x => !x.f1)).map S43.f0 ∧ ∀ nd ∈ out, 1 ≤ nd.f0 ∧ nd.f0 ≤ 6
theorem row_tab : ∀ pre x o nd open_, RowJ pre (o ++ [nd]) open_ → x.f1 = true → nd.f0 = 2 → RowJ (pre ++ [x]) (o ++ [addR nd x.f2]) open_ := by
  intro pre x o nd open_ h hx _
  refine ⟨?_, fun q hq => ?_⟩
  · have := h.1
    rw [List.map_append] at this ⊢
    rw [List.filter_append, show [x].filter (fun x => !x.f1) = [] by simp [hx], List.append_nil]
    exact this
  · rcases List.mem_append.1 hq with hq | hq
    · exact h.2 q (by simp [hq])
    · rw [List.mem_singleton] at hq
      rw [hq]
      exact h.2 nd (by simp)
theorem row_node : ∀ pre x out open_ nd, RowJ pre out open_ → x.f1 = false → nd.f1 = x.f0 → 1 ≤ nd.f0 → nd.f0 ≤ 6 → (takeL open_ nd.f0).2 = 0 → RowJ (pre ++ [x]) (out ++ [nd]) (takeL open_ nd.f0).1 := by
  intro pre x out open_ nd h hx hn h1 h2 _
  refine ⟨?_, fun q hq => ?_⟩
  · rw [List.map_append, h.1, List.filter_append, List.map_append, show [x].filter (fun x => !x.f1) = [x] by simp [hx]]
    simp [hn]
  · rcases List.mem_append.1 hq with hq | hq
    · exact h.2 q hq
    · rw [List.mem_singleton] at hq
      rw [hq]
      exact ⟨h1, h2⟩
/-- The statement's two loops: each node beside the next line without a tab. -/
theorem rows_ev (c : List S45) (all : List S43) (hc : c.length ≤ 200) (hall : all.length ≤ 200) (hk : ∀ nd ∈ c, 1 ≤ nd.f0 ∧ nd.f0 ≤ 6) :
    ∀ (L pre : List S43), all = pre ++ L → ∀ (rest done : List S45), c = done ++ rest → rest.map S45.f1 = (L.filter (fun x => !x.f1)).map S43.f0 →
      Ev (fun k => cooperagelaw9_ParseRows.l0 k c (pre.length : Int) all (done.length : Int)) true ∧ (rest ≠ [] → Ev (fun k => cooperagelaw9_ParseRows.l1 k c (pre.length : Int) all (done.length : Int)) true)
  | [], pre, hp, rest, done, hd, hm => by
    have hr : rest = [] := by
      cases rest with
      | nil => rfl
      | cons _ _ => simp at hm
    subst hr
    refine ⟨?_, fun h => absurd rfl h⟩
    refine Ev.step (f := fun _ => some true) (fun n => ?_) (Ev.now _)
    rw [cooperagelaw9_ParseRows.l0, if_neg (by rw [hd, List.append_nil]; omega)]
  | x :: L, pre, hp, rest, done, hd, hm => by
    have hpl : pre.length + (L.length + 1) ≤ 200 := by rw [hp, List.length_append, List.length_cons] at hall; exact hall
    have hal : all.length = pre.length + (L.length + 1) := by rw [hp, List.length_append, List.length_cons]
    have hrd := rd43_mid hp
    have hnl : (pre ++ [x]).length = pre.length + 1 := by simp
    have hw : Unit → wrap64 ((pre.length : Int) + 1) = ((pre.length + 1 : Nat) : Int) := fun _ => wrap_succ _ (by omega)
    have key : rest ≠ [] → Ev (fun k => cooperagelaw9_ParseRows.l1 k c (pre.length : Int) all (done.length : Int)) true := by
      intro hne
      by_cases ht : x.f1 = true
      · have hm' : rest.map S45.f1 = (L.filter (fun x => !x.f1)).map S43.f0 := by rw [hm, List.filter_cons_of_neg (by simp [ht])]
        have ih := (rows_ev c all hc hall hk L (pre ++ [x]) (by rw [hp]; simp) rest done hd hm').2 hne
        rw [hnl] at ih
        refine Ev.step (fun n => ?_) ih
        rw [cooperagelaw9_ParseRows.l1, if_pos (by omega), if_pos (by omega), hrd, if_pos ht, hw ()]
      · have ht' : x.f1 = false := Bool.eq_false_iff.2 ht
        rw [List.filter_cons_of_pos (by simp [ht'])] at hm
        cases rest with
        | nil => exact absurd rfl hne
        | cons nd rest =>
          rw [List.map_cons, List.map_cons] at hm
          injection hm with hm1 hm2
          have hcl : c.length = done.length + (rest.length + 1) := by rw [hd, List.length_append, List.length_cons]
          have hrd2 : rd_T45 c (done.length : Int) = nd := by
            unfold rd_T45
            rw [Int.toNat_natCast, hd, List.getD_eq_getElem?_getD, List.getElem?_append_right (Nat.le_refl _), Nat.sub_self]
            rfl
          obtain ⟨k1, k2⟩ := hk nd (by rw [hd]; simp)
          have ih := (rows_ev c all hc hall hk L (pre ++ [x]) (by rw [hp]; simp) rest (done ++ [nd]) (by rw [hd]; simp) hm2).1
          rw [hnl, show (done ++ [nd]).length = done.length + 1 by simp] at ih
          refine Ev.step (fun n => ?_) ih
          rw [cooperagelaw9_ParseRows.l1, if_pos (by omega), if_pos (by omega), hrd, if_neg ht, if_neg (by omega), if_pos (by omega), if_pos (by omega), hrd2, if_pos hm1, if_neg (by omega), if_neg (by omega), hw (), wrap_succ done.length (by omega)]
    refine ⟨?_, key⟩
    cases rest with
    | nil =>
      refine Ev.step (f := fun _ => some true) (fun n => ?_) (Ev.now _)
      rw [cooperagelaw9_ParseRows.l0, if_neg (by rw [hd, List.append_nil]; omega)]
    | cons nd rest =>
      refine Ev.step (fun n => ?_) (key (by simp))
      rw [cooperagelaw9_ParseRows.l0, if_pos (by rw [hd, List.length_append, List.length_cons]; omega)]
end Go.Proofs.YthnholondnfjoaaDoor.Pl
namespace Go.Proofs.YthnholondnfjoaaDoor.Pure
open Go.RowKit Go.Proofs.YthnholondnfjoaaDoor.PParse Go.Proofs.YthnholondnfjoaaDoorW.PrintWords Go.Proofs.YthnholondnfjoaaDoor.Pl

theorem ParseRows : cooperagelaw9_ParseRows.Pure := by
  intro l0 l1 _ _ _ _ _ _
  have hT : Ev (fun k => cooperagelaw9_ParseRows.j0 k l0 l1 true true) true := Ev.step (f := fun _ => some true) (fun k => by rw [cooperagelaw9_ParseRows.j0, if_pos rfl]) (Ev.now _)
  refine Ev.rounds (g := fun k => cooperagelaw9_ParseRows.f k l0 l1) ?_
  unfold cooperagelaw9_ParseRows.f
  refine Ev.bind (f := fun k t => _) shown_ev ?_
  obtain ⟨ra, a1, a2⟩ := as_ev l0
  refine Ev.bind (f := fun k t => _) a1 ?_
  obtain ⟨rb, b1, b2⟩ := as_ev l1
  refine Ev.bind (f := fun k t => _) b1 ?_
  simp only [if_true]
  rcases ha : ra.2 with _ | _
  · simp only [Bool.false_eq_true, if_false]
    exact hT
  simp only [if_true]
  rcases hb : rb.2 with _ | _
  · exact hT
  obtain ⟨hla, hsa⟩ := a2 ha
  obtain ⟨hlb, hsb⟩ := b2 hb
  have hlab : (l0 ++ l1).length ≤ 200 := by rw [List.length_append]; omega
  have hsab : ∀ x ∈ l0 ++ l1, (bl x.f2).length ≤ 400 := fun x hx => by
    rcases List.mem_append.1 hx with h | h
    · exact hsa x h
    · exact hsb x h
  obtain ⟨p, hp, hpP⟩ := parse_tot RowJ row_tab row_node ⟨rfl, fun _ h => by simp at h⟩ l0 (by omega) hsa
  obtain ⟨q, hq, hqP⟩ := parse_tot RowJ row_tab row_node ⟨rfl, fun _ h => by simp at h⟩ l1 (by omega) hsb
  obtain ⟨r, hr, hrP⟩ := parse_tot RowJ row_tab row_node ⟨rfl, fun _ h => by simp at h⟩ (l0 ++ l1) hlab hsab
  have hpl : p.1.length ≤ 200 := by
    rcases hpP with ⟨_, _, h, _⟩ | ⟨h, _⟩
    · have := congrArg List.length h
      rw [List.length_map, List.length_map] at this
      have h2 := List.length_filter_le (fun x : S43 => !x.f1) l0
      omega
    · rw [h]; simp
  -- what the two answer together
  have hj1 : Ev (fun k => cooperagelaw9_ParseRows.j1 k l0 l1 p.1 q.1 r.1 r.2.1 r.2.2 (if p.2.1 = 0 then q.2.1 != 0 else true)) true := by
    by_cases c : p.2.1 = 0 ∧ q.2.1 = 0
    · have hpe : p = (p.1, 0, p.2.2) := by rw [← c.1]
      have hqe : q = (q.1, 0, q.2.2) := by rw [← c.2]
      rw [hpe] at hp
      rw [hqe] at hq
      have h2 := parse_two l0 l1 hlab hsa hsb p.1 q.1 p.2.2 q.2.2 hpl hp hq
      have he := Ev.unique hr h2
      have hJ : RowJ (l0 ++ l1) r.1 [] := by
        rcases hrP with ⟨_, _, h⟩ | ⟨_, h, _⟩
        · exact h
        · rw [he] at h
          exact absurd rfl h
      have hrl : r.1.length ≤ 200 := by
        have := congrArg List.length hJ.1
        rw [List.length_map, List.length_map] at this
        have h2 := List.length_filter_le (fun x : S43 => !x.f1) (l0 ++ l1)
        omega
      have hev := (rows_ev r.1 (l0 ++ l1) hrl hlab hJ.2 (l0 ++ l1) [] rfl r.1 [] rfl hJ.1).1
      have hlen : (r.1.length : Int) = (p.1.length : Int) + (q.1.length : Int) := by
        rw [he]
        simp
      have hw : Unit → wrap64 ((p.1.length : Int) + (q.1.length : Int)) = (r.1.length : Int) := fun _ => by rw [wrap_sm] <;> omega
      rw [if_pos c.1, show (q.2.1 != 0) = false from bne_eq_false_iff_eq.2 c.2]
      refine Ev.step (f := fun k => cooperagelaw9_ParseRows.j2 k l0 l1 r.1 false) (fun n => ?_) ?_
      · rw [cooperagelaw9_ParseRows.j1, if_neg (by decide), if_pos (by rw [he]), if_pos (by rw [he]), hw ()]
        congr 1
        exact bne_eq_false_iff_eq.2 rfl
      · refine Ev.step (fun n => ?_) hev
        rw [cooperagelaw9_ParseRows.j2, if_neg (by decide), Option.bind_some, if_pos (by rw [List.length_nil]; omega), Option.bind_some, if_pos (by rw [List.nil_append]; omega), List.nil_append]
        rfl
    · have hb : (if p.2.1 = 0 then q.2.1 != 0 else true) = true := by
        by_cases d : p.2.1 = 0
        · rw [if_pos d]
          exact bne_iff_ne.2 (fun e => c ⟨d, e⟩)
        · rw [if_neg d]
      rw [hb]
      refine Ev.step (f := fun _ => some true) (fun n => ?_) (Ev.now _)
      rw [cooperagelaw9_ParseRows.j1, if_pos rfl]
      rcases hrP with ⟨h, _, _⟩ | ⟨h, h2, _⟩
      · rw [if_pos h]
      · rw [if_neg h2, h]
        rfl
  obtain ⟨K1, h1⟩ := hp
  obtain ⟨K2, h2⟩ := hq
  obtain ⟨K3, h3⟩ := hr
  obtain ⟨K4, h4⟩ := hj1
  refine ⟨max (max K1 K2) (max K3 K4) + 1, fun k hk => ?_⟩
  obtain ⟨m, rfl⟩ : ∃ m, k = m + 1 := ⟨k - 1, by omega⟩
  have h1' : parse_Parse.f m l0 = some p := h1 m (by omega)
  have h2' : parse_Parse.f m l1 = some q := h2 m (by omega)
  have h3' : parse_Parse.f m (l0 ++ l1) = some r := h3 m (by omega)
  have h4' := h4 m (by omega)
  dsimp only at h4' ⊢
  rw [show (!true) = false from rfl, cooperagelaw9_ParseRows.j0, if_neg (by decide), h1', Option.bind_some, h2', Option.bind_some, Option.bind_some, if_pos (by rw [List.length_nil]; omega), Option.bind_some, if_pos (by rw [List.nil_append]; omega), List.nil_append, h3', Option.bind_some]
  by_cases d : p.2.1 = 0
  · rw [if_pos d]
    rw [if_pos d] at h4'
    exact h4'
  · rw [if_neg d]
    rw [if_neg d] at h4'
    exact h4'
end Go.Proofs.YthnholondnfjoaaDoor.Pure
