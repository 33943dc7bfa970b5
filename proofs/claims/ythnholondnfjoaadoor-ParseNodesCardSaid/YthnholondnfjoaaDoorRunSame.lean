/- parse.Parse and the document's Parse, side by side. -/
import Derived.Test.YthnholondnfjoaaDoorPParsex13
import Derived.Test.YthnholondnfjoaaDoorOneSame
import Derived.Test.YthnholondnfjoaaDoorRunPure
namespace Go.Proofs.YthnholondnfjoaaDoor.Pl
open Go.RowKit Go.Proofs.YthnholondnfjoaaDoor.PParse Go.Proofs.YthnholondnfjoaaDoorW.PrintWords Go.Proofs.YthnholondnfjoaaDoorW.PrintLast

theorem Ev.shiftN {α : Type} {g f : Nat → Option α} {r : α} (m K : Nat) (h : ∀ n, K ≤ n → g (n + m) = f n) : Ev f r → Ev g r := by
  rintro ⟨M, hM⟩
  refine ⟨max K M + m, fun k hk => ?_⟩
  obtain ⟨q, rfl⟩ : ∃ q, k = q + m := ⟨k - m, by omega⟩
  rw [h q (by omega)]
  exact hM q (by omega)
def m64 (nd : S45) : S64 := ⟨nd.f0, nd.f1, nd.f2, nd.f3, nd.f4, nd.f5, nd.f6, nd.f7, nd.f8, nd.f9⟩
def m53 (x : S43) : S53 := ⟨x.f0, x.f1, x.f2⟩
def cI (b : Bool) : Int := if b = true then 1 else 0
def mk64 (R : NodeR) : S64 := ⟨R.1, R.2.1, R.2.2.1, R.2.2.2.1, R.2.2.2.2.1, R.2.2.2.2.2.1, R.2.2.2.2.2.2.1, R.2.2.2.2.2.2.2.1, R.2.2.2.2.2.2.2.2.1, R.2.2.2.2.2.2.2.2.2.1⟩
theorem takeL_3 (o : List Bool) (c : Int) (h : c = 3) : takeL o c = if o.length = 20 then (o, 15) else (o ++ [false], 0) := by
  unfold takeL
  rw [if_pos h]
theorem takeL_no (o : List Bool) (c : Int) (h3 : c ≠ 3) (h4 : c ≠ 4) (h5 : c ≠ 5) : takeL o c = (o, 0) := by
  unfold takeL
  rw [if_neg h3, if_pos ⟨h4, h5⟩]
theorem takeL_nil (c : Int) (h : c = 4 ∨ c = 5) : takeL [] c = ([], 2) := by
  unfold takeL
  rw [if_neg (by omega), if_neg (by omega)]
  rfl
theorem takeL_4 (u : List Bool) (b : Bool) (c : Int) (h : c = 4) : takeL (u ++ [b]) c = if b = true then (u ++ [b], 2) else (u ++ [true], 0) := by
  unfold takeL
  rw [if_neg (by omega), if_neg (by omega), show (u ++ [b]).reverse = b :: u.reverse by simp]
  simp only [List.reverse_reverse, if_pos h]
theorem takeL_5 (u : List Bool) (b : Bool) (c : Int) (h : c = 5) : takeL (u ++ [b]) c = (u, 0) := by
  unfold takeL
  rw [if_neg (by omega), if_neg (by omega), show (u ++ [b]).reverse = b :: u.reverse by simp]
  simp only [List.reverse_reverse, if_neg (show ¬ c = 4 by omega)]
section
variable {L pre post : List S43} {x : S43}
theorem rd53_mid (h : L = pre ++ x :: post) : rd_T53 (L.map m53) (pre.length : Int) = m53 x := by
  unfold rd_T53
  rw [Int.toNat_natCast, h, List.map_append, List.map_cons, List.getD_eq_getElem?_getD, List.getElem?_append_right (by rw [List.length_map]; exact Nat.le_refl _), List.length_map, Nat.sub_self]
  rfl
theorem rd64_last (o : List S45) (nd : S45) : rd_T64 ((o ++ [nd]).map m64) (o.length : Int) = m64 nd := by
  unfold rd_T64
  rw [Int.toNat_natCast, List.map_append, List.getD_eq_getElem?_getD, List.getElem?_append_right (by rw [List.length_map]; exact Nat.le_refl _), List.length_map, Nat.sub_self]
  rfl
theorem set_map {α β : Type} (f : α → β) (u : List α) (b : α) (v : β) : ((u ++ [b]).map f).set (u.length : Int).toNat v = u.map f ++ [v] := by
  rw [Int.toNat_natCast, List.map_append, List.set_append_right _ _ (by rw [List.length_map]; exact Nat.le_refl _), List.length_map, Nat.sub_self]
  rfl
theorem rtab_none (open_ : List Int) (h : L = pre ++ x :: post) (ht : x.f1 = true) (n : Nat) : cooperageref9_Parse.l0 (n + 1) (L.map m53) (([] : List S45).map m64) open_ (pre.length : Int) = some ([], 2, x.f0) := by
  have hl : (pre.length : Int) < ((L.map m53).length : Int) := by rw [List.length_map, h, List.length_append, List.length_cons]; omega
  rw [cooperageref9_Parse.l0, if_pos hl, if_pos (by omega), rd53_mid h, if_pos (show (m53 x).f1 = true from ht), if_pos (by rfl)]
  rfl
theorem rtab_last (o : List S45) (nd : S45) (open_ : List Int) (h : L = pre ++ x :: post) (ht : x.f1 = true) (ho : o.length ≤ 1000) (hp : pre.length ≤ 1000) (hr : nd.f9.length ≤ 1000) (n : Nat) :
    cooperageref9_Parse.l0 (n + 1) (L.map m53) ((o ++ [nd]).map m64) open_ (pre.length : Int) = if nd.f0 = 2 then cooperageref9_Parse.l0 n (L.map m53) ((o ++ [addR nd x.f2]).map m64) open_ ((pre.length + 1 : Nat) : Int) else some ([], 2, x.f0) := by
  have hl : (pre.length : Int) < ((L.map m53).length : Int) := by rw [List.length_map, h, List.length_append, List.length_cons]; omega
  have hol : (((o ++ [nd]).map m64).length : Int) = (o.length : Int) + 1 := by rw [List.length_map, List.length_append]; rfl
  have hw : Unit → wrap64 ((((o ++ [nd]).map m64).length : Int) - 1) = (o.length : Int) := fun _ => by
    rw [hol, wrap_sm]
    · omega
    · omega
    · omega
  rw [cooperageref9_Parse.l0, if_pos hl, if_pos (by omega), rd53_mid h, if_pos (show (m53 x).f1 = true from ht), if_neg (by omega), hw (), if_pos (by omega), if_pos (by omega), rd64_last]
  by_cases c : nd.f0 = 2
  · rw [if_pos (show (m64 nd).f0 = 2 from c), if_pos c, Option.bind_some, if_pos (show ([] : List ByteArray).length + (m64 nd).f9.length < 8796093022208 by show 0 + nd.f9.length < _; omega), Option.bind_some, if_pos (show ([] ++ (m64 nd).f9 : List ByteArray).length < 8796093022208 by show nd.f9.length < _; omega), set_map, wrap_succ _ (by omega), List.map_append]
    rfl
  · rw [if_neg (show ¬ (m64 nd).f0 = 2 from c), if_neg c]
    rfl
theorem rline (out : List S45) (o : List Bool) (h : L = pre ++ x :: post) (ht : x.f1 = false) (R : NodeR) (hR : Ev (fun k => cooperageref9_one.f k x.f0 x.f1 x.f2) R) (ho : out.length ≤ 1000) (hp : pre.length ≤ 1000) (hop : o.length ≤ 1000) : ∃ K, ∀ n, K ≤ n →
    cooperageref9_Parse.l0 (n + 3) (L.map m53) (out.map m64) (o.map cI) (pre.length : Int) = if R.2.2.2.2.2.2.2.2.2.2 = true then (if (takeL o R.1).2 = 0 then cooperageref9_Parse.l0 n (L.map m53) (out.map m64 ++ [mk64 R]) ((takeL o R.1).1.map cI) ((pre.length + 1 : Nat) : Int) else some ([], (takeL o R.1).2, x.f0)) else some ([], 2, x.f0) := by
  have hl : (pre.length : Int) < ((L.map m53).length : Int) := by rw [List.length_map, h, List.length_append, List.length_cons]; omega
  have hom : (out.map m64).length < 925904528653 := by rw [List.length_map]; omega
  obtain ⟨K, hK⟩ := hR
  refine ⟨K, fun n hn => ?_⟩
  have hK' : cooperageref9_one.f (n + 2) (m53 x).f0 (m53 x).f1 (m53 x).f2 = some R := hK (n + 2) (by omega)
  rw [cooperageref9_Parse.l0, if_pos hl, if_pos (by omega), rd53_mid h, if_neg (show ¬ (m53 x).f1 = true by show ¬ x.f1 = true; rw [ht]; decide), hK', Option.bind_some]
  by_cases ok : R.2.2.2.2.2.2.2.2.2.2 = true
  case neg =>
    rw [if_neg ok, if_neg ok]
    rfl
  rw [if_pos ok, if_pos ok]
  by_cases c3 : R.1 = 3
  · rw [if_pos c3, takeL_3 o R.1 c3]
    by_cases e : o.length = 20
    · rw [if_pos e, if_pos (show ((o.map cI).length : Int) = 20 by rw [List.length_map]; omega), if_neg (show ¬ (o, (15 : Int)).2 = 0 by show ¬ (15 : Int) = 0; decide)]
      rfl
    · rw [if_neg e, if_neg (show ¬ ((o.map cI).length : Int) = 20 by rw [List.length_map]; omega), if_pos (show (o.map cI).length < 17592186044416 by rw [List.length_map]; omega), if_pos (show (o ++ [false], (0 : Int)).2 = 0 from rfl),
        cooperageref9_Parse.j1, if_neg (by omega), cooperageref9_Parse.j2, if_neg (by omega), if_pos hom, wrap_succ _ (by omega), List.map_append]
      rfl
  rw [if_neg c3, cooperageref9_Parse.j1]
  by_cases c4 : R.1 = 4
  · rw [if_pos c4]
    rcases List.eq_nil_or_concat o with rfl | ⟨u, b, rfl⟩
    · rw [takeL_nil R.1 (.inl c4), if_neg (show ¬ (([] : List Bool), (2 : Int)).2 = 0 by decide), if_pos (show ((([] : List Bool).map cI).length : Int) = 0 from rfl), if_pos (by omega), if_pos hl, rd53_mid h]
      rfl
    · rw [List.concat_eq_append] at *
      have hul : (((u ++ [b]).map cI).length : Int) = (u.length : Int) + 1 := by rw [List.length_map, List.length_append]; rfl
      have hw : Unit → wrap64 ((((u ++ [b]).map cI).length : Int) - 1) = (u.length : Int) := fun _ => by
        rw [List.length_append, List.length_singleton] at hop
        rw [hul, wrap_sm]
        · omega
        · omega
        · omega
      have hrd : rd ((u ++ [b]).map cI) (u.length : Int) = cI b := by
        unfold rd
        rw [Int.toNat_natCast, List.map_append, List.getD_eq_getElem?_getD, List.getElem?_append_right (by rw [List.length_map]; exact Nat.le_refl _), List.length_map, Nat.sub_self]
        rfl
      rw [takeL_4 u b R.1 c4, if_neg (by omega), hw (), if_pos (by omega), if_pos (by omega), hrd]
      cases b with
      | true =>
        rw [if_pos (show cI true > 0 by decide), if_pos (show (true = true) from rfl), if_neg (show ¬ (u ++ [true], (2 : Int)).2 = 0 by show ¬ (2 : Int) = 0; decide), if_pos (by omega), if_pos hl, rd53_mid h]
        rfl
      | false =>
        rw [if_neg (show ¬ cI false > 0 by decide), if_neg (show ¬ (false = true) by decide), if_pos (show (u ++ [true], (0 : Int)).2 = 0 from rfl), cooperageref9_Parse.j2, if_neg (by omega), if_pos hom, set_map, wrap_succ _ (by omega), List.map_append]
        rfl
  rw [if_neg c4, cooperageref9_Parse.j2]
  by_cases c5 : R.1 = 5
  · rw [if_pos c5]
    rcases List.eq_nil_or_concat o with rfl | ⟨u, b, rfl⟩
    · rw [takeL_nil R.1 (.inr c5), if_neg (show ¬ (([] : List Bool), (2 : Int)).2 = 0 by decide), if_pos (show ((([] : List Bool).map cI).length : Int) = 0 from rfl), if_pos (by omega), if_pos hl, rd53_mid h]
      rfl
    · rw [List.concat_eq_append] at *
      have hul : (((u ++ [b]).map cI).length : Int) = (u.length : Int) + 1 := by rw [List.length_map, List.length_append]; rfl
      have hw : Unit → wrap64 ((((u ++ [b]).map cI).length : Int) - 1) = (u.length : Int) := fun _ => by
        rw [List.length_append, List.length_singleton] at hop
        rw [hul, wrap_sm]
        · omega
        · omega
        · omega
      rw [takeL_5 u b R.1 c5, if_pos (show (u, (0 : Int)).2 = 0 from rfl), if_neg (by omega), hw (), if_pos (by omega), if_pos (by omega), if_pos hom, wrap_succ _ (by omega), Int.toNat_natCast, List.map_append, List.take_append_of_le_length (by rw [List.length_map]; exact Nat.le_refl _), List.take_of_length_le (by rw [List.length_map]; exact Nat.le_refl _)]
      rfl
  · rw [if_neg c5, takeL_no o R.1 c3 c4 c5, if_pos (show (o, (0 : Int)).2 = 0 from rfl), if_pos hom, wrap_succ _ (by omega)]
    rfl
end
theorem run_same (L : List S43) (hL : L.length ≤ 400) (hs : ∀ x ∈ L, (bl x.f2).length ≤ 1000) :
    ∀ (rest pre : List S43) (out : List S45) (open_ : List Bool), L = pre ++ rest → out.length ≤ pre.length → open_.length ≤ pre.length → (∀ nd ∈ out, nd.f9.length ≤ pre.length) →
      ∃ res : Res, Ev (fun k => parse_Parse.l0 k out open_ L (L.length : Int) (pre.length : Int)) res ∧ Ev (fun k => cooperageref9_Parse.l0 k (L.map m53) (out.map m64) (open_.map cI) (pre.length : Int)) (res.1.map m64, res.2) ∧ res.1.length ≤ 400 ∧ ∀ nd ∈ res.1, nd.f9.length ≤ 400
  | [], pre, out, open_, hd, h1, _, h3 => by
    have hd' : L = pre := by rw [hd, List.append_nil]
    have hm : (L.map m53).length = L.length := List.length_map ..
    have hol : (open_.map cI).length = open_.length := List.length_map ..
    by_cases c : open_ = []
    · refine ⟨(out, 0, 0), Ev.step (f := fun _ => some (out, 0, 0)) (fun n => ?_) (Ev.now _), Ev.step (f := fun _ => some (out.map m64, 0, 0)) (fun n => ?_) (Ev.now _), ?_, ?_⟩
      · rw [parse_Parse.l0, if_neg (by rw [hd']; omega), if_neg (by rw [c]; simp)]
      · rw [cooperageref9_Parse.l0, if_neg (by rw [hm, hd']; omega), if_neg (by rw [hol, c]; simp)]
      · rw [hd'] at hL
        exact Nat.le_trans h1 hL
      · rw [hd'] at hL
        exact fun nd hn => Nat.le_trans (h3 nd hn) hL
    · refine ⟨([], 14, 0), Ev.step (f := fun _ => some ([], 14, 0)) (fun n => ?_) (Ev.now _), Ev.step (f := fun _ => some ([], 14, 0)) (fun n => ?_) (Ev.now _), by simp, fun nd hn => by simp at hn⟩
      · have := List.length_pos_iff.2 c
        rw [parse_Parse.l0, if_neg (by rw [hd']; omega), if_pos (by omega)]
      · have := List.length_pos_iff.2 c
        rw [cooperageref9_Parse.l0, if_neg (by rw [hm, hd']; omega), if_pos (by omega)]
  | x :: rest, pre, out, open_, hd, h1, h2, h3 => by
    have hpl : pre.length + rest.length + 1 ≤ 400 := by rw [hd, List.length_append, List.length_cons] at hL; omega
    have hxs := hs x (by rw [hd]; simp)
    have hnext : L = (pre ++ [x]) ++ rest := by rw [hd]; simp
    have hnl : (pre ++ [x]).length = pre.length + 1 := by simp
    have bad : ∀ e : Int, (∃ K, ∀ n, K ≤ n → parse_Parse.l0 (n + 1) out open_ L (L.length : Int) (pre.length : Int) = some ([], e, x.f0)) → (∃ K, ∀ n, K ≤ n → cooperageref9_Parse.l0 (n + 3) (L.map m53) (out.map m64) (open_.map cI) (pre.length : Int) = some ([], e, x.f0)) →
        ∃ res : Res, Ev (fun k => parse_Parse.l0 k out open_ L (L.length : Int) (pre.length : Int)) res ∧ Ev (fun k => cooperageref9_Parse.l0 k (L.map m53) (out.map m64) (open_.map cI) (pre.length : Int)) (res.1.map m64, res.2) ∧ res.1.length ≤ 400 ∧ ∀ nd ∈ res.1, nd.f9.length ≤ 400 := by
      rintro e ⟨K, hK⟩ ⟨M, hM⟩
      exact ⟨([], e, x.f0), Ev.shift (f := fun _ => some ([], e, x.f0)) K hK (Ev.now _), Ev.shiftN (f := fun _ => some ([], e, x.f0)) 3 M hM (Ev.now _), by simp, fun nd hn => by simp at hn⟩
    by_cases ht : x.f1 = true
    · rcases List.eq_nil_or_concat out with rfl | ⟨o, nd, rfl⟩
      · exact bad 2 ⟨0, fun n _ => tab_none open_ hd ht n⟩ ⟨0, fun n _ => rtab_none _ hd ht (n + 2)⟩
      · rw [List.concat_eq_append] at *
        rw [List.length_append, List.length_singleton] at h1
        have hr := h3 nd (by simp)
        have hst := fun n => tab_last o nd open_ hd ht (by omega) (by omega) (by omega) n
        have hst2 := fun n => rtab_last o nd (open_.map cI) hd ht (by omega) (by omega) (by omega) n
        by_cases c : nd.f0 = 2
        · simp only [if_pos c] at hst hst2
          obtain ⟨res, r1, r2, r3⟩ := run_same L hL hs rest (pre ++ [x]) (o ++ [addR nd x.f2]) open_ hnext (by rw [List.length_append, List.length_singleton, hnl]; omega) (by omega) (fun q hq => by
            rw [hnl]
            rcases List.mem_append.1 hq with hq | hq
            · have := h3 q (by simp [hq]); omega
            · rw [List.mem_singleton] at hq
              rw [hq]
              show (nd.f9 ++ [x.f2]).length ≤ _
              rw [List.length_append, List.length_singleton]
              omega)
          rw [hnl] at r1 r2
          exact ⟨res, Ev.shift 0 (fun n _ => hst n) r1, Ev.shift 0 (fun n _ => hst2 n) r2, r3⟩
        · simp only [if_neg c] at hst hst2
          exact bad 2 ⟨0, fun n _ => hst n⟩ ⟨0, fun n _ => hst2 (n + 2)⟩
    · have ht' : x.f1 = false := Bool.eq_false_iff.2 ht
      by_cases hw : wordsL (bl x.f2) = []
      · obtain ⟨R, hR, hbad⟩ := one_none (bl x.f2) hw (by omega) x.f0 x.f1
        rw [ofL_bl] at hR
        obtain ⟨K, hK⟩ := rline out open_ hd ht' R hR (by omega) (by omega) (by omega)
        simp only [hbad, Bool.false_eq_true, if_false] at hK
        exact bad 2 ⟨0, fun n _ => line_none out open_ hd ht' hxs hw n⟩ ⟨K, hK⟩
      · obtain ⟨r, R, hr, hR, hP, hS1, hS2⟩ := one_same (bl x.f2) hw (by omega) x.f0 x.f1
        rw [ofL_bl] at hR
        obtain ⟨K, hK⟩ := line_some out open_ hd ht' hxs hw r hr (by omega) (by omega) (by omega)
        obtain ⟨M, hM⟩ := rline out open_ hd ht' R hR (by omega) (by omega) (by omega)
        rw [hS1] at hM
        by_cases c : r.2.2.2.2.2.2.2.2.2.2 = true
        · have hRe := hS2 c
          have hR1 : R.1 = r.1 := by rw [hRe]
          have hRm : mk64 R = m64 (mkN r x.f0) := by rw [hRe]; rfl
          rw [hR1, hRm] at hM
          simp only [if_pos c] at hK hM
          by_cases c2 : (takeL open_ r.1).2 = 0
          · simp only [if_pos c2] at hK hM
            have hlen := takeL_len open_ r.1
            obtain ⟨res, r1, r2, r3⟩ := run_same L hL hs rest (pre ++ [x]) (out ++ [mkN r x.f0]) (takeL open_ r.1).1 hnext (by rw [List.length_append, List.length_singleton, hnl]; omega) (by rw [hnl]; omega) (fun q hq => by
              rw [hnl]
              rcases List.mem_append.1 hq with hq | hq
              · have := h3 q hq; omega
              · rw [List.mem_singleton] at hq
                rw [hq]
                show r.2.2.2.2.2.2.2.2.2.1.length ≤ _
                rw [hP.2]
                simp)
            rw [hnl] at r1 r2
            rw [List.map_append] at r2
            exact ⟨res, Ev.shift K hK r1, Ev.shiftN 3 M hM r2, r3⟩
          · simp only [if_neg c2] at hK hM
            exact bad _ ⟨K, hK⟩ ⟨M, hM⟩
        · simp only [if_neg c] at hK hM
          exact bad 2 ⟨K, hK⟩ ⟨M, hM⟩
end Go.Proofs.YthnholondnfjoaaDoor.Pl
