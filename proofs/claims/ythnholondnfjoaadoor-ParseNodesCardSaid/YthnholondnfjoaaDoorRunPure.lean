/- parse.Parse line by line: what one line does, what is kept over all. -/
import Derived.Test.YthnholondnfjoaaDoorPParsex7
import Derived.Test.YthnholondnfjoaaDoorTotPure
namespace Go.Proofs.YthnholondnfjoaaDoor.Pl
open Go.RowKit Go.Proofs.YthnholondnfjoaaDoor.PParse Go.Proofs.YthnholondnfjoaaDoorW.PrintWords Go.Proofs.YthnholondnfjoaaDoorW.PrintLast

theorem Ev.unique {α : Type} {g : Nat → Option α} {a b : α} (h1 : Ev g a) (h2 : Ev g b) : a = b := by
  obtain ⟨K1, h1⟩ := h1
  obtain ⟨K2, h2⟩ := h2
  have e1 := h1 (max K1 K2) (by omega)
  have e2 := h2 (max K1 K2) (by omega)
  exact Option.some.inj (e1.symm.trans e2)
theorem Ev.shift {α : Type} {g f : Nat → Option α} {r : α} (K : Nat) (h : ∀ n, K ≤ n → g (n + 1) = f n) : Ev f r → Ev g r := by
  rintro ⟨M, hM⟩
  refine ⟨max K M + 1, fun k hk => ?_⟩
  obtain ⟨m, rfl⟩ : ∃ m, k = m + 1 := ⟨k - 1, by omega⟩
  rw [h m (by omega)]
  exact hM m (by omega)
theorem Ev.back {α : Type} {g f : Nat → Option α} {r : α} (K : Nat) (h : ∀ n, K ≤ n → g (n + 1) = f n) : Ev g r → Ev f r := by
  rintro ⟨M, hM⟩
  refine ⟨max K M, fun k hk => ?_⟩
  rw [← h k (by omega)]
  exact hM (k + 1) (by omega)
abbrev Res := List S45 × Int × Int
abbrev NodeR := Int × Int × ByteArray × ByteArray × ByteArray × ByteArray × ByteArray × ByteArray × ByteArray × List ByteArray × Bool
/-- A line's node, with the line's number. -/
def mkN (r : NodeR) (no : Int) : S45 := ⟨r.1, no, r.2.2.1, r.2.2.2.1, r.2.2.2.2.1, r.2.2.2.2.2.1, r.2.2.2.2.2.2.1, r.2.2.2.2.2.2.2.1, r.2.2.2.2.2.2.2.2.1, r.2.2.2.2.2.2.2.2.2.1⟩
/-- A rule with one line more in its recipe. -/
def addR (nd : S45) (t : ByteArray) : S45 := ⟨nd.f0, nd.f1, nd.f2, nd.f3, nd.f4, nd.f5, nd.f6, nd.f7, nd.f8, nd.f9 ++ [t]⟩
section
variable {L pre post : List S43} {x : S43}
theorem rd43_mid (h : L = pre ++ x :: post) : rd_T43 L (pre.length : Int) = x := by
  unfold rd_T43
  rw [Int.toNat_natCast, h, List.getD_eq_getElem?_getD, List.getElem?_append_right (Nat.le_refl _), Nat.sub_self]
  rfl
theorem rd45_last (o : List S45) (nd : S45) : rd_T45 (o ++ [nd]) (o.length : Int) = nd := by
  unfold rd_T45
  rw [Int.toNat_natCast, List.getD_eq_getElem?_getD, List.getElem?_append_right (Nat.le_refl _), Nat.sub_self]
  rfl
/-- A line with a tab, where nothing stands. -/
theorem tab_none (open_ : List Bool) (h : L = pre ++ x :: post) (ht : x.f1 = true) (n : Nat) : parse_Parse.l0 (n + 1) [] open_ L (L.length : Int) (pre.length : Int) = some ([], 2, x.f0) := by
  have hl : (pre.length : Int) < (L.length : Int) := by rw [h, List.length_append, List.length_cons]; omega
  rw [parse_Parse.l0, if_pos hl, if_pos (by omega), if_pos hl, rd43_mid h, if_pos ht, if_pos (by rfl)]
theorem tab_last (o : List S45) (nd : S45) (open_ : List Bool) (h : L = pre ++ x :: post) (ht : x.f1 = true) (ho : o.length ≤ 1000) (hp : pre.length ≤ 1000) (hr : nd.f9.length ≤ 1000) (n : Nat) :
    parse_Parse.l0 (n + 1) (o ++ [nd]) open_ L (L.length : Int) (pre.length : Int) = if nd.f0 = 2 then parse_Parse.l0 n (o ++ [addR nd x.f2]) open_ L (L.length : Int) ((pre.length + 1 : Nat) : Int) else some ([], 2, x.f0) := by
  have hl : (pre.length : Int) < (L.length : Int) := by rw [h, List.length_append, List.length_cons]; omega
  have hol : ((o ++ [nd]).length : Int) = (o.length : Int) + 1 := by rw [List.length_append]; rfl
  have hw : Unit → wrap64 (((o ++ [nd]).length : Int) - 1) = (o.length : Int) := fun _ => by
    rw [hol, wrap_sm]
    · omega
    · omega
    · omega
  have hset : ∀ q, (o ++ [nd]).set (o.length : Int).toNat q = o ++ [q] := by
    intro q
    rw [Int.toNat_natCast, List.set_append_right _ _ (Nat.le_refl _), Nat.sub_self]
    rfl
  rw [parse_Parse.l0, if_pos hl, if_pos (by omega), if_pos hl, rd43_mid h, if_pos ht, if_neg (by omega), hw (), if_pos (by omega), if_pos (by omega), rd45_last]
  by_cases c : nd.f0 = 2
  · rw [if_pos c, if_pos c, if_pos (by omega), hset, wrap_succ _ (by omega)]
    rfl
  · rw [if_neg c, if_neg c]
theorem line_none (out : List S45) (open_ : List Bool) (h : L = pre ++ x :: post) (ht : x.f1 = false) (hs : (bl x.f2).length ≤ 1000) (hw : wordsL (bl x.f2) = []) (n : Nat) :
    parse_Parse.l0 (n + 1) out open_ L (L.length : Int) (pre.length : Int) = some ([], 2, x.f0) := by
  have hl : (pre.length : Int) < (L.length : Int) := by rw [h, List.length_append, List.length_cons]; omega
  have hwf := words_f (bl x.f2) (by omega)
  rw [ofL_bl, hw] at hwf
  rw [parse_Parse.l0, if_pos hl, if_pos (by omega), if_pos hl, rd43_mid h, if_neg (by rw [ht]; decide), hwf, Option.bind_some, if_pos (by rfl)]
/-- A line without a tab that has a word. -/
theorem line_some (out : List S45) (open_ : List Bool) (h : L = pre ++ x :: post) (ht : x.f1 = false) (hs : (bl x.f2).length ≤ 1000) (hw : wordsL (bl x.f2) ≠ []) (r : NodeR) (hr : Ev (fun k => parse_node.f k (ofL (triB (bl x.f2)))) r)
    (ho : out.length ≤ 1000) (hp : pre.length ≤ 1000) (hop : open_.length ≤ 1000) : ∃ K, ∀ n, K ≤ n →
    parse_Parse.l0 (n + 1) out open_ L (L.length : Int) (pre.length : Int) = if r.2.2.2.2.2.2.2.2.2.2 = true then (if (takeL open_ r.1).2 = 0 then parse_Parse.l0 n (out ++ [mkN r x.f0]) (takeL open_ r.1).1 L (L.length : Int) ((pre.length + 1 : Nat) : Int) else some ([], (takeL open_ r.1).2, x.f0)) else some ([], 2, x.f0) := by
  have hl : (pre.length : Int) < (L.length : Int) := by rw [h, List.length_append, List.length_cons]; omega
  have hwf := words_f (bl x.f2) (by omega)
  have htf := trim_f (bl x.f2) (by omega)
  rw [ofL_bl] at hwf htf
  obtain ⟨K1, h1⟩ := hr
  obtain ⟨K2, h2⟩ := take_ev open_ r.1 hop
  refine ⟨max K1 K2, fun n hn => ?_⟩
  have h1' : parse_node.f n (ofL (triB (bl x.f2))) = some r := h1 n (by omega)
  have h2' : parse_nest_take.f n open_ r.1 = some (takeL open_ r.1) := h2 n (by omega)
  have hwl : ¬ (((List.map ofL (wordsL (bl x.f2))).length : Int) = 0) := by
    rw [List.length_map]
    have := List.length_pos_iff.2 hw
    omega
  rw [parse_Parse.l0, if_pos hl, if_pos (by omega), if_pos hl, rd43_mid h, if_neg (by rw [ht]; decide), hwf, Option.bind_some, if_neg hwl, htf, Option.bind_some, h1', Option.bind_some]
  by_cases c : r.2.2.2.2.2.2.2.2.2.2 = true
  · rw [if_pos c, if_pos c, h2', Option.bind_some]
    by_cases c2 : (takeL open_ r.1).2 = 0
    · rw [if_pos c2, if_pos c2, if_pos (by omega), wrap_succ _ (by omega)]
      rfl
    · rw [if_neg c2, if_neg c2]
  · rw [if_neg c, if_neg c]
end
theorem takeL_code (o : List Bool) (c : Int) : (takeL o c).2 = 0 ∨ (takeL o c).2 = 2 ∨ (takeL o c).2 = 15 := by
  unfold takeL
  split
  · split <;> simp
  · split
    · simp
    · split
      · simp
      · split
        · split <;> simp
        · simp
theorem takeL_len (o : List Bool) (c : Int) : (takeL o c).1.length ≤ o.length + 1 := by
  unfold takeL
  split
  · split <;> simp
  · split
    · simp
    · split
      · simp
      · rename_i b u hu
        have : o.length = u.length + 1 := by rw [← List.length_reverse, hu]; rfl
        split
        · split
          · exact Nat.le_succ _
          · simp; omega
        · simp; omega
/-- Whatever is kept by each line is so at the end; where a line is wrong, nothing is left. -/
theorem parse_all (J : List S43 → List S45 → List Bool → Prop)
    (htab : ∀ pre x o nd open_, J pre (o ++ [nd]) open_ → x.f1 = true → nd.f0 = 2 → J (pre ++ [x]) (o ++ [addR nd x.f2]) open_)
    (hnode : ∀ pre x out open_ nd, J pre out open_ → x.f1 = false → nd.f1 = x.f0 → 1 ≤ nd.f0 → nd.f0 ≤ 6 → (takeL open_ nd.f0).2 = 0 → J (pre ++ [x]) (out ++ [nd]) (takeL open_ nd.f0).1)
    (L : List S43) (hL : L.length ≤ 400) (hs : ∀ x ∈ L, (bl x.f2).length ≤ 1000) :
    ∀ (rest pre : List S43) (out : List S45) (open_ : List Bool), L = pre ++ rest → J pre out open_ → out.length ≤ pre.length → open_.length ≤ pre.length → (∀ nd ∈ out, nd.f9.length ≤ pre.length) →
      ∃ res : Res, Ev (fun k => parse_Parse.l0 k out open_ L (L.length : Int) (pre.length : Int)) res ∧ ((res.2.1 = 0 ∧ res.2.2 = 0 ∧ J L res.1 []) ∨ (res.1 = [] ∧ res.2.1 ≠ 0 ∧ (res.2.1 = 14 → res.2.2 = 0)))
  | [], pre, out, open_, hd, hJ, _, _, _ => by
    have hd' : L = pre := by rw [hd, List.append_nil]
    by_cases c : open_ = []
    · refine ⟨(out, 0, 0), Ev.step (f := fun _ => some (out, 0, 0)) (fun n => ?_) (Ev.now _), .inl ⟨rfl, rfl, ?_⟩⟩
      · rw [parse_Parse.l0, if_neg (by rw [hd']; omega), if_neg (by rw [c]; simp)]
      · rw [hd', ← c]
        exact hJ
    · refine ⟨([], 14, 0), Ev.step (f := fun _ => some ([], 14, 0)) (fun n => ?_) (Ev.now _), .inr ⟨rfl, by decide, fun _ => rfl⟩⟩
      have := List.length_pos_iff.2 c
      rw [parse_Parse.l0, if_neg (by rw [hd']; omega), if_pos (by omega)]
  | x :: rest, pre, out, open_, hd, hJ, h1, h2, h3 => by
    have hpl : pre.length + rest.length + 1 ≤ 400 := by rw [hd, List.length_append, List.length_cons] at hL; omega
    have hxs := hs x (by rw [hd]; simp)
    have hnext : L = (pre ++ [x]) ++ rest := by rw [hd]; simp
    have hnl : (pre ++ [x]).length = pre.length + 1 := by simp
    have bad : ∀ e : Int, e ≠ 0 → e ≠ 14 → (∃ K, ∀ n, K ≤ n → parse_Parse.l0 (n + 1) out open_ L (L.length : Int) (pre.length : Int) = some ([], e, x.f0)) →
        ∃ res : Res, Ev (fun k => parse_Parse.l0 k out open_ L (L.length : Int) (pre.length : Int)) res ∧ ((res.2.1 = 0 ∧ res.2.2 = 0 ∧ J L res.1 []) ∨ (res.1 = [] ∧ res.2.1 ≠ 0 ∧ (res.2.1 = 14 → res.2.2 = 0))) := by
      rintro e he he2 ⟨K, hK⟩
      exact ⟨([], e, x.f0), Ev.shift (f := fun _ => some ([], e, x.f0)) K hK (Ev.now _), .inr ⟨rfl, he, fun q => absurd q he2⟩⟩
    by_cases ht : x.f1 = true
    · rcases List.eq_nil_or_concat out with rfl | ⟨o, nd, rfl⟩
      · exact bad 2 (by decide) (by decide) ⟨0, fun n _ => tab_none open_ hd ht n⟩
      · rw [List.concat_eq_append] at *
        rw [List.length_append, List.length_singleton] at h1
        have hr := h3 nd (by simp)
        have hst := fun n => tab_last o nd open_ hd ht (by omega) (by omega) (by omega) n
        by_cases c : nd.f0 = 2
        · simp only [if_pos c] at hst
          obtain ⟨res, hres, hP⟩ := parse_all J htab hnode L hL hs rest (pre ++ [x]) (o ++ [addR nd x.f2]) open_ hnext (htab _ _ _ _ _ hJ ht c) (by rw [List.length_append, List.length_singleton, hnl]; omega) (by omega) (fun q hq => by
            rw [hnl]
            rcases List.mem_append.1 hq with hq | hq
            · have := h3 q (by simp [hq]); omega
            · rw [List.mem_singleton] at hq
              rw [hq]
              show (nd.f9 ++ [x.f2]).length ≤ _
              rw [List.length_append, List.length_singleton]
              omega)
          rw [hnl] at hres
          exact ⟨res, Ev.shift 0 (fun n _ => hst n) hres, hP⟩
        · simp only [if_neg c] at hst
          exact bad 2 (by decide) (by decide) ⟨0, fun n _ => hst n⟩
    · have ht' : x.f1 = false := Bool.eq_false_iff.2 ht
      by_cases hw : wordsL (bl x.f2) = []
      · exact bad 2 (by decide) (by decide) ⟨0, fun n _ => line_none out open_ hd ht' hxs hw n⟩
      · obtain ⟨r, hr, hP1, hP2⟩ := node_tot (triB (bl x.f2)) (by rw [words_triB]; exact hw) (by have := triB_len (bl x.f2); omega)
        obtain ⟨K, hK⟩ := line_some out open_ hd ht' hxs hw r hr (by omega) (by omega) (by omega)
        by_cases c : r.2.2.2.2.2.2.2.2.2.2 = true
        · simp only [if_pos c] at hK
          by_cases c2 : (takeL open_ r.1).2 = 0
          · simp only [if_pos c2] at hK
            obtain ⟨k1, k2⟩ := hP1 c
            have hlen := takeL_len open_ r.1
            obtain ⟨res, hres, hP⟩ := parse_all J htab hnode L hL hs rest (pre ++ [x]) (out ++ [mkN r x.f0]) (takeL open_ r.1).1 hnext (hnode _ _ _ _ (mkN r x.f0) hJ ht' rfl k1 k2 c2) (by rw [List.length_append, List.length_singleton, hnl]; omega) (by rw [hnl]; omega) (fun q hq => by
              rw [hnl]
              rcases List.mem_append.1 hq with hq | hq
              · have := h3 q hq; omega
              · rw [List.mem_singleton] at hq
                rw [hq]
                show r.2.2.2.2.2.2.2.2.2.1.length ≤ _
                rw [hP2]
                simp)
            rw [hnl] at hres
            exact ⟨res, Ev.shift K hK hres, hP⟩
          · simp only [if_neg c2] at hK
            refine bad _ c2 ?_ ⟨K, hK⟩
            rcases takeL_code open_ r.1 with e | e | e <;> rw [e] <;> decide
        · simp only [if_neg c] at hK
          exact bad 2 (by decide) (by decide) ⟨K, hK⟩
theorem parse_tot (J : List S43 → List S45 → List Bool → Prop)
    (htab : ∀ pre x o nd open_, J pre (o ++ [nd]) open_ → x.f1 = true → nd.f0 = 2 → J (pre ++ [x]) (o ++ [addR nd x.f2]) open_)
    (hnode : ∀ pre x out open_ nd, J pre out open_ → x.f1 = false → nd.f1 = x.f0 → 1 ≤ nd.f0 → nd.f0 ≤ 6 → (takeL open_ nd.f0).2 = 0 → J (pre ++ [x]) (out ++ [nd]) (takeL open_ nd.f0).1)
    (h0 : J [] [] []) (L : List S43) (hL : L.length ≤ 400) (hs : ∀ x ∈ L, (bl x.f2).length ≤ 1000) :
    ∃ res : Res, Ev (fun k => parse_Parse.f k L) res ∧ ((res.2.1 = 0 ∧ res.2.2 = 0 ∧ J L res.1 []) ∨ (res.1 = [] ∧ res.2.1 ≠ 0 ∧ (res.2.1 = 14 → res.2.2 = 0))) :=
  parse_all J htab hnode L hL hs L [] [] [] rfl h0 (Nat.le_refl _) (Nat.le_refl _) (fun _ h => by simp at h)
end Go.Proofs.YthnholondnfjoaaDoor.Pl
