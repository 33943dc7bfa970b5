/- The document's own Trim, Words and Name come to the same lists of bytes. -/
import Derived.Test.YthnholondnfjoaaDoorPParsex11
import Derived.Test.YthnholondnfjoaaDoorPParsex9
import Derived.Test.YthnholondnfjoaaDoorTotPure
import Derived.Test.YthnholondnfjoaaDoorOutPure
namespace Go.Proofs.YthnholondnfjoaaDoor.Pl
open Go.RowKit Go.Proofs.YthnholondnfjoaaDoor.PParse Go.Proofs.YthnholondnfjoaaDoorW.PrintWords Go.Proofs.YthnholondnfjoaaDoorW.PrintLast

theorem blank_f (c : UInt8) : cooperageref1_blank.f (c.toNat : Int) = some (isBlank c) := by
  unfold cooperageref1_blank.f
  by_cases h : c = 32
  · rw [if_pos (by rw [h]; rfl), h]
    rfl
  · rw [if_neg (show ¬ ((c.toNat : Int) = 32) from fun q => h ((u8_eq c 32).1 q))]
    congr 1
    by_cases h9 : c = 9
    · rw [h9]
      rfl
    · rw [show ((c.toNat : Int) == 9) = false from beq_eq_false_iff_ne.2 (fun q => h9 ((u8_eq c 9).1 q))]
      simp [isBlank, h, h9]
def trR (l : List UInt8) : List UInt8 := Lib.trimRightS l [32, 9]
def trL (l : List UInt8) : List UInt8 := Lib.trimLeftS l [32, 9]
theorem trR_cons (c : UInt8) (t : List UInt8) : trR (c :: t) = if trR t = [] ∧ isBlank c = true then [] else c :: trR t := by
  unfold trR Lib.trimRightS
  rw [List.reverse_cons, List.dropWhile_append]
  obtain ⟨q, hq⟩ : ∃ q, q = t.reverse.dropWhile (([32, 9] : List UInt8).contains ·) := ⟨_, rfl⟩
  rw [← hq]
  cases q with
  | nil =>
    rw [show ([] : List UInt8).isEmpty = true from rfl, if_pos rfl, List.dropWhile_cons]
    by_cases b : isBlank c = true
    · rw [if_pos (show ([32, 9] : List UInt8).contains c = true from b), if_pos ⟨rfl, b⟩]
      rfl
    · rw [if_neg (show ¬ ([32, 9] : List UInt8).contains c = true from b), if_neg (fun e => b e.2)]
      rfl
  | cons d u =>
    rw [show (d :: u).isEmpty = false from rfl, if_neg (by decide), if_neg (fun e => by
      have := e.1
      simp at this)]
    rw [List.reverse_append]
    rfl
theorem trL_cons (c : UInt8) (t : List UInt8) : trL (c :: t) = if isBlank c = true then trL t else c :: t := by
  unfold trL Lib.trimLeftS
  rw [List.dropWhile_cons]
  rfl
theorem tri_comm : ∀ l : List UInt8, triB l = trR (trL l)
  | [] => rfl
  | c :: t => by
    have ih := tri_comm t
    have h1 : triB (c :: t) = trL (trR (c :: t)) := rfl
    have h2 : triB t = trL (trR t) := rfl
    rw [h1, trR_cons, trL_cons]
    rw [h2] at ih
    by_cases b : isBlank c = true
    · rw [if_pos b, ← ih]
      by_cases e : trR t = []
      · rw [if_pos ⟨e, b⟩, e]
      · rw [if_neg (fun q => e q.1), trL_cons, if_pos b]
    · rw [if_neg b, if_neg (fun q => b q.2), trL_cons, if_neg b, trR_cons, if_neg (fun q => b q.2)]
theorem refl1_ev : ∀ (n : Nat) (l : List UInt8), l.length ≤ n → l.length ≤ 1000000000 → Ev (fun k => cooperageref1_Trim.l1 k (ofL l)) (ofL (trR l))
  | n, l, hn, hl => by
    rcases List.eq_nil_or_concat l with rfl | ⟨u, c, rfl⟩
    · refine Ev.step (f := fun _ => some (ofL [])) (fun k => ?_) (Ev.now _)
      rw [cooperageref1_Trim.l1, if_pos (by rw [bl_toList, bl_ofL])]
    · rw [List.concat_eq_append] at *
      have hul : (u ++ [c]).length = u.length + 1 := by simp
      have hsz : (ofL (u ++ [c])).size = u.length + 1 := by rw [ofL_size, hul]
      have hw : Unit → wrap64 (((ofL (u ++ [c])).size : Int) - 1) = (u.length : Int) := fun _ => by rw [hsz, wrap_sm] <;> omega
      have hb : Unit → bt (ofL (u ++ [c])) (u.length : Int) = (c.toNat : Int) := fun _ => bt_mid _ u [] c (bl_ofL _)
      have htr : trR (u ++ [c]) = if isBlank c = true then trR u else u ++ [c] := by
        unfold trR Lib.trimRightS
        rw [List.reverse_append, List.reverse_singleton, List.singleton_append, List.dropWhile_cons]
        by_cases b : isBlank c = true
        · rw [if_pos (show ([32, 9] : List UInt8).contains c = true from b), if_pos b]
        · rw [if_neg (show ¬ ([32, 9] : List UInt8).contains c = true from b), if_neg b]
          simp
      rw [htr]
      have hne : ¬ ((ofL (u ++ [c])).toList = ([] : List UInt8)) := by rw [bl_toList, bl_ofL]; simp
      by_cases b : isBlank c = true
      · rw [if_pos b]
        cases n with
        | zero => omega
        | succ n =>
          refine Ev.step (fun k => ?_) (refl1_ev n u (by omega) (by omega))
          rw [cooperageref1_Trim.l1, if_neg hne, hw (), if_pos (by omega), if_pos (by omega), hb (), blank_f, Option.bind_some, if_pos b, if_pos (by omega)]
          rw [show (ofL (u ++ [c])).extract 0 (u.length : Int).toNat = ofL u from bl_inj (by rw [bl_extract_from, bl_ofL, bl_ofL, Int.toNat_natCast, List.take_left])]
      · rw [if_neg b]
        refine Ev.step (f := fun _ => some (ofL (u ++ [c]))) (fun k => ?_) (Ev.now _)
        rw [cooperageref1_Trim.l1, if_neg hne, hw (), if_pos (by omega), if_pos (by omega), hb (), blank_f, Option.bind_some, if_neg b]
theorem reftrim_ev (l : List UInt8) (hl : l.length ≤ 1000000000) : Ev (fun k => cooperageref1_Trim.f k (ofL l)) (ofL (triB l)) := by
  unfold cooperageref1_Trim.f
  rw [tri_comm]
  have j1 : ∀ m : List UInt8, m.length ≤ 1000000000 → Ev (fun k => cooperageref1_Trim.j1 k (ofL m)) (ofL (trR m)) := fun m hm =>
    Ev.step (fun k => by rw [cooperageref1_Trim.j1]) (refl1_ev m.length m (Nat.le_refl _) hm)
  induction l with
  | nil =>
    refine Ev.step (fun k => ?_) (j1 [] (by simp))
    rw [cooperageref1_Trim.l0, if_pos (by rw [bl_toList, bl_ofL])]
  | cons c t ih =>
    have hsz : (ofL (c :: t)).size = t.length + 1 := by rw [ofL_size]; rfl
    have hb : Unit → bt (ofL (c :: t)) 0 = (c.toNat : Int) := fun _ => bt_mid _ [] t c (bl_ofL _)
    have hne : ¬ ((ofL (c :: t)).toList = ([] : List UInt8)) := by rw [bl_toList, bl_ofL]; simp
    rw [trL_cons]
    rw [List.length_cons] at hl
    by_cases b : isBlank c = true
    · rw [if_pos b]
      refine Ev.step (fun k => ?_) (ih (by omega))
      rw [cooperageref1_Trim.l0, if_neg hne, if_pos (by omega), hb (), blank_f, Option.bind_some, if_pos b, if_pos (by omega)]
      rw [show (ofL (c :: t)).extract 1 (ofL (c :: t)).size = ofL t from bl_inj (by rw [bl_extract_to, bl_ofL, bl_ofL]; rfl)]
    · rw [if_neg b]
      refine Ev.step (fun k => ?_) (j1 (c :: t) (by rw [List.length_cons]; omega))
      rw [cooperageref1_Trim.l0, if_neg hne, if_pos (by omega), hb (), blank_f, Option.bind_some, if_neg b]
theorem refwords_go (s : List UInt8) (hs : s.length ≤ 1000000) : ∀ (rest pre cur : List UInt8) (done : List (List UInt8)), s = pre ++ rest → cur.length ≤ pre.length → done.length ≤ pre.length →
    Ev (fun k => cooperageref1_Words.l0 k (ofL s) (done.map ofL) (ofL cur) (pre.length : Int)) ((done ++ wordsGo cur rest).map ofL)
  | [], pre, cur, done, hd, h1, h2 => by
    have hd' : s = pre := by rw [hd, List.append_nil]
    have hsz := ofL_size s
    have hlt : ¬ ((pre.length : Int) < ((ofL s).size : Int)) := by rw [hsz, hd']; omega
    rw [wordsGo]
    by_cases e : cur = []
    · rw [if_pos e, List.append_nil]
      refine Ev.step (f := fun _ => some (done.map ofL)) (fun k => ?_) (Ev.now _)
      rw [cooperageref1_Words.l0, if_neg hlt, if_pos (by rw [bl_toList, bl_ofL]; exact e)]
    · rw [if_neg e]
      refine Ev.step (f := fun _ => some ((done ++ [cur]).map ofL)) (fun k => ?_) (Ev.now _)
      rw [cooperageref1_Words.l0, if_neg hlt, if_neg (by rw [bl_toList, bl_ofL]; exact e), if_pos (by rw [List.length_map]; rw [hd'] at hs; omega), List.map_append]
      rfl
  | c :: t, pre, cur, done, hd, h1, h2 => by
    have hsl : s.length = pre.length + (t.length + 1) := by rw [hd, List.length_append, List.length_cons]
    have hsz := ofL_size s
    have hb : Unit → bt (ofL s) (pre.length : Int) = (c.toNat : Int) := fun _ => bt_mid _ pre t c (by rw [bl_ofL]; exact hd)
    have hw : Unit → wrap64 ((pre.length : Int) + 1) = ((pre.length + 1 : Nat) : Int) := fun _ => wrap_succ _ (by omega)
    have hnext : s = (pre ++ [c]) ++ t := by rw [hd]; simp
    have hnl : (pre ++ [c]).length = pre.length + 1 := by simp
    rw [wordsGo]
    by_cases b : isBlank c = true
    · rw [if_pos b]
      by_cases e : cur = []
      · rw [if_pos e]
        have ih := refwords_go s hs t (pre ++ [c]) [] done hnext (by simp) (by rw [hnl]; omega)
        rw [hnl] at ih
        refine Ev.step (fun k => ?_) ih
        rw [cooperageref1_Words.l0, if_pos (by omega), if_pos (by omega), hb (), blank_f, Option.bind_some, if_pos b, if_pos (by rw [bl_toList, bl_ofL]; exact e), hw ()]
        rfl
      · rw [if_neg e]
        have ih := refwords_go s hs t (pre ++ [c]) [] (done ++ [cur]) hnext (by simp) (by rw [hnl, List.length_append, List.length_singleton]; omega)
        rw [hnl, List.append_assoc, List.map_append] at ih
        refine Ev.step (fun k => ?_) ih
        rw [cooperageref1_Words.l0, if_pos (by omega), if_pos (by omega), hb (), blank_f, Option.bind_some, if_pos b, if_neg (by rw [bl_toList, bl_ofL]; exact e), if_pos (by rw [List.length_map]; omega), hw ()]
        rfl
    · rw [if_neg b]
      have ih := refwords_go s hs t (pre ++ [c]) (cur ++ [c]) done hnext (by rw [hnl, List.length_append, List.length_singleton]; omega) (by rw [hnl]; omega)
      rw [hnl] at ih
      have hex : (ofL s).extract (pre.length : Int).toNat ((pre.length + 1 : Nat) : Int).toNat = ofL [c] := bl_inj (by
        rw [bl_extract, bl_ofL, bl_ofL, Int.toNat_natCast, Int.toNat_natCast, hd, List.drop_take, List.drop_left, show pre.length + 1 - pre.length = 1 by omega]
        rfl)
      have hap : ofL cur ++ ofL [c] = ofL (cur ++ [c]) := bl_inj (by rw [bl_append, bl_ofL, bl_ofL, bl_ofL])
      refine Ev.step (fun k => ?_) ih
      rw [cooperageref1_Words.l0, if_pos (by omega), if_pos (by omega), hb (), blank_f, Option.bind_some, if_neg b, hw (), if_pos (by omega), if_pos (by omega), hex, if_pos (by rw [ofL_size, ofL_size, List.length_singleton]; omega), hap]
theorem refwords_ev (s : List UInt8) (hs : s.length ≤ 1000000) : Ev (fun k => cooperageref1_Words.f k (ofL s)) ((wordsL s).map ofL) :=
  refwords_go s hs s [] [] [] rfl (Nat.le_refl _) (Nat.le_refl _)
theorem refname_l0 (s : ByteArray) (hs : (bl s).length ≤ 1000000000) : ∀ (m i : Nat), (bl s).length - i ≤ m → i ≤ (bl s).length → Ev (fun k => cooperageref9_Name.l0 k s (i : Int)) (if ((bl s).drop i).all ok8 = true then (bl s != [] && decide ((bl s).length ≤ 40)) else false)
  | m, i, hm, hi => by
    have hsz := bl_size s
    by_cases h : i < (bl s).length
    · have hb : Unit → bt s (i : Int) = (((bl s)[i]).toNat : Int) := fun _ => bt_nat s i h
      have hd := drop_cons (bl s) i h
      rw [hd, List.all_cons]
      obtain ⟨c, hc⟩ : ∃ c, c = (bl s)[i] := ⟨_, rfl⟩
      rw [← hc] at hb ⊢
      have hl0 : ∀ k, cooperageref9_Name.l0 (k + 1) s (i : Int) = cooperageref9_Name.j1 k s (i : Int) (!ok8 c) := by
        intro k
        have h1 : (i : Int) < (s.size : Int) := by omega
        rw [cooperageref9_Name.l0, if_pos h1, if_pos (by omega), hb ()]
        have hk : ok8 c = parse_Name.ok (c.toNat : Int) := rfl
        rw [hk]
        generalize (c.toNat : Int) = z
        have ht : ∀ (p : Bool), p = parse_Name.ok z → cooperageref9_Name.j1 k s (i : Int) (!p) = cooperageref9_Name.j1 k s (i : Int) (!parse_Name.ok z) := fun p hp => by rw [hp]
        unfold parse_Name.ok at ht ⊢
        repeat' split
        all_goals (refine ht _ ?_; first | (symm; exact decide_eq_true (by omega)) | (rw [Bool.eq_iff_iff, beq_iff_eq, decide_eq_true_eq]; omega))
      by_cases b : ok8 c = true
      · cases m with
        | zero => omega
        | succ m =>
          have ih := refname_l0 s hs m (i + 1) (by omega) (by omega)
          rw [b, Bool.true_and]
          refine Ev.step (f := fun k => cooperageref9_Name.j1 k s (i : Int) false) (fun k => by rw [hl0, b]; rfl) ?_
          refine Ev.step (fun k => ?_) ih
          rw [cooperageref9_Name.j1, if_neg (by decide), wrap_succ i (by omega)]
      · rw [Bool.eq_false_iff.2 b, Bool.false_and, if_neg (by decide)]
        refine Ev.step (f := fun k => cooperageref9_Name.j1 k s (i : Int) true) (fun k => by rw [hl0, Bool.eq_false_iff.2 b]; rfl) ?_
        refine Ev.step (f := fun _ => some false) (fun k => ?_) (Ev.now _)
        rw [cooperageref9_Name.j1, if_pos rfl]
    · rw [List.drop_eq_nil_of_le (by omega), if_pos (show ([] : List UInt8).all ok8 = true from rfl)]
      refine Ev.step (f := fun _ => some (bl s != [] && decide ((bl s).length ≤ 40))) (fun k => ?_) (Ev.now _)
      rw [cooperageref9_Name.l0, if_neg (by omega), bl_toList]
      by_cases e : bl s = []
      · rw [if_pos e, e]
        rfl
      · rw [if_neg e, bne_iff_ne.2 e, Bool.true_and]
        congr 1
        by_cases d : (bl s).length ≤ 40
        · rw [decide_eq_true d, decide_eq_true (by omega)]
        · rw [decide_eq_false d, decide_eq_false (by omega)]
theorem refname_ev (s : ByteArray) (hs : (bl s).length ≤ 1000000000) : Ev (fun k => cooperageref9_Name.f k s) (nameOk (bl s)) := by
  have h := refname_l0 s hs (bl s).length 0 (by omega) (by omega)
  rw [List.drop_zero] at h
  unfold cooperageref9_Name.f nameOk
  by_cases c : (bl s).all ok8 = true
  · rw [if_pos c] at h
    rw [c, Bool.true_and]
    exact h
  · rw [if_neg c] at h
    rw [Bool.eq_false_iff.2 c, Bool.false_and]
    exact h
end Go.Proofs.YthnholondnfjoaaDoor.Pl
