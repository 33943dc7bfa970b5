/- lex.Lex and the document's Lex tell the same lines. -/
import Derived.Test.YthnholondnfjoaaDoorPParsex17
import Derived.Test.YthnholondnfjoaaDoorPParsex15
import Derived.Test.YthnholondnfjoaaDoorNodesLex
import Derived.Test.YthnholondnfjoaaDoorRefPure
namespace Go.Proofs.YthnholondnfjoaaDoor.Pl.Lx
open Go.RowKit Go.Proofs.YthnholondnfjoaaDoor.PParse Go.Proofs.YthnholondnfjoaaDoorW.PrintWords Go.Proofs.YthnholondnfjoaaDoorW.PrintLast

theorem reflines_go (s : ByteArray) (hs : (bl s).length ≤ 1000000) : ∀ (rest done cur : List UInt8) (out : List (List UInt8)), bl s = done ++ cur ++ rest → out.length ≤ done.length →
    Ev (fun k => cooperageref1_Lines.l0 k s (out.map ofL) (done.length : Int) ((done.length + cur.length : Nat) : Int)) ((out ++ linesGo cur rest).map ofL)
  | [], done, cur, out, hd, ho => by
    have hz : s.size = done.length + cur.length := by rw [bl_size, hd]; simp
    have hlen : done.length + cur.length ≤ 1000000 := by rw [← hz, bl_size]; exact hs
    by_cases c : cur = []
    · refine Ev.step (f := fun _ => some (out.map ofL)) (fun k => ?_) (by rw [c, linesGo, if_pos rfl, List.append_nil]; exact Ev.now _)
      rw [c, List.length_nil] at hz
      rw [cooperageref1_Lines.l0, if_neg (by rw [c, List.length_nil]; omega), if_neg (by omega)]
    · have hp : 0 < cur.length := List.length_pos_iff.2 c
      refine Ev.step (f := fun _ => some ((out ++ [cur]).map ofL)) (fun k => ?_) (by rw [linesGo, if_neg c]; exact Ev.now _)
      rw [cooperageref1_Lines.l0, if_neg (by omega), if_pos (by omega), if_pos (by omega), if_pos (by omega), if_pos (by rw [List.length_map]; omega), Int.toNat_natCast]
      rw [show s.extract done.length s.size = ofL cur from bl_inj (by rw [bl_extract_to, bl_ofL, hd, List.append_nil, List.drop_left]), List.map_append]
      rfl
  | c :: t, done, cur, out, hd, ho => by
    have hz : s.size = done.length + cur.length + (t.length + 1) := by rw [bl_size, hd]; simp; omega
    have hlen : done.length + cur.length + (t.length + 1) ≤ 1000000 := by rw [← hz, bl_size]; exact hs
    have hb : Unit → bt s ((done.length + cur.length : Nat) : Int) = (c.toNat : Int) := fun _ => by
      have := bt_mid s (done ++ cur) t c hd
      rw [List.length_append] at this
      exact this
    by_cases h : c = 10
    · have ih := reflines_go s hs t (done ++ cur ++ [c]) [] (out ++ [cur]) (by rw [hd]; simp) (by simp; omega)
      refine Ev.step (fun k => ?_) (by rw [linesGo, if_pos h, show out ++ cur :: linesGo [] t = out ++ [cur] ++ linesGo [] t by simp]; exact ih)
      rw [cooperageref1_Lines.l0, if_pos (by omega), if_pos (by omega), hb (), if_pos (by rw [h]; rfl), if_pos (by omega), if_pos (by omega), if_pos (by omega), if_pos (by rw [List.length_map]; omega), wrap_succ _ (by omega)]
      rw [show s.extract ((done.length : Int)).toNat (((done.length + cur.length : Nat) : Int)).toNat = ofL cur from bl_inj (by
        rw [bl_extract, bl_ofL, hd, Int.toNat_natCast, Int.toNat_natCast, ← List.length_append, List.take_left, List.drop_left])]
      rw [List.map_append, show (done ++ cur ++ [c]).length = done.length + cur.length + 1 by simp; omega]
      rfl
    · have ih := reflines_go s hs t done (cur ++ [c]) out (by rw [hd]; simp) ho
      refine Ev.step (fun k => ?_) (by rw [linesGo, if_neg h]; exact ih)
      rw [cooperageref1_Lines.l0, if_pos (by omega), if_pos (by omega), hb (), if_neg (n10 h), wrap_succ _ (by omega), show done.length + (cur ++ [c]).length = done.length + cur.length + 1 by simp; omega]
theorem reflines_ev (s : ByteArray) (hs : (bl s).length ≤ 1000000) : Ev (fun k => cooperageref1_Lines.f k s) ((linesL (bl s)).map ofL) :=
  reflines_go s hs (bl s) [] [] [] rfl (Nat.le_refl _)
/-- Strokes at the end. -/
theorem dw_nil {p : UInt8 → Bool} : ∀ (m : List UInt8), (∀ c ∈ m, p c = true) → m.dropWhile p = []
  | [], _ => rfl
  | c :: t, h => by rw [List.dropWhile_cons, if_pos (h c (by simp))]; exact dw_nil t (fun d hd => h d (by simp [hd]))
theorem trS_stroke (p q : List UInt8) (h : ∀ c ∈ q, c = 92) : Lib.trimRightS (p ++ q) [92] = Lib.trimRightS p [92] := by
  unfold Lib.trimRightS
  rw [List.reverse_append, List.dropWhile_append, dw_nil q.reverse (fun c hc => by rw [h c (List.mem_reverse.1 hc)]; rfl)]
  rfl
theorem trS_stop (p : List UInt8) (c : UInt8) (h : c ≠ 92) : Lib.trimRightS (p ++ [c]) [92] = p ++ [c] := by
  unfold Lib.trimRightS
  rw [List.reverse_append, List.reverse_singleton, List.singleton_append, List.dropWhile_cons, if_neg (by simpa using h)]
  simp
def oddL (l : List UInt8) : Bool := (l.length - (Lib.trimRightS l [92]).length) % 2 == 1
theorem tmod1 (n : Nat) : (Int.tmod (n : Int) 2 == 1) = (n % 2 == 1) := by
  rw [show Int.tmod (n : Int) 2 = ((n % 2 : Nat) : Int) from rfl, Bool.eq_iff_iff, beq_iff_eq, beq_iff_eq]
  omega
theorem odd_go (s : ByteArray) (hs : (bl s).length ≤ 1000000000) : ∀ (n : Nat) (p q : List UInt8), p.length ≤ n → bl s = p ++ q → (∀ c ∈ q, c = 92) → Ev (fun k => cooperageref8_odd.l0 k s (q.length : Int)) (oddL (bl s))
  | n, p, q, hn, hd, hq => by
    have hz : s.size = p.length + q.length := by rw [bl_size, hd]; simp
    have hlen : p.length + q.length ≤ 1000000000 := by rw [← hz, bl_size]; exact hs
    rcases List.eq_nil_or_concat p with rfl | ⟨u, c, rfl⟩
    · have ho : oddL (bl s) = (q.length % 2 == 1) := by
        unfold oddL
        rw [hd, trS_stroke [] q hq]
        rfl
      rw [ho]
      refine Ev.step (f := fun _ => some (q.length % 2 == 1)) (fun k => ?_) (Ev.now _)
      rw [cooperageref8_odd.l0, if_neg (by rw [hz, List.length_nil]; omega), tmod1]
    · rw [List.concat_eq_append] at *
      have hul : (u ++ [c]).length = u.length + 1 := by simp
      have hw : Unit → wrap64 (wrap64 ((s.size : Int) - 1) - (q.length : Int)) = (u.length : Int) := fun _ => by
        rw [wrap_sm (i := (s.size : Int) - 1) (by omega) (by omega), wrap_sm] <;> omega
      have hb : Unit → bt s (u.length : Int) = (c.toNat : Int) := fun _ => bt_mid s u q c (by rw [hd]; simp)
      by_cases h : c = 92
      · cases n with
        | zero => omega
        | succ n =>
          have ih := odd_go s hs n u (c :: q) (by omega) (by rw [hd]; simp) (fun d hdm => by
            rcases List.mem_cons.1 hdm with e | e
            · rw [e, h]
            · exact hq d e)
          refine Ev.step (fun k => ?_) ih
          rw [cooperageref8_odd.l0, if_pos (by omega), hw (), if_pos (by omega), if_pos (by omega), hb (), if_pos (by rw [h]; rfl), wrap_succ _ (by omega)]
          rfl
      · have ho : oddL (bl s) = (q.length % 2 == 1) := by
          unfold oddL
          rw [hd, trS_stroke (u ++ [c]) q hq, trS_stop u c h, List.length_append, Nat.add_sub_cancel_left]
        rw [ho]
        refine Ev.step (f := fun _ => some (q.length % 2 == 1)) (fun k => ?_) (Ev.now _)
        rw [cooperageref8_odd.l0, if_pos (by omega), hw (), if_pos (by omega), if_pos (by omega), hb (), if_neg (n92 h), tmod1]
theorem goes_odd (l : List UInt8) : (goesL l).2 = oddL l := by
  unfold goesL oddL
  split
  · rename_i h
    rw [h]
    rfl
  · rename_i h
    rw [show (l.length - (Lib.trimRightS l [92]).length) % 2 = 1 by omega]
    rfl
theorem odd_ev (l : List UInt8) (h : l.length ≤ 1000000000) : Ev (fun k => cooperageref8_odd.f k (ofL l)) (goesL l).2 := by
  have := odd_go (ofL l) (by rw [bl_ofL]; exact h) (bl (ofL l)).length (bl (ofL l)) [] (Nat.le_refl _) (by simp) (by simp)
  rw [bl_ofL] at this
  rw [goes_odd]
  exact this
theorem goes_eq (l : List UInt8) : l = if (goesL l).2 = true then (goesL l).1 ++ [92] else (goesL l).1 := by
  unfold goesL
  split
  · rfl
  · rename_i h
    rw [if_pos rfl]
    rcases List.eq_nil_or_concat l with rfl | ⟨u, c, rfl⟩
    · exact absurd rfl h
    · rw [List.concat_eq_append] at h ⊢
      by_cases e : c = 92
      · rw [e]
        simp
      · rw [trS_stop u c e, Nat.sub_self] at h
        exact absurd rfl h
theorem trS_pre (u : List UInt8) (hu : ∀ c ∈ u, c ≠ 92) : ∀ (n : Nat) (m q : List UInt8), m.length ≤ n → (∀ c ∈ q, c = 92) → (u ++ m ++ q).length - (Lib.trimRightS (u ++ m ++ q) [92]).length = (m ++ q).length - (Lib.trimRightS (m ++ q) [92]).length := by
  intro n
  induction n with
  | zero =>
    intro m q hn hq
    obtain rfl : m = [] := List.eq_nil_of_length_eq_zero (by omega)
    rw [trS_stroke _ q hq, trS_stroke [] q hq, List.append_nil]
    rcases List.eq_nil_or_concat u with rfl | ⟨v, c, rfl⟩
    · rfl
    · rw [List.concat_eq_append] at hu ⊢
      rw [trS_stop v c (hu c (by simp))]
      simp [Lib.trimRightS]
      omega
  | succ n ih =>
    intro m q hn hq
    rcases List.eq_nil_or_concat m with rfl | ⟨v, c, rfl⟩
    · exact ih [] q (Nat.zero_le _) hq
    · rw [List.concat_eq_append] at *
      by_cases e : c = 92
      · have := ih v (c :: q) (by simp at hn; omega) (fun d hd => by
          rcases List.mem_cons.1 hd with h | h
          · rw [h, e]
          · exact hq d h)
        simpa using this
      · rw [trS_stroke _ q hq, trS_stroke _ q hq, ← List.append_assoc u v [c], trS_stop (u ++ v) c e, trS_stop v c e]
        simp
        omega
theorem trS_triL (l : List UInt8) : l.length - (Lib.trimRightS l [92]).length = (triL l).length - (Lib.trimRightS (triL l) [92]).length := by
  have hl : l.takeWhile (([32, 9] : List UInt8).contains ·) ++ triL l = l := List.takeWhile_append_dropWhile
  have h := trS_pre (l.takeWhile (([32, 9] : List UInt8).contains ·)) (fun c hc e => by
    have := List.all_eq_true.1 (List.all_takeWhile (p := (([32, 9] : List UInt8).contains ·)) (l := l)) c hc
    rw [e] at this
    exact absurd this (by decide)) (triL l).length (triL l) [] (Nat.le_refl _) (by simp)
  rw [List.append_nil, List.append_nil, hl] at h
  exact h
theorem goes_triL (l : List UInt8) : (goesL (triL l)).2 = (goesL l).2 := by rw [goes_odd, goes_odd, oddL, oddL, ← trS_triL]
theorem right_ev : ∀ (n : Nat) (l : List UInt8), l.length ≤ n → l.length ≤ 1000000000 → Ev (fun k => cooperageref8_right.l0 k (ofL l)) (ofL (triR l))
  | n, l, hn, hl => by
    rcases List.eq_nil_or_concat l with rfl | ⟨u, c, rfl⟩
    · refine Ev.step (f := fun _ => some (ofL [])) (fun k => ?_) (Ev.now _)
      rw [cooperageref8_right.l0, if_pos (by rw [bl_toList, bl_ofL])]
    · rw [List.concat_eq_append] at *
      have hul : (u ++ [c]).length = u.length + 1 := by simp
      have hsz : (ofL (u ++ [c])).size = u.length + 1 := by rw [ofL_size, hul]
      have hw : Unit → wrap64 (((ofL (u ++ [c])).size : Int) - 1) = (u.length : Int) := fun _ => by rw [hsz, wrap_sm] <;> omega
      have hb : Unit → bt (ofL (u ++ [c])) (u.length : Int) = (c.toNat : Int) := fun _ => bt_mid _ u [] c (bl_ofL _)
      have htr : triR (u ++ [c]) = if isBlank c = true then triR u else u ++ [c] := by
        unfold triR Lib.trimRightS
        rw [List.reverse_append, List.reverse_singleton, List.singleton_append, List.dropWhile_cons]
        by_cases b : isBlank c = true
        · rw [if_pos (show ([32, 9] : List UInt8).contains c = true from b), if_pos b]
        · rw [if_neg (show ¬ ([32, 9] : List UInt8).contains c = true from b), if_neg b]
          simp
      rw [htr]
      have hne : ¬ ((ofL (u ++ [c])).toList = ([] : List UInt8)) := by rw [bl_toList, bl_ofL]; simp
      have hx : (ofL (u ++ [c])).extract 0 (u.length : Int).toNat = ofL u := bl_inj (by rw [bl_extract_from, bl_ofL, bl_ofL, Int.toNat_natCast, List.take_left])
      have go : isBlank c = true → Ev (fun k => cooperageref8_right.l0 k (ofL u)) (ofL (triR u)) := by
        cases n with
        | zero => omega
        | succ n => exact fun _ => right_ev n u (by omega) (by omega)
      by_cases b32 : c = 32
      · have b : isBlank c = true := by rw [b32]; rfl
        rw [if_pos b]
        refine Ev.step (fun k => ?_) (go b)
        rw [cooperageref8_right.l0, if_neg hne, hw (), if_pos (by omega), if_pos (by omega), hb (), if_pos (by rw [b32]; rfl), if_pos (by omega), hx]
      · by_cases b9 : c = 9
        · have b : isBlank c = true := by rw [b9]; rfl
          rw [if_pos b]
          refine Ev.step (fun k => ?_) (go b)
          rw [cooperageref8_right.l0, if_neg hne, hw (), if_pos (by omega), if_pos (by omega), hb (), if_neg (n32 b32), if_pos (by rw [b9]; rfl), if_pos (by omega), hx]
        · have b : ¬ isBlank c = true := by simp [isBlank, b32, b9]
          rw [if_neg b]
          refine Ev.step (f := fun _ => some (ofL (u ++ [c]))) (fun k => ?_) (Ev.now _)
          rw [cooperageref8_right.l0, if_neg hne, hw (), if_pos (by omega), if_pos (by omega), hb (), if_neg (n32 b32), if_neg (n9 b9)]
theorem left_ev : ∀ (l : List UInt8), l.length ≤ 1000000000 → Ev (fun k => cooperageref8_left.l0 k (ofL l)) (ofL (triL l))
  | [], _ => by
    refine Ev.step (f := fun _ => some (ofL [])) (fun k => ?_) (Ev.now _)
    rw [cooperageref8_left.l0, if_pos (by rw [bl_toList, bl_ofL])]
  | c :: t, hl => by
    rw [List.length_cons] at hl
    have hsz : (ofL (c :: t)).size = t.length + 1 := by rw [ofL_size]; rfl
    have hb : Unit → bt (ofL (c :: t)) 0 = (c.toNat : Int) := fun _ => bt_mid _ [] t c (bl_ofL _)
    have hne : ¬ ((ofL (c :: t)).toList = ([] : List UInt8)) := by rw [bl_toList, bl_ofL]; simp
    have hx : (ofL (c :: t)).extract 1 (ofL (c :: t)).size = ofL t := bl_inj (by rw [bl_extract_to, bl_ofL, bl_ofL]; rfl)
    have htr : triL (c :: t) = if isBlank c = true then triL t else c :: t := by
      unfold triL Lib.trimLeftS
      rw [List.dropWhile_cons]
      rfl
    rw [htr]
    by_cases b32 : c = 32
    · rw [if_pos (by rw [b32]; rfl)]
      refine Ev.step (fun k => ?_) (left_ev t (by omega))
      rw [cooperageref8_left.l0, if_neg hne, if_pos (by omega), hb (), if_pos (by rw [b32]; rfl), if_pos (by omega), hx]
    · by_cases b9 : c = 9
      · rw [if_pos (by rw [b9]; rfl)]
        refine Ev.step (fun k => ?_) (left_ev t (by omega))
        rw [cooperageref8_left.l0, if_neg hne, if_pos (by omega), hb (), if_neg (n32 b32), if_pos (by rw [b9]; rfl), if_pos (by omega), hx]
      · rw [if_neg (by simp [isBlank, b32, b9])]
        refine Ev.step (f := fun _ => some (ofL (c :: t))) (fun k => ?_) (Ev.now _)
        rw [cooperageref8_left.l0, if_neg hne, if_pos (by omega), hb (), if_neg (n32 b32), if_neg (n9 b9)]
theorem bare_go (l : List UInt8) (hl : l.length ≤ 1000000000) : ∀ (rest pre : List UInt8), l = pre ++ rest → Ev (fun k => cooperageref8_bare.l0 k (ofL l) (pre.length : Int)) (ofL (pre ++ cut35 rest))
  | [], pre, hd => by
    have hz : (ofL l).size = pre.length := by rw [ofL_size, hd]; simp
    refine Ev.step (f := fun _ => some (ofL l)) (fun k => ?_) (by rw [hd]; exact Ev.now _)
    rw [cooperageref8_bare.l0, if_neg (by omega)]
  | c :: t, pre, hd => by
    have hll : l.length = pre.length + (t.length + 1) := by rw [hd]; simp
    have hz : (ofL l).size = pre.length + (t.length + 1) := by rw [ofL_size, hll]
    have hb : Unit → bt (ofL l) (pre.length : Int) = (c.toNat : Int) := fun _ => bt_mid _ pre t c (by rw [bl_ofL]; exact hd)
    by_cases h : c = 35
    · refine Ev.step (f := fun _ => some (ofL pre)) (fun k => ?_) (by rw [show cut35 (c :: t) = [] by rw [h]; rfl, List.append_nil]; exact Ev.now _)
      rw [cooperageref8_bare.l0, if_pos (by omega), if_pos (by omega), hb (), if_pos (by rw [h]; rfl), if_pos (by omega), show (ofL l).extract 0 ((pre.length : Int)).toNat = ofL pre from bl_inj (by
        rw [bl_extract_from, bl_ofL, bl_ofL, Int.toNat_natCast, hd, List.take_left])]
    · have ih := bare_go l hl t (pre ++ [c]) (by rw [hd]; simp)
      have hc : cut35 (c :: t) = c :: cut35 t := by
        unfold cut35
        rw [List.takeWhile_cons, if_pos (bne_iff_ne.2 h)]
      refine Ev.step (fun k => ?_) (by rw [hc, show pre ++ c :: cut35 t = pre ++ [c] ++ cut35 t by simp]; exact ih)
      rw [cooperageref8_bare.l0, if_pos (by omega), if_pos (by omega), hb (), if_neg (n35 h), wrap_succ _ (by omega), show (pre ++ [c]).length = pre.length + 1 by simp]
theorem bare_ev (l : List UInt8) (hl : l.length ≤ 1000000000) : Ev (fun k => cooperageref8_bare.f k (ofL l)) (ofL (cut35 l)) := bare_go l hl l [] rfl
/-- What the lines come to. -/
def rS (x : Row) : S53 := ⟨(x.no : Int), x.tab, ofL x.text⟩
def rfin (x6 : List S53) (rows : List Row) : List S53 × Int × Int := match chk x6.length rows with
  | none => (x6 ++ rows.map rS, 0, 0)
  | some n => ([], 3, (n : Int))
theorem rfin_nil (x6 : List S53) : rfin x6 [] = (x6, 0, 0) := by simp [rfin, chk]
theorem rfin_bad (x6 : List S53) (x : Row) (rows : List Row) (h : 1000 < x.text.length ∨ 300 ≤ x6.length) : rfin x6 (x :: rows) = ([], 3, (x.no : Int)) := by
  unfold rfin
  rw [show chk x6.length (x :: rows) = some x.no by unfold chk; rw [if_pos h]]
theorem rfin_good (x6 : List S53) (x : Row) (rows : List Row) (h : ¬ (1000 < x.text.length ∨ 300 ≤ x6.length)) : rfin x6 (x :: rows) = rfin (x6 ++ [rS x]) rows := by
  unfold rfin
  rw [show chk x6.length (x :: rows) = chk (x6.length + 1) rows by rw [chk, if_neg h], List.length_append, List.length_singleton]
  cases chk (x6.length + 1) rows with
  | none => simp
  | some n => rfl
theorem rj5_ev (ls : List (List UInt8)) (x6 : List S53) (c no : Nat) (tab : Bool) (all : List UInt8) (rows : List Row) (hx : x6.length ≤ 300) (ha : all.length ≤ 1000000000)
    (h : ∀ x : List S53, x.length ≤ 300 → Ev (fun k => cooperageref8_Lex.l0 k (ls.map ofL) x (c : Int)) (rfin x rows)) :
    Ev (fun k => cooperageref8_Lex.j5 k (ls.map ofL) x6 (c : Int) (no : Int) (ofL all) tab) (rfin x6 ((if tri all = [] then [] else [⟨no, tab, tri all⟩]) ++ rows)) := by
  refine Ev.step (fun k => by rw [cooperageref8_Lex.j5]) ?_
  refine Ev.bind (f := fun k t470 => _) (reftrim_ev all ha) ?_
  rw [show triB all = tri all from rfl, bl_toList, bl_ofL, ofL_size]
  by_cases c0 : tri all = []
  · simp only [if_pos c0, List.nil_append]
    exact h x6 hx
  · simp only [if_neg c0, List.cons_append, List.nil_append]
    by_cases c1 : 1000 < (tri all).length ∨ 300 ≤ x6.length
    · rw [rfin_bad x6 _ rows c1]
      by_cases c2 : 1000 < (tri all).length
      · simp only [if_pos (show ((tri all).length : Int) > 1000 by omega)]
        exact Ev.now _
      · simp only [if_neg (show ¬ ((tri all).length : Int) > 1000 by omega), if_pos (show (x6.length : Int) ≥ 300 by omega)]
        exact Ev.now _
    · rw [rfin_good x6 _ rows c1]
      simp only [if_neg (show ¬ ((tri all).length : Int) > 1000 by omega), if_neg (show ¬ (x6.length : Int) ≥ 300 by omega), if_pos (show x6.length < 4398046511104 by omega)]
      exact h (x6 ++ [rS ⟨no, tab, tri all⟩]) (by simp; omega)
/-- A line with what goes on. -/
theorem rl1_ev (ls : List (List UInt8)) (hls : ∀ l ∈ ls, l.length ≤ 5000) (hn : ls.length ≤ 5000) (x6 : List S53) (no : Nat) (tab : Bool) (a0 : Nat) (T : Nat → List UInt8 → List S53 × Int × Int)
    (hT : ∀ c all, a0 ≤ c → c < ls.length → all.length ≤ 5001 * (c + 1) → Ev (fun k => cooperageref8_Lex.j5 k (ls.map ofL) x6 ((c + 1 : Nat) : Int) (no : Int) (ofL (if tab then all else cut35 all)) tab) (T c all)) :
    ∀ (r : List (List UInt8)) (c : Nat) (all : List UInt8) (on : Bool) (hc : c < ls.length), a0 ≤ c → ls.drop (c + 1) = r → all.length ≤ 5001 * (c + 1) → (goesL ls[c]).2 = on →
      Ev (fun k => cooperageref8_Lex.l1 k (ls.map ofL) x6 (c : Int) (no : Int) (ofL (if on = true then all ++ [92] else all)) tab) (T (c + (r.length - (joinL all on r).2.length)) (joinL all on r).1) := by
  have hrdc : ∀ (c : Nat) (hc : c < ls.length), rdOf ByteArray.empty (ls.map ofL) (c : Int) = ofL ls[c] := fun c hc => by
    rw [rdOf_nat _ _ c (by rw [List.length_map]; exact hc), List.getElem_map]
  have stop4 : ∀ (c : Nat) (all : List UInt8), a0 ≤ c → c < ls.length → all.length ≤ 5001 * (c + 1) → Ev (fun k => cooperageref8_Lex.j4 k (ls.map ofL) x6 (c : Int) (no : Int) (ofL all) tab) (T c all) := by
    intro c all hac hc ha
    have h := hT c all hac hc ha
    refine Ev.step (fun k => by rw [cooperageref8_Lex.j4, wrap_succ c (by omega)]) ?_
    cases tab with
    | true => simp only [if_true] at h ⊢; exact h
    | false =>
      simp only [Bool.false_eq_true, if_false] at h ⊢
      exact Ev.bind (f := fun k t => _) (bare_ev all (by omega)) h
  have stop : ∀ (c : Nat) (all : List UInt8) (on : Bool) (hc : c < ls.length), a0 ≤ c → all.length ≤ 5001 * (c + 1) → (goesL ls[c]).2 = on →
      Ev (fun k => cooperageref8_Lex.j3 k (ls.map ofL) x6 (c : Int) (no : Int) (ofL (if on = true then all ++ [92] else all)) tab false) (T c all) := by
    intro c all on hc hac ha ho
    have hl5 := hls _ (List.getElem_mem hc)
    refine Ev.step (fun k => by rw [cooperageref8_Lex.j3, if_neg (by decide), if_pos (by omega), if_pos (by rw [List.length_map]; omega), hrdc c hc]) ?_
    refine Ev.bind (f := fun k t => _) (odd_ev ls[c] (by omega)) ?_
    rw [ho]
    cases on with
    | false => simp only [Bool.false_eq_true, if_false]; exact stop4 c all hac hc ha
    | true =>
      simp only [if_true]
      have hsz : ((ofL (all ++ [92])).size : Int) = (all.length : Int) + 1 := by rw [ofL_size]; simp
      have hw : wrap64 (((ofL (all ++ [92])).size : Int) - 1) = (all.length : Int) := by rw [hsz, wrap_sm] <;> omega
      simp only [hw]
      refine Ev.congr (fun k => by rw [if_pos (by omega), if_pos (by omega), Int.toNat_natCast, show (ofL (all ++ [92])).extract 0 all.length = ofL all from bl_inj (by rw [bl_extract_from, bl_ofL, bl_ofL, List.take_left])]) ?_
      exact stop4 c all hac hc ha
  intro r
  induction r with
  | nil =>
    intro c all on hc hac hd ha ho
    have hl : ls.length ≤ c + 1 := by have := congrArg List.length hd; simp at this; omega
    have hl5 := hls _ (List.getElem_mem hc)
    rw [joinL_nil]
    refine Ev.step (fun k => by rw [cooperageref8_Lex.l1, if_pos (by omega), if_pos (by rw [List.length_map]; omega), hrdc c hc, wrap_succ c (by omega), List.length_map, decide_eq_false (show ¬ (((c + 1 : Nat) : Int) < (ls.length : Int)) by omega)]) ?_
    refine Ev.bind (f := fun k t => _) (odd_ev ls[c] (by omega)) ?_
    simp only [ite_self]
    exact stop c all on hc hac ha ho
  | cons x r ih =>
    intro c all on hc hac hd ha ho
    have hl : c + 1 < ls.length := by have := congrArg List.length hd; simp at this; omega
    have hl5 := hls _ (List.getElem_mem hc)
    refine Ev.step (fun k => by rw [cooperageref8_Lex.l1, if_pos (by omega), if_pos (by rw [List.length_map]; omega), hrdc c hc, wrap_succ c (by omega), List.length_map, decide_eq_true (show (((c + 1 : Nat) : Int) < (ls.length : Int)) by omega)]) ?_
    refine Ev.bind (f := fun k t => _) (odd_ev ls[c] (by omega)) ?_
    rw [ho]
    cases on with
    | false =>
      simp only [Bool.false_eq_true, if_false]
      rw [joinL_false, Nat.sub_self]
      exact stop c all false hc hac ha ho
    | true =>
      simp only [if_true]
      have hd' := hd
      rw [drop_cons ls (c + 1) hl] at hd'
      injection hd' with hx hr
      have hx5 : x.length ≤ 5000 := by rw [← hx]; exact hls _ (List.getElem_mem hl)
      have h1 : (triL x).length ≤ 5000 := Nat.le_trans (trL_len x _) hx5
      have h2 := goesL_len (triL x)
      have h3 : (triR all).length ≤ all.length := trR_len all _
      have hlen : (triR all ++ 32 :: (goesL (triL x)).1).length ≤ 5001 * (c + 1 + 1) := by
        rw [List.length_append, List.length_cons]
        omega
      have hjl := joinL_len r (triR all ++ 32 :: (goesL (triL x)).1) (goesL (triL x)).2
      have hgo := ih (c + 1) (triR all ++ 32 :: (goesL (triL x)).1) (goesL (triL x)).2 hl (by omega) hr hlen (by rw [goes_triL, hx])
      rw [joinL_cons, List.length_cons, show c + (r.length + 1 - (joinL (triR all ++ 32 :: (goesL (triL x)).1) (goesL (triL x)).2 r).2.length) = c + 1 + (r.length - (joinL (triR all ++ 32 :: (goesL (triL x)).1) (goesL (triL x)).2 r).2.length) by omega]
      have hall : (if (goesL (triL x)).2 = true then triR all ++ 32 :: (goesL (triL x)).1 ++ [92] else triR all ++ 32 :: (goesL (triL x)).1) = triR all ++ 32 :: triL x := by
        have := goes_eq (triL x)
        by_cases e : (goesL (triL x)).2 = true
        · rw [if_pos e] at this ⊢
          rw [List.append_assoc, List.cons_append, ← this]
        · rw [if_neg e] at this ⊢
          rw [← this]
      rw [hall] at hgo
      have hsz : ((ofL (all ++ [92])).size : Int) = (all.length : Int) + 1 := by rw [ofL_size]; simp
      have hw : wrap64 (((ofL (all ++ [92])).size : Int) - 1) = (all.length : Int) := by rw [hsz, wrap_sm] <;> omega
      refine Ev.step (fun k => by rw [cooperageref8_Lex.j3, if_pos rfl, hw, if_pos (by omega), if_pos (by omega), Int.toNat_natCast, show (ofL (all ++ [92])).extract 0 all.length = ofL all from bl_inj (by rw [bl_extract_from, bl_ofL, bl_ofL, List.take_left])]) ?_
      refine Ev.bind (f := fun k t => _) (show Ev (fun k => cooperageref8_right.f k (ofL all)) (ofL (triR all)) from right_ev all.length all (Nat.le_refl _) (by omega)) ?_
      simp only [wrap_succ c (show c ≤ 9223372036854775806 by omega), List.length_map, hrdc (c + 1) hl, hx]
      refine Ev.congr (fun k => by rw [ofL_size, if_pos (by omega), if_pos (by omega), if_pos (by omega)]) ?_
      refine Ev.bind (f := fun k t => _) (show Ev (fun k => cooperageref8_left.f k (ofL x)) (ofL (triL x)) from left_ev x (by omega)) ?_
      have hap : (ofL (triR all) ++ (⟨#[32]⟩ : ByteArray)) ++ ofL (triL x) = ofL (triR all ++ 32 :: triL x) := bl_inj (by rw [bl_append, bl_append, bl_ofL, bl_ofL, bl_ofL]; simp [bl])
      have hs1 : (ofL (triR all) ++ (⟨#[32]⟩ : ByteArray)).size = (triR all).length + 1 := by rw [bl_size, bl_append, bl_ofL]; simp [bl]
      simp only [hap, hs1, ofL_size]
      exact Ev.congr (fun k => by rw [if_pos (by omega)]) hgo
theorem tab_of (l : List UInt8) : tabOf l = if l = [] then false else bt (ofL l) 0 == 9 := by
  cases l with
  | nil => rfl
  | cons c t =>
    rw [if_neg (by simp), show bt (ofL (c :: t)) 0 = (c.toNat : Int) from bt_mid _ [] t c (bl_ofL _)]
    show (some c == some 9) = _
    rw [Bool.eq_iff_iff, beq_iff_eq, beq_iff_eq]
    constructor
    · intro h
      rw [Option.some.inj h]
      rfl
    · intro h
      rw [(u8_eq c 9).1 h]
set_option maxHeartbeats 2000000 in
theorem rl0_ev (ls : List (List UInt8)) (hls : ∀ l ∈ ls, l.length ≤ 5000) (hn : ls.length ≤ 5000) :
    ∀ (f a : Nat), a ≤ ls.length → ls.length - a ≤ f → ∀ x6 : List S53, x6.length ≤ 300 → Ev (fun k => cooperageref8_Lex.l0 k (ls.map ofL) x6 (a : Int)) (rfin x6 (grp f a (ls.drop a))) := by
  intro f
  induction f with
  | zero =>
    intro a ha hf x6 hx
    refine Ev.step (f := fun _ => some (x6, 0, 0)) (fun k => ?_) (by unfold grp; rw [rfin_nil]; exact Ev.now _)
    rw [cooperageref8_Lex.l0, List.length_map, if_neg (by omega)]
  | succ f ih =>
    intro a ha hf x6 hx
    by_cases hlt : a < ls.length
    · rw [drop_cons ls a hlt]
      have hl5 := hls _ (List.getElem_mem hlt)
      have hT : ∀ c all, a ≤ c → c < ls.length → all.length ≤ 5001 * (c + 1) → Ev (fun k => cooperageref8_Lex.j5 k (ls.map ofL) x6 ((c + 1 : Nat) : Int) ((a + 1 : Nat) : Int) (ofL (if tabOf ls[a] then all else cut35 all)) (tabOf ls[a]))
          (rfin x6 ((if textOf (tabOf ls[a]) all = [] then [] else [⟨a + 1, tabOf ls[a], textOf (tabOf ls[a]) all⟩]) ++ grp f (c + 1) (ls.drop (c + 1)))) := by
        intro c all hac hc hall
        have hta : (if tabOf ls[a] then all else cut35 all).length ≤ 1000000000 := by
          split
          · omega
          · have : (cut35 all).length ≤ all.length := (List.takeWhile_prefix _).length_le
            omega
        exact rj5_ev ls x6 (c + 1) (a + 1) (tabOf ls[a]) _ _ hx hta (fun x h6 => ih (c + 1) (by omega) (by omega) x h6)
      have h := rl1_ev ls hls hn x6 (a + 1) (tabOf ls[a]) a (fun c all => rfin x6 ((if textOf (tabOf ls[a]) all = [] then [] else [⟨a + 1, tabOf ls[a], textOf (tabOf ls[a]) all⟩]) ++ grp f (c + 1) (ls.drop (c + 1)))) hT
        (ls.drop (a + 1)) a (goesL ls[a]).1 (goesL ls[a]).2 hlt (Nat.le_refl _) rfl (by have := goesL_len ls[a]; omega) rfl
      rw [← goes_eq] at h
      have hjl := joinL_len (ls.drop (a + 1)) (goesL ls[a]).1 (goesL ls[a]).2
      have hjd := joinL_drop (ls.drop (a + 1)) (goesL ls[a]).1 (goesL ls[a]).2
      have hlen : (ls.drop (a + 1)).length = ls.length - (a + 1) := List.length_drop
      have hrd : rdOf ByteArray.empty (ls.map ofL) (a : Int) = ofL ls[a] := by
        rw [rdOf_nat _ _ a (by rw [List.length_map]; exact hlt), List.getElem_map]
      have e1 : grp f (a + 1 + ((ls.drop (a + 1)).length - (joinL (goesL ls[a]).1 (goesL ls[a]).2 (ls.drop (a + 1))).2.length)) (joinL (goesL ls[a]).1 (goesL ls[a]).2 (ls.drop (a + 1))).2 =
          grp f (a + ((ls.drop (a + 1)).length - (joinL (goesL ls[a]).1 (goesL ls[a]).2 (ls.drop (a + 1))).2.length) + 1) (ls.drop (a + ((ls.drop (a + 1)).length - (joinL (goesL ls[a]).1 (goesL ls[a]).2 (ls.drop (a + 1))).2.length) + 1)) := by
        congr 1
        · omega
        · rw [List.drop_drop] at hjd
          rw [show a + ((ls.drop (a + 1)).length - (joinL (goesL ls[a]).1 (goesL ls[a]).2 (ls.drop (a + 1))).2.length) + 1 = a + 1 + ((ls.drop (a + 1)).length - (joinL (goesL ls[a]).1 (goesL ls[a]).2 (ls.drop (a + 1))).2.length) by omega]
          exact hjd
      rw [grp, e1]
      refine Ev.step (f := fun k => cooperageref8_Lex.j1 k (ls.map ofL) x6 (a : Int) ((a + 1 : Nat) : Int) (ofL ls[a]) (tabOf ls[a])) (fun k => ?_) (Ev.step (fun k => by rw [cooperageref8_Lex.j1]) h)
      rw [cooperageref8_Lex.l0, List.length_map, if_pos (by omega), if_pos (by omega), hrd, wrap_succ a (by omega), bl_toList, bl_ofL, tab_of]
      by_cases e : ls[a] = []
      · rw [if_pos e, if_pos e]
      · have hp : 0 < ls[a].length := List.length_pos_iff.2 e
        rw [if_neg e, if_neg e, if_pos (by rw [ofL_size]; omega)]
    · refine Ev.step (f := fun _ => some (x6, 0, 0)) (fun k => ?_) (by rw [List.drop_eq_nil_of_le (by omega)]; unfold grp; rw [rfin_nil]; exact Ev.now _)
      rw [cooperageref8_Lex.l0, List.length_map, if_neg (by omega)]
theorem reflex_ev (s : ByteArray) (hs : s.size ≤ 5000) : Ev (fun k => cooperageref8_Lex.f k s) (rfin [] (rowsOf (bl s))) := by
  have hb : (bl s).length ≤ 5000 := by rw [← bl_size]; exact hs
  unfold cooperageref8_Lex.f
  refine Ev.bind (f := fun k t => _) (reflines_ev s (by omega)) ?_
  exact rl0_ev (linesL (bl s)) (fun l hl => by have := linesGo_mem (bl s) [] l hl; simp at this; omega) (by have := linesL_len (bl s); omega) (linesL (bl s)).length 0 (Nat.zero_le _) (by omega) [] (by simp)
theorem rfin_none (rows : List Row) (h : chk 0 rows = none) : rfin [] rows = (rows.map rS, 0, 0) := by
  unfold rfin
  rw [show chk ([] : List S53).length rows = none from h]
  simp
theorem chk_len : ∀ (rows : List Row) (n : Nat), chk n rows = none → n ≤ 300 → n + rows.length ≤ 300 ∧ ∀ x ∈ rows, x.text.length ≤ 1000
  | [], n, _, hn => ⟨by simpa using hn, fun x h => by simp at h⟩
  | y :: t, n, h, hn => by
    unfold chk at h
    split at h
    · simp at h
    · rename_i hy
      obtain ⟨h1, h2⟩ := chk_len t (n + 1) h (by omega)
      refine ⟨by rw [List.length_cons]; omega, fun x hx => ?_⟩
      rcases List.mem_cons.1 hx with rfl | hx
      · omega
      · exact h2 x hx
end Go.Proofs.YthnholondnfjoaaDoor.Pl.Lx
