/- What parse.Cut comes to, in plain words. -/
import Derived.Test.YthnholondnfjoaaDoorPParsex3
import Derived.Test.YthnholondnfjoaaDoorPParsex2
import Derived.Test.YthnholondnfjoaaDoorCutSpec
import Derived.Test.YthnholondnfjoaaDoorRounds
namespace Go.Proofs.YthnholondnfjoaaDoor.Pl
open Go.RowKit Go.Proofs.YthnholondnfjoaaDoor.PParse Go.Proofs.YthnholondnfjoaaDoorW.PrintWords Go.Proofs.YthnholondnfjoaaDoorW.PrintLast

theorem ofL_size (l : List UInt8) : (ofL l).size = l.length := by rw [bl_size, bl_ofL]
theorem hp_f (a b : ByteArray) : strings_HasPrefix.f a b = some ((bl b).isPrefixOf (bl a)) := by
  unfold strings_HasPrefix.f stringslite_HasPrefix.f
  by_cases h : (a.size : Int) ≥ b.size
  · rw [if_pos h, if_pos (by omega), if_pos (by omega)]
    simp only [Option.bind_some]
    congr 1
    rw [Int.toNat_natCast, bl_toList, bl_toList, bl_extract_from, bl_size b, Bool.eq_iff_iff, beq_iff_eq, List.isPrefixOf_iff_prefix, List.prefix_iff_eq_take]
    exact eq_comm
  · rw [if_neg h]
    simp only [Option.bind_some]
    congr 1
    symm
    rw [Bool.eq_false_iff]
    intro e
    rw [List.isPrefixOf_iff_prefix] at e
    have := e.length_le
    rw [← bl_size, ← bl_size] at this
    omega
/-- A stack's bytes, the last one first, as the program's list has them. -/
def nat8 (k : List UInt8) : List Int := k.reverse.map (fun b => (b.toNat : Int))
theorem nat8_cons (c : UInt8) (k : List UInt8) : nat8 (c :: k) = nat8 k ++ [(c.toNat : Int)] := by simp [nat8]
theorem nat8_len (k : List UInt8) : (nat8 k).length = k.length := by simp [nat8]
theorem pre2 (a b c : UInt8) (t : List UInt8) : ([a, b] : List UInt8).isPrefixOf (c :: t) = decide (c = a ∧ t.head? = some b) := by
  cases t with
  | nil => simp [List.isPrefixOf]
  | cons d u =>
    rw [Bool.eq_iff_iff, decide_eq_true_eq, List.isPrefixOf, List.isPrefixOf, List.isPrefixOf, Bool.and_true, Bool.and_eq_true, beq_iff_eq, beq_iff_eq, List.head?_cons, Option.some.injEq]
    exact ⟨fun h => ⟨h.1.symm, h.2.symm⟩, fun h => ⟨h.1.symm, h.2.symm⟩⟩
theorem step_f (k : List UInt8) (c : UInt8) (t : List UInt8) (x : ByteArray) (hx : bl x = c :: t) (hk : k.length < 4398046511104) :
    parse_stack_step.f (nat8 k) x = some (if c = 36 ∧ t.head? = some 40 then (nat8 (41 :: k), 2, false) else if c = 36 ∧ t.head? = some 123 then (nat8 (125 :: k), 2, false)
      else if k.head? = some c then (nat8 k.tail, 1, false) else (nat8 k, 1, decide (k = []))) := by
  unfold parse_stack_step.f parse_stack_push.f
  have hl := nat8_len k
  have hsz : x.size = (c :: t).length := by rw [bl_size, hx]
  rw [hp_f, hp_f, hx, bl_mk, bl_mk]
  simp only [Option.bind_some]
  rw [pre2, pre2]
  by_cases h1 : c = 36 ∧ t.head? = some 40
  · rw [if_pos (decide_eq_true h1), if_pos h1, if_pos (by rw [hl]; exact hk), nat8_cons]
    rfl
  rw [if_neg (by simpa using h1), if_neg h1]
  by_cases h2 : c = 36 ∧ t.head? = some 123
  · rw [if_pos (decide_eq_true h2), if_pos h2, if_pos (by rw [hl]; exact hk), nat8_cons]
    rfl
  rw [if_neg (by simpa using h2), if_neg h2]
  cases k with
  | nil => simp [nat8]
  | cons d u =>
    rw [nat8_cons]
    rw [nat8_cons] at hl
    have hu := nat8_len u
    have hw : wrap64 (((nat8 u ++ [(d.toNat : Int)]).length : Int) - 1) = (u.length : Int) := by
      rw [hl, wrap_sm] <;> simp at hk ⊢ <;> omega
    rw [hw]
    have hbt : bt x 0 = (c.toNat : Int) := by
      have := bt_nat x 0 (by rw [hx]; simp)
      simp only [hx, List.getElem_cons_zero] at this
      exact this
    have hrd : rd (nat8 u ++ [(d.toNat : Int)]) (u.length : Int) = (d.toNat : Int) := by
      unfold rd
      rw [Int.toNat_natCast, ← hu, List.getD_eq_getElem?_getD, List.getElem?_append_right (Nat.le_refl _), Nat.sub_self]
      rfl
    have ht : (nat8 u ++ [(d.toNat : Int)]).take (u.length : Int).toNat = nat8 u := by rw [Int.toNat_natCast, ← hu, List.take_left]
    rw [hbt, hrd, ht, hl, hsz]
    have hcl : (c :: t).length = t.length + 1 := rfl
    have hul : (d :: u).length = u.length + 1 := rfl
    rw [if_pos (by omega), if_pos (by omega), if_pos (by omega), if_pos (by omega)]
    by_cases h3 : d = c
    · subst h3
      rw [if_pos rfl, if_pos (by omega), if_pos (by simp)]
      rfl
    · rw [if_neg (by rw [u8_eq]; exact fun e => h3 e.symm), if_neg (by simpa using h3)]
      simp
      omega
/-- The signs' loop: the first that is there, or on. -/
theorem l1_ev (s : ByteArray) (signs : List (List UInt8)) (pre rest : List UInt8) (next : List Int) (n1 : Int) (hs : bl s = pre ++ rest) (hsz : (bl s).length ≤ 1000000000) (hn : signs.length ≤ 1000000000) (T : ByteArray × ByteArray × ByteArray)  :
    ∀ (r d : List (List UInt8)), signs = d ++ r → (signAt r rest = none → Ev (fun n => parse_Cut.l0 n s (signs.map ofL) next (wrap64 ((pre.length : Int) + n1))) T) → (∀ sg, signAt r rest = some sg → T = (ofL pre, ofL sg, ofL (rest.drop sg.length))) →
    Ev (fun n => parse_Cut.l1 n s (signs.map ofL) (pre.length : Int) (s.extract (pre.length : Int).toNat s.size) next n1 (signs.map ofL) ((signs.map ofL).length : Int) (d.length : Int)) T
  | [], d, hd, h0, _ => by
    refine Ev.step (f := fun n => parse_Cut.l0 n s (signs.map ofL) next (wrap64 ((pre.length : Int) + n1))) (fun n => ?_) (h0 rfl)
    rw [parse_Cut.l1, if_neg (by rw [hd]; simp)]
  | sg :: r, d, hd, h0, h1 => by
    have hdl : d.length < signs.length := by rw [hd]; simp
    have hge : (signs.map ofL).length = signs.length := List.length_map ..
    have hrd : rdOf ByteArray.empty (signs.map ofL) (d.length : Int) = ofL sg := by
      rw [rdOf_nat _ _ _ (by omega)]
      simp [hd]
    have hx9 : bl (s.extract (pre.length : Int).toNat s.size) = rest := by rw [Int.toNat_natCast, bl_extract_to, hs, List.drop_left]
    have hpre : (pre.length : Int) ≤ s.size := by rw [bl_size, hs, List.length_append]; omega
    have ih := l1_ev s signs pre rest next n1 hs hsz hn T r (d ++ [sg]) (by rw [hd]; simp)
    have hwr : wrap64 ((d.length : Int) + 1) = (((d ++ [sg]).length : Nat) : Int) := by rw [wrap_succ _ (by omega)]; simp
    by_cases e : sg = []
    · have hsa : signAt (sg :: r) rest = signAt r rest := by simp [signAt, e]
      rw [hsa] at h0 h1
      refine Ev.step (fun n => ?_) (ih h0 h1)
      rw [parse_Cut.l1, if_pos (by omega), if_pos (by omega), if_pos (by omega), hrd, if_pos (by rw [bl_toList, bl_ofL, e]), hwr]
    · by_cases hp : sg.isPrefixOf rest = true
      · have hsa : signAt (sg :: r) rest = some sg := by simp [signAt, e, hp]
        rw [h1 sg hsa]
        refine Ev.step (f := fun _ => some (ofL pre, ofL sg, ofL (rest.drop sg.length))) (fun n => ?_) (Ev.now _)
        have hlen : sg.length ≤ rest.length := (List.isPrefixOf_iff_prefix.1 hp).length_le
        rw [parse_Cut.l1, if_pos (by omega), if_pos (by omega), if_pos (by omega), hrd, if_neg (by rw [bl_toList, bl_ofL]; exact e), hp_f, bl_ofL, hx9, hp]
        simp only [Option.bind_some, if_true]
        rw [if_pos (by omega), if_pos hpre, if_pos (by omega), if_pos (by rw [ofL_size, bl_size, hx9]; omega)]
        congr 1
        refine Prod.ext (bl_inj ?_) (Prod.ext rfl (bl_inj ?_))
        · rw [bl_extract_from, bl_ofL, hs, Int.toNat_natCast, List.take_left]
        · rw [bl_extract_to, hx9, bl_ofL, ofL_size, Int.toNat_natCast]
      · have hsa : signAt (sg :: r) rest = signAt r rest := by simp [signAt, hp]
        rw [hsa] at h0 h1
        refine Ev.step (fun n => ?_) (ih h0 h1)
        rw [parse_Cut.l1, if_pos (by omega), if_pos (by omega), if_pos (by omega), hrd, if_neg (by rw [bl_toList, bl_ofL]; exact e), hp_f, bl_ofL, hx9]
        simp only [Option.bind_some]
        rw [if_neg hp, hwr]
def tr3 (p : List UInt8 × List UInt8 × List UInt8) : ByteArray × ByteArray × ByteArray := (ofL p.1, ofL p.2.1, ofL p.2.2)
theorem cut_go (signs : List (List UInt8)) (hn : signs.length ≤ 1000000000) (s : ByteArray) (hsz : (bl s).length ≤ 1000000000) :
    ∀ (f : Nat) (k pre rest : List UInt8), bl s = pre ++ rest → rest.length ≤ f → k.length ≤ pre.length → Ev (fun n => parse_Cut.l0 n s (signs.map ofL) (nat8 k) (pre.length : Int)) (tr3 (cutGo signs f k pre rest))
  | f, k, pre, [], hs, _, _ => by
    have hc : cutGo signs f k pre [] = (pre, [], []) := by cases f <;> simp [cutGo]
    rw [hc]
    refine Ev.step (f := fun _ => some (tr3 (pre, [], []))) (fun n => ?_) (Ev.now _)
    rw [List.append_nil] at hs
    rw [parse_Cut.l0, if_neg (by rw [bl_size, hs]; omega)]
    congr 1
    refine Prod.ext (bl_inj ?_) rfl
    rw [hs]
    exact (bl_ofL pre).symm
  | 0, k, pre, c :: t, _, hf, _ => by simp at hf
  | f + 1, k, pre, c :: t, hs, hf, hk => by
    have hlen : pre.length + t.length + 1 ≤ 1000000000 := by
      have := hsz
      rw [hs] at this
      simp at this
      omega
    have hlt : (pre.length : Int) < s.size := by rw [bl_size, hs]; simp; omega
    have hx9 : bl (s.extract (pre.length : Int).toNat s.size) = c :: t := by rw [Int.toNat_natCast, bl_extract_to, hs, List.drop_left]
    have hf' : t.length ≤ f := by simp at hf; omega
    have ht1 : (t.drop 1).length ≤ f := by rw [List.length_drop]; omega
    have hst := step_f k c t _ hx9 (by omega)
    have go : ∀ (nx : List UInt8) (p rest' : List UInt8) (m : Int), bl s = (pre ++ p) ++ rest' → rest'.length ≤ f → nx.length ≤ (pre ++ p).length → m = (p.length : Int) →
        Ev (fun n => parse_Cut.l0 n s (signs.map ofL) (nat8 nx) (wrap64 ((pre.length : Int) + m))) (tr3 (cutGo signs f nx (pre ++ p) rest')) := by
      intro nx p rest' m e1 e2 e3 e4
      have hp : pre.length + p.length ≤ 1000000000 := by
        have := hsz
        rw [e1] at this
        simp at this
        omega
      have := cut_go signs hn s hsz f nx (pre ++ p) rest' e1 e2 e3
      rw [e4, show wrap64 ((pre.length : Int) + p.length) = (((pre ++ p).length : Nat) : Int) by rw [wrap_sm (by omega) (by omega)]; simp]
      exact this
    rw [cutGo]
    by_cases h1 : c = 36 ∧ t.head? = some 40
    · rw [if_pos h1]
      rw [if_pos h1] at hst
      have ht : t = 40 :: t.drop 1 := by cases t with | nil => simp at h1 | cons d u => have := h1.2; simp at this; rw [this]; rfl
      refine Ev.step (fun n => ?_) (go (41 :: k) [36, 40] (t.drop 1) 2 (by rw [hs, h1.1, List.append_assoc]; congr 1; rw [List.cons_append, List.cons_append, List.nil_append, ← ht]) ht1 (by simp; omega) rfl)
      rw [parse_Cut.l0, if_pos hlt, if_pos (by omega), if_pos (by omega), hst]
      rfl
    rw [if_neg h1]
    rw [if_neg h1] at hst
    by_cases h2 : c = 36 ∧ t.head? = some 123
    · rw [if_pos h2]
      rw [if_pos h2] at hst
      have ht : t = 123 :: t.drop 1 := by cases t with | nil => simp at h2 | cons d u => have := h2.2; simp at this; rw [this]; rfl
      refine Ev.step (fun n => ?_) (go (125 :: k) [36, 123] (t.drop 1) 2 (by rw [hs, h2.1, List.append_assoc]; congr 1; rw [List.cons_append, List.cons_append, List.nil_append, ← ht]) ht1 (by simp; omega) rfl)
      rw [parse_Cut.l0, if_pos hlt, if_pos (by omega), if_pos (by omega), hst]
      rfl
    rw [if_neg h2]
    rw [if_neg h2] at hst
    by_cases h3 : k.head? = some c
    · rw [if_pos h3]
      rw [if_pos h3] at hst
      refine Ev.step (fun n => ?_) (go k.tail [c] t 1 (by rw [hs]; simp) hf' (by simp; omega) rfl)
      rw [parse_Cut.l0, if_pos hlt, if_pos (by omega), if_pos (by omega), hst]
      rfl
    rw [if_neg h3]
    rw [if_neg h3] at hst
    by_cases h4 : k = []
    · rw [if_pos h4]
      have hl1 := l1_ev s signs pre (c :: t) (nat8 k) 1 hs hsz hn (tr3 (match signAt signs (c :: t) with | some sg => (pre, sg, (c :: t).drop sg.length) | none => cutGo signs f k (pre ++ [c]) t)) signs [] rfl
        (fun e => by rw [e]; exact go k [c] t 1 (by rw [hs]; simp) hf' (by simp; omega) rfl) (fun sg e => by rw [e]; rfl)
      refine Ev.step (fun n => ?_) hl1
      rw [parse_Cut.l0, if_pos hlt, if_pos (by omega), if_pos (by omega), hst]
      simp only [Option.bind_some]
      rw [if_pos (decide_eq_true h4)]
      rfl
    · rw [if_neg h4]
      refine Ev.step (fun n => ?_) (go k [c] t 1 (by rw [hs]; simp) hf' (by simp; omega) rfl)
      rw [parse_Cut.l0, if_pos hlt, if_pos (by omega), if_pos (by omega), hst]
      simp only [Option.bind_some]
      rw [if_neg (by simpa using h4)]
theorem cut_ev (signs : List (List UInt8)) (hn : signs.length ≤ 1000000000) (s : ByteArray) (hsz : s.size ≤ 1000000000) : Ev (fun n => parse_Cut.f n s (signs.map ofL)) (tr3 (cutL signs (bl s))) := by
  rw [bl_size] at hsz
  exact cut_go signs hn s hsz (bl s).length [] [] (bl s) rfl (Nat.le_refl _) (Nat.le_refl _)
theorem cut1_ev (s sign : ByteArray) (hsz : s.size ≤ 1000000000) : Ev (fun n => parse_Cut.f n s [sign]) (tr3 (cutL [bl sign] (bl s))) := by
  have h := cut_ev [bl sign] (by simp) s hsz
  rw [show [bl sign].map ofL = [sign] by rw [List.map_cons, ofL_bl]; rfl] at h
  exact h
end Go.Proofs.YthnholondnfjoaaDoor.Pl
