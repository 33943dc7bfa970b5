/- The program's node and the document's say the same of a line. -/
import Derived.Test.YthnholondnfjoaaDoorPParsex11
import Derived.Test.YthnholondnfjoaaDoorTriLaws
namespace Go.Proofs.YthnholondnfjoaaDoor.Pl
open Go.RowKit Go.Proofs.YthnholondnfjoaaDoor.PParse Go.Proofs.YthnholondnfjoaaDoorW.PrintWords Go.Proofs.YthnholondnfjoaaDoorW.PrintLast

abbrev NodeT := Int × Int × ByteArray × ByteArray × ByteArray × ByteArray × ByteArray × ByteArray × ByteArray × List ByteArray × Bool
/-- The same node, with the line's number; where it is wrong, both say so. -/
def SameR (no : Int) (r R : NodeT) : Prop := R.2.2.2.2.2.2.2.2.2.2 = r.2.2.2.2.2.2.2.2.2.2 ∧ (r.2.2.2.2.2.2.2.2.2.2 = true → R = (r.1, no, r.2.2))
def Two (g G : Nat → Option NodeT) (no : Int) : Prop := ∃ r R, Ev g r ∧ Ev G R ∧ NodeP r ∧ SameR no r R
section
variable {α : Type} {g G : Nat → Option NodeT} {no : Int}
theorem two_bl {g0 : Nat → Option α} {f : Nat → α → Option NodeT} {a : α} (h : Ev g0 a) (k : Two (fun n => f n a) G no) : Two (fun n => (g0 n).bind (f n)) G no := by
  obtain ⟨r, R, h1, h2, h3⟩ := k
  exact ⟨r, R, Ev.bind h h1, h2, h3⟩
theorem two_br {g0 : Nat → Option α} {f : Nat → α → Option NodeT} {a : α} (h : Ev g0 a) (k : Two g (fun n => f n a) no) : Two g (fun n => (g0 n).bind (f n)) no := by
  obtain ⟨r, R, h1, h2, h3⟩ := k
  exact ⟨r, R, h1, Ev.bind h h2, h3⟩
theorem two_sl (k : Two (fun n => g (n + 1)) G no) : Two g G no := by
  obtain ⟨r, R, h1, h2, h3⟩ := k
  exact ⟨r, R, Ev.step (f := fun n => g (n + 1)) (fun _ => rfl) h1, h2, h3⟩
theorem two_sr (k : Two g (fun n => G (n + 1)) no) : Two g G no := by
  obtain ⟨r, R, h1, h2, h3⟩ := k
  exact ⟨r, R, h1, Ev.step (f := fun n => G (n + 1)) (fun _ => rfl) h2, h3⟩
theorem two_now (r R : NodeT) (h1 : NodeP r) (h2 : SameR no r R) : Two (fun _ => some r) (fun _ => some R) no := ⟨r, R, Ev.now r, Ev.now R, h1, h2⟩
/-- Both wrong. -/
theorem two_bad (c x1 d y1 : Int) (x2 x3 x4 x5 x6 x7 x8 y2 y3 y4 y5 y6 y7 y8 : ByteArray) (l : List ByteArray) :
    Two (fun _ => some (c, x1, x2, x3, x4, x5, x6, x7, x8, [], false)) (fun _ => some (d, y1, y2, y3, y4, y5, y6, y7, y8, l, false)) no :=
  two_now _ _ (nodeP_bad _ _ _ _ _ _ _ _ _) ⟨rfl, fun h => Bool.noConfusion h⟩
/-- Both the same. -/
theorem two_same (c x1 : Int) (x2 x3 x4 x5 x6 x7 x8 : ByteArray) (b : Bool) (h : 1 ≤ c ∧ c ≤ 6) :
    Two (fun _ => some (c, x1, x2, x3, x4, x5, x6, x7, x8, [], b)) (fun _ => some (c, no, x2, x3, x4, x5, x6, x7, x8, [], b)) no :=
  two_now _ _ (nodeP_kind _ _ _ _ _ _ _ _ _ _ h) ⟨rfl, fun _ => rfl⟩
end
theorem refcut1_ev (l : List UInt8) (x : UInt8) (h : l.length ≤ 1000000) : Ev (fun n => cooperageref9_Cut.f n (ofL l) [ofL [x]]) (ofL (cutL [[x]] l).1, ofL (cutL [[x]] l).2.1, ofL (cutL [[x]] l).2.2) := by
  have hc := refcut_ev (ofL l) [[x]] (by rw [bl_ofL]; omega) (by simp) (fun y hy => by rw [List.mem_singleton] at hy; rw [hy]; simp)
  rw [bl_ofL] at hc
  exact hc
theorem toL_nil (l : List UInt8) : ((ofL l).toList = ([] : List UInt8)) ↔ l = [] := by rw [bl_toList, bl_ofL]
/-- A rule behind its pattern: m is trimmed, or not. -/
theorem tail_same (m d : List UInt8) (hm : m.length ≤ 1000) (hd : d.length ≤ 1000) (no : Int) (T P : List UInt8) (hmore : (cutL [[58]] d).2.1 = [])
    (h1 : (cutL [[124]] m).2.1 = (cutL [[124]] d).2.1) (h2 : triB (cutL [[124]] m).1 = triB (cutL [[124]] d).1) (h3 : triB (cutL [[124]] m).2.2 = triB (cutL [[124]] d).2.2) :
    Two (fun k => parse_rule.j1 k (ofL m) 2 0 (⟨#[]⟩ : ByteArray) (⟨#[]⟩ : ByteArray) (⟨#[]⟩ : ByteArray) (ofL T) (ofL P) (⟨#[]⟩ : ByteArray) (⟨#[]⟩ : ByteArray)) (fun k => cooperageref9_rule.j0 k (ofL d) 2 no (⟨#[]⟩ : ByteArray) (⟨#[]⟩ : ByteArray) (⟨#[]⟩ : ByteArray) (ofL T) (ofL P) (⟨#[]⟩ : ByteArray) (⟨#[]⟩ : ByteArray)) no := by
  obtain ⟨l1, l2⟩ := cut_lens [[124]] d
  refine two_sl (two_sr ?_)
  simp only [parse_rule.j1, cooperageref9_rule.j0]
  refine two_bl (f := fun _ t => _) (sides_ev m 124 (by omega)) ?_
  refine two_br (f := fun _ t => _) (refcut1_ev d 58 (by omega)) ?_
  refine two_br (f := fun _ t => _) (refcut1_ev d 124 (by omega)) ?_
  dsimp only
  refine two_br (f := fun _ t => _) (refcut1_ev (cutL [[124]] d).2.2 124 (by omega)) ?_
  refine two_br (f := fun _ t => _) (reftrim_ev (cutL [[124]] d).1 (by omega)) ?_
  refine two_br (f := fun _ t => _) (reftrim_ev (cutL [[124]] d).2.2 (by omega)) ?_
  dsimp only
  rw [h1, h2, h3]
  have e58 : (ofL (cutL [[58]] d).2.1).toList = ([] : List UInt8) := (toL_nil _).2 hmore
  by_cases eT : (ofL T).toList = ([] : List UInt8)
  · simp only [if_pos eT]
    exact two_bad _ _ _ _ _ _ _ _ _ _ _ _ _ _ _ _ _ _ _
  simp only [if_neg eT, if_pos e58]
  by_cases eB : (cutL [[124]] d).2.1 = []
  · have e1 : (ofL (cutL [[124]] d).2.1).toList = ([] : List UInt8) := (toL_nil _).2 eB
    have e2 : ¬ (decide ((cutL [[124]] d).2.1 ≠ []) = true) := by simp [eB]
    simp only [if_pos e1, if_neg e2]
    exact two_same _ _ _ _ _ _ _ _ _ _ (by decide)
  · have e1 : ¬ ((ofL (cutL [[124]] d).2.1).toList = ([] : List UInt8)) := fun q => eB ((toL_nil _).1 q)
    have e2 : decide ((cutL [[124]] d).2.1 ≠ []) = true := by simp [eB]
    simp only [if_neg e1, if_pos e2]
    have hl3 := triB_len (cutL [[124]] d).2.2
    have hh : Ev (fun k => parse_has.f k (ofL (triB (cutL [[124]] d).2.2)) (⟨#[124]⟩ : ByteArray)) (decide ((cutL [[124]] (triB (cutL [[124]] d).2.2)).2.1 ≠ [])) := by
      unfold parse_has.f
      exact Ev.bind (f := fun _ t => some t.2.2) (sides_ev (triB (cutL [[124]] d).2.2) 124 (by omega)) (Ev.now _)
    refine two_bl (f := fun _ t => _) hh ?_
    rw [← (cut_trim 124 rfl (cutL [[124]] d).2.2).1]
    rw [show ((ofL (cutL [[124]] (cutL [[124]] d).2.2).2.1).toList == ([] : List UInt8)) = !decide ((cutL [[124]] (cutL [[124]] d).2.2).2.1 ≠ []) by
      rw [bl_toList, bl_ofL]
      by_cases q : (cutL [[124]] (cutL [[124]] d).2.2).2.1 = []
      · simp [q]
      · simp [q]]
    exact two_same _ _ _ _ _ _ _ _ _ _ (by decide)
theorem rule_same (a b : List UInt8) (ha : a.length ≤ 1000) (hb : b.length ≤ 1000) (no : Int) : Two (fun k => parse_rule.f k (ofL a) (ofL b)) (fun k => cooperageref9_rule.f k (ofL a) (ofL b) no) no := by
  obtain ⟨l1, l2⟩ := cut_lens [[58]] b
  unfold parse_rule.f cooperageref9_rule.f
  rw [trim_f a (by omega)]
  simp only [Option.bind_some]
  refine two_bl (f := fun _ t => _) (sides_ev b 58 (by omega)) ?_
  refine two_br (f := fun _ t => _) (reftrim_ev a (by omega)) ?_
  refine two_br (f := fun _ t => _) (refcut1_ev b 58 (by omega)) ?_
  dsimp only
  by_cases e : (cutL [[58]] b).2.1 = []
  · have e1 : (ofL (cutL [[58]] b).2.1).toList = ([] : List UInt8) := (toL_nil _).2 e
    have e2 : ¬ (decide ((cutL [[58]] b).2.1 ≠ []) = true) := by simp [e]
    simp only [if_pos e1, if_neg e2]
    exact tail_same b b hb hb no (triB a) [] e rfl rfl rfl
  · have e1 : ¬ ((ofL (cutL [[58]] b).2.1).toList = ([] : List UInt8)) := fun q => e ((toL_nil _).1 q)
    have e2 : decide ((cutL [[58]] b).2.1 ≠ []) = true := by simp [e]
    simp only [if_neg e1, if_pos e2]
    refine two_br (f := fun _ t => _) (reftrim_ev (cutL [[58]] b).1 (by omega)) ?_
    by_cases eP : (ofL (triB (cutL [[58]] b).1)).toList = ([] : List UInt8)
    · simp only [if_pos eP]
      refine two_sl ?_
      simp only [parse_rule.j0, if_true]
      exact two_bad _ _ _ _ _ _ _ _ _ _ _ _ _ _ _ _ _ _ _
    · simp only [if_neg eP]
      have hl3 := triB_len (cutL [[58]] b).2.2
      have hh : Ev (fun k => parse_has.f k (ofL (triB (cutL [[58]] b).2.2)) (⟨#[58]⟩ : ByteArray)) (decide ((cutL [[58]] (triB (cutL [[58]] b).2.2)).2.1 ≠ [])) := by
        unfold parse_has.f
        exact Ev.bind (f := fun _ t => some t.2.2) (sides_ev (triB (cutL [[58]] b).2.2) 58 (by omega)) (Ev.now _)
      refine two_bl (f := fun _ t => _) hh ?_
      rw [← (cut_trim 58 rfl (cutL [[58]] b).2.2).1]
      obtain ⟨c1, c2, c3⟩ := cut_trim 124 rfl (cutL [[58]] b).2.2
      by_cases eM : (cutL [[58]] (cutL [[58]] b).2.2).2.1 = []
      · rw [show decide ((cutL [[58]] (cutL [[58]] b).2.2).2.1 ≠ []) = false by simp [eM]]
        refine two_sl ?_
        simp only [parse_rule.j0, Bool.false_eq_true, if_false]
        exact tail_same (triB (cutL [[58]] b).2.2) (cutL [[58]] b).2.2 (by omega) (by omega) no (triB a) (triB (cutL [[58]] b).1) eM c1.symm c2.symm c3.symm
      · rw [show decide ((cutL [[58]] (cutL [[58]] b).2.2).2.1 ≠ []) = true by simp [eM]]
        refine two_sl (two_sr ?_)
        simp only [parse_rule.j0, if_true, cooperageref9_rule.j0]
        obtain ⟨m1, m2⟩ := cut_lens [[124]] (cutL [[58]] b).2.2
        refine two_br (f := fun _ t => _) (refcut1_ev (cutL [[58]] b).2.2 58 (by omega)) ?_
        refine two_br (f := fun _ t => _) (refcut1_ev (cutL [[58]] b).2.2 124 (by omega)) ?_
        dsimp only
        refine two_br (f := fun _ t => _) (refcut1_ev (cutL [[124]] (cutL [[58]] b).2.2).2.2 124 (by omega)) ?_
        refine two_br (f := fun _ t => _) (reftrim_ev (cutL [[124]] (cutL [[58]] b).2.2).1 (by omega)) ?_
        refine two_br (f := fun _ t => _) (reftrim_ev (cutL [[124]] (cutL [[58]] b).2.2).2.2 (by omega)) ?_
        dsimp only
        have e58 : ¬ ((ofL (cutL [[58]] (cutL [[58]] b).2.2).2.1).toList = ([] : List UInt8)) := fun q => eM ((toL_nil _).1 q)
        by_cases eT : (ofL (triB a)).toList = ([] : List UInt8)
        · simp only [if_pos eT]
          exact two_bad _ _ _ _ _ _ _ _ _ _ _ _ _ _ _ _ _ _ _
        · simp only [if_neg eT, if_neg e58]
          exact two_bad _ _ _ _ _ _ _ _ _ _ _ _ _ _ _ _ _ _ _
end Go.Proofs.YthnholondnfjoaaDoor.Pl
