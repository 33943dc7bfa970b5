/- What parse.Name comes to, in plain words. -/
import Derived.Test.YthnholondnfjoaaDoorPParsex2
import Derived.Test.YthnholondnfjoaaDoorRounds
namespace Go.Proofs.YthnholondnfjoaaDoor.Pl
open Go.RowKit Go.Proofs.YthnholondnfjoaaDoor.PParse Go.Proofs.YthnholondnfjoaaDoorW.PrintWords Go.Proofs.YthnholondnfjoaaDoorW.PrintLast

/-- A byte that a name may have. -/
def ok8 (b : UInt8) : Bool := parse_Name.ok (b.toNat : Int)
def nameOk (l : List UInt8) : Bool := l.all ok8 && (l != [] && decide (l.length ≤ 40))
theorem name_l0 (s : ByteArray) (hs : (bl s).length ≤ 9223372036854775806) : ∀ (m i : Nat), (bl s).length - i ≤ m → i ≤ (bl s).length → Ev (fun k => parse_Name.l0 k s (i : Int)) (((bl s).drop i).all ok8)
  | m, i, hm, hi => by
    by_cases h : i < (bl s).length
    · have hb := bt_nat s i h
      have hd := drop_cons (bl s) i h
      rw [hd, List.all_cons]
      by_cases c : ok8 ((bl s)[i]) = true
      · cases m with
        | zero => omega
        | succ m =>
          rw [c, Bool.true_and]
          refine Ev.step (fun k => ?_) (name_l0 s hs m (i + 1) (by omega) (by omega))
          rw [parse_Name.l0, if_pos (by rw [bl_size]; omega), if_pos (by omega), hb, if_pos (show parse_Name.ok _ = true from c), wrap_succ i (by omega)]
      · rw [Bool.eq_false_iff.2 c, Bool.false_and]
        refine Ev.step (f := fun _ => some false) (fun k => ?_) (Ev.now _)
        rw [parse_Name.l0, if_pos (by rw [bl_size]; omega), if_pos (by omega), hb, if_neg (show ¬ parse_Name.ok _ = true from c)]
    · rw [List.drop_eq_nil_of_le (by omega)]
      refine Ev.step (f := fun _ => some true) (fun k => ?_) (Ev.now _)
      rw [parse_Name.l0, if_neg (by rw [bl_size]; omega)]
theorem name_ev (s : ByteArray) (hs : (bl s).length ≤ 9223372036854775806) : Ev (fun k => parse_Name.f k s) (nameOk (bl s)) := by
  have h0 := name_l0 s hs (bl s).length 0 (by omega) (by omega)
  rw [List.drop_zero] at h0
  have hsz := bl_size s
  unfold parse_Name.f
  simp only [if_pos (show s.size ≤ 9223372036854775807 by omega)]
  refine Ev.bind (f := fun _ t1 => (if t1 = true then (if s.toList = ([] : List UInt8) then (some false) else (some (decide ((s.size : Int) ≤ 40)))) else (some false))) h0 ?_
  refine Ev.congr (f := fun _ => some (nameOk (bl s))) (fun k => ?_) (Ev.now _)
  unfold nameOk
  by_cases c : (bl s).all ok8 = true
  · rw [if_pos c, c, Bool.true_and, bl_toList]
    by_cases e : bl s = []
    · rw [if_pos e, e]
      rfl
    · rw [if_neg e, bne_iff_ne.2 e, Bool.true_and]
      congr 1
      rw [hsz]
      by_cases d : (bl s).length ≤ 40
      · rw [decide_eq_true d, decide_eq_true (by omega)]
      · rw [decide_eq_false d, decide_eq_false (by omega)]
  · rw [if_neg c, Bool.eq_false_iff.2 c, Bool.false_and]
theorem ok8_facts (b : UInt8) (h : ok8 b = true) : b.toNat < 128 ∧ b ≠ 36 ∧ b ≠ 58 ∧ b ≠ 63 ∧ b ≠ 43 ∧ b ≠ 61 ∧ b ≠ 32 ∧ b ≠ 9 ∧ b ≠ 124 := by
  unfold ok8 parse_Name.ok at h
  rw [decide_eq_true_eq] at h
  have ne : ∀ c : UInt8, b.toNat ≠ c.toNat → b ≠ c := fun c hc e => hc (by rw [e])
  refine ⟨by omega, ne _ ?_, ne _ ?_, ne _ ?_, ne _ ?_, ne _ ?_, ne _ ?_, ne _ ?_, ne _ ?_⟩ <;> simp <;> omega
end Go.Proofs.YthnholondnfjoaaDoor.Pl
