/- More of what the printed functions of the lease seat come to: pick, Leave. -/
import Derived.Test.YtgcghjkaomgloaaDoorPLeasex6
import Derived.Test.YtgcghjkaomgloaaDoorPLeasex7
import Derived.Test.YtgcghjkaomgloaaDoorLeasePure
namespace Go.Proofs.YtgcghjkaomgloaaDoor.Pl
open Go.RowKit Go.Proofs.YtgcghjkaomgloaaDoor.PLease Go.Proofs.YtgcghjkaomgloaaDoorW.PrintWords Go.Proofs.YtgcghjkaomgloaaDoorW.PrintLast
theorem wf_i64 {c : Int} (h : (Lit.int .i64 c).wf = true) : -9223372036854775808 ≤ c ∧ c ≤ 9223372036854775807 := by
  simp only [Lit.wf, Bool.and_eq_true, decide_eq_true_eq] at h
  have e1 : IntKind.i64.min = -9223372036854775808 := by decide
  have e2 : IntKind.i64.max = 9223372036854775807 := by decide
  omega
def pickS (c n : Int) : Int := if c < 0 then Int.tmod (-(c + 1)) n else Int.tmod c n
theorem pick_f (c n : Int) (hc : -9223372036854775808 ≤ c ∧ c ≤ 9223372036854775807) (hn : 0 < n) : cooperagelaw16_pick.f c n = some (pickS c n) := by
  unfold cooperagelaw16_pick.f pickS
  split
  · rw [if_neg (by omega), wrap_sm (i := c + 1) (by omega) (by omega), wrap_sm (by omega) (by omega)]
  · rw [if_neg (by omega)]
theorem pickS_lt (c n : Int) (hn : 0 < n) : 0 ≤ pickS c n ∧ pickS c n < n := by
  unfold pickS
  split
  · rw [Int.tmod_eq_emod_of_nonneg (by omega)]
    exact ⟨Int.emod_nonneg _ (by omega), Int.emod_lt_of_pos _ hn⟩
  · rw [Int.tmod_eq_emod_of_nonneg (by omega)]
    exact ⟨Int.emod_nonneg _ (by omega), Int.emod_lt_of_pos _ hn⟩
def leaveS (last : Int) (L : List S34) (Q : List S32) (who now : Int) : Int × List S34 × List S32 :=
  if timeP now = true then settleS now (Q.filter (fun a => !decide (a.f0 = who))) last (L.filter (fun x => !decide (x.f0 = who))) [] else (last, L, Q)
theorem leave_f (last : Int) (L : List S34) (Q : List S32) (who now : Int) (hL : L.length ≤ 10000) (hQ : Q.length ≤ 10000) (k : Nat) (hk : 60000 ≤ k) :
    lease_Leave.f k last L Q who now = some (leaveS last L Q who now) := by
  have hl : (L.filter (fun x => !decide (x.f0 = who))).length ≤ L.length := List.length_filter_le _ _
  have hq : (Q.filter (fun x => !decide (x.f0 = who))).length ≤ Q.length := List.length_filter_le _ _
  have e1 : ∀ x : S34, lease_Leave_1.f x.f0 x.f1 x.f2 x.f3 x.f4 who = some (decide (x.f0 = who)) := fun x => by
    unfold lease_Leave_1.f; rw [beq_int]
  have e2 : ∀ x : S32, lease_Leave_2.f x.f0 x.f1 x.f2 x.f3 who = some (decide (x.f0 = who)) := fun x => by
    unfold lease_Leave_2.f; rw [beq_int]
  have h := part_loop 2932031007402 (by omega) rd_T34 rd34 (fun x => decide (x.f0 = who)) (fun k a b xs n' i => lease_Lease_31_at35.l0 k a b xs n' i who)
    (fun k a b xs n' i => by
      simp only [lease_Lease_31_at35.l0, e1, Option.bind_some]) L (by omega) L.length 0 [] [] (by omega) (by simp) (by simp) k (by omega)
  have h' : lease_Lease_31_at35.f k L who = some (L.filter (fun x => decide (x.f0 = who)), L.filter (fun x => !decide (x.f0 = who))) := by
    unfold lease_Lease_31_at35.f
    simpa using h
  have g := part_loop 3518437208883 (by omega) rd_T32 rd32 (fun x => decide (x.f0 = who)) (fun k a b xs n' i => lease_Ask_36_at37.l0 k a b xs n' i who)
    (fun k a b xs n' i => by
      simp only [lease_Ask_36_at37.l0, e2, Option.bind_some]) Q (by omega) Q.length 0 [] [] (by omega) (by simp) (by simp) k (by omega)
  have g' : lease_Ask_36_at37.f k Q who = some (Q.filter (fun x => decide (x.f0 = who)), Q.filter (fun x => !decide (x.f0 = who))) := by
    unfold lease_Ask_36_at37.f
    simpa using g
  unfold lease_Leave.f leaveS
  rw [time_f, h', g']
  simp only [Option.bind_some]
  rw [settle_f last _ _ now (by omega) (by omega) k hk]
  simp only [Option.bind_some]
  split <;> rfl
end Go.Proofs.YtgcghjkaomgloaaDoor.Pl
