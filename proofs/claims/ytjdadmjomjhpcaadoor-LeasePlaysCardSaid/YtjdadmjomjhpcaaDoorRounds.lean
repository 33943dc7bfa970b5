/- Small laws on rounds and bytes by place, for the pure statements. -/
import Derived.Test.YtjdadmjomjhpcaaDoorBytes
import Derived.Test.YtjdadmjomjhpcaaDoorWWords
namespace Go.Proofs.YtjdadmjomjhpcaaDoor.Pl
open Go.Proofs Go.RowKit Go.Proofs.YtjdadmjomjhpcaaDoorW.PrintWords

theorem wrap_succ (i : Nat) (h : i ≤ 9223372036854775806) : wrap64 ((i : Int) + 1) = ((i + 1 : Nat) : Int) := by
  rw [wrap_sm] <;> omega
theorem bt_nat (s : ByteArray) (i : Nat) (h : i < (bl s).length) : bt s (i : Int) = (((bl s)[i]'h).toNat : Int) := by
  have h' : ((i : Int)).toNat < s.size := by rw [bl_size]; exact h
  unfold bt
  rw [dif_pos h']
  rfl
theorem drop_cons {α : Type} (l : List α) (i : Nat) (h : i < l.length) : l.drop i = l[i] :: l.drop (i + 1) := List.drop_eq_getElem_cons h
theorem u8_eq (x c : UInt8) : ((x.toNat : Int) = (c.toNat : Int)) ↔ x = c := by
  rw [Int.ofNat_inj]
  exact UInt8.toNat_inj
theorem rdOf_nat {α : Type} (d : α) (l : List α) (i : Nat) (h : i < l.length) : rdOf d l (i : Int) = l[i] := by
  unfold rdOf
  rw [Int.toNat_natCast, List.getD_eq_getElem?_getD, List.getElem?_eq_getElem h]
  rfl
/-- From some number of rounds on, out of what is so at each great number. -/
theorem Ev.mk' {α : Type} {g : Nat → Option α} {r : α} (K : Nat) (h : ∀ k, K ≤ k → g k = some r) : Ev g r := ⟨K, h⟩
end Go.Proofs.YtjdadmjomjhpcaaDoor.Pl
