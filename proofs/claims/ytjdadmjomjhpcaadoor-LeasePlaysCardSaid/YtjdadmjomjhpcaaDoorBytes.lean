/- Plain laws on byte strings as lists: no program in sight. -/
import Derived.Lib.Bytealg
import Derived.Lib.Strings
import Derived.Lib.IndexBytes
import Derived.Lib.Split
import Derived.RowKit
namespace Go.Proofs.YtjdadmjomjhpcaaDoor.Pl
open Go.Proofs Go.RowKit

/-- A string's bytes. -/
def bl (s : ByteArray) : List UInt8 := s.data.toList
def ofL (l : List UInt8) : ByteArray := ⟨l.toArray⟩
theorem bl_mk (a : Array UInt8) : bl ⟨a⟩ = a.toList := rfl
theorem bl_ofL (l : List UInt8) : bl (ofL l) = l := by simp [bl, ofL]
theorem ofL_bl (s : ByteArray) : ofL (bl s) = s := by cases s; simp [bl, ofL]
theorem bl_inj {s t : ByteArray} (h : bl s = bl t) : s = t := by rw [← ofL_bl s, ← ofL_bl t, h]
theorem bl_toList (s : ByteArray) : s.toList = bl s := Lib.toList_data s
theorem bl_data (s : ByteArray) : s.data.toList = bl s := rfl
theorem bl_size (s : ByteArray) : s.size = (bl s).length := Lib.size_eq s
theorem bl_append (s t : ByteArray) : bl (s ++ t) = bl s ++ bl t := by
  unfold bl
  rw [ByteArray.data_append, Array.toList_append]
theorem bl_extract (s : ByteArray) (i j : Nat) : bl (s.extract i j) = ((bl s).take j).drop i := by
  unfold bl
  rw [Lib.extract_data, List.drop_take]
theorem bl_extract_to (s : ByteArray) (i : Nat) : bl (s.extract i s.size) = (bl s).drop i := Lib.extract_to_end s i
theorem bl_extract_len (s : ByteArray) (i : Nat) : bl (s.extract i (bl s).length) = (bl s).drop i := by rw [← bl_size]; exact bl_extract_to s i
theorem bl_extract_from (s : ByteArray) (j : Nat) : bl (s.extract 0 j) = (bl s).take j := Lib.extract_from_zero s j
theorem eq_bl {s t : ByteArray} : s = t ↔ bl s = bl t := ⟨fun h => h ▸ rfl, bl_inj⟩
theorem ofL_inj {l m : List UInt8} (h : ofL l = ofL m) : l = m := by rw [← bl_ofL l, h, bl_ofL]

/-- Where a byte first is: nowhere, or behind what has none. -/
theorem ib_cases (c : UInt8) : ∀ l : List UInt8, (Lib.indexByte l c = -1 ∧ c ∉ l) ∨ ∃ a b, l = a ++ c :: b ∧ c ∉ a ∧ Lib.indexByte l c = a.length
  | [] => .inl ⟨rfl, by simp⟩
  | x :: l => by
    by_cases h : x = c
    · subst h
      exact .inr ⟨[], l, rfl, by simp, by simp [Lib.indexByte]⟩
    · have hx : (x == c) = false := beq_eq_false_iff_ne.2 h
      rcases ib_cases c l with ⟨e, hn⟩ | ⟨a, b, rfl, ha, e⟩
      · exact .inl ⟨by simp [Lib.indexByte, hx, e], by simp [hn, Ne.symm h]⟩
      · refine .inr ⟨x :: a, b, rfl, by simp [ha, Ne.symm h], ?_⟩
        have hne : ¬ ((a.length : Int) = -1) := by omega
        simp [Lib.indexByte, hx, e]

theorem wrap_sm {i : Int} (h0 : -9223372036854775808 ≤ i) (h1 : i ≤ 9223372036854775807) : wrap64 i = i := by
  unfold wrap64
  omega
end Go.Proofs.YtjdadmjomjhpcaaDoor.Pl
