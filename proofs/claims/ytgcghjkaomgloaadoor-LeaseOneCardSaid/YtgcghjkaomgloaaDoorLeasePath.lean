/- Whether a text is a path: it is told, of any text that is not too long. -/
import Derived.Test.YtgcghjkaomgloaaDoorPLeasex2
import Derived.Test.YtgcghjkaomgloaaDoorRounds
import Derived.KernelRfl
namespace Go.Proofs.YtgcghjkaomgloaaDoor.Pl
open Go.RowKit Go.Proofs.YtgcghjkaomgloaaDoor.PLease Go.Proofs.YtgcghjkaomgloaaDoorW.PrintWords Go.Proofs.YtgcghjkaomgloaaDoorW.PrintLast
theorem plain_all : ((List.range 256).all fun b => (text_plain.f 12 (b : Int)).isSome) = true := by kernel_rfl
theorem plain_total (b : Nat) (hb : b < 256) : ∃ r, ∀ k, 12 ≤ k → text_plain.f k (b : Int) = some r := by
  have h := List.all_eq_true.1 plain_all b (List.mem_range.2 hb)
  obtain ⟨r, e⟩ := Option.isSome_iff_exists.1 h
  exact ⟨r, fun k hk => at_rounds (fun k => text_plain.mono _ k) hk e⟩
theorem path_l0 (s : ByteArray) (hs : s.size ≤ 1000000) : ∀ (d i : Nat), i + d = (bl s).length → ∃ r, ∀ k, d + 20 ≤ k → text_Path.l0 k s (i : Int) = some r
  | 0, i, e => ⟨true, fun k hk => by
    obtain ⟨m, rfl⟩ : ∃ m, k = m + 1 := ⟨k - 1, by omega⟩
    have := bl_size s
    rw [text_Path.l0, if_neg (by omega)]⟩
  | d + 1, i, e => by
    have hz := bl_size s
    have hi : i < (bl s).length := by omega
    obtain ⟨b, hb⟩ := plain_total ((bl s)[i]'hi).toNat (UInt8.toNat_lt _)
    obtain ⟨r, h⟩ := path_l0 s hs d (i + 1) (by omega)
    cases b with
    | true =>
      refine ⟨r, fun k hk => ?_⟩
      obtain ⟨m, rfl⟩ : ∃ m, k = m + 1 := ⟨k - 1, by omega⟩
      rw [text_Path.l0, if_pos (by omega), if_pos (by omega), bt_nat s i hi, hb m (by omega)]
      simp only [Option.bind_some, if_true]
      rw [wrap_succ i (by omega)]
      exact h m (by omega)
    | false =>
      refine ⟨false, fun k hk => ?_⟩
      obtain ⟨m, rfl⟩ : ∃ m, k = m + 1 := ⟨k - 1, by omega⟩
      rw [text_Path.l0, if_pos (by omega), if_pos (by omega), bt_nat s i hi, hb m (by omega)]
      simp only [Option.bind_some]
      rw [if_neg (by decide)]
theorem path_l1 (l : List ByteArray) (hl : l.length ≤ 1000000) : ∀ (d i : Nat), i + d = l.length → ∃ r, ∀ k, d + 1 ≤ k → text_Path.l1 k l (i : Int) = some r
  | 0, i, e => ⟨true, fun k hk => by
    obtain ⟨m, rfl⟩ : ∃ m, k = m + 1 := ⟨k - 1, by omega⟩
    rw [text_Path.l1, if_neg (by omega)]⟩
  | d + 1, i, e => by
    obtain ⟨r, h⟩ := path_l1 l hl d (i + 1) (by omega)
    refine ⟨if (rdOf ByteArray.empty l i).toList = ([] : List UInt8) then false else if (rdOf ByteArray.empty l i).toList = ([46] : List UInt8) then false else if (rdOf ByteArray.empty l i).toList = ([46, 46] : List UInt8) then false else r, fun k hk => ?_⟩
    obtain ⟨m, rfl⟩ : ∃ m, k = m + 1 := ⟨k - 1, by omega⟩
    rw [text_Path.l1, if_pos (by omega), if_pos (by omega), wrap_succ i (by omega), h m (by omega)]
    split
    · rfl
    · split
      · rfl
      · split <;> rfl
theorem index_f (s : ByteArray) (c : UInt8) : ∃ t : Int, strings_Index.f s ⟨#[c]⟩ = some t ∧ (t = -1 ∨ (0 ≤ t ∧ t < (s.size : Int))) := by
  refine ⟨Lib.indexByte (bl s) c, ?_, ?_⟩
  · unfold strings_Index.f stringslite_Index.f
    rw [if_pos (show (⟨#[c]⟩ : ByteArray).size = 1 from rfl)]
    rfl
  · have hz := bl_size s
    rcases ib_cases c (bl s) with ⟨e, _⟩ | ⟨a, b, hl, _, e⟩
    · exact .inl e
    · have : (bl s).length = a.length + (b.length + 1) := by rw [hl]; simp
      exact .inr ⟨by omega, by omega⟩
theorem split_l0 (c : UInt8) : ∀ (d i n : Nat) (s : ByteArray) (row : List ByteArray), i + d + 1 = n → row.length = n → n ≤ 1000000 → s.size ≤ 1000000 →
    ∃ r, r.length ≤ n ∧ ∀ k, d + 1 ≤ k → ∀ n1 : Int, n1 = (n : Int) - 1 → strings_genSplit.l0 k s ⟨#[c]⟩ 0 n1 row (i : Int) = some r
  | 0, i, n, s, row, e, hr, hn, hs => by
    refine ⟨(row.set i s).take (i + 1), by simp; omega, fun k hk n1 hn1 => ?_⟩
    obtain ⟨m, rfl⟩ : ∃ m, k = m + 1 := ⟨k - 1, by omega⟩
    rw [strings_genSplit.l0, if_neg (by omega), if_pos (by omega), if_pos (by omega), wrap_succ i (by omega), if_pos (by omega), if_pos (by omega), Int.toNat_natCast, Int.toNat_natCast]
  | d + 1, i, n, s, row, e, hr, hn, hs => by
    obtain ⟨t, ht, hc⟩ := index_f s c
    rcases hc with rfl | ⟨h0, h1⟩
    · refine ⟨(row.set i s).take (i + 1), by simp; omega, fun k hk n1 hn1 => ?_⟩
      obtain ⟨m, rfl⟩ : ∃ m, k = m + 1 := ⟨k - 1, by omega⟩
      rw [strings_genSplit.l0, if_pos (by omega), ht]
      simp only [Option.bind_some]
      rw [if_pos (by omega), if_pos (by omega), if_pos (by omega), wrap_succ i (by omega), if_pos (by omega), if_pos (by omega), Int.toNat_natCast, Int.toNat_natCast]
    · have hw : wrap64 (t + ((⟨#[c]⟩ : ByteArray).size : Int)) = t + 1 := wrap_sm (by show _ ≤ t + 1; omega) (by show t + 1 ≤ _; omega)
      have hw0 : wrap64 (t + 0) = t := by rw [Int.add_zero]; exact wrap_sm (by omega) (by omega)
      have hsz : (s.extract (t + 1).toNat s.size).size ≤ 1000000 := by
        rw [bl_size, bl_extract_to, List.length_drop]
        have := bl_size s
        omega
      obtain ⟨r, hl, h⟩ := split_l0 c d (i + 1) n (s.extract (t + 1).toNat s.size) (row.set i (s.extract 0 t.toNat)) (by omega) (by simpa using hr) hn hsz
      refine ⟨r, hl, fun k hk n1 hn1 => ?_⟩
      obtain ⟨m, rfl⟩ : ∃ m, k = m + 1 := ⟨k - 1, by omega⟩
      rw [strings_genSplit.l0, if_pos (by omega), ht]
      simp only [Option.bind_some]
      rw [if_neg (by omega), hw0, hw, if_pos (by omega), if_pos (by omega), if_pos (by omega), if_pos (by omega), if_pos (by omega), if_pos (by omega), wrap_succ i (by omega), Int.toNat_natCast]
      exact h m (by omega) n1 hn1
theorem count47 (p : ByteArray) : strings_Count.f p ⟨#[47]⟩ = some (((bl p).count 47 : Nat) : Int) := by
  unfold strings_Count.f
  rw [if_pos (show (⟨#[47]⟩ : ByteArray).size = 1 from rfl)]
  rfl
theorem mn_count (s : ByteArray) : ∃ n : Nat, mn (((bl s).count 47 + 1 : Nat) : Int) ((s.size : Int) + 1) = (n : Int) + 1 ∧ n ≤ s.size := by
  have hz := bl_size s
  have hc : (bl s).count 47 ≤ (bl s).length := List.count_le_length
  unfold mn
  split
  · exact ⟨s.size, rfl, Nat.le_refl _⟩
  · exact ⟨(bl s).count 47, Int.natCast_succ _, by omega⟩
theorem split_j0 (s : ByteArray) (hs : s.size ≤ 10000) : ∃ r, r.length ≤ 20000 ∧ ∀ k, 20000 ≤ k → strings_genSplit.j0 k s ⟨#[47]⟩ 0 (((bl s).count 47 + 1 : Nat) : Int) = some r := by
  obtain ⟨n, hn, hn2⟩ := mn_count s
  obtain ⟨r, hl, h⟩ := split_l0 47 n 0 (n + 1) s (List.replicate (n + 1) ⟨#[]⟩) (by omega) (by simp) (by omega) (by omega)
  refine ⟨r, by omega, fun k hk => ?_⟩
  obtain ⟨m, rfl⟩ : ∃ m, k = m + 1 := ⟨k - 1, by omega⟩
  have h' := h m (by omega) (n : Int) (by omega)
  rw [strings_genSplit.j0, wrap_sm (i := (s.size : Int) + 1) (by omega) (by omega), hn, if_pos (by omega), wrap_sm (i := (n : Int) + 1 - 1) (by omega) (by omega), show (n : Int) + 1 - 1 = (n : Int) by omega, show ((n : Int) + 1).toNat = n + 1 by omega, if_pos (by omega)]
  exact h'
theorem split_total (s : ByteArray) (hs : s.size ≤ 10000) : ∃ r, r.length ≤ 20000 ∧ ∀ k, 20000 ≤ k → strings_Split.f k s ⟨#[47]⟩ = some r := by
  have hz := bl_size s
  have hc : (bl s).count 47 ≤ (bl s).length := List.count_le_length
  obtain ⟨r, hr, h⟩ := split_j0 s hs
  refine ⟨r, hr, fun k hk => ?_⟩
  unfold strings_Split.f strings_genSplit.f
  rw [if_neg (by decide), if_neg (by rw [bl_toList]; exact List.cons_ne_nil _ _), if_pos (by decide), count47]
  simp only [Option.bind_some]
  rw [wrap_succ _ (by omega), h k hk]
  rfl
theorem path_total (s : ByteArray) (hs : s.size ≤ 150) : ∃ b, ∀ k, 40000 ≤ k → text_Path.f k s = some b := by
  have hz := bl_size s
  obtain ⟨b0, h0⟩ := path_l0 s (by omega) (bl s).length 0 (by omega)
  obtain ⟨r, hr, h1⟩ := split_total s (by omega)
  obtain ⟨b1, h2⟩ := path_l1 r (by omega) r.length 0 (by omega)
  refine ⟨if b0 = true then (if b1 = true then (if (s.size : Int) ≤ 100 then decide ((r.length : Int) ≤ 8) else false) else false) else false, fun k hk => ?_⟩
  have e0 : text_Path.l0 k s 0 = some b0 := h0 k (by omega)
  have e2 : text_Path.l1 k r 0 = some b1 := h2 k (by omega)
  unfold text_Path.f
  rw [if_pos (by omega), e0, h1 k (by omega)]
  simp only [Option.bind_some]
  rw [e2]
  simp only [Option.bind_some]
  split
  · split
    · split <;> rfl
    · rfl
  · rfl
end Go.Proofs.YtgcghjkaomgloaaDoor.Pl
