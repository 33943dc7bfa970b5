/- LexBetween: empty lines and comments between two texts. -/
import Derived.Test.YtjbpabpfhkcolaaDoorPLexx5
import Derived.Test.YtjbpabpfhkcolaaDoorLexTexts
namespace Go.Proofs.YtjbpabpfhkcolaaDoor.Pl
open Go.RowKit Go.Proofs.YtjbpabpfhkcolaaDoor.PLex Go.Proofs.YtjbpabpfhkcolaaDoorW.PrintWords Go.Proofs.YtjbpabpfhkcolaaDoorW.PrintLast

theorem between_tt (s t c : List UInt8) (hs : 92 ∉ s) (hc : 10 ∉ c) (hc2 : 92 ∉ c) :
    (rowsOf (s ++ 10 :: t)).map tt = (rowsOf (s ++ 10 :: ((35 :: 32 :: c) ++ 10 :: ([32] ++ 10 :: t)))).map tt := by
  obtain ⟨ls, e, h⟩ := linesGo_split s []
  have hls : ∀ l ∈ ls, 92 ∉ l := fun l hl hm => (h l hl _ hm).elim (fun h => by simp at h) hs
  rw [rows_tt, rows_tt]
  unfold linesL
  rw [e, e, linesL_feed (35 :: 32 :: c) _ (by simp [hc]), linesL_feed [32] t (by decide), tts_app ls _ hls, tts_app ls _ hls, tts_cons _ _ (by simp [hc2]), tts_cons _ _ (by decide)]
  rfl
theorem between_l1 (s t c : ByteArray) (hs : (bl s).length ≤ 1000) (ht : t.size ≤ 1000) (hc : c.size ≤ 200) (h10 : 10 ∉ bl c) (h92 : 92 ∉ bl c) :
    ∀ d i, i + d = (bl s).length → (∀ x ∈ (bl s).take i, x ≠ 92) → Ev (fun k => cooperagelaw8_LexBetween.l1 k s t c (i : Int)) true
  | 0, i, h, hp => by
    have hs92 : 92 ∉ bl s := fun hm => hp 92 (by rw [List.take_of_length_le (by omega)]; exact hm) rfl
    have hsz := bl_size s
    obtain ⟨K, l, l', e, n, n', hK⟩ := both_ev ((s ++ (⟨#[10]⟩ : ByteArray)) ++ t) ((((s ++ (⟨#[10, 35, 32]⟩ : ByteArray)) ++ c) ++ (⟨#[10, 32, 10]⟩ : ByteArray)) ++ t)
      (by simp only [ByteArray.size_append, lit_size, List.size_toArray, List.length_cons, List.length_nil]; omega) (by simp only [ByteArray.size_append, lit_size, List.size_toArray, List.length_cons, List.length_nil]; omega)
      (by
        rw [bl_append, bl_append, bl_append, bl_append, bl_append, bl_append]
        have := between_tt (bl s) (bl t) (bl c) hs92 h10 h92
        rw [show bl (⟨#[10]⟩ : ByteArray) = [10] from rfl, show bl (⟨#[10, 35, 32]⟩ : ByteArray) = [10, 35, 32] from rfl, show bl (⟨#[10, 32, 10]⟩ : ByteArray) = [10, 32, 10] from rfl]
        simpa using this)
    refine ⟨K + 1, fun k hk => ?_⟩
    obtain ⟨m, rfl⟩ : ∃ m, k = m + 1 := ⟨k - 1, by omega⟩
    obtain ⟨h1, h2, h3⟩ := hK m (by omega)
    dsimp only
    rw [cooperagelaw8_LexBetween.l1, if_neg (by omega), if_pos (by omega), if_pos (by simp only [ByteArray.size_append, lit_size, List.size_toArray, List.length_cons, List.length_nil]; omega), h1]
    simp only [Option.bind_some]
    rw [if_pos (by omega), if_pos (by simp only [ByteArray.size_append, lit_size, List.size_toArray, List.length_cons, List.length_nil]; omega), if_pos (by simp only [ByteArray.size_append, lit_size, List.size_toArray, List.length_cons, List.length_nil]; omega), if_pos (by simp only [ByteArray.size_append, lit_size, List.size_toArray, List.length_cons, List.length_nil]; omega), h2]
    simp only [Option.bind_some, if_true]
    rw [h3]
    rfl
  | d + 1, i, h, hp => by
    have hi : i < (bl s).length := by omega
    have hsz := bl_size s
    by_cases hb : (bl s)[i] = 92
    · refine ⟨1, fun k hk => ?_⟩
      obtain ⟨m, rfl⟩ : ∃ m, k = m + 1 := ⟨k - 1, by omega⟩
      dsimp only
      rw [cooperagelaw8_LexBetween.l1, if_pos (by omega), if_pos (by omega), bt_nat s i hi, if_pos (by rw [hb]; rfl)]
    · obtain ⟨K, hK⟩ := between_l1 s t c hs ht hc h10 h92 d (i + 1) (by omega) (fun x hx => by
        rw [List.take_succ_eq_append_getElem hi] at hx
        rcases List.mem_append.1 hx with hx | hx
        · exact hp x hx
        · rw [List.mem_singleton] at hx
          exact hx ▸ hb)
      refine ⟨K + 1, fun k hk => ?_⟩
      obtain ⟨m, rfl⟩ : ∃ m, k = m + 1 := ⟨k - 1, by omega⟩
      dsimp only
      rw [cooperagelaw8_LexBetween.l1, if_pos (by omega), if_pos (by omega), bt_nat s i hi, if_neg (n92 hb), wrap_succ i (by omega)]
      exact hK m (by omega)
theorem between_l0 (s t c : ByteArray) (hs : (bl s).length ≤ 1000) (ht : t.size ≤ 1000) (hc : c.size ≤ 200) :
    ∀ d i, i + d = (bl c).length → (∀ x ∈ (bl c).take i, x ≠ 10 ∧ x ≠ 92) → Ev (fun k => cooperagelaw8_LexBetween.l0 k s t c (i : Int)) true
  | 0, i, h, hp => by
    have hall : ∀ x ∈ bl c, x ≠ 10 ∧ x ≠ 92 := fun x hm => hp x (by rw [List.take_of_length_le (by omega)]; exact hm)
    have hsz := bl_size c
    obtain ⟨K, hK⟩ := between_l1 s t c hs ht hc (fun h => (hall _ h).1 rfl) (fun h => (hall _ h).2 rfl) (bl s).length 0 (by omega) (by simp)
    refine ⟨K + 1, fun k hk => ?_⟩
    obtain ⟨m, rfl⟩ : ∃ m, k = m + 1 := ⟨k - 1, by omega⟩
    dsimp only
    rw [cooperagelaw8_LexBetween.l0, if_neg (by omega)]
    exact hK m (by omega)
  | d + 1, i, h, hp => by
    have hi : i < (bl c).length := by omega
    have hsz := bl_size c
    by_cases hb : (bl c)[i] = 10
    · refine ⟨1, fun k hk => ?_⟩
      obtain ⟨m, rfl⟩ : ∃ m, k = m + 1 := ⟨k - 1, by omega⟩
      dsimp only
      rw [cooperagelaw8_LexBetween.l0, if_pos (by omega), if_pos (by omega), bt_nat c i hi, if_pos (by rw [hb]; rfl)]
    · by_cases hb2 : (bl c)[i] = 92
      · refine ⟨1, fun k hk => ?_⟩
        obtain ⟨m, rfl⟩ : ∃ m, k = m + 1 := ⟨k - 1, by omega⟩
        dsimp only
        rw [cooperagelaw8_LexBetween.l0, if_pos (by omega), if_pos (by omega), bt_nat c i hi, if_neg (n10 hb), if_pos (by rw [hb2]; rfl)]
      · obtain ⟨K, hK⟩ := between_l0 s t c hs ht hc d (i + 1) (by omega) (fun x hx => by
          rw [List.take_succ_eq_append_getElem hi] at hx
          rcases List.mem_append.1 hx with hx | hx
          · exact hp x hx
          · rw [List.mem_singleton] at hx
            exact hx ▸ ⟨hb, hb2⟩)
        refine ⟨K + 1, fun k hk => ?_⟩
        obtain ⟨m, rfl⟩ : ∃ m, k = m + 1 := ⟨k - 1, by omega⟩
        dsimp only
        rw [cooperagelaw8_LexBetween.l0, if_pos (by omega), if_pos (by omega), bt_nat c i hi, if_neg (n10 hb), if_neg (n92 hb2), wrap_succ i (by omega)]
        exact hK m (by omega)
end Go.Proofs.YtjbpabpfhkcolaaDoor.Pl
namespace Go.Proofs.YtjbpabpfhkcolaaDoor.Pure
open Go.RowKit Go.Proofs.YtjbpabpfhkcolaaDoor.PLex Go.Proofs.YtjbpabpfhkcolaaDoorW.PrintWords Go.Proofs.YtjbpabpfhkcolaaDoorW.PrintLast
open Go.Proofs.YtjbpabpfhkcolaaDoor.Pl
theorem LexBetween : cooperagelaw8_LexBetween.Pure := by
  intro s t c _ _ _
  obtain ⟨K0, h0⟩ := shown_ev
  dsimp only at h0
  have stop : ∀ k, 1 ≤ k → cooperagelaw8_LexBetween.j0 k s t c true true = some true := by
    intro k hk
    obtain ⟨m, rfl⟩ : ∃ m, k = m + 1 := ⟨k - 1, by omega⟩
    rw [cooperagelaw8_LexBetween.j0, if_pos rfl]
  by_cases h1 : (s.size : Int) > 1000
  · refine ⟨K0 + 1, ?_⟩
    unfold cooperagelaw8_LexBetween.f
    rw [h0 _ (by omega)]
    simp only [Option.bind_some, if_true]
    rw [if_pos h1]
    exact stop _ (by omega)
  by_cases h2 : (t.size : Int) > 1000
  · refine ⟨K0 + 1, ?_⟩
    unfold cooperagelaw8_LexBetween.f
    rw [h0 _ (by omega)]
    simp only [Option.bind_some, if_true]
    rw [if_neg h1, if_pos h2]
    exact stop _ (by omega)
  by_cases h3 : (c.size : Int) > 200
  · refine ⟨K0 + 1, ?_⟩
    unfold cooperagelaw8_LexBetween.f
    rw [h0 _ (by omega)]
    simp only [Option.bind_some, if_true]
    rw [if_neg h1, if_neg h2, decide_eq_true h3]
    exact stop _ (by omega)
  have hsz := bl_size s
  have hcz := bl_size c
  obtain ⟨K, hK⟩ := between_l0 s t c (by omega) (by omega) (by omega) (bl c).length 0 (by omega) (by simp)
  dsimp only at hK
  refine ⟨K0 + K + 1, ?_⟩
  unfold cooperagelaw8_LexBetween.f
  rw [h0 _ (by omega)]
  simp only [Option.bind_some, if_true]
  rw [if_neg h1, if_neg h2, decide_eq_false h3, cooperagelaw8_LexBetween.j0, if_neg (by decide)]
  exact hK _ (by omega)
end Go.Proofs.YtjbpabpfhkcolaaDoor.Pure
