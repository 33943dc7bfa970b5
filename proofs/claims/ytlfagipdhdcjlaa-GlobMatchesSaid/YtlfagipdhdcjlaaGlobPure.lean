/- What the printed functions of the glob seat come to, in plain words. -/
import Derived.Test.YtlfagipdhdcjlaaPGlobx
import Derived.Test.YtlfagipdhdcjlaaGlobSpec
namespace Go.Proofs.Ytlfagipdhdcjlaa.Pure
open Go.RowKit Go.Proofs.Ytlfagipdhdcjlaa.PGlob Go.Proofs.YtlfagipdhdcjlaaW.PrintWords Go.Proofs.YtlfagipdhdcjlaaW.PrintLast
open Go.Proofs.Ytlfagipdhdcjlaa.Pl

theorem cut_f (c : UInt8) (p : ByteArray) (hp : p.size ≤ 1000000) :
    strings_Cut.f p ⟨#[c]⟩ = some (if c ∈ bl p then (ofL (sp c (bl p)).1, ofL (sp c (bl p)).2, true) else (p, ⟨#[]⟩, false)) := by
  unfold strings_Cut.f stringslite_Cut.f stringslite_Index.f
  rw [if_pos (show (⟨#[c]⟩ : ByteArray).size = 1 from rfl)]
  simp only [Option.bind_some]
  rw [show Lib.indexByte p.data.toList ((⟨#[c]⟩ : ByteArray).data.toList.headD 0) = Lib.indexByte (bl p) c from rfl]
  rcases ib_cases c (bl p) with ⟨e, hn⟩ | ⟨a, b, hl, ha, e⟩
  · rw [e, if_neg (by omega), if_neg hn]
    rfl
  · have hlen : p.size = a.length + (b.length + 1) := by rw [bl_size, hl]; simp
    have hw : wrap64 ((a.length : Int) + ((⟨#[c]⟩ : ByteArray).size : Int)) = (a.length : Int) + 1 := wrap_sm (by show _ ≤ (a.length : Int) + 1; omega) (by show (a.length : Int) + 1 ≤ _; omega)
    rw [e, hw, if_pos (by omega), if_pos (by omega), if_pos (by omega), if_pos (by omega), if_pos (by omega), if_pos (by rw [hl]; simp)]
    simp only [Option.bind_some]
    rw [hl, sp_eq c a b ha]
    have e1 : p.extract 0 ((a.length : Int)).toNat = ofL a := bl_inj (by rw [bl_extract_from, bl_ofL, hl, Int.toNat_natCast, List.take_left])
    have e2 : p.extract ((a.length : Int) + 1).toNat p.size = ofL b := bl_inj (by rw [bl_extract_to, bl_ofL, hl, show ((a.length : Int) + 1).toNat = (a ++ [c]).length by simp; done, show a ++ c :: b = (a ++ [c]) ++ b by simp, List.drop_left])
    rw [e1, e2]
theorem count_f (c : UInt8) (p : ByteArray) : strings_Count.f p ⟨#[c]⟩ = some (((bl p).count c : Nat) : Int) := by
  unfold strings_Count.f
  rw [if_pos (show (⟨#[c]⟩ : ByteArray).size = 1 from rfl)]
  rfl
theorem open_f (p : ByteArray) : glob_Open.f p = some (decide ((bl p).count 37 = 1)) := by
  unfold glob_Open.f
  rw [count_f]
  simp only [Option.bind_some, Option.some.injEq]
  rw [Bool.eq_iff_iff]
  simp
  omega
theorem right_f (p : ByteArray) : glob_Right.f p = some (decide (bl p ≠ [] ∧ (bl p).count 37 ≤ 1)) := by
  unfold glob_Right.f
  rw [count_f, bl_toList]
  by_cases h : bl p = []
  · rw [if_pos h]; simp [h]
  · rw [if_neg h]
    simp only [Option.bind_some, Option.some.injEq]
    rw [Bool.eq_iff_iff]
    simp [h]
    omega
theorem cutPrefix_f (s a : ByteArray) : strings_CutPrefix.f s a = some (if (bl a).length ≤ (bl s).length ∧ (bl s).take (bl a).length = bl a then (ofL ((bl s).drop (bl a).length), true) else (s, false)) := by
  unfold strings_CutPrefix.f stringslite_CutPrefix.f stringslite_HasPrefix.f
  have hs := bl_size s
  have ha := bl_size a
  by_cases h : (bl a).length ≤ (bl s).length
  · rw [if_pos (show (s.size : Int) ≥ a.size by omega), if_pos (show (0 : Int) ≤ a.size by omega), if_pos (show (a.size : Int) ≤ s.size by omega)]
    simp only [Option.bind_some]
    rw [Int.toNat_natCast, bl_toList, bl_toList, bl_extract_from, ha]
    by_cases e : (bl s).take (bl a).length = bl a
    · rw [if_pos (show _ = true from beq_iff_eq.2 e), if_pos (show _ ∧ _ from ⟨h, e⟩), if_pos (by omega), if_pos (by omega)]
      simp only [Option.bind_some]
      rw [show s.extract (bl a).length s.size = ofL ((bl s).drop (bl a).length) from bl_inj (by rw [bl_extract_to, bl_ofL])]
    · rw [if_neg (show ¬ _ = true from fun c => e (beq_iff_eq.1 c)), if_neg (show ¬ (_ ∧ _) from fun c => e c.2)]
      rfl
  · rw [if_neg (show ¬ (s.size : Int) ≥ a.size by omega), if_neg (show ¬ (_ ∧ _) from fun c => h c.1)]
    rfl
theorem cutSuffix_f (s b : ByteArray) (hs : s.size ≤ 1000000) : strings_CutSuffix.f s b = some (if (bl b).length ≤ (bl s).length ∧ (bl s).drop ((bl s).length - (bl b).length) = bl b then (ofL ((bl s).take ((bl s).length - (bl b).length)), true) else (s, false)) := by
  unfold strings_CutSuffix.f stringslite_CutSuffix.f stringslite_HasSuffix.f
  have hl := bl_size s
  have hm := bl_size b
  by_cases h : (bl b).length ≤ (bl s).length
  · have hw : wrap64 ((s.size : Int) - (b.size : Int)) = (((bl s).length - (bl b).length : Nat) : Int) := by rw [wrap_sm] <;> omega
    rw [hw, if_pos (show (s.size : Int) ≥ b.size by omega), if_pos (show (0 : Int) ≤ (((bl s).length - (bl b).length : Nat) : Int) by omega), if_pos (show (((bl s).length - (bl b).length : Nat) : Int) ≤ s.size by omega)]
    simp only [Option.bind_some]
    rw [Int.toNat_natCast, bl_toList, bl_toList, bl_extract_to]
    by_cases e : (bl s).drop ((bl s).length - (bl b).length) = bl b
    · rw [if_pos (show _ = true from beq_iff_eq.2 e), if_pos (show (0 : Int) ≤ (((bl s).length - (bl b).length : Nat) : Int) by omega), if_pos (show (((bl s).length - (bl b).length : Nat) : Int) ≤ s.size by omega), if_pos (show _ ∧ _ from ⟨h, e⟩)]
      simp only [Option.bind_some]
      rw [show s.extract 0 ((bl s).length - (bl b).length) = ofL ((bl s).take ((bl s).length - (bl b).length)) from bl_inj (by rw [bl_extract_from, bl_ofL])]
    · rw [if_neg (show ¬ _ = true from fun c => e (beq_iff_eq.1 c)), if_neg (show ¬ ((bl b).length ≤ (bl s).length ∧ _) from fun c => e c.2)]
      rfl
  · rw [if_neg (show ¬ (s.size : Int) ≥ b.size by omega), if_neg (show ¬ ((bl b).length ≤ (bl s).length ∧ _) from fun c => h c.1)]
    rfl
theorem match_f (p s : ByteArray) (hp : p.size ≤ 1000000) (hs : s.size ≤ 1000000) : glob_Match.f p s = some (ofL (mt (bl p) (bl s)).1, (mt (bl p) (bl s)).2) := by
  unfold glob_Match.f
  rw [cut_f 37 p hp, right_f]
  simp only [Option.bind_some]
  rcases cshape 37 (bl p) with ⟨hc, hn⟩ | ⟨a, b, hl, ha, hb, hc⟩ | ⟨hc, _⟩
  · by_cases h0 : bl p = []
    · rw [if_neg (by simp [h0]), h0, mt_nil]
      rfl
    · rw [if_pos (by simp [h0, hc]), if_neg (by simp [hn]), mt_shut h0 hc, bl_toList, bl_toList]
      rfl
  · have h0 : bl p ≠ [] := by rw [hl]; simp
    rw [if_pos (by simp [h0, hc]), if_pos (show 37 ∈ bl p by rw [hl]; simp), if_pos rfl]
    simp only [hl, sp_eq 37 a b ha, mt_open ha hb]
    rw [cutPrefix_f, bl_ofL]
    simp only [Option.bind_some]
    by_cases h1 : a.length ≤ (bl s).length ∧ (bl s).take a.length = a
    · rw [if_pos h1]
      rw [cutSuffix_f _ _ (by rw [bl_size, bl_ofL, List.length_drop]; rw [bl_size] at hs; omega), bl_ofL, bl_ofL]
      simp only [Option.bind_some]
      by_cases h2 : b.length ≤ ((bl s).drop a.length).length ∧ ((bl s).drop a.length).drop (((bl s).drop a.length).length - b.length) = b
      · rw [if_pos h2]
        obtain ⟨h2, h3⟩ := h2
        have e : unglue a b (bl s) = some (((bl s).drop a.length).take (((bl s).drop a.length).length - b.length)) := by
          rw [unglue_iff]
          conv => lhs; rw [← List.take_append_drop a.length (bl s), h1.2]
          rw [List.append_assoc]
          congr 1
          conv => lhs; rw [← List.take_append_drop (((bl s).drop a.length).length - b.length) ((bl s).drop a.length), h3]
        rw [e]
        rfl
      · rw [if_neg h2]
        have e : unglue a b (bl s) = none := by
          rcases o : unglue a b (bl s) with _ | t
          · rfl
          · exfalso
            apply h2
            have := glue_unglue o
            rw [this, List.append_assoc, List.drop_left]
            refine ⟨by simp, ?_⟩
            rw [show (t ++ b).length - b.length = t.length by simp, List.drop_left]
        rw [e]
        rfl
    · rw [if_neg h1, cutSuffix_f _ _ hs]
      simp only [Option.bind_some]
      have e : unglue a b (bl s) = none := by
        rcases o : unglue a b (bl s) with _ | t
        · rfl
        · exfalso
          apply h1
          have := glue_unglue o
          rw [this, List.append_assoc, List.take_left]
          simp
      rw [e]
      rfl
  · rw [if_neg (by simp; intro _; omega), mt_many hc]
    rfl
theorem fill_f (p t : ByteArray) (hp : p.size ≤ 1000000) (ht : t.size ≤ 1000000) : glob_Fill.f p t = some (ofL (fl (bl p) (bl t))) := by
  unfold glob_Fill.f
  rw [open_f, cut_f 37 p hp]
  simp only [Option.bind_some]
  by_cases hc : (bl p).count 37 = 1
  · rw [if_pos (decide_eq_true hc)]
    rcases cshape 37 (bl p) with ⟨hc', hn⟩ | ⟨a, b, hl, ha, hb, _⟩ | ⟨hc', _⟩
    · omega
    · have hlen : p.size = a.length + (b.length + 1) := by rw [bl_size, hl]; simp
      have hlt := bl_size t
      rw [if_pos (show 37 ∈ bl p by rw [hl]; simp)]
      simp only [hl, sp_eq 37 a b ha, fl_open ha hb]
      rw [if_pos (by rw [bl_size, bl_ofL]; omega), if_pos (by rw [bl_size, bl_size, bl_append, bl_ofL, bl_ofL, List.length_append]; omega)]
      rw [show (ofL a ++ t) ++ ofL b = ofL (a ++ bl t ++ b) from bl_inj (by rw [bl_append, bl_append, bl_ofL, bl_ofL, bl_ofL])]
    · omega
  · rw [if_neg (by simpa using hc), fl_shut hc, ofL_bl]
theorem subst_f (p q s : ByteArray) (hp : p.size ≤ 1000000) (hq : q.size ≤ 1000000) (hs : s.size ≤ 1000000) : glob_Subst.f p q s = some (ofL (sb (bl p) (bl q) (bl s))) := by
  unfold glob_Subst.f sb
  rw [match_f p s hp hs]
  simp only [Option.bind_some]
  by_cases h : (mt (bl p) (bl s)).2 = true
  · rw [if_pos h, if_pos h, fill_f q _ hq (by have := mt_len (bl p) (bl s); rw [bl_size, bl_ofL]; rw [bl_size] at hs; omega), bl_ofL]
    rfl
  · rw [if_neg h, if_neg h, ofL_bl]
theorem shown_f : cooperagelaw2_shown.f = some true := by
  unfold cooperagelaw2_shown.f
  rw [match_f _ _ (by decide) (by decide), match_f _ _ (by decide) (by decide), subst_f _ _ _ (by decide) (by decide) (by decide)]
  simp only [Option.bind_some, bl_toList, bl_ofL]
  decide
end Go.Proofs.Ytlfagipdhdcjlaa.Pure
