/- An act of the lease seat's statements: what it leaves. -/
import Derived.Test.YtgcghjkaomgloaaDoorPLeasex9
import Derived.Test.YtgcghjkaomgloaaDoorPLeasex6
import Derived.Test.YtgcghjkaomgloaaDoorLeaseRT
namespace Go.Proofs.YtgcghjkaomgloaaDoor.Pl
open Go.RowKit Go.Proofs.YtgcghjkaomgloaaDoor.PLease Go.Proofs.YtgcghjkaomgloaaDoorW.PrintWords Go.Proofs.YtgcghjkaomgloaaDoorW.PrintLast
/-- What an act leaves of a table. -/
def Nxt (C : Nat) (last : Int) (L : List S34) (op : Int) (nm : ByteArray) (t : Int × List S34 × List S32) : Prop :=
  St C t.1 t.2.1 t.2.2 ∧ last ≤ t.1 ∧ (∀ y ∈ t.2.1, (∃ z ∈ L, z.f3 = y.f3) ∨ last < y.f3) ∧
    (op < 8 → ∀ z ∈ L, z.f1 ≠ nm → ∃ y ∈ t.2.1, y.f0 = z.f0 ∧ y.f1 = z.f1 ∧ y.f3 = z.f3)
theorem nxt_same {C : Nat} {last : Int} {L : List S34} {Q : List S32} (h : St C last L Q) (op : Int) (nm : ByteArray) : Nxt (C + 1) last L op nm (last, L, Q) :=
  ⟨⟨h.b0, h.bl, by have := h.bq; push_cast; omega, h.pw, h.tk, h.wd, h.nh, h.bk⟩, Int.le_refl _, fun y hy => .inl ⟨y, hy, rfl⟩, fun _ z hz _ => ⟨z, hz, rfl, rfl, rfl⟩⟩
theorem nxt_settle {C : Nat} (hC : C + 1 ≤ 100) {last : Int} {L : List S34} {Q : List S32} (h : St C last L Q) (op : Int) (nm : ByteArray) (now : Int) (L0 : List S34) (q : List S32) (hs : L0.Sublist L) (hq : q.length ≤ Q.length + 1)
    (wd : q.Pairwise (fun a b => a.f0 ≠ b.f0)) (nh : ∀ a ∈ q, ∀ x ∈ L0, ¬ (x.f0 = a.f0 ∧ x.f1 = a.f1)) (hk : op < 8 → ∀ z ∈ L, z.f1 ≠ nm → z ∈ L0) :
    ∃ t, settleS now q last L0 [] = t ∧ Nxt (C + 1) last L op nm t ∧ t.2.1.length ≤ 10000 ∧ t.2.2.Sublist q ∧ ∀ y ∈ t.2.1, y ∈ L0 ∨ ∃ a ∈ q, y.f0 = a.f0 := by
  have hl := hs.length_le
  have b0 := h.b0; have bl := h.bl; have bq := h.bq
  obtain ⟨last', L', Q', e, hSt, hle, hsub, G, rfl, hG⟩ := settle_St (C + 1) hC now last L0 q b0 (by omega) (by push_cast; omega) (h.pw.sublist hs) (fun x hx => h.tk x (hs.subset hx)) wd nh
  refine ⟨_, e, ⟨hSt, hle, fun y hy => ?_, fun ho z hz hn => ⟨z, List.mem_append_left _ (hk ho z hz hn), rfl, rfl, rfl⟩⟩, ?_, hsub, fun y hy => ?_⟩
  · rcases List.mem_append.1 hy with k | k
    · exact .inl ⟨y, hs.subset k, rfl⟩
    · exact .inr (hG y k).1
  · have := hSt.bl; have := hSt.bq; push_cast at this; show (L0 ++ G).length ≤ 10000; omega
  · rcases List.mem_append.1 hy with k | k
    · exact .inl k
    · exact .inr (hG y k).2
theorem does_f (C : Nat) (hC : C + 1 ≤ 100) (last : Int) (L : List S34) (Q : List S32) (h : St C last L Q) (x : S52) (hop : -9223372036854775808 ≤ x.f0 ∧ x.f0 ≤ 9223372036854775807) (hn : x.f5.size ≤ 150) (now : Int) :
    ∃ t tok e, (∀ k, 90000 ≤ k → cooperagelaw16_does.f k last L Q x.f0 x.f1 x.f2 x.f3 x.f4 x.f5 x.f6 now = some (t.1, t.2.1, t.2.2, tok, e)) ∧ Nxt (C + 1) last L (pickS x.f0 10) x.f5 t := by
  have hp := pickS_lt x.f0 10 (by omega)
  have b0 := h.b0; have bl := h.bl; have bq := h.bq
  -- behind the act
  have j1 : ∀ (m : Nat) (e tok : Int) (a : Int) (b : List S34) (c : List S32), cooperagelaw16_does.j1 (m + 1) e tok last L Q a b c = some (if e = 0 then (a, b, c, tok, e) else (last, L, Q, wrap64 ((wrap64 ((b.length : Int) + (c.length : Int))) + a), e)) := by
    intro m e tok a b c
    rw [cooperagelaw16_does.j1]
    split <;> rfl
  have err : ∀ (e tok : Int) (a : Int) (b : List S34) (c : List S32) (F : Nat → Option (Int × (List S34) × (List S32) × Int × Int)), e ≠ 0 → (∀ k, 90000 ≤ k → ∃ m, F k = cooperagelaw16_does.j1 (m + 1) e tok last L Q a b c) →
      ∃ t tok e, (∀ k, 90000 ≤ k → F k = some (t.1, t.2.1, t.2.2, tok, e)) ∧ Nxt (C + 1) last L (pickS x.f0 10) x.f5 t := by
    intro e tok a b c F he hF
    refine ⟨(last, L, Q), wrap64 ((wrap64 ((b.length : Int) + (c.length : Int))) + a), e, fun k hk => ?_, nxt_same h _ _⟩
    obtain ⟨m, hm⟩ := hF k hk
    rw [hm, j1, if_neg he]
  have good : ∀ (tok : Int) (t : Int × List S34 × List S32) (F : Nat → Option (Int × (List S34) × (List S32) × Int × Int)), Nxt (C + 1) last L (pickS x.f0 10) x.f5 t → (∀ k, 90000 ≤ k → ∃ m, F k = cooperagelaw16_does.j1 (m + 1) 0 tok last L Q t.1 t.2.1 t.2.2) →
      ∃ t tok e, (∀ k, 90000 ≤ k → F k = some (t.1, t.2.1, t.2.2, tok, e)) ∧ Nxt (C + 1) last L (pickS x.f0 10) x.f5 t := by
    intro tok t F ht hF
    refine ⟨t, tok, 0, fun k hk => ?_, ht⟩
    obtain ⟨m, hm⟩ := hF k hk
    rw [hm, j1, if_pos rfl]
  have hpk := pick_f x.f0 10 hop (by omega)
  by_cases g : pickS x.f0 10 = 5 ∨ pickS x.f0 10 = 6
  · -- one is given back
    have op_ : ∀ m, cooperagelaw16_does.f (m + 2) last L Q x.f0 x.f1 x.f2 x.f3 x.f4 x.f5 x.f6 now = (lease_Give.f (m + 1) last L Q x.f1 x.f5 x.f3 now).bind fun r => cooperagelaw16_does.j1 (m + 1) r.2.2.2 0 last L Q r.1 r.2.1 r.2.2.1 := by
      intro m
      unfold cooperagelaw16_does.f
      rw [hpk]
      simp only [Option.bind_some]
      rcases g with g | g
      · rw [if_pos g, g, cooperagelaw16_does.j0, if_pos (by decide)]
      · rw [if_neg (by omega), g, cooperagelaw16_does.j0, if_pos (by decide)]
    by_cases ok : timeP now = true ∧ L.any (validP x.f1 x.f5 x.f3) = true
    · obtain ⟨t, e, ht, _⟩ := nxt_settle hC h (pickS x.f0 10) x.f5 now (L.filter (fun y => !heldP x.f1 x.f5 y)) Q List.filter_sublist (by omega) h.wd (fun a ha y hy => h.nh a ha y (List.mem_filter.1 hy).1) (fun _ z hz hn => List.mem_filter.2 ⟨hz, by simp [heldP, hn]⟩)
      refine good 0 t _ ht (fun k hk => ?_)
      obtain ⟨m, rfl⟩ : ∃ m, k = m + 2 := ⟨k - 2, by omega⟩
      refine ⟨m, ?_⟩
      rw [op_, give_f last L Q x.f1 x.f5 x.f3 now (by omega) (by omega) (m + 1) (by omega)]
      unfold giveS
      rw [if_pos ok.1, if_pos ok.2, e]
      rfl
    · refine err (if timeP now = true then 8 else 1) 0 0 [] [] _ (by split <;> decide) (fun k hk => ?_)
      obtain ⟨m, rfl⟩ : ∃ m, k = m + 2 := ⟨k - 2, by omega⟩
      refine ⟨m, ?_⟩
      rw [op_, give_f last L Q x.f1 x.f5 x.f3 now (by omega) (by omega) (m + 1) (by omega)]
      unfold giveS
      by_cases c : timeP now = true
      · rw [if_pos c, if_pos c, if_neg (fun d => ok ⟨c, d⟩)]; rfl
      · rw [if_neg c, if_neg c]; rfl
  · have op_ : ∀ m, cooperagelaw16_does.f (m + 2) last L Q x.f0 x.f1 x.f2 x.f3 x.f4 x.f5 x.f6 now = cooperagelaw16_does.j0 (m + 2) now 0 0 (pickS x.f0 10) false last L Q x.f0 x.f1 x.f2 x.f3 x.f4 x.f5 x.f6 := by
      intro m
      unfold cooperagelaw16_does.f
      rw [hpk]
      simp only [Option.bind_some]
      rw [if_neg (fun c => g (.inl c)), beq_int, decide_eq_false (fun c => g (.inr c))]
    by_cases g7 : pickS x.f0 10 = 7
    · rcases renew_f last L Q x.f1 x.f5 x.f3 x.f2 now (by omega) with ⟨_, L', hk', hr⟩ | ⟨e, he, _, hr⟩
      · refine good 0 (last, L', Q) _ ⟨(nxt_same h 0 x.f5).1.key hk', Int.le_refl _, fun y hy => ?_, fun _ z hz _ => ?_⟩ (fun k hk => ?_)
        · obtain ⟨z, hz, e⟩ := key_mem hk' y hy
          exact .inl ⟨z, hz, (key_eq e).2.2.2⟩
        · obtain ⟨y, hy, e⟩ := key_mem hk'.symm z hz
          have := key_eq e
          exact ⟨y, hy, this.1, this.2.1, this.2.2.2⟩
        · obtain ⟨m, rfl⟩ : ∃ m, k = m + 2 := ⟨k - 2, by omega⟩
          refine ⟨m, ?_⟩
          rw [op_, cooperagelaw16_does.j0, if_neg (by decide), if_pos g7, hr _ (by omega)]
          rfl
      · refine err e 0 0 [] [] _ he (fun k hk => ?_)
        obtain ⟨m, rfl⟩ : ∃ m, k = m + 2 := ⟨k - 2, by omega⟩
        refine ⟨m, ?_⟩
        rw [op_, cooperagelaw16_does.j0, if_neg (by decide), if_pos g7, hr _ (by omega)]
        rfl
    · by_cases g8 : pickS x.f0 10 = 8
      · have fin : ∃ t, leaveS last L Q x.f1 now = t ∧ Nxt (C + 1) last L (pickS x.f0 10) x.f5 t := by
          unfold leaveS
          by_cases c : timeP now = true
          · rw [if_pos c]
            obtain ⟨t, e, ht, _⟩ := nxt_settle hC h (pickS x.f0 10) x.f5 now (L.filter (fun y => !decide (y.f0 = x.f1))) (Q.filter (fun y => !decide (y.f0 = x.f1))) List.filter_sublist (by have := List.length_filter_le (fun y : S32 => !decide (y.f0 = x.f1)) Q; omega) (h.wd.sublist List.filter_sublist)
              (fun a ha y hy => h.nh a (List.mem_filter.1 ha).1 y (List.mem_filter.1 hy).1) (fun ho => absurd ho (by omega))
            exact ⟨t, e, ht⟩
          · rw [if_neg c]
            exact ⟨_, rfl, nxt_same h _ _⟩
        obtain ⟨t, e, ht⟩ := fin
        refine good 0 t _ ht (fun k hk => ?_)
        obtain ⟨m, rfl⟩ : ∃ m, k = m + 2 := ⟨k - 2, by omega⟩
        refine ⟨m, ?_⟩
        rw [op_, cooperagelaw16_does.j0, if_neg (by decide), if_neg g7, if_pos g8, leave_f last L Q x.f1 now (by omega) (by omega) (m + 1) (by omega), e]
        rfl
      · by_cases g9 : pickS x.f0 10 = 9
        · have fin : ∃ t, tickS last L Q now = t ∧ Nxt (C + 1) last L (pickS x.f0 10) x.f5 t := by
            unfold tickS
            by_cases c : timeP now = true
            · rw [if_pos c]
              obtain ⟨t, e, ht, _⟩ := nxt_settle hC h (pickS x.f0 10) x.f5 now (L.filter (fun y => !decide (y.f4 ≤ now))) Q List.filter_sublist (by omega) h.wd
                (fun a ha y hy => h.nh a ha y (List.mem_filter.1 hy).1) (fun ho => absurd ho (by omega))
              exact ⟨t, e, ht⟩
            · rw [if_neg c]
              exact ⟨_, rfl, nxt_same h _ _⟩
          obtain ⟨t, e, ht⟩ := fin
          refine good 0 t _ ht (fun k hk => ?_)
          obtain ⟨m, rfl⟩ : ∃ m, k = m + 2 := ⟨k - 2, by omega⟩
          refine ⟨m, ?_⟩
          rw [op_, cooperagelaw16_does.j0, if_neg (by decide), if_neg g7, if_neg g8, if_pos g9, tick_f last L Q now (by omega) (by omega) (m + 1) (by omega), e]
          rfl
        · have tk_ : ∀ m, cooperagelaw16_does.f (m + 2) last L Q x.f0 x.f1 x.f2 x.f3 x.f4 x.f5 x.f6 now = (lease_Take.f (m + 1) last L Q x.f1 x.f5 x.f6 x.f2 now).bind fun r => cooperagelaw16_does.j1 (m + 1) r.2.2.2.2 r.2.2.2.1 last L Q r.1 r.2.1 r.2.2.1 := by
            intro m
            rw [op_, cooperagelaw16_does.j0, if_neg (by decide), if_neg g7, if_neg g8, if_neg g9]
          rcases take_f last L Q x.f1 x.f5 x.f6 x.f2 now (by omega) (by omega) hn with ⟨e, he, hr⟩ | ⟨hh, hw, hr⟩
          · refine err e 0 0 [] [] _ he (fun k hk => ?_)
            obtain ⟨m, rfl⟩ : ∃ m, k = m + 2 := ⟨k - 2, by omega⟩
            refine ⟨m, ?_⟩
            rw [tk_, hr _ (by omega)]
            rfl
          · have hwq : ∀ b ∈ Q, b.f0 ≠ x.f1 := fun b hb c => by
              have := (List.filter_eq_nil_iff.1 hw) b hb
              simp [c] at this
            have hhl : ∀ y ∈ L, ¬ (y.f0 = x.f1 ∧ y.f1 = x.f5) := fun y hy c => by
              have := (List.filter_eq_nil_iff.1 hh) y hy
              simp [heldP, c.1, c.2] at this
            obtain ⟨t, e, ht, hl, _⟩ := nxt_settle hC h (pickS x.f0 10) x.f5 now L (Q ++ [⟨x.f1, x.f5, x.f6, x.f2⟩]) (List.Sublist.refl _) (by simp)
              (List.pairwise_append.2 ⟨h.wd, by simp, fun b hb c hc => by obtain rfl := List.mem_singleton.1 hc; exact hwq b hb⟩)
              (fun a ha y hy => by
                rcases List.mem_append.1 ha with k | k
                · exact h.nh a k y hy
                · obtain rfl := List.mem_singleton.1 k; exact hhl y hy) (fun _ z hz _ => hz)
            obtain ⟨tok, hr⟩ := hr t e hl
            refine good tok t _ ht (fun k hk => ?_)
            obtain ⟨m, rfl⟩ : ∃ m, k = m + 2 := ⟨k - 2, by omega⟩
            refine ⟨m, ?_⟩
            rw [tk_, hr _ (by omega)]
            rfl
/-- Can acts be gone through? Then they are not many, and their names not long. -/
theorem right_l0 (l : List S52) (hl : l.length ≤ 60) : ∀ (d i : Nat), i + d = l.length → ∃ b, (b = true → ∀ x ∈ l.drop i, x.f5.size ≤ 150) ∧ ∀ k, d + 1 ≤ k → cooperagelaw16_right.l0 k l (i : Int) = some b
  | 0, i, e => ⟨true, (fun _ x hx => by rw [List.drop_of_length_le (by omega)] at hx; cases hx), fun k hk => by
    obtain ⟨m, rfl⟩ : ∃ m, k = m + 1 := ⟨k - 1, by omega⟩
    rw [cooperagelaw16_right.l0, if_neg (by omega)]⟩
  | d + 1, i, e => by
    have hi : i < l.length := by omega
    have hr : rd_T52 l (i : Int) = l[i] := by
      unfold rd_T52
      rw [Int.toNat_natCast, List.getD_eq_getElem?_getD, List.getElem?_eq_getElem hi]
      rfl
    obtain ⟨b, hb, h⟩ := right_l0 l hl d (i + 1) (by omega)
    by_cases c : l[i].f5.size ≤ 150
    · refine ⟨b, fun e x hx => ?_, fun k hk => ?_⟩
      · rw [drop_cons l i hi] at hx
        rcases List.mem_cons.1 hx with rfl | hx
        · exact c
        · exact hb e x hx
      · obtain ⟨m, rfl⟩ : ∃ m, k = m + 1 := ⟨k - 1, by omega⟩
        rw [cooperagelaw16_right.l0, if_pos (by omega), if_pos (by omega), hr, if_neg (by omega), wrap_succ i (by omega)]
        exact h m (by omega)
    · refine ⟨false, (fun e => by cases e), fun k hk => ?_⟩
      obtain ⟨m, rfl⟩ : ∃ m, k = m + 1 := ⟨k - 1, by omega⟩
      rw [cooperagelaw16_right.l0, if_pos (by omega), if_pos (by omega), hr, if_pos (by omega)]
theorem right_f (l : List S52) : ∃ b, (b = true → l.length ≤ 60 ∧ ∀ x ∈ l, x.f5.size ≤ 150) ∧ ∃ K, ∀ k, K ≤ k → cooperagelaw16_right.f k l = some b := by
  by_cases hl : l.length ≤ 60
  · obtain ⟨b, hb, h⟩ := right_l0 l hl l.length 0 (by omega)
    refine ⟨b, fun e => ⟨hl, by simpa using hb e⟩, l.length + 1, fun k hk => ?_⟩
    unfold cooperagelaw16_right.f
    rw [if_neg (by omega)]
    exact h k hk
  · refine ⟨false, (fun e => by cases e), 0, fun k _ => ?_⟩
    unfold cooperagelaw16_right.f
    rw [if_pos (by omega)]
end Go.Proofs.YtgcghjkaomgloaaDoor.Pl
