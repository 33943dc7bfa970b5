/- What the printed functions of the lease seat come to, in plain words. -/
import Derived.Test.YtgcghjkaomgloaaDoorPLeasex5
import Derived.Test.YtgcghjkaomgloaaDoorPLeasex6
import Derived.Test.YtgcghjkaomgloaaDoorPLeasex7
import Derived.Test.YtgcghjkaomgloaaDoorRounds
namespace Go.Proofs.YtgcghjkaomgloaaDoor.Pl
open Go.RowKit Go.Proofs.YtgcghjkaomgloaaDoor.PLease Go.Proofs.YtgcghjkaomgloaaDoorW.PrintWords Go.Proofs.YtgcghjkaomgloaaDoorW.PrintLast

theorem toList_iff (s t : ByteArray) : s.toList = t.toList ↔ s = t := by rw [bl_toList, bl_toList, eq_bl]
theorem toList_beq (s t : ByteArray) : (s.toList == t.toList) = decide (s = t) := by
  rw [Bool.eq_iff_iff, beq_iff_eq, toList_iff]; simp
theorem rd34 (xs : List S34) (i : Nat) (h : i < xs.length) : rd_T34 xs (i : Int) = xs[i] := by
  unfold rd_T34
  rw [Int.toNat_natCast, List.getD_eq_getElem?_getD, List.getElem?_eq_getElem h]
  rfl
theorem rd32 (xs : List S32) (i : Nat) (h : i < xs.length) : rd_T32 xs (i : Int) = xs[i] := by
  unfold rd_T32
  rw [Int.toNat_natCast, List.getD_eq_getElem?_getD, List.getElem?_eq_getElem h]
  rfl
/-- Both parts of a row: the loop. -/
theorem part_loop {S : Type} (C : Nat) (hC : 1000000 ≤ C) (rdf : List S → Int → S) (hrd : ∀ (xs : List S) (i : Nat) (h : i < xs.length), rdf xs (i : Int) = xs[i]) (P : S → Bool)
    (F : Nat → List S → List S → List S → Int → Int → Option (List S × List S))
    (hF : ∀ k a b xs n i, F (k + 1) a b xs n i = if i < n then (if 0 ≤ i then (if i < (xs.length : Int) then (if P (rdf xs i) = true then (if a.length < C then F k (a ++ [rdf xs i]) b xs n (wrap64 (i + 1)) else none) else (if b.length < C then F k a (b ++ [rdf xs i]) xs n (wrap64 (i + 1)) else none)) else none) else none) else some (a, b))
    (xs : List S) (hx : xs.length ≤ 100000) :
    ∀ (d i : Nat) (a b : List S), i + d = xs.length → a.length ≤ i → b.length ≤ i → ∀ k, d + 1 ≤ k → F k a b xs (xs.length : Int) (i : Int) = some (a ++ (xs.drop i).filter P, b ++ (xs.drop i).filter (fun x => !P x))
  | 0, i, a, b, e, _, _, k, hk => by
    obtain ⟨m, rfl⟩ : ∃ m, k = m + 1 := ⟨k - 1, by omega⟩
    rw [hF, if_neg (by omega), List.drop_of_length_le (by omega)]
    simp
  | d + 1, i, a, b, e, ha, hb, k, hk => by
    obtain ⟨m, rfl⟩ : ∃ m, k = m + 1 := ⟨k - 1, by omega⟩
    have hi : i < xs.length := by omega
    rw [hF, if_pos (by omega), if_pos (by omega), if_pos (by omega), hrd xs i hi, wrap_succ i (by omega), drop_cons xs i hi]
    by_cases hp : P xs[i] = true
    · rw [if_pos hp, if_pos (by omega), part_loop C hC rdf hrd P F hF xs hx d (i + 1) (a ++ [xs[i]]) b (by omega) (by simp; omega) (by omega) m (by omega), List.filter_cons_of_pos hp, List.filter_cons_of_neg (by simp [hp]), List.append_assoc]
      rfl
    · rw [if_neg hp, if_pos (by omega), part_loop C hC rdf hrd P F hF xs hx d (i + 1) a (b ++ [xs[i]]) (by omega) (by omega) (by simp; omega) m (by omega), List.filter_cons_of_neg hp, List.filter_cons_of_pos (by simp [hp]), List.append_assoc]
      rfl
/-- Where something first is: the loop. -/
theorem any_loop {S : Type} (rdf : List S → Int → S) (hrd : ∀ (xs : List S) (i : Nat) (h : i < xs.length), rdf xs (i : Int) = xs[i]) (P : S → Bool)
    (F : Nat → List S → Int → Int → Option Int)
    (hF : ∀ k xs n i, F (k + 1) xs n i = if i < n then (if 0 ≤ i then (if i < (xs.length : Int) then (if P (rdf xs i) = true then some i else F k xs n (wrap64 (i + 1))) else none) else none) else some (-1))
    (xs : List S) (hx : xs.length ≤ 100000) :
    ∀ (d i : Nat), i + d = xs.length → ∃ r : Int, decide (r ≥ 0) = (xs.drop i).any P ∧ ∀ k, d + 1 ≤ k → F k xs (xs.length : Int) (i : Int) = some r
  | 0, i, e => by
    refine ⟨-1, by rw [List.drop_of_length_le (by omega)]; rfl, fun k hk => ?_⟩
    obtain ⟨m, rfl⟩ : ∃ m, k = m + 1 := ⟨k - 1, by omega⟩
    rw [hF, if_neg (by omega)]
  | d + 1, i, e => by
    have hi : i < xs.length := by omega
    by_cases hp : P xs[i] = true
    · refine ⟨i, ?_, fun k hk => ?_⟩
      · rw [drop_cons xs i hi, List.any_cons, hp]
        simp
      · obtain ⟨m, rfl⟩ : ∃ m, k = m + 1 := ⟨k - 1, by omega⟩
        rw [hF, if_pos (by omega), if_pos (by omega), if_pos (by omega), hrd xs i hi, if_pos hp]
    · obtain ⟨r, h1, h2⟩ := any_loop rdf hrd P F hF xs hx d (i + 1) (by omega)
      refine ⟨r, ?_, fun k hk => ?_⟩
      · rw [h1, drop_cons xs i hi, List.any_cons, Bool.eq_false_iff.2 hp]
        simp
      · obtain ⟨m, rfl⟩ : ∃ m, k = m + 1 := ⟨k - 1, by omega⟩
        rw [hF, if_pos (by omega), if_pos (by omega), if_pos (by omega), hrd xs i hi, if_neg hp, wrap_succ i (by omega)]
        exact h2 m (by omega)

def heldP (who : Int) (n : ByteArray) (x : S34) : Bool := decide (x.f0 = who) && decide (x.f1 = n)
theorem held1_f (x : S34) (who : Int) (n : ByteArray) : lease_Held_1.f x.f0 x.f1 x.f2 x.f3 x.f4 who n = some (heldP who n x) := by
  unfold lease_Held_1.f heldP
  rw [toList_beq]
  by_cases h : x.f0 = who
  · rw [if_pos h]; simp [h]
  · rw [if_neg h]; simp [h]
theorem give1_f (x : S34) (who : Int) (n : ByteArray) : lease_Give_1.f x.f0 x.f1 x.f2 x.f3 x.f4 who n = some (heldP who n x) := by
  unfold lease_Give_1.f heldP
  rw [toList_beq]
  by_cases h : x.f0 = who
  · rw [if_pos h]; simp [h]
  · rw [if_neg h]; simp [h]
theorem part34_held (xs : List S34) (hx : xs.length ≤ 100000) (who : Int) (n : ByteArray) (k : Nat) (hk : xs.length + 1 ≤ k) :
    lease_Lease_31_at34.f k xs who n = some (xs.filter (heldP who n), xs.filter (fun x => !heldP who n x)) := by
  have h := part_loop 2932031007402 (by omega) rd_T34 rd34 (heldP who n) (fun k a b xs n' i => lease_Lease_31_at34.l0 k a b xs n' i who n)
    (fun k a b xs n' i => by
      simp only [lease_Lease_31_at34.l0, held1_f, Option.bind_some]) xs hx xs.length 0 [] [] (by omega) (by simp) (by simp) k hk
  unfold lease_Lease_31_at34.f
  simpa using h
theorem part34_give (xs : List S34) (hx : xs.length ≤ 100000) (who : Int) (n : ByteArray) (k : Nat) (hk : xs.length + 1 ≤ k) :
    lease_Lease_31_at33.f k xs who n = some (xs.filter (heldP who n), xs.filter (fun x => !heldP who n x)) := by
  have h := part_loop 2932031007402 (by omega) rd_T34 rd34 (heldP who n) (fun k a b xs n' i => lease_Lease_31_at33.l0 k a b xs n' i who n)
    (fun k a b xs n' i => by
      simp only [lease_Lease_31_at33.l0, give1_f, Option.bind_some]) xs hx xs.length 0 [] [] (by omega) (by simp) (by simp) k hk
  unfold lease_Lease_31_at33.f
  simpa using h
theorem beq_int (a b : Int) : (a == b) = decide (a = b) := by rw [Bool.eq_iff_iff]; simp
theorem waits1_f (x : S32) (who : Int) : lease_Waits_1.f x.f0 x.f1 x.f2 x.f3 who = some (decide (x.f0 = who)) := by
  unfold lease_Waits_1.f
  rw [beq_int]
theorem part32_waits (xs : List S32) (hx : xs.length ≤ 100000) (who : Int) (k : Nat) (hk : xs.length + 1 ≤ k) :
    lease_Ask_36_at43.f k xs who = some (xs.filter (fun a => decide (a.f0 = who)), xs.filter (fun a => !decide (a.f0 = who))) := by
  have h := part_loop 3518437208883 (by omega) rd_T32 rd32 (fun a => decide (a.f0 = who)) (fun k a b xs n' i => lease_Ask_36_at43.l0 k a b xs n' i who)
    (fun k a b xs n' i => by
      simp only [lease_Ask_36_at43.l0, waits1_f, Option.bind_some]) xs hx xs.length 0 [] [] (by omega) (by simp) (by simp) k hk
  unfold lease_Ask_36_at43.f
  simpa using h
/-- What a lease that is held is told as. -/
def one34 : List S34 → Int × ByteArray × Bool × Int × Int × Bool
  | [] => (0, ⟨#[]⟩, false, 0, 0, false)
  | x :: _ => (x.f0, x.f1, x.f2, x.f3, x.f4, true)
def one32 : List S32 → Int × ByteArray × Bool × Int × Bool
  | [] => (0, ⟨#[]⟩, false, 0, false)
  | x :: _ => (x.f0, x.f1, x.f2, x.f3, true)
theorem held_f (last : Int) (L : List S34) (Q : List S32) (who : Int) (n : ByteArray) (hL : L.length ≤ 100000) (k : Nat) (hk : L.length + 1 ≤ k) :
    lease_Held.f k last L Q who n = some (one34 (L.filter (heldP who n))) := by
  unfold lease_Held.f
  rw [part34_held L hL who n k hk]
  simp only [Option.bind_some]
  cases h : L.filter (heldP who n) with
  | nil => rfl
  | cons x l =>
    rw [if_neg (by simp; first | done | omega), if_pos (by simp; first | done | omega)]
    rfl
theorem waits_f (last : Int) (L : List S34) (Q : List S32) (who : Int) (hQ : Q.length ≤ 100000) (k : Nat) (hk : Q.length + 1 ≤ k) :
    lease_Waits.f k last L Q who = some (one32 (Q.filter (fun a => decide (a.f0 = who)))) := by
  unfold lease_Waits.f
  rw [part32_waits Q hQ who k hk]
  simp only [Option.bind_some]
  cases h : Q.filter (fun a => decide (a.f0 = who)) with
  | nil => rfl
  | cons x l =>
    rw [if_neg (by simp; first | done | omega), if_pos (by simp; first | done | omega)]
    rfl
/-- Is an ask in conflict, or behind another one? -/
def hitP (a : S32) (x : S34) : Bool := decide (x.f1 = a.f1) && (x.f2 || a.f2)
def blkS (L : List S34) (Q : List S32) (a : S32) : Bool := L.any (hitP a) || Q.any (fun b => decide (b.f1 = a.f1))
theorem blocked1_f (x : S34) (a : S32) : lease_Table_blocked_1.f x.f0 x.f1 x.f2 x.f3 x.f4 a.f0 a.f1 a.f2 a.f3 = some (hitP a x) := by
  unfold lease_Table_blocked_1.f hitP
  by_cases h : x.f1 = a.f1
  · rw [if_pos ((toList_iff _ _).2 h)]
    cases x.f2 <;> simp [h]
  · rw [if_neg (fun c => h ((toList_iff _ _).1 c))]; simp [h]
theorem blocked_f (last : Int) (L : List S34) (Q : List S32) (a : S32) (hL : L.length ≤ 100000) (hQ : Q.length ≤ 100000) (k : Nat) (hk : L.length + Q.length + 1 ≤ k) :
    lease_Table_blocked.f k last L Q a.f0 a.f1 a.f2 a.f3 = some (blkS L Q a) := by
  obtain ⟨r1, e1, h1⟩ := any_loop rd_T34 rd34 (hitP a) (fun k xs n i => lease_Lease_54_at56.l0 k xs n i a.f0 a.f1 a.f2 a.f3) (fun k xs n i => by
    simp only [lease_Lease_54_at56.l0, blocked1_f, Option.bind_some]) L hL L.length 0 (by omega)
  obtain ⟨r2, e2, h2⟩ := any_loop rd_T32 rd32 (fun b => decide (b.f1 = a.f1)) (fun k xs n i => lease_Ask_64_at57.l0 k xs n i a.f0 a.f1 a.f2 a.f3) (fun k xs n i => by
    simp only [lease_Ask_64_at57.l0, lease_Table_blocked_2.f, toList_beq, Option.bind_some]) Q hQ Q.length 0 (by omega)
  rw [List.drop_zero] at e1 e2
  have h1' : lease_Lease_54_at56.f k L a.f0 a.f1 a.f2 a.f3 = some r1 := h1 k (by omega)
  have h2' : lease_Ask_64_at57.f k Q a.f0 a.f1 a.f2 a.f3 = some r2 := h2 k (by omega)
  unfold lease_Table_blocked.f lease_Lease_44_at56.f lease_Ask_58_at57.f blkS
  rw [h1', h2']
  simp only [Option.bind_some]
  rw [e1, e2]
  cases L.any (hitP a) <;> simp
/-- All asks that can be leases are some. -/
def settleS (now : Int) : List S32 → Int → List S34 → List S32 → Int × List S34 × List S32
  | [], last, L, Q => (last, L, Q)
  | a :: q, last, L, Q => if blkS L Q a = true ∨ 200 ≤ L.length then settleS now q last L (Q ++ [a]) else settleS now q (wrap64 (last + 1)) (L ++ [⟨a.f0, a.f1, a.f2, wrap64 (last + 1), wrap64 (now + a.f3)⟩]) Q
theorem settle_loop (now : Int) (Q0 : List S32) (hQ0 : Q0.length ≤ 10000) :
    ∀ (d i : Nat) (last : Int) (L : List S34) (Q : List S32), i + d = Q0.length → L.length ≤ 10000 + i → Q.length ≤ i →
      ∀ k, d + 40000 ≤ k → lease_Table_settle.l0 k now Q0 (Q0.length : Int) (i : Int) last L Q = some (settleS now (Q0.drop i) last L Q)
  | 0, i, last, L, Q, e, _, _, k, hk => by
    obtain ⟨m, rfl⟩ : ∃ m, k = m + 1 := ⟨k - 1, by omega⟩
    rw [lease_Table_settle.l0, if_neg (by omega), List.drop_of_length_le (by omega)]
    rfl
  | d + 1, i, last, L, Q, e, hL, hQ, k, hk => by
    obtain ⟨m, rfl⟩ : ∃ m, k = m + 1 := ⟨k - 1, by omega⟩
    have hi : i < Q0.length := by omega
    rw [lease_Table_settle.l0, if_pos (by omega), if_pos (by omega), if_pos (by omega), rd32 Q0 i hi, wrap_succ i (by omega), blocked_f last L Q Q0[i] (by omega) (by omega) m (by omega), drop_cons Q0 i hi]
    simp only [Option.bind_some, settleS]
    by_cases hb : blkS L Q Q0[i] = true
    · rw [if_pos hb, if_pos (by omega), if_pos (.inl hb)]
      exact settle_loop now Q0 hQ0 d (i + 1) last L (Q ++ [Q0[i]]) (by omega) (by omega) (by simp; omega) m (by omega)
    · rw [if_neg hb]
      by_cases hl : 200 ≤ L.length
      · rw [if_pos (by omega), if_pos (by omega), if_pos (.inr hl)]
        exact settle_loop now Q0 hQ0 d (i + 1) last L (Q ++ [Q0[i]]) (by omega) (by omega) (by simp; omega) m (by omega)
      · rw [if_neg (by omega), if_pos (by omega), if_neg (fun c => c.elim hb hl)]
        exact settle_loop now Q0 hQ0 d (i + 1) (wrap64 (last + 1)) _ Q (by omega) (by simp; omega) (by omega) m (by omega)
theorem settle_f (last : Int) (L : List S34) (Q : List S32) (now : Int) (hL : L.length ≤ 10000) (hQ : Q.length ≤ 10000) (k : Nat) (hk : 60000 ≤ k) :
    lease_Table_settle.f k last L Q now = some (settleS now Q last L []) := by
  unfold lease_Table_settle.f lease_Lease_46.f
  simp only [Option.bind_some, List.length_nil, List.nil_append]
  rw [if_pos (by omega)]
  simp only [Option.bind_some]
  exact settle_loop now Q hQ Q.length 0 last L [] (by omega) (by omega) (by simp) k (by omega)
def validP (who : Int) (n : ByteArray) (token : Int) (x : S34) : Bool := decide (x.f0 = who) && (decide (x.f1 = n) && decide (x.f3 = token))
theorem valid_f (last : Int) (L : List S34) (Q : List S32) (who : Int) (n : ByteArray) (token : Int) (hL : L.length ≤ 100000) (k : Nat) (hk : L.length + 1 ≤ k) :
    lease_Valid.f k last L Q who n token = some (L.any (validP who n token)) := by
  obtain ⟨r1, e1, h1⟩ := any_loop rd_T34 rd34 (validP who n token) (fun k xs n' i => lease_Lease_54_at45.l0 k xs n' i who n token) (fun k xs n' i => by
    have e : ∀ x : S34, lease_Valid_1.f x.f0 x.f1 x.f2 x.f3 x.f4 who n token = some (validP who n token x) := fun x => by
      unfold lease_Valid_1.f validP
      by_cases h : x.f0 = who
      · rw [if_pos h]
        by_cases h' : x.f1 = n
        · rw [if_pos ((toList_iff _ _).2 h')]; simp [h, h', beq_int]
        · rw [if_neg (fun c => h' ((toList_iff _ _).1 c))]; simp [h']
      · rw [if_neg h]; simp [h]
    simp only [lease_Lease_54_at45.l0, e, Option.bind_some]) L hL L.length 0 (by omega)
  rw [List.drop_zero] at e1
  have h1' : lease_Lease_54_at45.f k L who n token = some r1 := h1 k (by omega)
  unfold lease_Valid.f lease_Lease_44_at45.f
  rw [h1']
  simp only [Option.bind_some]
  rw [e1]
theorem settle_stuck (nm : ByteArray) (now last : Int) (L : List S34) : ∀ (q Q : List S32), (∀ a ∈ q, a.f1 = nm) → (∃ b ∈ Q, b.f1 = nm) → settleS now q last L Q = (last, L, Q ++ q)
  | [], Q, _, _ => by simp [settleS]
  | a :: q, Q, hq, hQ => by
    have hb : blkS L Q a = true := by
      unfold blkS
      obtain ⟨b, hb, e⟩ := hQ
      rw [Bool.or_eq_true]
      exact .inr (List.any_eq_true.2 ⟨b, hb, by rw [e, hq a (by simp)]; simp⟩)
    unfold settleS
    rw [if_pos (.inl hb), settle_stuck nm now last L q (Q ++ [a]) (fun x hx => hq x (by simp [hx])) (by obtain ⟨b, hb, e⟩ := hQ; exact ⟨b, by simp [hb], e⟩)]
    simp
def timeP (now : Int) : Bool := decide (0 ≤ now) && decide (now ≤ 1099511627776)
theorem time_f (now : Int) : lease_time.f now = some (timeP now) := by
  unfold lease_time.f timeP
  by_cases h : now ≥ 0
  · rw [if_pos h]; simp; omega
  · rw [if_neg h]; simp; omega
def livesP (n : Int) : Bool := decide (1 ≤ n) && decide (n ≤ 1048576)
theorem lives_f (n : Int) : lease_lives.f n = some (livesP n) := by
  unfold lease_lives.f livesP
  by_cases h : n ≥ 1
  · rw [if_pos h]; simp; omega
  · rw [if_neg h]; simp; omega
def giveS (last : Int) (L : List S34) (Q : List S32) (who : Int) (n : ByteArray) (token now : Int) : Int × List S34 × List S32 × Int :=
  if timeP now = true then (if L.any (validP who n token) = true then
    (let t := settleS now Q last (L.filter (fun x => !heldP who n x)) []; (t.1, t.2.1, t.2.2, 0)) else (0, [], [], 8)) else (0, [], [], 1)
theorem give_f (last : Int) (L : List S34) (Q : List S32) (who : Int) (n : ByteArray) (token now : Int) (hL : L.length ≤ 10000) (hQ : Q.length ≤ 10000) (k : Nat) (hk : 60000 ≤ k) :
    lease_Give.f k last L Q who n token now = some (giveS last L Q who n token now) := by
  have hl : (L.filter (fun x => !heldP who n x)).length ≤ L.length := List.length_filter_le _ _
  unfold lease_Give.f giveS
  rw [time_f, valid_f last L Q who n token (by omega) k (by omega), part34_give L (by omega) who n k (by omega)]
  simp only [Option.bind_some]
  rw [settle_f last _ Q now (by omega) hQ k hk]
  simp only [Option.bind_some]
  split
  · split <;> rfl
  · rfl
def tickS (last : Int) (L : List S34) (Q : List S32) (now : Int) : Int × List S34 × List S32 :=
  if timeP now = true then settleS now Q last (L.filter (fun x => !decide (x.f4 ≤ now))) [] else (last, L, Q)
theorem tick_f (last : Int) (L : List S34) (Q : List S32) (now : Int) (hL : L.length ≤ 10000) (hQ : Q.length ≤ 10000) (k : Nat) (hk : 60000 ≤ k) :
    lease_Tick.f k last L Q now = some (tickS last L Q now) := by
  have hl : (L.filter (fun x => !decide (x.f4 ≤ now))).length ≤ L.length := List.length_filter_le _ _
  have h := part_loop 2932031007402 (by omega) rd_T34 rd34 (fun x => decide (x.f4 ≤ now)) (fun k a b xs n' i => lease_Lease_31_at32.l0 k a b xs n' i now)
    (fun k a b xs n' i => by
      simp only [lease_Lease_31_at32.l0, lease_Tick_1.f, Option.bind_some]) L (by omega) L.length 0 [] [] (by omega) (by simp) (by simp) k (by omega)
  have h' : lease_Lease_31_at32.f k L now = some (L.filter (fun x => decide (x.f4 ≤ now)), L.filter (fun x => !decide (x.f4 ≤ now))) := by
    unfold lease_Lease_31_at32.f
    simpa using h
  unfold lease_Tick.f tickS
  rw [time_f, h']
  simp only [Option.bind_some]
  rw [settle_f last _ Q now (by omega) hQ k hk]
  simp only [Option.bind_some]
  split <;> rfl
/-- An ask that is right, of what nobody holds or waits for. -/
theorem take_ok (last : Int) (L : List S34) (Q : List S32) (a : S32) (now : Int) (hL : L.length ≤ 5000) (hQ : Q.length < 100) (hw : 1 ≤ a.f0 ∧ a.f0 ≤ 1000) (hp : ∀ k, 40000 ≤ k → text_Path.f k a.f1 = some true)
    (hli : livesP a.f3 = true) (ht : timeP now = true) (hh : L.filter (heldP a.f0 a.f1) = []) (hwt : Q.filter (fun b => decide (b.f0 = a.f0)) = []) (k : Nat) (hk : 70000 ≤ k)
    (t : Int × List S34 × List S32) (e : settleS now (Q ++ [a]) last L [] = t) (hl2 : t.2.1.length ≤ 10000) :
    lease_Take.f k last L Q a.f0 a.f1 a.f2 a.f3 now = some (t.1, t.2.1, t.2.2, (one34 (t.2.1.filter (heldP a.f0 a.f1))).2.2.2.1, 0) := by
  obtain ⟨m, rfl⟩ : ∃ m, k = m + 2 := ⟨k - 2, by omega⟩
  unfold lease_Take.f
  rw [held_f last L Q a.f0 a.f1 (by omega) _ (by omega), waits_f last L Q a.f0 (by omega) _ (by omega), hh, hwt]
  simp only [Option.bind_some, one34, one32]
  rw [if_neg (by omega), if_neg (by omega), hp _ (by omega)]
  simp only [Option.bind_some, if_true, lives_f, hli, time_f, ht, Bool.not_true]
  rw [lease_Take.j0, if_neg (by decide), if_neg (by decide), lease_Take.j1, if_neg (by decide), if_neg (by decide), if_neg (by decide), if_neg (by omega)]
  unfold lease_Ask_29.f
  simp only [Option.bind_some, List.length_nil, List.nil_append]
  rw [if_pos (by omega)]
  simp only [Option.bind_some]
  rw [if_pos (by simp; omega), show (⟨a.f0, a.f1, a.f2, a.f3⟩ : S32) = a from rfl, settle_f last L (Q ++ [a]) now (by omega) (by simp; omega) m (by omega), e]
  simp only [Option.bind_some]
  rw [held_f t.1 t.2.1 t.2.2 a.f0 a.f1 (by omega) m (by omega)]
  rfl
end Go.Proofs.YtgcghjkaomgloaaDoor.Pl
