/- What the program's lease functions come to, in plain words (the seat of LeasePlays alone). -/
import Derived.Test.YtjdadmjomjhpcaaDoorPLeasex5
import Derived.Test.YtjdadmjomjhpcaaDoorPLeasex6
import Derived.Test.YtjdadmjomjhpcaaDoorPLeasex8
import Derived.Test.YtjdadmjomjhpcaaDoorPLeasex7
import Derived.Test.YtjdadmjomjhpcaaDoorRounds
namespace Go.Proofs.YtjdadmjomjhpcaaDoor.Pl
open Go.RowKit Go.Proofs.YtjdadmjomjhpcaaDoor.PLease Go.Proofs.YtjdadmjomjhpcaaDoorW.PrintWords Go.Proofs.YtjdadmjomjhpcaaDoorW.PrintLast

theorem toList_iff (s t : ByteArray) : s.toList = t.toList ↔ s = t := by rw [bl_toList, bl_toList, eq_bl]
theorem toList_beq (s t : ByteArray) : (s.toList == t.toList) = decide (s = t) := by
  rw [Bool.eq_iff_iff, beq_iff_eq, toList_iff]; simp
theorem rd42 (xs : List S42) (i : Nat) (h : i < xs.length) : rd_T42 xs (i : Int) = xs[i] := by
  unfold rd_T42
  rw [Int.toNat_natCast, List.getD_eq_getElem?_getD, List.getElem?_eq_getElem h]
  rfl
theorem rd49 (xs : List S49) (i : Nat) (h : i < xs.length) : rd_T49 xs (i : Int) = xs[i] := by
  unfold rd_T49
  rw [Int.toNat_natCast, List.getD_eq_getElem?_getD, List.getElem?_eq_getElem h]
  rfl
/-- Both parts of a row: the loop. -/
theorem part_loop {S : Type} (C : Nat) (hC : 1000000 ≤ C) (rdf : List S → Int → S) (hrd : ∀ (xs : List S) (i : Nat) (h : i < xs.length), rdf xs (i : Int) = xs[i]) (P : S → Bool)
    (F : Nat → List S → List S → List S → Int → Int → Option (List S × List S))
    (hF : ∀ k a b xs n i, F (k + 1) a b xs n i = if i < n then (if 0 ≤ i then (if i < (xs.length : Int) then (if P (rdf xs i) = true then (if a.length < C then F k (a ++ [rdf xs i]) b xs n (wrap64 (i + 1)) else none) else (if b.length < C then F k a (b ++ [rdf xs i]) xs n (wrap64 (i + 1)) else none)) else none) else none) else some (a, b))
    (xs : List S) (hx : xs.length ≤ 100000) :
    ∀ (d i : Nat) (a b : List S), i + d = xs.length → a.length ≤ i → b.length ≤ i → ∀ k, d + 1 ≤ k → F k a b xs (xs.length : Int) (i : Int) = some (a ++ (xs.drop i).filter P, b ++ (xs.drop i).filter (fun x => !P x))
  | 0, i, a, b, e, _, _, k, hk => by
    obtain ⟨m, rfl⟩ : ∃ m, k = m + 1 := ⟨k - 1, by omega⟩
    rw [hF, if_neg (by omega), List.drop_of_length_le (by omega)]
    simp
  | d + 1, i, a, b, e, ha, hb, k, hk => by
    obtain ⟨m, rfl⟩ : ∃ m, k = m + 1 := ⟨k - 1, by omega⟩
    have hi : i < xs.length := by omega
    rw [hF, if_pos (by omega), if_pos (by omega), if_pos (by omega), hrd xs i hi, wrap_succ i (by omega), drop_cons xs i hi]
    by_cases hp : P xs[i] = true
    · rw [if_pos hp, if_pos (by omega), part_loop C hC rdf hrd P F hF xs hx d (i + 1) (a ++ [xs[i]]) b (by omega) (by simp; omega) (by omega) m (by omega), List.filter_cons_of_pos hp, List.filter_cons_of_neg (by simp [hp]), List.append_assoc]
      rfl
    · rw [if_neg hp, if_pos (by omega), part_loop C hC rdf hrd P F hF xs hx d (i + 1) a (b ++ [xs[i]]) (by omega) (by omega) (by simp; omega) m (by omega), List.filter_cons_of_neg hp, List.filter_cons_of_pos (by simp [hp]), List.append_assoc]
      rfl
/-- Where something first is: the loop. -/
theorem any_loop {S : Type} (rdf : List S → Int → S) (hrd : ∀ (xs : List S) (i : Nat) (h : i < xs.length), rdf xs (i : Int) = xs[i]) (P : S → Bool)
    (F : Nat → List S → Int → Int → Option Int)
    (hF : ∀ k xs n i, F (k + 1) xs n i = if i < n then (if 0 ≤ i then (if i < (xs.length : Int) then (if P (rdf xs i) = true then some i else F k xs n (wrap64 (i + 1))) else none) else none) else some (-1))
    (xs : List S) (hx : xs.length ≤ 100000) :
    ∀ (d i : Nat), i + d = xs.length → ∃ r : Int, decide (r ≥ 0) = (xs.drop i).any P ∧ ∀ k, d + 1 ≤ k → F k xs (xs.length : Int) (i : Int) = some r
  | 0, i, e => by
    refine ⟨-1, by rw [List.drop_of_length_le (by omega)]; rfl, fun k hk => ?_⟩
    obtain ⟨m, rfl⟩ : ∃ m, k = m + 1 := ⟨k - 1, by omega⟩
    rw [hF, if_neg (by omega)]
  | d + 1, i, e => by
    have hi : i < xs.length := by omega
    by_cases hp : P xs[i] = true
    · refine ⟨i, ?_, fun k hk => ?_⟩
      · rw [drop_cons xs i hi, List.any_cons, hp]
        simp
      · obtain ⟨m, rfl⟩ : ∃ m, k = m + 1 := ⟨k - 1, by omega⟩
        rw [hF, if_pos (by omega), if_pos (by omega), if_pos (by omega), hrd xs i hi, if_pos hp]
    · obtain ⟨r, h1, h2⟩ := any_loop rdf hrd P F hF xs hx d (i + 1) (by omega)
      refine ⟨r, ?_, fun k hk => ?_⟩
      · rw [h1, drop_cons xs i hi, List.any_cons, Bool.eq_false_iff.2 hp]
        simp
      · obtain ⟨m, rfl⟩ : ∃ m, k = m + 1 := ⟨k - 1, by omega⟩
        rw [hF, if_pos (by omega), if_pos (by omega), if_pos (by omega), hrd xs i hi, if_neg hp, wrap_succ i (by omega)]
        exact h2 m (by omega)

def heldP (who : Int) (n : ByteArray) (x : S42) : Bool := decide (x.f0 = who) && decide (x.f1 = n)
theorem held1_f (x : S42) (who : Int) (n : ByteArray) : lease_Held_1.f x.f0 x.f1 x.f2 x.f3 x.f4 who n = some (heldP who n x) := by
  unfold lease_Held_1.f heldP
  rw [toList_beq]
  by_cases h : x.f0 = who
  · rw [if_pos h]; simp [h]
  · rw [if_neg h]; simp [h]
theorem give1_f (x : S42) (who : Int) (n : ByteArray) : lease_Give_1.f x.f0 x.f1 x.f2 x.f3 x.f4 who n = some (heldP who n x) := by
  unfold lease_Give_1.f heldP
  rw [toList_beq]
  by_cases h : x.f0 = who
  · rw [if_pos h]; simp [h]
  · rw [if_neg h]; simp [h]
theorem part34_held (xs : List S42) (hx : xs.length ≤ 100000) (who : Int) (n : ByteArray) (k : Nat) (hk : xs.length + 1 ≤ k) :
    lease_Lease_26_at27.f k xs who n = some (xs.filter (heldP who n), xs.filter (fun x => !heldP who n x)) := by
  have h := part_loop 2932031007402 (by omega) rd_T42 rd42 (heldP who n) (fun k a b xs n' i => lease_Lease_26_at27.l0 k a b xs n' i who n)
    (fun k a b xs n' i => by
      simp only [lease_Lease_26_at27.l0, held1_f, Option.bind_some]) xs hx xs.length 0 [] [] (by omega) (by simp) (by simp) k hk
  unfold lease_Lease_26_at27.f
  simpa using h
theorem part34_give (xs : List S42) (hx : xs.length ≤ 100000) (who : Int) (n : ByteArray) (k : Nat) (hk : xs.length + 1 ≤ k) :
    lease_Lease_26_at37.f k xs who n = some (xs.filter (heldP who n), xs.filter (fun x => !heldP who n x)) := by
  have h := part_loop 2932031007402 (by omega) rd_T42 rd42 (heldP who n) (fun k a b xs n' i => lease_Lease_26_at37.l0 k a b xs n' i who n)
    (fun k a b xs n' i => by
      simp only [lease_Lease_26_at37.l0, give1_f, Option.bind_some]) xs hx xs.length 0 [] [] (by omega) (by simp) (by simp) k hk
  unfold lease_Lease_26_at37.f
  simpa using h
theorem beq_int (a b : Int) : (a == b) = decide (a = b) := by rw [Bool.eq_iff_iff]; simp
theorem waits1_f (x : S49) (who : Int) : lease_Waits_1.f x.f0 x.f1 x.f2 x.f3 who = some (decide (x.f0 = who)) := by
  unfold lease_Waits_1.f
  rw [beq_int]
theorem part32_waits (xs : List S49) (hx : xs.length ≤ 100000) (who : Int) (k : Nat) (hk : xs.length + 1 ≤ k) :
    lease_Ask_28_at29.f k xs who = some (xs.filter (fun a => decide (a.f0 = who)), xs.filter (fun a => !decide (a.f0 = who))) := by
  have h := part_loop 3518437208883 (by omega) rd_T49 rd49 (fun a => decide (a.f0 = who)) (fun k a b xs n' i => lease_Ask_28_at29.l0 k a b xs n' i who)
    (fun k a b xs n' i => by
      simp only [lease_Ask_28_at29.l0, waits1_f, Option.bind_some]) xs hx xs.length 0 [] [] (by omega) (by simp) (by simp) k hk
  unfold lease_Ask_28_at29.f
  simpa using h
/-- What a lease that is held is told as. -/
def one42 : List S42 → Int × ByteArray × Bool × Int × Int × Bool
  | [] => (0, ⟨#[]⟩, false, 0, 0, false)
  | x :: _ => (x.f0, x.f1, x.f2, x.f3, x.f4, true)
def one49 : List S49 → Int × ByteArray × Bool × Int × Bool
  | [] => (0, ⟨#[]⟩, false, 0, false)
  | x :: _ => (x.f0, x.f1, x.f2, x.f3, true)
theorem held_f (last : Int) (L : List S42) (Q : List S49) (who : Int) (n : ByteArray) (hL : L.length ≤ 100000) (k : Nat) (hk : L.length + 1 ≤ k) :
    lease_Held.f k last L Q who n = some (one42 (L.filter (heldP who n))) := by
  unfold lease_Held.f
  rw [part34_held L hL who n k hk]
  simp only [Option.bind_some]
  cases h : L.filter (heldP who n) with
  | nil => rfl
  | cons x l =>
    rw [if_neg (by simp; first | done | omega), if_pos (by simp; first | done | omega)]
    rfl
theorem waits_f (last : Int) (L : List S42) (Q : List S49) (who : Int) (hQ : Q.length ≤ 100000) (k : Nat) (hk : Q.length + 1 ≤ k) :
    lease_Waits.f k last L Q who = some (one49 (Q.filter (fun a => decide (a.f0 = who)))) := by
  unfold lease_Waits.f
  rw [part32_waits Q hQ who k hk]
  simp only [Option.bind_some]
  cases h : Q.filter (fun a => decide (a.f0 = who)) with
  | nil => rfl
  | cons x l =>
    rw [if_neg (by simp; first | done | omega), if_pos (by simp; first | done | omega)]
    rfl
/-- Is an ask in conflict, or behind another one? -/
def hitP (a : S49) (x : S42) : Bool := decide (x.f1 = a.f1) && (x.f2 || a.f2)
def blkS (L : List S42) (Q : List S49) (a : S49) : Bool := L.any (hitP a) || Q.any (fun b => decide (b.f1 = a.f1))
theorem blocked1_f (x : S42) (a : S49) : lease_Table_blocked_1.f x.f0 x.f1 x.f2 x.f3 x.f4 a.f0 a.f1 a.f2 a.f3 = some (hitP a x) := by
  unfold lease_Table_blocked_1.f hitP
  by_cases h : x.f1 = a.f1
  · rw [if_pos ((toList_iff _ _).2 h)]
    cases x.f2 <;> simp [h]
  · rw [if_neg (fun c => h ((toList_iff _ _).1 c))]; simp [h]
theorem blocked_f (last : Int) (L : List S42) (Q : List S49) (a : S49) (hL : L.length ≤ 100000) (hQ : Q.length ≤ 100000) (k : Nat) (hk : L.length + Q.length + 1 ≤ k) :
    lease_Table_blocked.f k last L Q a.f0 a.f1 a.f2 a.f3 = some (blkS L Q a) := by
  obtain ⟨r1, e1, h1⟩ := any_loop rd_T42 rd42 (hitP a) (fun k xs n i => lease_Lease_46_at53.l0 k xs n i a.f0 a.f1 a.f2 a.f3) (fun k xs n i => by
    simp only [lease_Lease_46_at53.l0, blocked1_f, Option.bind_some]) L hL L.length 0 (by omega)
  obtain ⟨r2, e2, h2⟩ := any_loop rd_T49 rd49 (fun b => decide (b.f1 = a.f1)) (fun k xs n i => lease_Ask_60_at54.l0 k xs n i a.f0 a.f1 a.f2 a.f3) (fun k xs n i => by
    simp only [lease_Ask_60_at54.l0, lease_Table_blocked_2.f, toList_beq, Option.bind_some]) Q hQ Q.length 0 (by omega)
  rw [List.drop_zero] at e1 e2
  have h1' : lease_Lease_46_at53.f k L a.f0 a.f1 a.f2 a.f3 = some r1 := h1 k (by omega)
  have h2' : lease_Ask_60_at54.f k Q a.f0 a.f1 a.f2 a.f3 = some r2 := h2 k (by omega)
  unfold lease_Table_blocked.f lease_Lease_30_at53.f lease_Ask_55_at54.f blkS
  rw [h1', h2']
  simp only [Option.bind_some]
  rw [e1, e2]
  cases L.any (hitP a) <;> simp
/-- All asks that can be leases are some. -/
def settleS (now : Int) : List S49 → Int → List S42 → List S49 → Int × List S42 × List S49
  | [], last, L, Q => (last, L, Q)
  | a :: q, last, L, Q => if blkS L Q a = true ∨ 200 ≤ L.length then settleS now q last L (Q ++ [a]) else settleS now q (wrap64 (last + 1)) (L ++ [⟨a.f0, a.f1, a.f2, wrap64 (last + 1), wrap64 (now + a.f3)⟩]) Q
theorem settle_loop (now : Int) (Q0 : List S49) (hQ0 : Q0.length ≤ 10000) :
    ∀ (d i : Nat) (last : Int) (L : List S42) (Q : List S49), i + d = Q0.length → L.length ≤ 10000 + i → Q.length ≤ i →
      ∀ k, d + 40000 ≤ k → lease_Table_settle.l0 k now Q0 (Q0.length : Int) (i : Int) last L Q = some (settleS now (Q0.drop i) last L Q)
  | 0, i, last, L, Q, e, _, _, k, hk => by
    obtain ⟨m, rfl⟩ : ∃ m, k = m + 1 := ⟨k - 1, by omega⟩
    rw [lease_Table_settle.l0, if_neg (by omega), List.drop_of_length_le (by omega)]
    rfl
  | d + 1, i, last, L, Q, e, hL, hQ, k, hk => by
    obtain ⟨m, rfl⟩ : ∃ m, k = m + 1 := ⟨k - 1, by omega⟩
    have hi : i < Q0.length := by omega
    rw [lease_Table_settle.l0, if_pos (by omega), if_pos (by omega), if_pos (by omega), rd49 Q0 i hi, wrap_succ i (by omega), blocked_f last L Q Q0[i] (by omega) (by omega) m (by omega), drop_cons Q0 i hi]
    simp only [Option.bind_some, settleS]
    by_cases hb : blkS L Q Q0[i] = true
    · rw [if_pos hb, if_pos (by omega), if_pos (.inl hb)]
      exact settle_loop now Q0 hQ0 d (i + 1) last L (Q ++ [Q0[i]]) (by omega) (by omega) (by simp; omega) m (by omega)
    · rw [if_neg hb]
      by_cases hl : 200 ≤ L.length
      · rw [if_pos (by omega), if_pos (by omega), if_pos (.inr hl)]
        exact settle_loop now Q0 hQ0 d (i + 1) last L (Q ++ [Q0[i]]) (by omega) (by omega) (by simp; omega) m (by omega)
      · rw [if_neg (by omega), if_pos (by omega), if_neg (fun c => c.elim hb hl)]
        exact settle_loop now Q0 hQ0 d (i + 1) (wrap64 (last + 1)) _ Q (by omega) (by simp; omega) (by omega) m (by omega)
theorem settle_f (last : Int) (L : List S42) (Q : List S49) (now : Int) (hL : L.length ≤ 10000) (hQ : Q.length ≤ 10000) (k : Nat) (hk : 60000 ≤ k) :
    lease_Table_settle.f k last L Q now = some (settleS now Q last L []) := by
  unfold lease_Table_settle.f lease_Lease_38.f
  simp only [Option.bind_some, List.length_nil, List.nil_append]
  rw [if_pos (by omega)]
  simp only [Option.bind_some]
  exact settle_loop now Q hQ Q.length 0 last L [] (by omega) (by omega) (by simp) k (by omega)
def validP (who : Int) (n : ByteArray) (token : Int) (x : S42) : Bool := decide (x.f0 = who) && (decide (x.f1 = n) && decide (x.f3 = token))
theorem valid_f (last : Int) (L : List S42) (Q : List S49) (who : Int) (n : ByteArray) (token : Int) (hL : L.length ≤ 100000) (k : Nat) (hk : L.length + 1 ≤ k) :
    lease_Valid.f k last L Q who n token = some (L.any (validP who n token)) := by
  obtain ⟨r1, e1, h1⟩ := any_loop rd_T42 rd42 (validP who n token) (fun k xs n' i => lease_Lease_46_at31.l0 k xs n' i who n token) (fun k xs n' i => by
    have e : ∀ x : S42, lease_Valid_1.f x.f0 x.f1 x.f2 x.f3 x.f4 who n token = some (validP who n token x) := fun x => by
      unfold lease_Valid_1.f validP
      by_cases h : x.f0 = who
      · rw [if_pos h]
        by_cases h' : x.f1 = n
        · rw [if_pos ((toList_iff _ _).2 h')]; simp [h, h', beq_int]
        · rw [if_neg (fun c => h' ((toList_iff _ _).1 c))]; simp [h']
      · rw [if_neg h]; simp [h]
    simp only [lease_Lease_46_at31.l0, e, Option.bind_some]) L hL L.length 0 (by omega)
  rw [List.drop_zero] at e1
  have h1' : lease_Lease_46_at31.f k L who n token = some r1 := h1 k (by omega)
  unfold lease_Valid.f lease_Lease_30_at31.f
  rw [h1']
  simp only [Option.bind_some]
  rw [e1]
def timeP (now : Int) : Bool := decide (0 ≤ now) && decide (now ≤ 1099511627776)
theorem time_f (now : Int) : lease_time.f now = some (timeP now) := by
  unfold lease_time.f timeP
  by_cases h : now ≥ 0
  · rw [if_pos h]; simp; omega
  · rw [if_neg h]; simp; omega
def livesP (n : Int) : Bool := decide (1 ≤ n) && decide (n ≤ 1048576)
theorem lives_f (n : Int) : lease_lives.f n = some (livesP n) := by
  unfold lease_lives.f livesP
  by_cases h : n ≥ 1
  · rw [if_pos h]; simp; omega
  · rw [if_neg h]; simp; omega
def giveS (last : Int) (L : List S42) (Q : List S49) (who : Int) (n : ByteArray) (token now : Int) : Int × List S42 × List S49 × Int :=
  if timeP now = true then (if L.any (validP who n token) = true then
    (let t := settleS now Q last (L.filter (fun x => !heldP who n x)) []; (t.1, t.2.1, t.2.2, 0)) else (0, [], [], 8)) else (0, [], [], 1)
theorem give_f (last : Int) (L : List S42) (Q : List S49) (who : Int) (n : ByteArray) (token now : Int) (hL : L.length ≤ 10000) (hQ : Q.length ≤ 10000) (k : Nat) (hk : 60000 ≤ k) :
    lease_Give.f k last L Q who n token now = some (giveS last L Q who n token now) := by
  have hl : (L.filter (fun x => !heldP who n x)).length ≤ L.length := List.length_filter_le _ _
  unfold lease_Give.f giveS
  rw [time_f, valid_f last L Q who n token (by omega) k (by omega), part34_give L (by omega) who n k (by omega)]
  simp only [Option.bind_some]
  rw [settle_f last _ Q now (by omega) hQ k hk]
  simp only [Option.bind_some]
  split
  · split <;> rfl
  · rfl
def tickS (last : Int) (L : List S42) (Q : List S49) (now : Int) : Int × List S42 × List S49 :=
  if timeP now = true then settleS now Q last (L.filter (fun x => !decide (x.f4 ≤ now))) [] else (last, L, Q)
theorem tick_f (last : Int) (L : List S42) (Q : List S49) (now : Int) (hL : L.length ≤ 10000) (hQ : Q.length ≤ 10000) (k : Nat) (hk : 60000 ≤ k) :
    lease_Tick.f k last L Q now = some (tickS last L Q now) := by
  have hl : (L.filter (fun x => !decide (x.f4 ≤ now))).length ≤ L.length := List.length_filter_le _ _
  have h := part_loop 2932031007402 (by omega) rd_T42 rd42 (fun x => decide (x.f4 ≤ now)) (fun k a b xs n' i => lease_Lease_26_at41.l0 k a b xs n' i now)
    (fun k a b xs n' i => by
      simp only [lease_Lease_26_at41.l0, lease_Tick_1.f, Option.bind_some]) L (by omega) L.length 0 [] [] (by omega) (by simp) (by simp) k (by omega)
  have h' : lease_Lease_26_at41.f k L now = some (L.filter (fun x => decide (x.f4 ≤ now)), L.filter (fun x => !decide (x.f4 ≤ now))) := by
    unfold lease_Lease_26_at41.f
    simpa using h
  unfold lease_Tick.f tickS
  rw [time_f, h']
  simp only [Option.bind_some]
  rw [settle_f last _ Q now (by omega) hQ k hk]
  simp only [Option.bind_some]
  split <;> rfl
theorem wf_i64 {c : Int} (h : (Lit.int .i64 c).wf = true) : -9223372036854775808 ≤ c ∧ c ≤ 9223372036854775807 := by
  simp only [Lit.wf, Bool.and_eq_true, decide_eq_true_eq] at h
  have e1 : IntKind.i64.min = -9223372036854775808 := by decide
  have e2 : IntKind.i64.max = 9223372036854775807 := by decide
  omega
def pickS (c n : Int) : Int := if c < 0 then Int.tmod (-(c + 1)) n else Int.tmod c n
theorem pick_f (c n : Int) (hc : -9223372036854775808 ≤ c ∧ c ≤ 9223372036854775807) (hn : 0 < n) : cooperagelaw16_pick.f c n = some (pickS c n) := by
  unfold cooperagelaw16_pick.f pickS
  split
  · rw [if_neg (by omega), wrap_sm (i := c + 1) (by omega) (by omega), wrap_sm (by omega) (by omega)]
  · rw [if_neg (by omega)]
def leaveS (last : Int) (L : List S42) (Q : List S49) (who now : Int) : Int × List S42 × List S49 :=
  if timeP now = true then settleS now (Q.filter (fun a => !decide (a.f0 = who))) last (L.filter (fun x => !decide (x.f0 = who))) [] else (last, L, Q)
theorem leave_f (last : Int) (L : List S42) (Q : List S49) (who now : Int) (hL : L.length ≤ 10000) (hQ : Q.length ≤ 10000) (k : Nat) (hk : 60000 ≤ k) :
    lease_Leave.f k last L Q who now = some (leaveS last L Q who now) := by
  have hl : (L.filter (fun x => !decide (x.f0 = who))).length ≤ L.length := List.length_filter_le _ _
  have hq : (Q.filter (fun x => !decide (x.f0 = who))).length ≤ Q.length := List.length_filter_le _ _
  have e1 : ∀ x : S42, lease_Leave_1.f x.f0 x.f1 x.f2 x.f3 x.f4 who = some (decide (x.f0 = who)) := fun x => by
    unfold lease_Leave_1.f; rw [beq_int]
  have e2 : ∀ x : S49, lease_Leave_2.f x.f0 x.f1 x.f2 x.f3 who = some (decide (x.f0 = who)) := fun x => by
    unfold lease_Leave_2.f; rw [beq_int]
  have h := part_loop 2932031007402 (by omega) rd_T42 rd42 (fun x => decide (x.f0 = who)) (fun k a b xs n' i => lease_Lease_26_at39.l0 k a b xs n' i who)
    (fun k a b xs n' i => by
      simp only [lease_Lease_26_at39.l0, e1, Option.bind_some]) L (by omega) L.length 0 [] [] (by omega) (by simp) (by simp) k (by omega)
  have h' : lease_Lease_26_at39.f k L who = some (L.filter (fun x => decide (x.f0 = who)), L.filter (fun x => !decide (x.f0 = who))) := by
    unfold lease_Lease_26_at39.f
    simpa using h
  have g := part_loop 3518437208883 (by omega) rd_T49 rd49 (fun x => decide (x.f0 = who)) (fun k a b xs n' i => lease_Ask_28_at40.l0 k a b xs n' i who)
    (fun k a b xs n' i => by
      simp only [lease_Ask_28_at40.l0, e2, Option.bind_some]) Q (by omega) Q.length 0 [] [] (by omega) (by simp) (by simp) k (by omega)
  have g' : lease_Ask_28_at40.f k Q who = some (Q.filter (fun x => decide (x.f0 = who)), Q.filter (fun x => !decide (x.f0 = who))) := by
    unfold lease_Ask_28_at40.f
    simpa using g
  unfold lease_Leave.f leaveS
  rw [time_f, h', g']
  simp only [Option.bind_some]
  rw [settle_f last _ _ now (by omega) (by omega) k hk]
  simp only [Option.bind_some]
  split <;> rfl
end Go.Proofs.YtjdadmjomjhpcaaDoor.Pl
