/- The document's own Cut: which bytes are outside, then the first sign that is. -/
import Derived.Test.YthnholondnfjoaaDoorPParsex10
import Derived.Test.YthnholondnfjoaaDoorCutPure
namespace Go.Proofs.YthnholondnfjoaaDoor.Pl
open Go.RowKit Go.Proofs.YthnholondnfjoaaDoor.PParse Go.Proofs.YthnholondnfjoaaDoorW.PrintWords Go.Proofs.YthnholondnfjoaaDoorW.PrintLast

/-- Of each byte: is it outside? k: what closes what is open. -/
def outGo : Nat → List UInt8 → List UInt8 → List Bool
  | 0, _, rest => List.replicate rest.length false
  | _ + 1, _, [] => []
  | f + 1, k, c :: t =>
    if c = 36 ∧ t.head? = some 40 then false :: false :: outGo f (41 :: k) (t.drop 1)
    else if c = 36 ∧ t.head? = some 123 then false :: false :: outGo f (125 :: k) (t.drop 1)
    else if k.head? = some c then false :: outGo f k.tail t
    else decide (k = []) :: outGo f k t
/-- The first sign at a byte that is outside. -/
def refGo (signs : List (List UInt8)) : List Bool → List UInt8 → List UInt8 → List UInt8 × List UInt8 × List UInt8
  | b :: m, pre, c :: t => if b then (match signAt signs (c :: t) with | some sg => (pre, sg, (c :: t).drop sg.length) | none => refGo signs m (pre ++ [c]) t) else refGo signs m (pre ++ [c]) t
  | _, pre, rest => (pre ++ rest, [], [])
theorem refGo_false (signs : List (List UInt8)) (m : List Bool) (pre : List UInt8) (c : UInt8) (t : List UInt8) : refGo signs (false :: m) pre (c :: t) = refGo signs m (pre ++ [c]) t := by
  rw [refGo]
  simp
theorem refGo_cut (signs : List (List UInt8)) : ∀ (f : Nat) (k pre rest : List UInt8), rest.length ≤ f → refGo signs (outGo f k rest) pre rest = cutGo signs f k pre rest
  | 0, k, pre, [], _ => by simp [outGo, refGo, cutGo]
  | 0, k, pre, c :: t, h => by simp at h
  | f + 1, k, pre, [], _ => by simp [outGo, refGo, cutGo]
  | f + 1, k, pre, c :: t, h => by
    have hf : t.length ≤ f := by simp at h; omega
    have h1 : (t.drop 1).length ≤ f := by rw [List.length_drop]; omega
    rw [outGo, cutGo]
    by_cases c1 : c = 36 ∧ t.head? = some 40
    · rw [if_pos c1, if_pos c1, refGo_false]
      cases t with
      | nil => simp at c1
      | cons d u =>
        obtain ⟨rfl, hd⟩ := c1
        simp at hd
        subst hd
        rw [refGo_false, show (40 :: u).drop 1 = u from rfl]
        have := refGo_cut signs f (41 :: k) (pre ++ [36, 40]) u (by simp at hf; omega)
        rw [← this]
        simp
    rw [if_neg c1, if_neg c1]
    by_cases c2 : c = 36 ∧ t.head? = some 123
    · rw [if_pos c2, if_pos c2, refGo_false]
      cases t with
      | nil => simp at c2
      | cons d u =>
        obtain ⟨rfl, hd⟩ := c2
        simp at hd
        subst hd
        rw [refGo_false, show (123 :: u).drop 1 = u from rfl]
        have := refGo_cut signs f (125 :: k) (pre ++ [36, 123]) u (by simp at hf; omega)
        rw [← this]
        simp
    rw [if_neg c2, if_neg c2]
    by_cases c3 : k.head? = some c
    · rw [if_pos c3, if_pos c3, refGo_false]
      exact refGo_cut signs f k.tail (pre ++ [c]) t hf
    rw [if_neg c3, if_neg c3]
    by_cases c4 : k = []
    · rw [decide_eq_true c4, refGo, if_pos rfl, if_pos c4, refGo_cut signs f k (pre ++ [c]) t hf]
      rfl
    · rw [decide_eq_false c4, refGo_false, if_neg c4]
      exact refGo_cut signs f k (pre ++ [c]) t hf
theorem outGo_len : ∀ (f : Nat) (k rest : List UInt8), rest.length ≤ f → (outGo f k rest).length = rest.length
  | 0, k, rest, h => by simp [outGo]
  | f + 1, k, [], _ => by simp [outGo]
  | f + 1, k, c :: t, h => by
    have hf : t.length ≤ f := by simp at h; omega
    have h1 : (t.drop 1).length ≤ f := by rw [List.length_drop]; omega
    rw [outGo]
    split
    · rename_i c1
      rw [List.length_cons, List.length_cons, outGo_len f _ _ h1]
      cases t with
      | nil => simp at c1
      | cons d u => simp
    · split
      · rename_i c1
        rw [List.length_cons, List.length_cons, outGo_len f _ _ h1]
        cases t with
        | nil => simp at c1
        | cons d u => simp
      · split
        · rw [List.length_cons, outGo_len f _ _ hf, List.length_cons]
        · rw [List.length_cons, outGo_len f _ _ hf, List.length_cons]
theorem set_mid (done : List Bool) (b : Bool) (n : Nat) : (done ++ List.replicate (n + 1) false).set done.length b = (done ++ [b]) ++ List.replicate n false := by
  rw [List.set_append_right _ _ (Nat.le_refl _), Nat.sub_self, List.replicate_succ, List.set_cons_zero, List.append_assoc]
  rfl
theorem out_nil (s : ByteArray) (pre k : List UInt8) (done : List Bool) (f : Nat) (hs : bl s = pre ++ []) :
    Ev (fun n => cooperageref9_outside.l0 n s (done ++ List.replicate ([] : List UInt8).length false) (nat8 k) (pre.length : Int)) (done ++ outGo f k []) := by
  have hc : outGo f k [] = [] := by cases f <;> simp [outGo]
  rw [hc]
  refine Ev.step (f := fun _ => some (done ++ [])) (fun n => ?_) (Ev.now _)
  rw [List.append_nil] at hs
  rw [cooperageref9_outside.l0, if_neg (by rw [bl_size, hs]; omega)]
  rfl
theorem rd_top (u : List UInt8) (d : UInt8) : rd (nat8 u ++ [(d.toNat : Int)]) (u.length : Int) = (d.toNat : Int) := by
  unfold rd
  rw [Int.toNat_natCast, ← nat8_len u, List.getD_eq_getElem?_getD, List.getElem?_append_right (Nat.le_refl _), Nat.sub_self]
  rfl
theorem take_top (u : List UInt8) (x : Int) : (nat8 u ++ [x]).take (u.length : Int).toNat = nat8 u := by rw [Int.toNat_natCast, ← nat8_len u, List.take_left]
theorem len_top (u : List UInt8) (x : Int) : ((nat8 u ++ [x]).length : Int) = (u.length : Int) + 1 := by rw [List.length_append, nat8_len]; rfl
theorem wrap_top (u : List UInt8) (x : Int) (h : u.length ≤ 1000000000) : wrap64 (((nat8 u ++ [x]).length : Int) - 1) = (u.length : Int) := by
  rw [len_top, wrap_sm] <;> omega
/-- A byte at which nothing opens. -/
theorem out_plain (s : ByteArray) (k : List UInt8) (c : UInt8) (p n : Nat) (done : List Bool) (M : List UInt8 → List Bool) (hb0 : Unit → bt s (p : Int) = (c.toNat : Int)) (hlt : (p : Int) < s.size) (hp : p ≤ 1000000000) (hk : k.length ≤ p) (hd : done.length = p)
    (one : ∀ (nx : List UInt8) (b : Bool), nx.length ≤ p + 1 → Ev (fun q => cooperageref9_outside.l0 q s ((done ++ [b]) ++ List.replicate n false) (nat8 nx) ((p + 1 : Nat) : Int)) ((done ++ [b]) ++ M nx)) :
    Ev (fun q => cooperageref9_outside.j1 q s (done ++ List.replicate (n + 1) false) (nat8 k) (p : Int) false) (done ++ (if k.head? = some c then false :: M k.tail else decide (k = []) :: M k)) := by
  have hset : ∀ b, (done ++ List.replicate (n + 1) false).set (p : Int).toNat b = (done ++ [b]) ++ List.replicate n false := by
    intro b
    rw [Int.toNat_natCast, ← hd]
    exact set_mid done b n
  have hll : (p : Int) < ((done ++ List.replicate (n + 1) false).length : Int) := by
    rw [List.length_append, List.length_replicate, hd]
    omega
  have hw1 : Unit → wrap64 ((p : Int) + 1) = ((p + 1 : Nat) : Int) := fun _ => wrap_succ _ (by omega)
  cases k with
  | nil =>
    rw [if_neg (by simp)]
    have h := one [] true (by simp)
    rw [List.append_assoc done [true] (M [])] at h
    refine Ev.step (fun q => ?_) h
    rw [cooperageref9_outside.j1, if_neg (by decide), if_neg (by simp [nat8]), if_pos (by omega), if_pos hll, hset, hw1 ()]
    rfl
  | cons d u =>
    have hul : u.length ≤ 1000000000 := by rw [List.length_cons] at hk; omega
    have hll2 := fun _ : Unit => len_top u (d.toNat : Int)
    have hww := fun _ : Unit => wrap_top u (d.toNat : Int) hul
    by_cases e : d = c
    · subst e
      rw [if_pos (show (d :: u).head? = some d from rfl)]
      have h := one u false (by rw [List.length_cons] at hk; omega)
      rw [List.append_assoc done [false] (M u), List.append_assoc done [false] (List.replicate n false)] at h
      refine Ev.step (fun q => ?_) h
      rw [cooperageref9_outside.j1, if_neg (by decide), nat8_cons, hww (), hll2 (), if_pos (by omega), if_pos (by omega), if_pos hlt, if_pos (by omega), if_pos (by omega), hb0 (), rd_top, if_pos rfl, if_pos (by omega), take_top, hw1 ()]
      rfl
    · rw [if_neg (by simpa using e)]
      have h := one (d :: u) false (by rw [List.length_cons] at hk ⊢; omega)
      rw [List.append_assoc done [false] (M (d :: u))] at h
      refine Ev.step (fun q => ?_) h
      rw [cooperageref9_outside.j1, if_neg (by decide), nat8_cons, hww (), hll2 (), if_pos (by omega), if_pos (by omega), if_pos hlt, if_pos (by omega), if_pos (by omega), hb0 (), rd_top, if_neg (by rw [u8_eq]; exact fun q => e q.symm), if_pos hll, hw1 ()]
      rw [show ((u.length : Int) + 1 == 0) = false from beq_eq_false_iff_ne.2 (by omega), hset]
theorem bt_mid (s : ByteArray) (pre t : List UInt8) (c : UInt8) (h : bl s = pre ++ c :: t) : bt s (pre.length : Int) = (c.toNat : Int) := by
  have hl : pre.length < (bl s).length := by rw [h, List.length_append, List.length_cons]; omega
  have e : (bl s)[pre.length]? = some c := by rw [h, List.getElem?_append_right (Nat.le_refl _), Nat.sub_self]; rfl
  rw [bt_nat s pre.length hl]
  rw [List.getElem?_eq_getElem hl] at e
  rw [Option.some.inj e]
theorem bt_mid2 (s : ByteArray) (pre t : List UInt8) (c d : UInt8) (h : bl s = pre ++ c :: d :: t) : bt s ((pre.length + 1 : Nat) : Int) = (d.toNat : Int) := by
  have := bt_mid s (pre ++ [c]) t d (by rw [h, List.append_assoc]; rfl)
  rw [List.length_append] at this
  exact this
theorem out_go (s : ByteArray) (hsz : (bl s).length ≤ 1000000000) : ∀ (f : Nat) (k pre rest : List UInt8) (done : List Bool), bl s = pre ++ rest → rest.length ≤ f → k.length ≤ pre.length → done.length = pre.length →
      Ev (fun n => cooperageref9_outside.l0 n s (done ++ List.replicate rest.length false) (nat8 k) (pre.length : Int)) (done ++ outGo f k rest) := by
  intro f
  induction f with
  | zero =>
    intro k pre rest done hs hf _ _
    obtain rfl : rest = [] := List.eq_nil_of_length_eq_zero (by omega)
    exact out_nil s pre k done 0 hs
  | succ f ih =>
    intro k pre rest done hs hf hk hd
    cases rest with
    | nil => exact out_nil s pre k done _ hs
    | cons c t =>
    have hlen : pre.length + t.length + 1 ≤ 1000000000 := by
      have := hsz
      rw [hs, List.length_append, List.length_cons] at this
      omega
    have hss : s.size = pre.length + (t.length + 1) := by rw [bl_size, hs, List.length_append, List.length_cons]
    have hlt : (pre.length : Int) < s.size := by omega
    have hf' : t.length ≤ f := by rw [List.length_cons] at hf; omega
    have hb0 := fun _ : Unit => bt_mid s pre t c hs
    have hw1 : Unit → wrap64 ((pre.length : Int) + 1) = ((pre.length + 1 : Nat) : Int) := fun _ => wrap_succ _ (by omega)
    have hw2 : Unit → wrap64 (((pre.length + 1 : Nat) : Int) + 1) = ((pre.length + 2 : Nat) : Int) := fun _ => by rw [wrap_succ (pre.length + 1) (by omega)]
    have one : ∀ (nx : List UInt8) (b : Bool), nx.length ≤ pre.length + 1 → Ev (fun n => cooperageref9_outside.l0 n s ((done ++ [b]) ++ List.replicate t.length false) (nat8 nx) ((pre.length + 1 : Nat) : Int)) ((done ++ [b]) ++ outGo f nx t) := by
      intro nx b hn
      have := ih nx (pre ++ [c]) t (done ++ [b]) (by rw [hs]; simp) hf' (by rw [List.length_append]; exact hn) (by rw [List.length_append, List.length_append, hd]; rfl)
      rw [show (pre ++ [c]).length = pre.length + 1 by simp] at this
      exact this
    have plain := out_plain s k c pre.length t.length done (fun nx => outGo f nx t) hb0 hlt (by omega) hk hd one
    rw [show (c :: t).length = t.length + 1 from rfl, outGo]
    by_cases c0 : c = 36
    · cases t with
      | nil =>
        rw [if_neg (by simp), if_neg (by simp)]
        refine Ev.step (fun n => ?_) plain
        rw [cooperageref9_outside.l0, if_pos hlt, if_pos (by omega), hb0 (), if_pos (by rw [c0]; rfl), hw1 (), if_neg (by rw [hss, List.length_nil]; omega)]
      | cons d u =>
        have hul : (d :: u).length = u.length + 1 := rfl
        have hlt1 : ((pre.length + 1 : Nat) : Int) < s.size := by omega
        have hb1 := fun _ : Unit => bt_mid2 s pre u c d hs
        have hrep : done ++ List.replicate ((d :: u).length + 1) false = (done ++ [false, false]) ++ List.replicate u.length false := by
          rw [hul, List.replicate_succ, List.replicate_succ, List.append_assoc]
          rfl
        have two : ∀ (x : UInt8), Ev (fun n => cooperageref9_outside.l0 n s (done ++ List.replicate ((d :: u).length + 1) false) (nat8 k ++ [(x.toNat : Int)]) ((pre.length + 2 : Nat) : Int)) (done ++ (false :: false :: outGo f (x :: k) u)) := by
          intro x
          have := ih (x :: k) (pre ++ [c, d]) u (done ++ [false, false]) (by rw [hs]; simp) (by omega) (by rw [List.length_append, List.length_cons]; simp; omega) (by rw [List.length_append, List.length_append, hd]; rfl)
          rw [show (pre ++ [c, d]).length = pre.length + 2 by simp, ← hrep, nat8_cons, List.append_assoc done [false, false]] at this
          exact this
        have hc36 : (c.toNat : Int) = 36 := by rw [c0]; rfl
        by_cases d1 : d = 40
        · rw [if_pos (show c = 36 ∧ (d :: u).head? = some 40 from ⟨c0, by rw [d1]; rfl⟩)]
          have hd40 : (d.toNat : Int) = 40 := by rw [d1]; rfl
          have h : Ev (fun n => cooperageref9_outside.j1 n s (done ++ List.replicate ((d :: u).length + 1) false) (nat8 k) (pre.length : Int) true) (done ++ (false :: false :: outGo f (41 :: k) u)) := by
            refine Ev.step (fun n => ?_) (two 41)
            rw [cooperageref9_outside.j1, if_pos rfl, hw1 (), if_pos (by omega), if_pos hlt1, hb1 (), hd40, if_neg (by decide), if_pos (by rw [nat8_len]; omega), hw2 ()]
            rfl
          refine Ev.step (fun n => ?_) h
          rw [cooperageref9_outside.l0, if_pos hlt, if_pos (by omega), hb0 (), if_pos hc36, hw1 (), if_pos hlt1, if_pos (by omega), hb1 (), if_pos hd40]
        · rw [if_neg (show ¬ (c = 36 ∧ (d :: u).head? = some 40) from fun q => d1 (by simpa using q.2))]
          have hb40 : ¬ ((d.toNat : Int) = 40) := fun q => d1 ((u8_eq d 40).1 q)
          by_cases d2 : d = 123
          · rw [if_pos (show c = 36 ∧ (d :: u).head? = some 123 from ⟨c0, by rw [d2]; rfl⟩)]
            have hd123 : (d.toNat : Int) = 123 := by rw [d2]; rfl
            have h : Ev (fun n => cooperageref9_outside.j1 n s (done ++ List.replicate ((d :: u).length + 1) false) (nat8 k) (pre.length : Int) true) (done ++ (false :: false :: outGo f (125 :: k) u)) := by
              refine Ev.step (fun n => ?_) (two 125)
              rw [cooperageref9_outside.j1, if_pos rfl, hw1 (), if_pos (by omega), if_pos hlt1, hb1 (), if_pos hd123, if_pos (by rw [nat8_len]; omega), hw2 ()]
              rfl
            refine Ev.step (fun n => ?_) h
            rw [cooperageref9_outside.l0, if_pos hlt, if_pos (by omega), hb0 (), if_pos hc36, hw1 (), if_pos hlt1, if_pos (by omega), hb1 (), if_neg hb40, hd123]
            rfl
          · rw [if_neg (show ¬ (c = 36 ∧ (d :: u).head? = some 123) from fun q => d2 (by simpa using q.2))]
            refine Ev.step (fun n => ?_) plain
            rw [cooperageref9_outside.l0, if_pos hlt, if_pos (by omega), hb0 (), if_pos hc36, hw1 (), if_pos hlt1, if_pos (by omega), hb1 (), if_neg hb40]
            rw [show ((d.toNat : Int) == 123) = false from beq_eq_false_iff_ne.2 (fun q => d2 ((u8_eq d 123).1 q))]
    · rw [if_neg (fun q => c0 q.1), if_neg (fun q => c0 q.1)]
      refine Ev.step (fun n => ?_) plain
      rw [cooperageref9_outside.l0, if_pos hlt, if_pos (by omega), hb0 (), if_neg (show ¬ ((c.toNat : Int) = 36) from fun q => c0 ((u8_eq c 36).1 q))]
theorem out_ev (s : ByteArray) (hsz : (bl s).length ≤ 1000000000) : Ev (fun n => cooperageref9_outside.f n s) (outGo (bl s).length [] (bl s)) := by
  unfold cooperageref9_outside.f
  have hs := bl_size s
  simp only [if_pos (show 0 ≤ (s.size : Int) by omega), if_pos (show ((s.size : Int)).toNat ≤ 281474976710656 by omega)]
  have := out_go s hsz (bl s).length [] [] (bl s) [] rfl (Nat.le_refl _) (Nat.le_refl _) rfl
  rw [Int.toNat_natCast, hs]
  exact this
set_option maxHeartbeats 4000000 in
/-- The signs' loop of the document's Cut. -/
theorem ref_l1 (s : ByteArray) (signs : List (List UInt8)) (is : List Bool) (pre rest : List UInt8) (hs : bl s = pre ++ rest) (hsz : (bl s).length ≤ 1000000000) (hn : signs.length ≤ 1000000000) (hsg : ∀ x ∈ signs, x.length ≤ 1000000000) (T : ByteArray × ByteArray × ByteArray) :
    ∀ (r d : List (List UInt8)), signs = d ++ r → (signAt r rest = none → Ev (fun n => cooperageref9_Cut.l0 n s (signs.map ofL) is ((pre.length + 1 : Nat) : Int)) T) → (∀ sg, signAt r rest = some sg → T = (ofL pre, ofL sg, ofL (rest.drop sg.length))) →
    Ev (fun n => cooperageref9_Cut.l1 n s (signs.map ofL) is (pre.length : Int) (d.length : Int)) T
  | [], d, hd, h0, _ => by
    have hlen : pre.length ≤ 1000000000 := by rw [hs] at hsz; simp at hsz; omega
    refine Ev.step (fun n => ?_) (h0 rfl)
    rw [cooperageref9_Cut.l1, if_neg (by rw [hd]; simp), wrap_succ _ (by omega)]
  | sg :: r, d, hd, h0, h1 => by
    have hlen : pre.length + rest.length ≤ 1000000000 := by rw [hs] at hsz; simp at hsz; omega
    have hss : s.size = pre.length + rest.length := by rw [bl_size, hs]; simp
    have hdl : d.length < signs.length := by rw [hd]; simp
    have hge : (signs.map ofL).length = signs.length := List.length_map ..
    have hsgl := hsg sg (by rw [hd]; simp)
    have hrd : rdOf ByteArray.empty (signs.map ofL) (d.length : Int) = ofL sg := by
      rw [rdOf_nat _ _ _ (by omega)]
      simp [hd]
    have ih := ref_l1 s signs is pre rest hs hsz hn hsg T r (d ++ [sg]) (by rw [hd]; simp)
    have hwr : Unit → wrap64 ((d.length : Int) + 1) = (((d ++ [sg]).length : Nat) : Int) := fun _ => by rw [wrap_succ _ (by omega)]; simp
    have hwn : Unit → wrap64 ((pre.length : Int) + ((ofL sg).size : Int)) = ((pre.length + sg.length : Nat) : Int) := fun _ => by rw [ofL_size, wrap_sm] <;> omega
    have ho := ofL_size sg
    have hex : (s.extract (pre.length : Int).toNat ((pre.length + sg.length : Nat) : Int).toNat).toList = rest.take sg.length := by
      rw [bl_toList, bl_extract, hs, Int.toNat_natCast, Int.toNat_natCast, List.drop_take, List.drop_left]
      congr 1
      omega
    by_cases e : sg = []
    · have hsa : signAt (sg :: r) rest = signAt r rest := by simp [signAt, e]
      rw [hsa] at h0 h1
      refine Ev.step (fun n => ?_) (ih h0 h1)
      rw [cooperageref9_Cut.l1, if_pos (by omega), if_pos (by omega), hrd, if_neg (by rw [ho, e]; simp), hwr ()]
    · have hpos : 0 < sg.length := List.length_pos_iff.2 e
      by_cases hp : sg.isPrefixOf rest = true
      · have hsa : signAt (sg :: r) rest = some sg := by simp [signAt, e, hp]
        rw [h1 sg hsa]
        refine Ev.step (f := fun _ => some (ofL pre, ofL sg, ofL (rest.drop sg.length))) (fun n => ?_) (Ev.now _)
        have hpre := List.isPrefixOf_iff_prefix.1 hp
        have hle := hpre.length_le
        rw [cooperageref9_Cut.l1, if_pos (by omega), if_pos (by omega), hrd, if_pos (by omega), hwn (), if_pos (by omega), if_pos (by omega), if_pos (by omega), hex, if_pos (by rw [bl_toList, bl_ofL]; exact (List.prefix_iff_eq_take.1 hpre).symm), if_pos (by omega), if_pos (by omega)]
        congr 1
        refine Prod.ext (bl_inj ?_) (Prod.ext rfl (bl_inj ?_))
        · rw [bl_extract_from, bl_ofL, hs, Int.toNat_natCast, List.take_left]
        · rw [bl_extract_to, hs, bl_ofL, Int.toNat_natCast, ← List.drop_drop, List.drop_left]
      · have hsa : signAt (sg :: r) rest = signAt r rest := by simp [signAt, hp]
        rw [hsa] at h0 h1
        refine Ev.step (fun n => ?_) (ih h0 h1)
        rw [cooperageref9_Cut.l1, if_pos (by omega), if_pos (by omega), hrd, if_pos (by omega), hwn ()]
        by_cases hle : ((pre.length + sg.length : Nat) : Int) ≤ (s.size : Int)
        · rw [if_pos hle, if_pos (by omega), if_pos (by omega), hex, if_neg (by
            rw [bl_toList, bl_ofL]
            intro q
            exact hp (List.isPrefixOf_iff_prefix.2 (List.prefix_iff_eq_take.2 q.symm))), hwr ()]
        · rw [if_neg hle, hwr ()]
set_option maxHeartbeats 4000000 in
theorem ref_l0 (s : ByteArray) (signs : List (List UInt8)) (hsz : (bl s).length ≤ 1000000000) (hn : signs.length ≤ 1000000000) (hsg : ∀ x ∈ signs, x.length ≤ 1000000000) :
    ∀ (m done : List Bool) (pre rest : List UInt8), bl s = pre ++ rest → m.length = rest.length → done.length = pre.length →
      Ev (fun n => cooperageref9_Cut.l0 n s (signs.map ofL) (done ++ m) (pre.length : Int)) (tr3 (refGo signs m pre rest))
  | m, done, pre, [], hs, hm, hd => by
    have hm0 : m = [] := List.eq_nil_of_length_eq_zero hm
    subst hm0
    refine Ev.step (f := fun _ => some (tr3 (pre, [], []))) (fun n => ?_) ?_
    · rw [List.append_nil] at hs
      rw [cooperageref9_Cut.l0, if_neg (by rw [bl_size, hs]; omega)]
      congr 1
      refine Prod.ext (bl_inj ?_) rfl
      rw [hs]
      exact (bl_ofL pre).symm
    · rw [refGo.eq_def]
      simp only [List.append_nil]
      exact Ev.now _
  | [], done, pre, c :: t, _, hm, _ => by simp at hm
  | b :: m, done, pre, c :: t, hs, hm, hd => by
    have hlen : pre.length + t.length + 1 ≤ 1000000000 := by rw [hs] at hsz; simp at hsz; omega
    have hlt : (pre.length : Int) < s.size := by rw [bl_size, hs]; simp; omega
    have hrd : rdOf false (done ++ b :: m) (pre.length : Int) = b := by
      rw [rdOf_nat _ _ _ (by simp [hd])]
      simp [← hd]
    have ih := ref_l0 s signs hsz hn hsg m (done ++ [b]) (pre ++ [c]) t (by rw [hs]; simp) (by simpa using hm) (by simp [hd])
    rw [show (done ++ [b]) ++ m = done ++ b :: m by simp, show (pre ++ [c]).length = pre.length + 1 by simp] at ih
    cases b with
    | false =>
      rw [refGo_false]
      refine Ev.step (fun n => ?_) ih
      rw [cooperageref9_Cut.l0, if_pos hlt, if_pos (by omega), if_pos (by simp [hd]; omega), hrd, if_neg (by decide), wrap_succ _ (by omega)]
    | true =>
      have h1 := ref_l1 s signs (done ++ true :: m) pre (c :: t) hs hsz hn hsg (tr3 (refGo signs (true :: m) pre (c :: t))) signs [] rfl
        (fun e => by rw [refGo, if_pos rfl, e]; exact ih) (fun sg e => by rw [refGo, if_pos rfl, e]; rfl)
      refine Ev.step (fun n => ?_) h1
      rw [cooperageref9_Cut.l0, if_pos hlt, if_pos (by omega), if_pos (by simp [hd]; omega), hrd, if_pos rfl]
      rfl
theorem refcut_ev (s : ByteArray) (signs : List (List UInt8)) (hsz : (bl s).length ≤ 1000000000) (hn : signs.length ≤ 1000000000) (hsg : ∀ x ∈ signs, x.length ≤ 1000000000) :
    Ev (fun n => cooperageref9_Cut.f n s (signs.map ofL)) (tr3 (cutL signs (bl s))) := by
  unfold cooperageref9_Cut.f
  refine Ev.bind (f := fun n t => cooperageref9_Cut.l0 n s (signs.map ofL) t 0) (out_ev s hsz) ?_
  have := ref_l0 s signs hsz hn hsg (outGo (bl s).length [] (bl s)) [] [] (bl s) rfl (outGo_len _ _ _ (Nat.le_refl _)) rfl
  rw [refGo_cut signs _ _ _ _ (Nat.le_refl _)] at this
  exact this
end Go.Proofs.YthnholondnfjoaaDoor.Pl
