-- Written by a program of this session (wip/tools/ext.py, over the kit's printer); not trusted: Lean checks it.
import Derived.Test.YthnholondnfjoaaDoorPParsex0
import Derived.Test.YthnholondnfjoaaDoorPParsex7
namespace Go.Proofs.YthnholondnfjoaaDoor.PParse
open Go.RowKit Go.Proofs.YthnholondnfjoaaDoorW.PrintWords Go.Proofs.YthnholondnfjoaaDoorW.PrintLast Go.Proofs.YthnholondnfjoaaDoorW.PrintMore
attribute [local go_sem] max2_int min2_int max_two min_two max_three min_three max_four min_four
set_option linter.unusedVariables false
set_option linter.unusedSimpArgs false
set_option maxHeartbeats 8000000
set_option maxRecDepth 100000

/-! ### cooperagelaw9_sames: function 19 -/
def cooperagelaw9_sames.l0 : Nat → List ByteArray → List ByteArray → Int → Option (Bool)
 | 0, _, _, _ => none
 | k + 1, x0, x1, x5 => if x5 < (x0.length : Int) then (if 0 ≤ x5 then (if x5 < (x1.length : Int) then (if (rdOf ByteArray.empty x0 x5).toList = (rdOf ByteArray.empty x1 x5).toList then (cooperagelaw9_sames.l0 k x0 x1 (wrap64 (x5 + 1))) else (some false)) else (none)) else (none)) else (some true)
def cooperagelaw9_sames.f (k : Nat) (l0 : List ByteArray) (l1 : List ByteArray) : Option (Bool) := if (l0.length : Int) = (l1.length : Int) then (cooperagelaw9_sames.l0 k l0 l1 0) else (some false)
theorem cooperagelaw9_sames.mono_l : ∀ k, (∀ y0 y1 y2, LeO (cooperagelaw9_sames.l0 k y0 y1 y2) (cooperagelaw9_sames.l0 (k + 1) y0 y1 y2))
 | 0 => fun _ _ _ r h => by simp [cooperagelaw9_sames.l0] at h
 | k + 1 => by
  have ih0 := cooperagelaw9_sames.mono_l k
  ·intro y0 y1 y2
   unfold cooperagelaw9_sames.l0
   exact zLe
theorem cooperagelaw9_sames.mono : ∀ a0 a1 k, LeO (cooperagelaw9_sames.f k a0 a1) (cooperagelaw9_sames.f (k + 1) a0 a1) := by
 intro a0 a1 k
 have ih0 := cooperagelaw9_sames.mono_l k
 unfold cooperagelaw9_sames.f
 exact zLe
theorem cooperagelaw9_sames.calls (k : Nat) (A0 : Option Addr) (c0 : Nat) (l0 : List ByteArray) (A1 : Option Addr) (c1 : Nat) (l1 : List ByteArray) (r : Bool) (w : World) (hr0 : Kd.C Kd.string w A0 l0.length l0) (hc0 : l0.length ≤ c0) (hr1 : Kd.C Kd.string w A1 l1.length l1) (hc1 : l1.length ≤ c1) (h : cooperagelaw9_sames.f k l0 l1 = some r) :
  Calls Tryd.prog 19 #[.slice A0 l0.length c0, .slice A1 l1.length c1] w fun e w' => e = .returned (.bool r) ∧ Drawn0 w w' := by
 have HR0 := ka hr0
 have HC0 := ka hc0
 clear hr0 hc0
 have HR1 := ka hr1
 have HC1 := ka hc1
 clear hr1 hc1
 have H : (if (l0.length : Int) = (l1.length : Int) then (cooperagelaw9_sames.l0 k l0 l1 0) else (some false)) = some r := h
 clear h
 by_cases c3 : (l0.length : Int) = (l1.length : Int)
 ·rw [if_pos c3] at H
  have c3b0 := zb0 c3
  have c3b1 := zb1 c3
  have c3b2 : (l0.length == l1.length) = true := by first | simpa using c3 | (simp at c3 ⊢; omega)
  clear c3
  have H' := ka H
  clear H
  go_enter Tryd.func19, Tryd.ntmps19
  go_wp2
  repeat (go_quiet (fail); try go_wp2)
  go_loopg [5] k (fun kq v5 w' => ∃ (x5_1 : Int), v5 = .int .i64 x5_1 ∧ Aside0 (cooperagelaw9_sames.l0 kq l0 l1 x5_1 = some r) ∧ Aside0 (kq ≤ k) ∧ Drawn0 w w')
  case atStart => exact ⟨(0), zS, H', ⟨Nat.le_refl _⟩, zd0⟩
  case round =>
   clear H'
   try clear c3
   try clear c3b0
   try clear c3b1
   try clear c3b2
   obtain ⟨x5_1, rfl, HA, HK1, ⟨m1, rfl⟩⟩ := hrel
   cases gk with
   | zero => exact absurd HA.out (by simp [cooperagelaw9_sames.l0])
   | succ k1 =>
    have H := HA.out
    clear HA
    simp only [cooperagelaw9_sames.l0] at H
    by_cases c4 : x5_1 < (l0.length : Int)
    ·rw [if_pos c4] at H
     have c4b0 := zdt c4
     clear c4
     replace H := zif H
     obtain ⟨c5, H⟩ := H
     have c5b0 := zdt c5
     clear c5
     replace H := zif H
     obtain ⟨c6, H⟩ := H
     have c6b0 := zdt c6
     clear c6
     by_cases c7 : (rdOf ByteArray.empty l0 x5_1).toList = (rdOf ByteArray.empty l1 x5_1).toList
     ·rw [if_pos c7] at H
      have c7b0 := zb0 c7
      have c7b1 := zb1 c7
      clear c7
      have H' := ka H
      clear H
      have p248 : 0 ≤ (x5_1 : Int) := zD
      have q248 : x5_1 < (l0.length : Int) := zD
      obtain ⟨ad248, e248, hx248_0⟩ := Kd.at_string HR0.out x5_1 p248 q248
      cases e248
      replace p248 := eq_true p248
      replace q248 := eq_true q248
      have p249 : 0 ≤ (x5_1 : Int) := zD
      have q249 : x5_1 < (l1.length : Int) := zD
      obtain ⟨ad249, e249, hx249_0⟩ := Kd.at_string HR1.out x5_1 p249 q249
      cases e249
      replace p249 := eq_true p249
      replace q249 := eq_true q249
      go_wp2
      repeat (go_quiet (fail); try go_wp2)
      go_roundg k1
      case measure => have := HK1.out; omega
      case rel => exact ⟨(wrap64 (x5_1 + 1)), zS, H', ⟨by have := HK1.out; omega⟩, zd0⟩
     rw [if_neg c7] at H
     have c7b0 := zn0 c7
     have c7b1 := zn1 c7
     obtain rfl := Option.some.inj H
     have p248 : 0 ≤ (x5_1 : Int) := zD
     have q248 : x5_1 < (l0.length : Int) := zD
     obtain ⟨ad248, e248, hx248_0⟩ := Kd.at_string HR0.out x5_1 p248 q248
     cases e248
     replace p248 := eq_true p248
     replace q248 := eq_true q248
     have p249 : 0 ≤ (x5_1 : Int) := zD
     have q249 : x5_1 < (l1.length : Int) := zD
     obtain ⟨ad249, e249, hx249_0⟩ := Kd.at_string HR1.out x5_1 p249 q249
     cases e249
     replace p249 := eq_true p249
     replace q249 := eq_true q249
     go_wp2
     repeat (go_quiet (fail); try go_wp2)
     go_ret
     exact ⟨by first | rfl | (simp; done) | (simp [*]; done), zd0⟩
    rw [if_neg c4] at H
    have c4b0 := zdf c4
    clear c4
    obtain rfl := Option.some.inj H
    go_wp2
    repeat (go_quiet (fail); try go_wp2)
    go_ret
    exact ⟨by first | rfl | (simp; done) | (simp [*]; done), zd0⟩
 rw [if_neg c3] at H
 have c3b0 := zn0 c3
 have c3b1 := zn1 c3
 have c3b2 : (l0.length == l1.length) = false := by first | simpa using c3 | (simp at c3 ⊢; omega)
 obtain rfl := Option.some.inj H
 go_enter Tryd.func19, Tryd.ntmps19
 go_wp2
 repeat (go_quiet (fail); try go_wp2)
 go_ret
 exact ⟨by first | rfl | (simp; done) | (simp [*]; done), zd0⟩

/-! ### cooperagelaw9_shown: function 10 -/
def cooperagelaw9_shown.j0 : Nat → List (S45) → Bool → Option (Bool)
 | 0, _, _ => none
 | k + 1, x1, x25 => if x25 = true then (some false) else (if 0 < (x1.length : Int) then (if 1 < (x1.length : Int) then (if ((rd_T45 x1 0).f0) = 1 then (if ((rd_T45 x1 0).f2).toList = ([58, 61] : List UInt8) then (if ((rd_T45 x1 0).f3).toList = ([97] : List UInt8) then (if ((rd_T45 x1 0).f4).toList = ([36, 40, 120, 58, 121, 61, 122, 41] : List UInt8) then (if ((rd_T45 x1 1).f0) = 2 then (if ((rd_T45 x1 1).f1) = 2 then (if ((rd_T45 x1 1).f5).toList = ([116, 32, 36, 40, 98, 41] : List UInt8) then (if ((rd_T45 x1 1).f6).toList = ([37, 46, 111] : List UInt8) then (if ((rd_T45 x1 1).f7).toList = ([37, 46, 99] : List UInt8) then (if ((rd_T45 x1 1).f8).toList = ([100] : List UInt8) then ((cooperagelaw9_sames.f k ((rd_T45 x1 1).f9) (([(⟨#[99, 99]⟩ : ByteArray)] : List ByteArray))).bind fun t265 => (some t265)) else (some false)) else (some false)) else (some false)) else (some false)) else (some false)) else (some false)) else (some false)) else (some false)) else (some false)) else (some false)) else (none)) else (none))
def cooperagelaw9_shown.f (k : Nat)  : Option (Bool) := (parse_Parse.f k (([(⟨1, false, (⟨#[97, 32, 58, 61, 32, 36, 40, 120, 58, 121, 61, 122, 41]⟩ : ByteArray)⟩ : S43), (⟨2, false, (⟨#[116, 32, 36, 40, 98, 41, 58, 32, 37, 46, 111, 32, 58, 32, 37, 46, 99, 32, 124, 32, 100]⟩ : ByteArray)⟩ : S43), (⟨3, true, (⟨#[99, 99]⟩ : ByteArray)⟩ : S43)] : List (S43)))).bind fun bt253 => (if bt253.2.1 = 0 then (if bt253.2.2 = 0 then (cooperagelaw9_shown.j0 k bt253.1 ((bt253.1.length : Int) != 2)) else (cooperagelaw9_shown.j0 k bt253.1 true)) else (cooperagelaw9_shown.j0 k bt253.1 true))
theorem cooperagelaw9_shown.mono_l : ∀ k, (∀ y0 y1, LeO (cooperagelaw9_shown.j0 k y0 y1) (cooperagelaw9_shown.j0 (k + 1) y0 y1))
 | 0 => fun _ _ r h => by simp [cooperagelaw9_shown.j0] at h
 | k + 1 => by
  have ih0 := cooperagelaw9_shown.mono_l k
  ·intro y0 y1
   unfold cooperagelaw9_shown.j0
   have m0 := @cooperagelaw9_sames.mono
   have m1 := @parse_Parse.mono
   exact zLe
theorem cooperagelaw9_shown.mono : ∀ k, LeO (cooperagelaw9_shown.f k ) (cooperagelaw9_shown.f (k + 1) ) := by
 intro  k
 have ih0 := cooperagelaw9_shown.mono_l k
 unfold cooperagelaw9_shown.f
 have m0 := @cooperagelaw9_sames.mono
 have m1 := @parse_Parse.mono
 exact zLe
theorem cooperagelaw9_shown.calls (k : Nat)  (r : Bool) (w : World) (h : cooperagelaw9_shown.f k  = some r) :
  Calls Tryd.prog 10 #[] w fun e w' => e = .returned (.bool r) ∧ Below w.heap.size w w' := by
 have hu43 := Tryd.underlying43
 have hu45 := Tryd.underlying45
 have HB := ka (Below.refl w.heap.size w)
 have H : ((parse_Parse.f k (([(⟨1, false, (⟨#[97, 32, 58, 61, 32, 36, 40, 120, 58, 121, 61, 122, 41]⟩ : ByteArray)⟩ : S43), (⟨2, false, (⟨#[116, 32, 36, 40, 98, 41, 58, 32, 37, 46, 111, 32, 58, 32, 37, 46, 99, 32, 124, 32, 100]⟩ : ByteArray)⟩ : S43), (⟨3, true, (⟨#[99, 99]⟩ : ByteArray)⟩ : S43)] : List (S43)))).bind fun bt253 => (if bt253.2.1 = 0 then (if bt253.2.2 = 0 then (cooperagelaw9_shown.j0 k bt253.1 ((bt253.1.length : Int) != 2)) else (cooperagelaw9_shown.j0 k bt253.1 true)) else (cooperagelaw9_shown.j0 k bt253.1 true))) = some r := h
 clear h
 obtain ⟨y250, hy250⟩ : ∃ y_ : List (S43), y_ = (([(⟨1, false, (⟨#[97, 32, 58, 61, 32, 36, 40, 120, 58, 121, 61, 122, 41]⟩ : ByteArray)⟩ : S43), (⟨2, false, (⟨#[116, 32, 36, 40, 98, 41, 58, 32, 37, 46, 111, 32, 58, 32, 37, 46, 99, 32, 124, 32, 100]⟩ : ByteArray)⟩ : S43), (⟨3, true, (⟨#[99, 99]⟩ : ByteArray)⟩ : S43)] : List (S43))) := ⟨_, rfl⟩
 replace H : ((parse_Parse.f k y250).bind fun bt253 => (if bt253.2.1 = 0 then (if bt253.2.2 = 0 then (cooperagelaw9_shown.j0 k bt253.1 ((bt253.1.length : Int) != 2)) else (cooperagelaw9_shown.j0 k bt253.1 true)) else (cooperagelaw9_shown.j0 k bt253.1 true))) = some r := zH hy250 H
 have Ny250 := ka hy250
 clear hy250
 replace H := Option.bind_eq_some_iff.mp H
 obtain ⟨⟨t253, t254, t255⟩, A10, H⟩ := H
 try dsimp only at H
 have A1 := ka A10
 clear A10
 have HC2 := ka H
 clear H
 go_enter Tryd.func10, Tryd.ntmps10
 go_upto_region 2 with (first | ((with_reducible refine gate_dst (N := 10) rfl ?_); (try (refine gate_guard (by rfl) ?_; dsimp only)); refine Kd.R_lit k43 _ 43 ?hg (N := 10) ?hd (xs := ([(⟨1, false, (⟨#[97, 32, 58, 61, 32, 36, 40, 120, 58, 121, 61, 122, 41]⟩ : ByteArray)⟩ : S43), (⟨2, false, (⟨#[116, 32, 36, 40, 98, 41, 58, 32, 37, 46, 111, 32, 58, 32, 37, 46, 99, 32, 124, 32, 100]⟩ : ByteArray)⟩ : S43), (⟨3, true, (⟨#[99, 99]⟩ : ByteArray)⟩ : S43)] : List (S43))) (inner := [.int .i64 1, .bool false, .string ⟨#[97, 32, 58, 61, 32, 36, 40, 120, 58, 121, 61, 122, 41]⟩, .int .i64 2, .bool false, .string ⟨#[116, 32, 36, 40, 98, 41, 58, 32, 37, 46, 111, 32, 58, 32, 37, 46, 99, 32, 124, 32, 100]⟩, .int .i64 3, .bool true, .string ⟨#[99, 99]⟩]) (ok := fun _ => True) (okp := fun _ => True) ?hr ?hp (fun _ hk => hk) trivial (Below.refl _ _) (Nat.le_refl _) (by simp) ?_; (case hd => rfl); (case hg => rfl); (case hr => (go_simp; try rfl)); (case hp => exact (Reps.c3 (show Kd.M k43 _ _ _ (⟨1, false, (⟨#[97, 32, 58, 61, 32, 36, 40, 120, 58, 121, 61, 122, 41]⟩ : ByteArray)⟩ : S43) [.int .i64 1, .bool false, .string ⟨#[97, 32, 58, 61, 32, 36, 40, 120, 58, 121, 61, 122, 41]⟩] from (k43_mkM _ _ _ (⟨1, false, (⟨#[97, 32, 58, 61, 32, 36, 40, 120, 58, 121, 61, 122, 41]⟩ : ByteArray)⟩ : S43) )) (Reps.c3 (show Kd.M k43 _ _ _ (⟨2, false, (⟨#[116, 32, 36, 40, 98, 41, 58, 32, 37, 46, 111, 32, 58, 32, 37, 46, 99, 32, 124, 32, 100]⟩ : ByteArray)⟩ : S43) [.int .i64 2, .bool false, .string ⟨#[116, 32, 36, 40, 98, 41, 58, 32, 37, 46, 111, 32, 58, 32, 37, 46, 99, 32, 124, 32, 100]⟩] from (k43_mkM _ _ _ (⟨2, false, (⟨#[116, 32, 36, 40, 98, 41, 58, 32, 37, 46, 111, 32, 58, 32, 37, 46, 99, 32, 124, 32, 100]⟩ : ByteArray)⟩ : S43) )) (Reps.c3 (show Kd.M k43 _ _ _ (⟨3, true, (⟨#[99, 99]⟩ : ByteArray)⟩ : S43) [.int .i64 3, .bool true, .string ⟨#[99, 99]⟩] from (k43_mkM _ _ _ (⟨3, true, (⟨#[99, 99]⟩ : ByteArray)⟩ : S43) )) (Reps.none _ _))))); intro v251 w3 ho4 hb hg_ hnew_; clear hg_ hnew_; (first | rw [← Ny250.out] at ho4 | (simp only [Int.reduceToNat] at ho4; rw [← Ny250.out] at ho4)); have HO252 := ka (Kd.R_lower ho4 (below_size (zL HB.out))); replace HB := ka (below_step (zL HB.out) hb); clear hb ho4; obtain ⟨Ao5, co5, eo5⟩ := Kd.R_slice HO252.out; subst eo5) | ((with_reducible refine gate_callee (f := 12) rfl ?_); refine goesL_ (some 11) rfl rfl Tryd.func12 (by kernel_rfl) rfl #[.slice Ao5 y250.length co5] rfl zA ?_; (with_reducible refine (parse_Parse.calls k _ _ y250 t253 t254 t255 _ ?side1 ?side2 A1.out).mono ?_); (case side1 => exact zCS (Kd.R_reads' HO252.out).2.2); (case side2 => exact (Kd.R_reads' HO252.out).2.1); rintro e w6 ⟨v256, rfl, ho0, hb⟩; refine ⟨_, rfl, ?_⟩; replace HO252 := ka (Kd.R_below (zR HO252.out) hb); have HO257 := ka (Kd.S_lower ho0 (below_size (zL HB.out))); replace HB := ka (below_step (zL HB.out) hb); (try clear hb); (try clear hb2); (try clear hk); (try clear hi); (try clear ho0)))
 (try simp only [Act.put, List.setIfInBounds_toArray, List.set_cons_zero, List.set_cons_succ])
 go_cut [25] (fun v25 wc => ∃ (kq : Nat) (x25_1 : Bool), v25 = .bool x25_1 ∧ Aside0 (cooperagelaw9_shown.j0 kq t253 x25_1 = some r) ∧ Aside0 (kq ≤ k) ∧ Aside0 (Kd.S k45 45 wc w.heap.size (fun _ => True) v256 t253) ∧ Aside0 (Below w.heap.size w wc))
 case first =>
  have H := HC2.out
  clear HC2
  by_cases c7 : t254 = 0
  ·rw [if_pos c7] at H
   have c7b0 := zb0 c7
   have c7b1 := zb1 c7
   clear c7
   (first | rw [c7b0] | (simp only [i64_w, i32_w]; rw [c7b0]) | rw [isE_ c7b0] | skip)
   by_cases c8 : t255 = 0
   ·rw [if_pos c8] at H
    have c8b0 := zb0 c8
    have c8b1 := zb1 c8
    clear c8
    have H' := ka H
    clear H
    obtain ⟨Ao9, co9, eo9⟩ := Kd.S_slice HO257.out
    subst eo9
    go_wp2
    go_meet
    case rel => exact ⟨_, (((t253.length : Int) != 2)), zS, H', ⟨by first | omega | exact Nat.le_refl _⟩, ⟨zRS HO257.out⟩, ⟨zL HB.out⟩⟩
   rw [if_neg c8] at H
   have c8b0 := zn0 c8
   have c8b1 := zn1 c8
   have H' := ka H
   clear H
   go_wp2
   go_meet
   case rel => exact ⟨_, (true), zS, H', ⟨by first | omega | exact Nat.le_refl _⟩, ⟨zRS HO257.out⟩, ⟨zL HB.out⟩⟩
  rw [if_neg c7] at H
  have c7b0 := zn0 c7
  have c7b1 := zn1 c7
  (first | rw [c7b0] | (simp only [i64_w, i32_w]; rw [c7b0]) | rw [isE_ c7b0] | skip)
  have H' := ka H
  clear H
  go_wp2
  go_meet
  case rel => exact ⟨_, (true), zS, H', ⟨by first | omega | exact Nat.le_refl _⟩, ⟨zRS HO257.out⟩, ⟨zL HB.out⟩⟩
 case rest =>
  clear HC2
  try clear c3
  obtain ⟨kq, x25_1, rfl, HA, HJ1, HO_1, HB⟩ := hcut
  cases kq with
  | zero => exact absurd HA.out (by simp [cooperagelaw9_shown.j0])
  | succ kj1 =>
   have H := HA.out
   clear HA
   simp only [cooperagelaw9_shown.j0] at H
   by_cases c10 : x25_1 = true
   case pos =>
    subst c10
    rw [if_pos rfl] at H
    obtain rfl := Option.some.inj H
    go_wp2
    go_ret
    exact ⟨zE, zL HB.out⟩
   case' neg =>
    replace c10 := Bool.eq_false_iff.mpr c10
    subst c10
    rw [if_neg (show ¬ (false = true) by decide)] at H
    by_cases c11 : 0 < (t253.length : Int)
    case neg =>
     rw [if_neg c11] at H
     exact absurd H (by simp)
    case' pos =>
     rw [if_pos c11] at H
     have c11b0 := zdt c11
     have c11b1 : decide (0 < t253.length) = true := decide_eq_true (by omega)
     clear c11
     by_cases c12 : 1 < (t253.length : Int)
     case neg =>
      rw [if_neg c12] at H
      exact absurd H (by simp)
     case' pos =>
      rw [if_pos c12] at H
      have c12b0 := zdt c12
      have c12b1 : decide (1 < t253.length) = true := decide_eq_true (by omega)
      clear c12
      by_cases c13 : ((rd_T45 t253 0).f0) = 1
      case' neg =>
       rw [if_neg c13] at H
       have c13b0 := zn0 c13
       have c13b1 := zn1 c13
      case' pos =>
       rw [if_pos c13] at H
       have c13b0 := zb0 c13
       have c13b1 := zb1 c13
       clear c13
       by_cases c14 : ((rd_T45 t253 0).f2).toList = ([58, 61] : List UInt8)
       case' neg =>
        rw [if_neg c14] at H
        have c14b0 := zn0 c14
        have c14b1 := zn1 c14
       case' pos =>
        rw [if_pos c14] at H
        have c14b0 := zb0 c14
        have c14b1 := zb1 c14
        clear c14
        by_cases c15 : ((rd_T45 t253 0).f3).toList = ([97] : List UInt8)
        case' neg =>
         rw [if_neg c15] at H
         have c15b0 := zn0 c15
         have c15b1 := zn1 c15
        case' pos =>
         rw [if_pos c15] at H
         have c15b0 := zb0 c15
         have c15b1 := zb1 c15
         clear c15
         by_cases c16 : ((rd_T45 t253 0).f4).toList = ([36, 40, 120, 58, 121, 61, 122, 41] : List UInt8)
         case' neg =>
          rw [if_neg c16] at H
          have c16b0 := zn0 c16
          have c16b1 := zn1 c16
         case' pos =>
          rw [if_pos c16] at H
          have c16b0 := zb0 c16
          have c16b1 := zb1 c16
          clear c16
          by_cases c17 : ((rd_T45 t253 1).f0) = 2
          case' neg =>
           rw [if_neg c17] at H
           have c17b0 := zn0 c17
           have c17b1 := zn1 c17
          case' pos =>
           rw [if_pos c17] at H
           have c17b0 := zb0 c17
           have c17b1 := zb1 c17
           clear c17
           by_cases c18 : ((rd_T45 t253 1).f1) = 2
           case' neg =>
            rw [if_neg c18] at H
            have c18b0 := zn0 c18
            have c18b1 := zn1 c18
           case' pos =>
            rw [if_pos c18] at H
            have c18b0 := zb0 c18
            have c18b1 := zb1 c18
            clear c18
            by_cases c19 : ((rd_T45 t253 1).f5).toList = ([116, 32, 36, 40, 98, 41] : List UInt8)
            case' neg =>
             rw [if_neg c19] at H
             have c19b0 := zn0 c19
             have c19b1 := zn1 c19
            case' pos =>
             rw [if_pos c19] at H
             have c19b0 := zb0 c19
             have c19b1 := zb1 c19
             clear c19
             by_cases c20 : ((rd_T45 t253 1).f6).toList = ([37, 46, 111] : List UInt8)
             case' neg =>
              rw [if_neg c20] at H
              have c20b0 := zn0 c20
              have c20b1 := zn1 c20
             case' pos =>
              rw [if_pos c20] at H
              have c20b0 := zb0 c20
              have c20b1 := zb1 c20
              clear c20
              by_cases c21 : ((rd_T45 t253 1).f7).toList = ([37, 46, 99] : List UInt8)
              case' neg =>
               rw [if_neg c21] at H
               have c21b0 := zn0 c21
               have c21b1 := zn1 c21
              case' pos =>
               rw [if_pos c21] at H
               have c21b0 := zb0 c21
               have c21b1 := zb1 c21
               clear c21
               by_cases c22 : ((rd_T45 t253 1).f8).toList = ([100] : List UInt8)
               case pos =>
                rw [if_pos c22] at H
                have c22b0 := zb0 c22
                have c22b1 := zb1 c22
                clear c22
                obtain ⟨y262, hy262⟩ : ∃ y_ : List ByteArray, y_ = (([(⟨#[99, 99]⟩ : ByteArray)] : List ByteArray)) := ⟨_, rfl⟩
                replace H : ((cooperagelaw9_sames.f kj1 ((rd_T45 t253 1).f9) y262).bind fun t265 => (some t265)) = some r := zH hy262 H
                have Ny262 := ka hy262
                clear hy262
                replace H := Option.bind_eq_some_iff.mp H
                obtain ⟨t265, A230, H⟩ := H
                try dsimp only at H
                have A23 := ka A230
                clear A230
                obtain rfl := Option.some.inj H
                obtain ⟨Ao24, co24, eo24⟩ := Kd.S_slice HO_1.out
                subst eo24
                have p258 : 0 ≤ (0 : Int) := (by omega)
                have q258 : 0 < (t253.length : Int) := zD
                obtain ⟨ad258, A258_9, c258_9, e258, hx258_0, hx258_1, hx258_2, hx258_3, hx258_4, hx258_5, hx258_6, hx258_7, hx258_8, hx258_9, hl258_9, hi258_9⟩ := at_T45 (Kd.S_reads' HO_1.out).2.2 0 p258 q258
                cases e258
                obtain ⟨ce258, hce258, hMe258, hcc258⟩ := Kd.S_get HO_1.out z45 0 p258 (by first | exact q258 | exact zD | (have e_ := (Kd.S_reads' HO_1.out).1; omega))
                obtain ⟨ve258_9, rfl, ge258_9⟩ := k45_openM hMe258
                have hv258_9 := hcc258 9 _ rfl
                rw [add_field _ _ 9 (by omega)] at hv258_9
                replace hv258_9 := Option.some.inj (hv258_9.symm.trans hx258_9)
                rw [hv258_9] at ge258_9
                have HL258_9 := ka (show Kd.R Kd.string 9 _ _ _ _ ((rd_T45 t253 0).f9) from ge258_9)
                clear hv258_9 ge258_9
                clear hcc258 hce258
                have qi258 : (0 < t253.length) = True := eq_true (by omega)
                (try simp only [show ((0 : Int)).toNat = 0 from rfl, show 0 * 10 = 0 from rfl, Addr.add_zero'] at hx258_0 hx258_1 hx258_2 hx258_3 hx258_4 hx258_5 hx258_6 hx258_7 hx258_8 hx258_9)
                have HR258_9 := ka hi258_9
                have HC258_9 := ka hl258_9
                clear hi258_9 hl258_9
                replace p258 := eq_true p258
                replace q258 := eq_true q258
                go_wp2_with (first | ((with_reducible refine gate_dst (N := 4) rfl ?_); (try (refine gate_guard (by rfl) ?_; dsimp only)); refine box_event ?hg (N := 4) ?hd (cs := #[.int .i64 0, .int .i64 0, .string ⟨#[]⟩, .string ⟨#[]⟩, .string ⟨#[]⟩, .string ⟨#[]⟩, .string ⟨#[]⟩, .string ⟨#[]⟩, .string ⟨#[]⟩, .slice none 0 0]) (t := 45) ?hr ?_; (case hd => rfl); (case hg => rfl); (case hr => (go_simp; try rfl)); intro gb259 hg w25 hbox hb; replace HO_1 := ka (Kd.S_below (Kd.S_elderB (zRS HO_1.out) gb259 (Nat.le_of_eq hg.symm)) hb); replace HL258_9 := ka (Kd.R_below (zR HL258_9.out) hb); replace HR258_9 := ka (zCB HR258_9.out hb); have BK259 := ka (hbox); have GW259 := ka (zG hg (zL HB.out)); have GE259 := ka (zG hg (zL HB.out)); replace HB := ka (below_step (zL HB.out) hb); clear hb hbox hg; obtain ⟨z26_0, z26_1, z26_2, z26_3, z26_4, z26_5, z26_6, z26_7, z26_8, z26_9, y26_0, y26_1, y26_2, y26_3, y26_4, y26_5, y26_6, y26_7, y26_8, y26_9⟩ := zC10 BK259.out) | ((with_reducible refine gate_store (t := 45) (p := 4) rfl ?_); refine store_event (t := 45) (p := 4) (v := ?vo_w27) (w1 := ((((((((((w25.setCell ⟨gb259, 0, none⟩ (.int .i64 ((rd_T45 t253 0).f0))).setCell ⟨gb259, 1, none⟩ (.int .i64 ((rd_T45 t253 0).f1))).setCell ⟨gb259, 2, none⟩ (.string ((rd_T45 t253 0).f2))).setCell ⟨gb259, 3, none⟩ (.string ((rd_T45 t253 0).f3))).setCell ⟨gb259, 4, none⟩ (.string ((rd_T45 t253 0).f4))).setCell ⟨gb259, 5, none⟩ (.string ((rd_T45 t253 0).f5))).setCell ⟨gb259, 6, none⟩ (.string ((rd_T45 t253 0).f6))).setCell ⟨gb259, 7, none⟩ (.string ((rd_T45 t253 0).f7))).setCell ⟨gb259, 8, none⟩ (.string ((rd_T45 t253 0).f8))).setCell ⟨gb259, 9, none⟩ (.slice A258_9 ((rd_T45 t253 0).f9).length c258_9))) ?hg ?ho ?hn ?hr ?_; (case ho => rfl); (case hg => rfl); (case hn => rfl); (case hr => (go_simp; try rfl)); intro w27 hw; have n0_ : Aside0 (Kd.S k45 45 w27 w.heap.size (fun k_ => k_ ≠ gb259) (.slice (some ad258) t253.length co24) t253) := ⟨(by rw [hw]; exact (by (with_reducible repeat (first | apply Kd.S_alloc | apply Kd.S_drewN | apply Kd.S_drew)); exact Kd.S_mono (zNMS HO_1.out (g := gb259) (fun _ hk => hk.2)) (fun _ hk => hk.1.2)))⟩; have n1_ : Aside0 (Kd.R Kd.string 9 w27 w.heap.size (fun k_ => some k_ ≠ (.slice (some ad258) t253.length co24 : Value).ownBlock) (.slice A258_9 ((rd_T45 t253 0).f9).length c258_9) ((rd_T45 t253 0).f9)) := ⟨(by rw [hw]; exact (by (with_reducible repeat (first | apply Kd.R_alloc | apply Kd.R_drewN | apply Kd.R_drew)); exact Kd.R_mono (zNT HL258_9.out BK259.out) (fun _ hk => hk.1.2)))⟩; have n2_ : Aside0 (w27.heap[gb259]? = some (.cells #[.int .i64 ((rd_T45 t253 0).f0), .int .i64 ((rd_T45 t253 0).f1), .string ((rd_T45 t253 0).f2), .string ((rd_T45 t253 0).f3), .string ((rd_T45 t253 0).f4), .string ((rd_T45 t253 0).f5), .string ((rd_T45 t253 0).f6), .string ((rd_T45 t253 0).f7), .string ((rd_T45 t253 0).f8), .slice A258_9 ((rd_T45 t253 0).f9).length c258_9] 45 (0, 0))) := ⟨(by rw [hw]; exact (zP10 BK259.out))⟩; have n3_ : Aside0 (Below w.heap.size w w27) := ⟨(by rw [hw]; exact (zL HB.out))⟩; have n4_ : Aside0 (Kd.C Kd.string w27 A258_9 ((rd_T45 t253 0).f9).length ((rd_T45 t253 0).f9)) := ⟨(by rw [hw]; exact (((Kd.R_reads' (zT HL258_9.out BK259.out)).2.2)))⟩; clear hw; revert n0_ n1_ n2_ n3_ n4_; clear HO_1 HL258_9 BK259 HB HR258_9; intro HO_1 HL258_9 BK259 HB HR258_9; have p260 : 0 ≤ (1 : Int) := (by omega); have q260 : 1 < (t253.length : Int) := zD; obtain ⟨ad260, A260_9, c260_9, e260, hx260_0, hx260_1, hx260_2, hx260_3, hx260_4, hx260_5, hx260_6, hx260_7, hx260_8, hx260_9, hl260_9, hi260_9⟩ := at_T45 (Kd.S_reads' HO_1.out).2.2 1 p260 q260; obtain rfl : ad258 = ad260 := (by injection e260); obtain ⟨ce260, hce260, hMe260, hcc260⟩ := Kd.S_get HO_1.out z45 1 p260 (by first | exact q260 | exact zD | (have e_ := (Kd.S_reads' HO_1.out).1; omega)); obtain ⟨ve260_9, rfl, ge260_9⟩ := k45_openM hMe260; have hv260_9 := hcc260 9 _ rfl; rw [add_field _ _ 9 (by omega)] at hv260_9; replace hv260_9 := Option.some.inj (hv260_9.symm.trans hx260_9); rw [hv260_9] at ge260_9; have HL260_9 := ka (show Kd.R Kd.string 9 _ _ _ _ ((rd_T45 t253 1).f9) from ge260_9); clear hv260_9 ge260_9; clear hcc260 hce260; (try simp only [show (1 : Int).toNat = 1 from rfl, Nat.reduceMul, Nat.reduceEqDiff, Go.Addr.add, ↓reduceIte] at hx260_0 hx260_1 hx260_2 hx260_3 hx260_4 hx260_5 hx260_6 hx260_7 hx260_8 hx260_9); have qi260 : (1 < t253.length) = True := eq_true (by omega); (try simp only [show ((1 : Int)).toNat = 1 from rfl, show 1 * 10 = 10 from rfl] at hx260_0 hx260_1 hx260_2 hx260_3 hx260_4 hx260_5 hx260_6 hx260_7 hx260_8 hx260_9); have HR260_9 := ka hi260_9; have HC260_9 := ka hl260_9; clear hi260_9 hl260_9; replace p260 := eq_true p260; replace q260 := eq_true q260) | ((with_reducible refine gate_dst (N := 5) rfl ?_); (try (refine gate_guard (by rfl) ?_; dsimp only)); refine box_event ?hg (N := 5) ?hd (cs := #[.int .i64 0, .int .i64 0, .string ⟨#[]⟩, .string ⟨#[]⟩, .string ⟨#[]⟩, .string ⟨#[]⟩, .string ⟨#[]⟩, .string ⟨#[]⟩, .string ⟨#[]⟩, .slice none 0 0]) (t := 45) ?hr ?_; (case hd => rfl); (case hg => rfl); (case hr => (go_simp; try rfl)); intro gb261 hg w28 hbox hb; replace HO_1 := ka (Kd.S_below (Kd.S_elderB (zRS HO_1.out) gb261 (Nat.le_of_eq hg.symm)) hb); replace HL258_9 := ka (Kd.R_below (zR HL258_9.out) hb); replace HL260_9 := ka (Kd.R_below (zR HL260_9.out) hb); replace HR258_9 := ka (zCB HR258_9.out hb); replace HR260_9 := ka (zCB HR260_9.out hb); have BK261 := ka (hbox); have GW261 := ka (zG hg (zL HB.out)); have GE261 := ka (zG hg (zL HB.out)); replace HB := ka (below_step (zL HB.out) hb); have NB259_261 := ka (zNK hg BK259.out); have NB261_259 := ka (zOK hg BK259.out); replace BK259 := ka (zB BK259.out hb); clear hb hbox hg; have hnb29 := NB261_259.out; have hnc29 := NB259_261.out; obtain ⟨z30_0, z30_1, z30_2, z30_3, z30_4, z30_5, z30_6, z30_7, z30_8, z30_9, y30_0, y30_1, y30_2, y30_3, y30_4, y30_5, y30_6, y30_7, y30_8, y30_9⟩ := zC10 BK261.out; obtain ⟨z31_0, z31_1, z31_2, z31_3, z31_4, z31_5, z31_6, z31_7, z31_8, z31_9, y31_0, y31_1, y31_2, y31_3, y31_4, y31_5, y31_6, y31_7, y31_8, y31_9⟩ := zC10 BK259.out) | ((with_reducible refine gate_dst (N := 83) rfl ?_); (try (refine gate_guard (by rfl) ?_; dsimp only)); refine Kd.R_lit Kd.string _ 9 ?hg (N := 83) ?hd (xs := ([(⟨#[99, 99]⟩ : ByteArray)] : List ByteArray)) (inner := [.string ⟨#[99, 99]⟩]) (ok := fun _ => True) (okp := fun _ => True) ?hr ?hp (fun _ hk => hk) trivial (Below.refl _ _) (Nat.le_refl _) (by simp) ?_; (case hd => rfl); (case hg => rfl); (case hr => (go_simp; try rfl)); (case hp => exact (Reps.one (show Kd.M Kd.string _ _ _ (⟨#[99, 99]⟩ : ByteArray) [.string ⟨#[99, 99]⟩] from rfl) (Reps.none _ _))); intro v263 w32 ho33 hb hg_ hnew_; clear hg_ hnew_; (first | rw [← Ny262.out] at ho33 | (simp only [Int.reduceToNat] at ho33; rw [← Ny262.out] at ho33)); replace HO_1 := ka (Kd.S_elder' (zMS HO_1.out (g := gb261) (fun _ hk => hk.2)) (Kd.R_base ho33) hb); have HO264 := ka (Kd.R_lower (Kd.R_new' (Kd.R_new' ho33 (Kd.R_lt (zT HL258_9.out BK261.out))) (Kd.R_lt (zT HL260_9.out BK261.out))) (below_size (zL HB.out))); replace HR258_9 := ka (Kd.C_below ((Kd.R_reads' (zT HL258_9.out BK261.out)).2.2) hb); replace HL258_9 := ka (Kd.R_elder' (zT HL258_9.out BK261.out) (Kd.R_base ho33) hb); replace BK259 := ka (zB BK259.out hb); replace HR260_9 := ka (Kd.C_below ((Kd.R_reads' (zT HL260_9.out BK261.out)).2.2) hb); replace HL260_9 := ka (Kd.R_elder' (zT HL260_9.out BK261.out) (Kd.R_base ho33) hb); replace BK261 := ka (blk_below (g := gb261) (o := .cells #[.int .i64 ((rd_T45 t253 1).f0), .int .i64 ((rd_T45 t253 1).f1), .string ((rd_T45 t253 1).f2), .string ((rd_T45 t253 1).f3), .string ((rd_T45 t253 1).f4), .string ((rd_T45 t253 1).f5), .string ((rd_T45 t253 1).f6), .string ((rd_T45 t253 1).f7), .string ((rd_T45 t253 1).f8), .slice A260_9 ((rd_T45 t253 1).f9).length c260_9] 45 (0, 0)) (zP10 BK261.out) hb); replace HB := ka (below_step (zL HB.out) hb); clear hb ho33; obtain ⟨Ao34, co34, eo34⟩ := Kd.R_slice HO264.out; subst eo34) | (go_at_call 19; (with_reducible refine (cooperagelaw9_sames.calls kj1 _ _ ((rd_T45 t253 1).f9) _ _ y262 t265 _ ?side1 ?side2 ?side3 ?side4 A23.out).mono ?_); (case side1 => repeat (first | exact (by repeat (first | (with_reducible exact HR260_9.out) | (with_reducible refine Kd.C_alloc ?_ _) | (with_reducible refine Kd.C_drewN ?_ _) | (with_reducible refine Kd.C_drew ?_) | exact HR260_9.out)) | (with_reducible refine Kd.C_alloc ?_ _) | (with_reducible refine Kd.C_drewN ?_ _) | (with_reducible refine Kd.C_drew ?_))); (case side2 => exact HC260_9.out); (case side3 => exact zCS (Kd.R_reads' HO264.out).2.2); (case side4 => exact (Kd.R_reads' HO264.out).2.1); rintro e w' ⟨rfl, ⟨nd, rfl⟩⟩))
                go_ret
                exact ⟨zE, zL HB.out⟩
               case' neg =>
                rw [if_neg c22] at H
                have c22b0 := zn0 c22
                have c22b1 := zn1 c22
   all_goals
    obtain rfl := Option.some.inj H
    obtain ⟨Ao35, co35, eo35⟩ := Kd.S_slice HO_1.out
    subst eo35
    have p258 : 0 ≤ (0 : Int) := (by omega)
    have q258 : 0 < (t253.length : Int) := zD
    obtain ⟨ad258, A258_9, c258_9, e258, hx258_0, hx258_1, hx258_2, hx258_3, hx258_4, hx258_5, hx258_6, hx258_7, hx258_8, hx258_9, hl258_9, hi258_9⟩ := at_T45 (Kd.S_reads' HO_1.out).2.2 0 p258 q258
    cases e258
    obtain ⟨ce258, hce258, hMe258, hcc258⟩ := Kd.S_get HO_1.out z45 0 p258 (by first | exact q258 | exact zD | (have e_ := (Kd.S_reads' HO_1.out).1; omega))
    obtain ⟨ve258_9, rfl, ge258_9⟩ := k45_openM hMe258
    have hv258_9 := hcc258 9 _ rfl
    rw [add_field _ _ 9 (by omega)] at hv258_9
    replace hv258_9 := Option.some.inj (hv258_9.symm.trans hx258_9)
    rw [hv258_9] at ge258_9
    have HL258_9 := ka (show Kd.R Kd.string 9 _ _ _ _ ((rd_T45 t253 0).f9) from ge258_9)
    clear hv258_9 ge258_9
    clear hcc258 hce258
    have qi258 : (0 < t253.length) = True := eq_true (by omega)
    (try simp only [show ((0 : Int)).toNat = 0 from rfl, show 0 * 10 = 0 from rfl, Addr.add_zero'] at hx258_0 hx258_1 hx258_2 hx258_3 hx258_4 hx258_5 hx258_6 hx258_7 hx258_8 hx258_9)
    have HR258_9 := ka hi258_9
    have HC258_9 := ka hl258_9
    clear hi258_9 hl258_9
    replace p258 := eq_true p258
    replace q258 := eq_true q258
    go_wp2_with (first | ((with_reducible refine gate_dst (N := 4) rfl ?_); (try (refine gate_guard (by rfl) ?_; dsimp only)); refine box_event ?hg (N := 4) ?hd (cs := #[.int .i64 0, .int .i64 0, .string ⟨#[]⟩, .string ⟨#[]⟩, .string ⟨#[]⟩, .string ⟨#[]⟩, .string ⟨#[]⟩, .string ⟨#[]⟩, .string ⟨#[]⟩, .slice none 0 0]) (t := 45) ?hr ?_; (case hd => rfl); (case hg => rfl); (case hr => (go_simp; try rfl)); intro gb259 hg w36 hbox hb; replace HO_1 := ka (Kd.S_below (Kd.S_elderB (zRS HO_1.out) gb259 (Nat.le_of_eq hg.symm)) hb); replace HL258_9 := ka (Kd.R_below (zR HL258_9.out) hb); replace HR258_9 := ka (zCB HR258_9.out hb); have BK259 := ka (hbox); have GW259 := ka (zG hg (zL HB.out)); have GE259 := ka (zG hg (zL HB.out)); replace HB := ka (below_step (zL HB.out) hb); clear hb hbox hg; obtain ⟨z37_0, z37_1, z37_2, z37_3, z37_4, z37_5, z37_6, z37_7, z37_8, z37_9, y37_0, y37_1, y37_2, y37_3, y37_4, y37_5, y37_6, y37_7, y37_8, y37_9⟩ := zC10 BK259.out) | ((with_reducible refine gate_store (t := 45) (p := 4) rfl ?_); refine store_event (t := 45) (p := 4) (v := ?vo_w38) (w1 := ((((((((((w36.setCell ⟨gb259, 0, none⟩ (.int .i64 ((rd_T45 t253 0).f0))).setCell ⟨gb259, 1, none⟩ (.int .i64 ((rd_T45 t253 0).f1))).setCell ⟨gb259, 2, none⟩ (.string ((rd_T45 t253 0).f2))).setCell ⟨gb259, 3, none⟩ (.string ((rd_T45 t253 0).f3))).setCell ⟨gb259, 4, none⟩ (.string ((rd_T45 t253 0).f4))).setCell ⟨gb259, 5, none⟩ (.string ((rd_T45 t253 0).f5))).setCell ⟨gb259, 6, none⟩ (.string ((rd_T45 t253 0).f6))).setCell ⟨gb259, 7, none⟩ (.string ((rd_T45 t253 0).f7))).setCell ⟨gb259, 8, none⟩ (.string ((rd_T45 t253 0).f8))).setCell ⟨gb259, 9, none⟩ (.slice A258_9 ((rd_T45 t253 0).f9).length c258_9))) ?hg ?ho ?hn ?hr ?_; (case ho => rfl); (case hg => rfl); (case hn => rfl); (case hr => (go_simp; try rfl)); intro w38 hw; have n0_ : Aside0 (Kd.S k45 45 w38 w.heap.size (fun k_ => k_ ≠ gb259) (.slice (some ad258) t253.length co35) t253) := ⟨(by rw [hw]; exact (by (with_reducible repeat (first | apply Kd.S_alloc | apply Kd.S_drewN | apply Kd.S_drew)); exact Kd.S_mono (zNMS HO_1.out (g := gb259) (fun _ hk => hk.2)) (fun _ hk => hk.1.2)))⟩; have n1_ : Aside0 (Kd.R Kd.string 9 w38 w.heap.size (fun k_ => some k_ ≠ (.slice (some ad258) t253.length co35 : Value).ownBlock) (.slice A258_9 ((rd_T45 t253 0).f9).length c258_9) ((rd_T45 t253 0).f9)) := ⟨(by rw [hw]; exact (by (with_reducible repeat (first | apply Kd.R_alloc | apply Kd.R_drewN | apply Kd.R_drew)); exact Kd.R_mono (zNT HL258_9.out BK259.out) (fun _ hk => hk.1.2)))⟩; have n2_ : Aside0 (w38.heap[gb259]? = some (.cells #[.int .i64 ((rd_T45 t253 0).f0), .int .i64 ((rd_T45 t253 0).f1), .string ((rd_T45 t253 0).f2), .string ((rd_T45 t253 0).f3), .string ((rd_T45 t253 0).f4), .string ((rd_T45 t253 0).f5), .string ((rd_T45 t253 0).f6), .string ((rd_T45 t253 0).f7), .string ((rd_T45 t253 0).f8), .slice A258_9 ((rd_T45 t253 0).f9).length c258_9] 45 (0, 0))) := ⟨(by rw [hw]; exact (zP10 BK259.out))⟩; have n3_ : Aside0 (Below w.heap.size w w38) := ⟨(by rw [hw]; exact (zL HB.out))⟩; have n4_ : Aside0 (Kd.C Kd.string w38 A258_9 ((rd_T45 t253 0).f9).length ((rd_T45 t253 0).f9)) := ⟨(by rw [hw]; exact (((Kd.R_reads' (zT HL258_9.out BK259.out)).2.2)))⟩; clear hw; revert n0_ n1_ n2_ n3_ n4_; clear HO_1 HL258_9 BK259 HB HR258_9; intro HO_1 HL258_9 BK259 HB HR258_9; have p260 : 0 ≤ (1 : Int) := (by omega); have q260 : 1 < (t253.length : Int) := zD; obtain ⟨ad260, A260_9, c260_9, e260, hx260_0, hx260_1, hx260_2, hx260_3, hx260_4, hx260_5, hx260_6, hx260_7, hx260_8, hx260_9, hl260_9, hi260_9⟩ := at_T45 (Kd.S_reads' HO_1.out).2.2 1 p260 q260; obtain rfl : ad258 = ad260 := (by injection e260); obtain ⟨ce260, hce260, hMe260, hcc260⟩ := Kd.S_get HO_1.out z45 1 p260 (by first | exact q260 | exact zD | (have e_ := (Kd.S_reads' HO_1.out).1; omega)); obtain ⟨ve260_9, rfl, ge260_9⟩ := k45_openM hMe260; have hv260_9 := hcc260 9 _ rfl; rw [add_field _ _ 9 (by omega)] at hv260_9; replace hv260_9 := Option.some.inj (hv260_9.symm.trans hx260_9); rw [hv260_9] at ge260_9; have HL260_9 := ka (show Kd.R Kd.string 9 _ _ _ _ ((rd_T45 t253 1).f9) from ge260_9); clear hv260_9 ge260_9; clear hcc260 hce260; (try simp only [show (1 : Int).toNat = 1 from rfl, Nat.reduceMul, Nat.reduceEqDiff, Go.Addr.add, ↓reduceIte] at hx260_0 hx260_1 hx260_2 hx260_3 hx260_4 hx260_5 hx260_6 hx260_7 hx260_8 hx260_9); have qi260 : (1 < t253.length) = True := eq_true (by omega); (try simp only [show ((1 : Int)).toNat = 1 from rfl, show 1 * 10 = 10 from rfl] at hx260_0 hx260_1 hx260_2 hx260_3 hx260_4 hx260_5 hx260_6 hx260_7 hx260_8 hx260_9); have HR260_9 := ka hi260_9; have HC260_9 := ka hl260_9; clear hi260_9 hl260_9; replace p260 := eq_true p260; replace q260 := eq_true q260) | ((with_reducible refine gate_dst (N := 5) rfl ?_); (try (refine gate_guard (by rfl) ?_; dsimp only)); refine box_event ?hg (N := 5) ?hd (cs := #[.int .i64 0, .int .i64 0, .string ⟨#[]⟩, .string ⟨#[]⟩, .string ⟨#[]⟩, .string ⟨#[]⟩, .string ⟨#[]⟩, .string ⟨#[]⟩, .string ⟨#[]⟩, .slice none 0 0]) (t := 45) ?hr ?_; (case hd => rfl); (case hg => rfl); (case hr => (go_simp; try rfl)); intro gb261 hg w39 hbox hb; replace HO_1 := ka (Kd.S_below (Kd.S_elderB (zRS HO_1.out) gb261 (Nat.le_of_eq hg.symm)) hb); replace HL258_9 := ka (Kd.R_below (zR HL258_9.out) hb); replace HL260_9 := ka (Kd.R_below (zR HL260_9.out) hb); replace HR258_9 := ka (zCB HR258_9.out hb); replace HR260_9 := ka (zCB HR260_9.out hb); have BK261 := ka (hbox); have GW261 := ka (zG hg (zL HB.out)); have GE261 := ka (zG hg (zL HB.out)); replace HB := ka (below_step (zL HB.out) hb); have NB259_261 := ka (zNK hg BK259.out); have NB261_259 := ka (zOK hg BK259.out); replace BK259 := ka (zB BK259.out hb); clear hb hbox hg; have hnb40 := NB261_259.out; have hnc40 := NB259_261.out; obtain ⟨z41_0, z41_1, z41_2, z41_3, z41_4, z41_5, z41_6, z41_7, z41_8, z41_9, y41_0, y41_1, y41_2, y41_3, y41_4, y41_5, y41_6, y41_7, y41_8, y41_9⟩ := zC10 BK261.out; obtain ⟨z42_0, z42_1, z42_2, z42_3, z42_4, z42_5, z42_6, z42_7, z42_8, z42_9, y42_0, y42_1, y42_2, y42_3, y42_4, y42_5, y42_6, y42_7, y42_8, y42_9⟩ := zC10 BK259.out))
    go_ret
    exact ⟨zE, zL HB.out⟩

end Go.Proofs.YthnholondnfjoaaDoor.PParse
