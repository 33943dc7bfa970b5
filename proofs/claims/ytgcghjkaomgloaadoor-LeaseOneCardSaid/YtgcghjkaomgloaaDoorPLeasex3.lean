-- Written by a program of this session (wip/tools/ext.py, over the kit's printer); not trusted: Lean checks it.
import Derived.Test.YtgcghjkaomgloaaDoorPLeasex0
import Derived.Test.YtgcghjkaomgloaaDoorPLeasex2
namespace Go.Proofs.YtgcghjkaomgloaaDoor.PLease
open Go.RowKit Go.Proofs.YtgcghjkaomgloaaDoorW.PrintWords Go.Proofs.YtgcghjkaomgloaaDoorW.PrintLast Go.Proofs.YtgcghjkaomgloaaDoorW.PrintMore
attribute [local go_sem] max2_int min2_int max_two min_two max_three min_three max_four min_four   -- for this text's walks alone
set_option linter.unusedVariables false
set_option linter.unusedSimpArgs false

/-! ### lease_Lease_54_at56: function 54 -/
def lease_Lease_54_at56.l0 : Nat → List (S34) → Int → Int → Int → ByteArray → Bool → Int → Option (Int)
 | 0, _, _, _, _, _, _, _ => none
 | k + 1, x0, x7, x8, x220000, x220001, x220002, x220003 => if x8 < x7 then (if 0 ≤ x8 then (if x8 < (x0.length : Int) then ((lease_Table_blocked_1.f ((rd_T34 x0 x8).f0) ((rd_T34 x0 x8).f1) ((rd_T34 x0 x8).f2) ((rd_T34 x0 x8).f3) ((rd_T34 x0 x8).f4) x220000 x220001 x220002 x220003).bind fun t221 => (if t221 = true then (some x8) else (lease_Lease_54_at56.l0 k x0 x7 (wrap64 (x8 + 1)) x220000 x220001 x220002 x220003))) else (none)) else (none)) else (some (-1))
def lease_Lease_54_at56.f (k : Nat) (l0 : List (S34)) (a1_0 : Int) (a1_1 : ByteArray) (a1_2 : Bool) (a1_3 : Int) : Option (Int) := lease_Lease_54_at56.l0 k l0 (l0.length : Int) 0 a1_0 a1_1 a1_2 a1_3
theorem lease_Lease_54_at56.mono_l : ∀ k, (∀ y0 y1 y2 y3 y4 y5 y6, LeO (lease_Lease_54_at56.l0 k y0 y1 y2 y3 y4 y5 y6) (lease_Lease_54_at56.l0 (k + 1) y0 y1 y2 y3 y4 y5 y6))
 | 0 => fun _ _ _ _ _ _ _ r h => by simp [lease_Lease_54_at56.l0] at h
 | k + 1 => by
  have ih0 := lease_Lease_54_at56.mono_l k
  ·intro y0 y1 y2 y3 y4 y5 y6
   unfold lease_Lease_54_at56.l0
   repeat' first
   | (with_reducible exact ih0 _ _ _ _ _ _ _)
   | (with_reducible exact LeO.refl _)
   | (with_reducible exact LeO.none _)
   | (with_reducible refine LeO.ite ?_ ?_)
   | (with_reducible refine LeO.bind ?_ (fun _ => ?_))
   | exact ih0 _ _ _ _ _ _ _
   | exact LeO.none _
   | refine LeO.ite ?_ ?_
   | refine LeO.bind ?_ (fun _ => ?_)
theorem lease_Lease_54_at56.mono : ∀ a0 a1 a2 a3 a4 k, LeO (lease_Lease_54_at56.f k a0 a1 a2 a3 a4) (lease_Lease_54_at56.f (k + 1) a0 a1 a2 a3 a4) := by
 intro a0 a1 a2 a3 a4 k
 have ih0 := lease_Lease_54_at56.mono_l k
 unfold lease_Lease_54_at56.f
 repeat' first
   | (with_reducible exact ih0 _ _ _ _ _ _ _)
   | (with_reducible exact LeO.refl _)
   | (with_reducible exact LeO.none _)
   | (with_reducible refine LeO.ite ?_ ?_)
   | (with_reducible refine LeO.bind ?_ (fun _ => ?_))
   | exact ih0 _ _ _ _ _ _ _
   | exact LeO.none _
   | refine LeO.ite ?_ ?_
   | refine LeO.bind ?_ (fun _ => ?_)
set_option maxHeartbeats 8000000 in
set_option maxRecDepth 100000 in
theorem lease_Lease_54_at56.calls (k : Nat) (A0 : Option Addr) (c0 : Nat) (l0 : List (S34)) (g1_0 : Nat) (a1_0 : Int) (a1_1 : ByteArray) (a1_2 : Bool) (a1_3 : Int) (r : Int) (w : World) (hr0 : Kd.C k34 w A0 l0.length l0) (hc0 : l0.length ≤ c0) (hb1_0 : w.heap[g1_0]? = some (.cells #[.int .i64 a1_0, .string a1_1, .bool a1_2, .int .i64 a1_3] 32 (0, 0))) (h : lease_Lease_54_at56.f k l0 a1_0 a1_1 a1_2 a1_3 = some r) :
  Calls Tryd.prog 54 #[.slice A0 l0.length c0, .func (.func 56) #[] #[.pointer (some ⟨g1_0, 0, none⟩)]] w fun e w' => e = .returned (.int .i64 r) ∧ Below w.heap.size w w' := by
 have hu34 := Tryd.underlying34
 have HR0 := Aside0.mk hr0
 have HC0 := Aside0.mk hc0
 clear hr0 hc0
 have BK219 := Aside0.mk hb1_0
 clear hb1_0
 have HB := Aside0.mk (Below.refl w.heap.size w)
 have H : (lease_Lease_54_at56.l0 k l0 (l0.length : Int) 0 a1_0 a1_1 a1_2 a1_3) = some r := h
 clear h
 have H' := Aside0.mk H
 clear H
 go_enter Tryd.func54, Tryd.ntmps54
 go_wp2
 go_loopg [8] k (fun kq v8 w' => ∃ (x8_1 : Int), v8 = .int .i64 x8_1 ∧ Aside0 (lease_Lease_54_at56.l0 kq l0 (l0.length : Int) x8_1 a1_0 a1_1 a1_2 a1_3 = some r) ∧ Aside0 (kq ≤ k) ∧ Aside0 (w'.heap[g1_0]? = some (.cells #[.int .i64 a1_0, .string a1_1, .bool a1_2, .int .i64 a1_3] 32 (0, 0))) ∧ Aside0 (Below w.heap.size w w'))
 case atStart => exact ⟨(0), zS, H', ⟨Nat.le_refl _⟩, ⟨zK BK219.out⟩, ⟨zL HB.out⟩⟩
 case round =>
  clear H'
  try clear p2
  obtain ⟨x8_1, rfl, HA, HK1, BK219, HB⟩ := hrel
  cases gk with
  | zero => exact absurd HA.out (by simp [lease_Lease_54_at56.l0])
  | succ k1 =>
   have H := HA.out
   clear HA
   simp only [lease_Lease_54_at56.l0] at H
   by_cases c3 : x8_1 < (l0.length : Int)
   ·rw [if_pos c3] at H
    have c3b0 : decide (x8_1 < (l0.length : Int)) = true := decide_eq_true c3
    clear c3
    by_cases c4 : 0 ≤ x8_1
    ·rw [if_pos c4] at H
     have c4b0 : decide (0 ≤ x8_1) = true := decide_eq_true c4
     clear c4
     by_cases c5 : x8_1 < (l0.length : Int)
     ·rw [if_pos c5] at H
      have c5b0 : decide (x8_1 < (l0.length : Int)) = true := decide_eq_true c5
      clear c5
      replace H := Option.bind_eq_some_iff.mp H
      obtain ⟨t221, A60, H⟩ := H
      replace H : (if t221 = true then (some x8_1) else (lease_Lease_54_at56.l0 k1 l0 (l0.length : Int) (wrap64 (x8_1 + 1)) a1_0 a1_1 a1_2 a1_3)) = some r := H
      have A6 := Aside0.mk A60
      clear A60
      by_cases c7 : t221 = true
      ·subst c7
       have H1 : (some x8_1) = some r := by rw [if_pos rfl] at H; exact H
       clear H
       have H := H1
       clear H1
       obtain rfl := Option.some.inj H
       have p220 : 0 ≤ (x8_1 : Int) := zD
       have q220 : x8_1 < (l0.length : Int) := zD
       obtain ⟨ad220, e220, hx220_0, hx220_1, hx220_2, hx220_3, hx220_4⟩ := at_T34 HR0.out x8_1 p220 q220
       cases e220
       replace hx220_0 := zX HB.out hx220_0
       replace hx220_1 := zX HB.out hx220_1
       replace hx220_2 := zX HB.out hx220_2
       replace hx220_3 := zX HB.out hx220_3
       replace hx220_4 := zX HB.out hx220_4
       replace p220 := eq_true p220
       replace q220 := eq_true q220
       go_wp2_with (first | (go_at_call 56; (with_reducible refine (lease_Table_blocked_1.calls ((rd_T34 l0 x8_1).f0) ((rd_T34 l0 x8_1).f1) ((rd_T34 l0 x8_1).f2) ((rd_T34 l0 x8_1).f3) ((rd_T34 l0 x8_1).f4) g1_0 a1_0 a1_1 a1_2 a1_3 true _ ?side1 A6.out).mono ?_); (case side1 => exact zK BK219.out); rintro e w8 ⟨rfl, hb⟩; have n0_ := Aside0.mk (blk_below (g := g1_0) (o := .cells #[.int .i64 a1_0, .string a1_1, .bool a1_2, .int .i64 a1_3] 32 (0, 0)) (zK BK219.out) hb); have n1_ := Aside0.mk (below_step (zL HB.out) hb); revert n0_ n1_; clear BK219 HB; intro BK219 HB; (try clear hb); (try clear hb2); (try clear hk); (try clear hi)))
       go_ret
       exact ⟨zE, zL HB.out⟩
      ·replace c7 := Bool.eq_false_iff.mpr c7
       subst c7
       have H1 : (lease_Lease_54_at56.l0 k1 l0 (l0.length : Int) (wrap64 (x8_1 + 1)) a1_0 a1_1 a1_2 a1_3) = some r := by rw [if_neg (show ¬ (false = true) by decide)] at H; exact H
       clear H
       have H := H1
       clear H1
       have H' := Aside0.mk H
       clear H
       have p220 : 0 ≤ (x8_1 : Int) := zD
       have q220 : x8_1 < (l0.length : Int) := zD
       obtain ⟨ad220, e220, hx220_0, hx220_1, hx220_2, hx220_3, hx220_4⟩ := at_T34 HR0.out x8_1 p220 q220
       cases e220
       replace hx220_0 := zX HB.out hx220_0
       replace hx220_1 := zX HB.out hx220_1
       replace hx220_2 := zX HB.out hx220_2
       replace hx220_3 := zX HB.out hx220_3
       replace hx220_4 := zX HB.out hx220_4
       replace p220 := eq_true p220
       replace q220 := eq_true q220
       go_wp2_with (first | (go_at_call 56; (with_reducible refine (lease_Table_blocked_1.calls ((rd_T34 l0 x8_1).f0) ((rd_T34 l0 x8_1).f1) ((rd_T34 l0 x8_1).f2) ((rd_T34 l0 x8_1).f3) ((rd_T34 l0 x8_1).f4) g1_0 a1_0 a1_1 a1_2 a1_3 false _ ?side1 A6.out).mono ?_); (case side1 => exact zK BK219.out); rintro e w9 ⟨rfl, hb⟩; have n0_ := Aside0.mk (blk_below (g := g1_0) (o := .cells #[.int .i64 a1_0, .string a1_1, .bool a1_2, .int .i64 a1_3] 32 (0, 0)) (zK BK219.out) hb); have n1_ := Aside0.mk (below_step (zL HB.out) hb); revert n0_ n1_; clear BK219 HB; intro BK219 HB; (try clear hb); (try clear hb2); (try clear hk); (try clear hi)))
       go_roundg k1
       case measure => have := HK1.out; omega
       case rel => exact ⟨(wrap64 (x8_1 + 1)), zS, H', ⟨by have := HK1.out; omega⟩, ⟨zK BK219.out⟩, ⟨zL HB.out⟩⟩
     ·rw [if_neg c5] at H
      exact absurd H (by simp)
    ·rw [if_neg c4] at H
     exact absurd H (by simp)
   ·rw [if_neg c3] at H
    have c3b0 : decide (x8_1 < (l0.length : Int)) = false := decide_eq_false c3
    clear c3
    obtain rfl := Option.some.inj H
    go_wp2
    go_ret
    exact ⟨zE, zL HB.out⟩

/-! ### lease_Lease_44_at56: function 44 -/
def lease_Lease_44_at56.f (k : Nat) (l0 : List (S34)) (a1_0 : Int) (a1_1 : ByteArray) (a1_2 : Bool) (a1_3 : Int) : Option (Bool) := (lease_Lease_54_at56.f k l0 a1_0 a1_1 a1_2 a1_3).bind fun t224 => (some (decide (t224 ≥ 0)))
theorem lease_Lease_44_at56.mono : ∀ a0 a1 a2 a3 a4 k, LeO (lease_Lease_44_at56.f k a0 a1 a2 a3 a4) (lease_Lease_44_at56.f (k + 1) a0 a1 a2 a3 a4) := by
 intro a0 a1 a2 a3 a4 k
 unfold lease_Lease_44_at56.f
 repeat' first
   | (with_reducible exact lease_Lease_54_at56.mono _ _ _ _ _ _)
   | (with_reducible exact LeO.refl _)
   | (with_reducible exact LeO.none _)
   | (with_reducible refine LeO.ite ?_ ?_)
   | (with_reducible refine LeO.bind ?_ (fun _ => ?_))
   | exact lease_Lease_54_at56.mono _ _ _ _ _ _
   | exact LeO.none _
   | refine LeO.ite ?_ ?_
   | refine LeO.bind ?_ (fun _ => ?_)
set_option maxHeartbeats 8000000 in
set_option maxRecDepth 100000 in
theorem lease_Lease_44_at56.calls (k : Nat) (A0 : Option Addr) (c0 : Nat) (l0 : List (S34)) (g1_0 : Nat) (a1_0 : Int) (a1_1 : ByteArray) (a1_2 : Bool) (a1_3 : Int) (r : Bool) (w : World) (hr0 : Kd.C k34 w A0 l0.length l0) (hc0 : l0.length ≤ c0) (hb1_0 : w.heap[g1_0]? = some (.cells #[.int .i64 a1_0, .string a1_1, .bool a1_2, .int .i64 a1_3] 32 (0, 0))) (h : lease_Lease_44_at56.f k l0 a1_0 a1_1 a1_2 a1_3 = some r) :
  Calls Tryd.prog 44 #[.slice A0 l0.length c0, .func (.func 56) #[] #[.pointer (some ⟨g1_0, 0, none⟩)]] w fun e w' => e = .returned (.bool r) ∧ Below w.heap.size w w' := by
 have HR0 := Aside0.mk hr0
 have HC0 := Aside0.mk hc0
 clear hr0 hc0
 have BK223 := Aside0.mk hb1_0
 clear hb1_0
 have HB := Aside0.mk (Below.refl w.heap.size w)
 have H : ((lease_Lease_54_at56.f k l0 a1_0 a1_1 a1_2 a1_3).bind fun t224 => (some (decide (t224 ≥ 0)))) = some r := h
 clear h
 replace H := Option.bind_eq_some_iff.mp H
 obtain ⟨t224, A30, H⟩ := H
 replace H : (some (decide (t224 ≥ 0))) = some r := H
 have A3 := Aside0.mk A30
 clear A30
 obtain rfl := Option.some.inj H
 go_enter Tryd.func44, Tryd.ntmps44
 go_wp2_with (first | ((with_reducible refine gate_callee (f := 54) rfl ?_); refine goesL_ (some 7) rfl rfl Tryd.func54 (by kernel_rfl) rfl #[.slice A0 l0.length c0, .func (.func 56) #[] #[.pointer (some ⟨g1_0, 0, none⟩)]] rfl zA ?_; (with_reducible refine (lease_Lease_54_at56.calls k _ _ l0 g1_0 a1_0 a1_1 a1_2 a1_3 t224 _ ?side1 ?side2 ?side3 A3.out).mono ?_); (case side1 => repeat (first | exact HR0.out | (with_reducible refine Kd.C_alloc ?_ _) | (with_reducible refine Kd.C_drewN ?_ _) | (with_reducible refine Kd.C_drew ?_))); (case side2 => exact HC0.out); (case side3 => exact zK BK223.out); rintro e w4 ⟨rfl, hb⟩; refine ⟨_, rfl, ?_⟩; have n0_ := Aside0.mk (blk_below (g := g1_0) (o := .cells #[.int .i64 a1_0, .string a1_1, .bool a1_2, .int .i64 a1_3] 32 (0, 0)) (zK BK223.out) hb); have n1_ := Aside0.mk (below_step (zL HB.out) hb); revert n0_ n1_; clear BK223 HB; intro BK223 HB; (try clear hb); (try clear hb2); (try clear hk); (try clear hi)))
 go_ret
 exact ⟨zE, zL HB.out⟩

/-! ### lease_Table_blocked_2: function 57 -/
def lease_Table_blocked_2.f (a0_0 : Int) (a0_1 : ByteArray) (a0_2 : Bool) (a0_3 : Int) (a1_0 : Int) (a1_1 : ByteArray) (a1_2 : Bool) (a1_3 : Int) : Option (Bool) := some (a0_1.toList == a1_1.toList)
set_option maxHeartbeats 8000000 in
set_option maxRecDepth 100000 in
theorem lease_Table_blocked_2.calls (a0_0 : Int) (a0_1 : ByteArray) (a0_2 : Bool) (a0_3 : Int) (g1_0 : Nat) (a1_0 : Int) (a1_1 : ByteArray) (a1_2 : Bool) (a1_3 : Int) (r : Bool) (w : World) (hb1_0 : w.heap[g1_0]? = some (.cells #[.int .i64 a1_0, .string a1_1, .bool a1_2, .int .i64 a1_3] 32 (0, 0))) (h : lease_Table_blocked_2.f a0_0 a0_1 a0_2 a0_3 a1_0 a1_1 a1_2 a1_3 = some r) :
  Calls Tryd.prog 57 #[.agg #[.int .i64 a0_0, .string a0_1, .bool a0_2, .int .i64 a0_3], .pointer (some ⟨g1_0, 0, none⟩)] w fun e w' => e = .returned (.bool r) ∧ Below w.heap.size w w' := by
 have hu32 := Tryd.underlying32
 have BK236 := Aside0.mk hb1_0
 clear hb1_0
 have HB := Aside0.mk (Below.refl w.heap.size w)
 have H : (some (a0_1.toList == a1_1.toList)) = some r := h
 clear h
 obtain rfl := Option.some.inj H
 go_enter Tryd.func57, Tryd.ntmps57
 go_wp2_with (first | ((with_reducible refine gate_dst (N := 2) rfl ?_); refine box_event ?hg (N := 2) ?hd (cs := #[.int .i64 a0_0, .string a0_1, .bool a0_2, .int .i64 a0_3]) (t := 32) ?hr ?_; (case hd => rfl); (case hg => rfl); (case hr => first | (go_simp; done) | (go_simp; rfl)); intro gb237 hg w3 hbox hb; have n0_ := Aside0.mk (blk_below (g := g1_0) (o := .cells #[.int .i64 a1_0, .string a1_1, .bool a1_2, .int .i64 a1_3] 32 (0, 0)) (zK BK236.out) hb); have n1_ := Aside0.mk (below_step (zL HB.out) hb); have n2_ := Aside0.mk (hbox); have n3_ := Aside0.mk (zG hg (zL HB.out)); have n4_ := Aside0.mk (zG hg (zL HB.out)); have n5_ := Aside0.mk (zN (g := g1_0) (o := .cells #[.int .i64 a1_0, .string a1_1, .bool a1_2, .int .i64 a1_3] 32 (0, 0)) hg (zK BK236.out)); have n6_ := Aside0.mk (zO (g := g1_0) (o := .cells #[.int .i64 a1_0, .string a1_1, .bool a1_2, .int .i64 a1_3] 32 (0, 0)) hg (zK BK236.out)); revert n0_ n1_ n2_ n3_ n4_ n5_ n6_; clear BK236 HB; intro BK236 HB BK237 GW237 GE237 NB236_237 NB237_236; clear hb hbox hg; have hnb4 := NB237_236.out; have hnc4 := NB236_237.out; obtain ⟨hcz5_0, hcz5_1, hcz5_2, hcz5_3, hfz5_0, hfz5_1, hfz5_2, hfz5_3⟩ := zC4 BK237.out; obtain ⟨hcz6_0, hcz6_1, hcz6_2, hcz6_3, hfz6_0, hfz6_1, hfz6_2, hfz6_3⟩ := zC4 BK236.out))
 go_ret
 exact ⟨zE, zL HB.out⟩

/-! ### lease_Ask_64_at57: function 64 -/
def lease_Ask_64_at57.l0 : Nat → List (S32) → Int → Int → Int → ByteArray → Bool → Int → Option (Int)
 | 0, _, _, _, _, _, _, _ => none
 | k + 1, x0, x7, x8, x240000, x240001, x240002, x240003 => if x8 < x7 then (if 0 ≤ x8 then (if x8 < (x0.length : Int) then ((lease_Table_blocked_2.f ((rd_T32 x0 x8).f0) ((rd_T32 x0 x8).f1) ((rd_T32 x0 x8).f2) ((rd_T32 x0 x8).f3) x240000 x240001 x240002 x240003).bind fun t241 => (if t241 = true then (some x8) else (lease_Ask_64_at57.l0 k x0 x7 (wrap64 (x8 + 1)) x240000 x240001 x240002 x240003))) else (none)) else (none)) else (some (-1))
def lease_Ask_64_at57.f (k : Nat) (l0 : List (S32)) (a1_0 : Int) (a1_1 : ByteArray) (a1_2 : Bool) (a1_3 : Int) : Option (Int) := lease_Ask_64_at57.l0 k l0 (l0.length : Int) 0 a1_0 a1_1 a1_2 a1_3
theorem lease_Ask_64_at57.mono_l : ∀ k, (∀ y0 y1 y2 y3 y4 y5 y6, LeO (lease_Ask_64_at57.l0 k y0 y1 y2 y3 y4 y5 y6) (lease_Ask_64_at57.l0 (k + 1) y0 y1 y2 y3 y4 y5 y6))
 | 0 => fun _ _ _ _ _ _ _ r h => by simp [lease_Ask_64_at57.l0] at h
 | k + 1 => by
  have ih0 := lease_Ask_64_at57.mono_l k
  ·intro y0 y1 y2 y3 y4 y5 y6
   unfold lease_Ask_64_at57.l0
   repeat' first
   | (with_reducible exact ih0 _ _ _ _ _ _ _)
   | (with_reducible exact LeO.refl _)
   | (with_reducible exact LeO.none _)
   | (with_reducible refine LeO.ite ?_ ?_)
   | (with_reducible refine LeO.bind ?_ (fun _ => ?_))
   | exact ih0 _ _ _ _ _ _ _
   | exact LeO.none _
   | refine LeO.ite ?_ ?_
   | refine LeO.bind ?_ (fun _ => ?_)
theorem lease_Ask_64_at57.mono : ∀ a0 a1 a2 a3 a4 k, LeO (lease_Ask_64_at57.f k a0 a1 a2 a3 a4) (lease_Ask_64_at57.f (k + 1) a0 a1 a2 a3 a4) := by
 intro a0 a1 a2 a3 a4 k
 have ih0 := lease_Ask_64_at57.mono_l k
 unfold lease_Ask_64_at57.f
 repeat' first
   | (with_reducible exact ih0 _ _ _ _ _ _ _)
   | (with_reducible exact LeO.refl _)
   | (with_reducible exact LeO.none _)
   | (with_reducible refine LeO.ite ?_ ?_)
   | (with_reducible refine LeO.bind ?_ (fun _ => ?_))
   | exact ih0 _ _ _ _ _ _ _
   | exact LeO.none _
   | refine LeO.ite ?_ ?_
   | refine LeO.bind ?_ (fun _ => ?_)
set_option maxHeartbeats 8000000 in
set_option maxRecDepth 100000 in
theorem lease_Ask_64_at57.calls (k : Nat) (A0 : Option Addr) (c0 : Nat) (l0 : List (S32)) (g1_0 : Nat) (a1_0 : Int) (a1_1 : ByteArray) (a1_2 : Bool) (a1_3 : Int) (r : Int) (w : World) (hr0 : Kd.C k32 w A0 l0.length l0) (hc0 : l0.length ≤ c0) (hb1_0 : w.heap[g1_0]? = some (.cells #[.int .i64 a1_0, .string a1_1, .bool a1_2, .int .i64 a1_3] 32 (0, 0))) (h : lease_Ask_64_at57.f k l0 a1_0 a1_1 a1_2 a1_3 = some r) :
  Calls Tryd.prog 64 #[.slice A0 l0.length c0, .func (.func 57) #[] #[.pointer (some ⟨g1_0, 0, none⟩)]] w fun e w' => e = .returned (.int .i64 r) ∧ Below w.heap.size w w' := by
 have hu32 := Tryd.underlying32
 have HR0 := Aside0.mk hr0
 have HC0 := Aside0.mk hc0
 clear hr0 hc0
 have BK239 := Aside0.mk hb1_0
 clear hb1_0
 have HB := Aside0.mk (Below.refl w.heap.size w)
 have H : (lease_Ask_64_at57.l0 k l0 (l0.length : Int) 0 a1_0 a1_1 a1_2 a1_3) = some r := h
 clear h
 have H' := Aside0.mk H
 clear H
 go_enter Tryd.func64, Tryd.ntmps64
 go_wp2
 go_loopg [8] k (fun kq v8 w' => ∃ (x8_1 : Int), v8 = .int .i64 x8_1 ∧ Aside0 (lease_Ask_64_at57.l0 kq l0 (l0.length : Int) x8_1 a1_0 a1_1 a1_2 a1_3 = some r) ∧ Aside0 (kq ≤ k) ∧ Aside0 (w'.heap[g1_0]? = some (.cells #[.int .i64 a1_0, .string a1_1, .bool a1_2, .int .i64 a1_3] 32 (0, 0))) ∧ Aside0 (Below w.heap.size w w'))
 case atStart => exact ⟨(0), zS, H', ⟨Nat.le_refl _⟩, ⟨zK BK239.out⟩, ⟨zL HB.out⟩⟩
 case round =>
  clear H'
  try clear p2
  obtain ⟨x8_1, rfl, HA, HK1, BK239, HB⟩ := hrel
  cases gk with
  | zero => exact absurd HA.out (by simp [lease_Ask_64_at57.l0])
  | succ k1 =>
   have H := HA.out
   clear HA
   simp only [lease_Ask_64_at57.l0] at H
   by_cases c3 : x8_1 < (l0.length : Int)
   ·rw [if_pos c3] at H
    have c3b0 : decide (x8_1 < (l0.length : Int)) = true := decide_eq_true c3
    clear c3
    by_cases c4 : 0 ≤ x8_1
    ·rw [if_pos c4] at H
     have c4b0 : decide (0 ≤ x8_1) = true := decide_eq_true c4
     clear c4
     by_cases c5 : x8_1 < (l0.length : Int)
     ·rw [if_pos c5] at H
      have c5b0 : decide (x8_1 < (l0.length : Int)) = true := decide_eq_true c5
      clear c5
      replace H := Option.bind_eq_some_iff.mp H
      obtain ⟨t241, A60, H⟩ := H
      replace H : (if t241 = true then (some x8_1) else (lease_Ask_64_at57.l0 k1 l0 (l0.length : Int) (wrap64 (x8_1 + 1)) a1_0 a1_1 a1_2 a1_3)) = some r := H
      have A6 := Aside0.mk A60
      clear A60
      by_cases c7 : t241 = true
      ·subst c7
       have H1 : (some x8_1) = some r := by rw [if_pos rfl] at H; exact H
       clear H
       have H := H1
       clear H1
       obtain rfl := Option.some.inj H
       have p240 : 0 ≤ (x8_1 : Int) := zD
       have q240 : x8_1 < (l0.length : Int) := zD
       obtain ⟨ad240, e240, hx240_0, hx240_1, hx240_2, hx240_3⟩ := at_T32 HR0.out x8_1 p240 q240
       cases e240
       replace hx240_0 := zX HB.out hx240_0
       replace hx240_1 := zX HB.out hx240_1
       replace hx240_2 := zX HB.out hx240_2
       replace hx240_3 := zX HB.out hx240_3
       replace p240 := eq_true p240
       replace q240 := eq_true q240
       go_wp2_with (first | (go_at_call 57; (with_reducible refine (lease_Table_blocked_2.calls ((rd_T32 l0 x8_1).f0) ((rd_T32 l0 x8_1).f1) ((rd_T32 l0 x8_1).f2) ((rd_T32 l0 x8_1).f3) g1_0 a1_0 a1_1 a1_2 a1_3 true _ ?side1 A6.out).mono ?_); (case side1 => exact zK BK239.out); rintro e w8 ⟨rfl, hb⟩; have n0_ := Aside0.mk (blk_below (g := g1_0) (o := .cells #[.int .i64 a1_0, .string a1_1, .bool a1_2, .int .i64 a1_3] 32 (0, 0)) (zK BK239.out) hb); have n1_ := Aside0.mk (below_step (zL HB.out) hb); revert n0_ n1_; clear BK239 HB; intro BK239 HB; (try clear hb); (try clear hb2); (try clear hk); (try clear hi)))
       go_ret
       exact ⟨zE, zL HB.out⟩
      ·replace c7 := Bool.eq_false_iff.mpr c7
       subst c7
       have H1 : (lease_Ask_64_at57.l0 k1 l0 (l0.length : Int) (wrap64 (x8_1 + 1)) a1_0 a1_1 a1_2 a1_3) = some r := by rw [if_neg (show ¬ (false = true) by decide)] at H; exact H
       clear H
       have H := H1
       clear H1
       have H' := Aside0.mk H
       clear H
       have p240 : 0 ≤ (x8_1 : Int) := zD
       have q240 : x8_1 < (l0.length : Int) := zD
       obtain ⟨ad240, e240, hx240_0, hx240_1, hx240_2, hx240_3⟩ := at_T32 HR0.out x8_1 p240 q240
       cases e240
       replace hx240_0 := zX HB.out hx240_0
       replace hx240_1 := zX HB.out hx240_1
       replace hx240_2 := zX HB.out hx240_2
       replace hx240_3 := zX HB.out hx240_3
       replace p240 := eq_true p240
       replace q240 := eq_true q240
       go_wp2_with (first | (go_at_call 57; (with_reducible refine (lease_Table_blocked_2.calls ((rd_T32 l0 x8_1).f0) ((rd_T32 l0 x8_1).f1) ((rd_T32 l0 x8_1).f2) ((rd_T32 l0 x8_1).f3) g1_0 a1_0 a1_1 a1_2 a1_3 false _ ?side1 A6.out).mono ?_); (case side1 => exact zK BK239.out); rintro e w9 ⟨rfl, hb⟩; have n0_ := Aside0.mk (blk_below (g := g1_0) (o := .cells #[.int .i64 a1_0, .string a1_1, .bool a1_2, .int .i64 a1_3] 32 (0, 0)) (zK BK239.out) hb); have n1_ := Aside0.mk (below_step (zL HB.out) hb); revert n0_ n1_; clear BK239 HB; intro BK239 HB; (try clear hb); (try clear hb2); (try clear hk); (try clear hi)))
       go_roundg k1
       case measure => have := HK1.out; omega
       case rel => exact ⟨(wrap64 (x8_1 + 1)), zS, H', ⟨by have := HK1.out; omega⟩, ⟨zK BK239.out⟩, ⟨zL HB.out⟩⟩
     ·rw [if_neg c5] at H
      exact absurd H (by simp)
    ·rw [if_neg c4] at H
     exact absurd H (by simp)
   ·rw [if_neg c3] at H
    have c3b0 : decide (x8_1 < (l0.length : Int)) = false := decide_eq_false c3
    clear c3
    obtain rfl := Option.some.inj H
    go_wp2
    go_ret
    exact ⟨zE, zL HB.out⟩

/-! ### lease_Ask_58_at57: function 58 -/
def lease_Ask_58_at57.f (k : Nat) (l0 : List (S32)) (a1_0 : Int) (a1_1 : ByteArray) (a1_2 : Bool) (a1_3 : Int) : Option (Bool) := (lease_Ask_64_at57.f k l0 a1_0 a1_1 a1_2 a1_3).bind fun t244 => (some (decide (t244 ≥ 0)))
theorem lease_Ask_58_at57.mono : ∀ a0 a1 a2 a3 a4 k, LeO (lease_Ask_58_at57.f k a0 a1 a2 a3 a4) (lease_Ask_58_at57.f (k + 1) a0 a1 a2 a3 a4) := by
 intro a0 a1 a2 a3 a4 k
 unfold lease_Ask_58_at57.f
 repeat' first
   | (with_reducible exact lease_Ask_64_at57.mono _ _ _ _ _ _)
   | (with_reducible exact LeO.refl _)
   | (with_reducible exact LeO.none _)
   | (with_reducible refine LeO.ite ?_ ?_)
   | (with_reducible refine LeO.bind ?_ (fun _ => ?_))
   | exact lease_Ask_64_at57.mono _ _ _ _ _ _
   | exact LeO.none _
   | refine LeO.ite ?_ ?_
   | refine LeO.bind ?_ (fun _ => ?_)
set_option maxHeartbeats 8000000 in
set_option maxRecDepth 100000 in
theorem lease_Ask_58_at57.calls (k : Nat) (A0 : Option Addr) (c0 : Nat) (l0 : List (S32)) (g1_0 : Nat) (a1_0 : Int) (a1_1 : ByteArray) (a1_2 : Bool) (a1_3 : Int) (r : Bool) (w : World) (hr0 : Kd.C k32 w A0 l0.length l0) (hc0 : l0.length ≤ c0) (hb1_0 : w.heap[g1_0]? = some (.cells #[.int .i64 a1_0, .string a1_1, .bool a1_2, .int .i64 a1_3] 32 (0, 0))) (h : lease_Ask_58_at57.f k l0 a1_0 a1_1 a1_2 a1_3 = some r) :
  Calls Tryd.prog 58 #[.slice A0 l0.length c0, .func (.func 57) #[] #[.pointer (some ⟨g1_0, 0, none⟩)]] w fun e w' => e = .returned (.bool r) ∧ Below w.heap.size w w' := by
 have HR0 := Aside0.mk hr0
 have HC0 := Aside0.mk hc0
 clear hr0 hc0
 have BK243 := Aside0.mk hb1_0
 clear hb1_0
 have HB := Aside0.mk (Below.refl w.heap.size w)
 have H : ((lease_Ask_64_at57.f k l0 a1_0 a1_1 a1_2 a1_3).bind fun t244 => (some (decide (t244 ≥ 0)))) = some r := h
 clear h
 replace H := Option.bind_eq_some_iff.mp H
 obtain ⟨t244, A30, H⟩ := H
 replace H : (some (decide (t244 ≥ 0))) = some r := H
 have A3 := Aside0.mk A30
 clear A30
 obtain rfl := Option.some.inj H
 go_enter Tryd.func58, Tryd.ntmps58
 go_wp2_with (first | ((with_reducible refine gate_callee (f := 64) rfl ?_); refine goesL_ (some 7) rfl rfl Tryd.func64 (by kernel_rfl) rfl #[.slice A0 l0.length c0, .func (.func 57) #[] #[.pointer (some ⟨g1_0, 0, none⟩)]] rfl zA ?_; (with_reducible refine (lease_Ask_64_at57.calls k _ _ l0 g1_0 a1_0 a1_1 a1_2 a1_3 t244 _ ?side1 ?side2 ?side3 A3.out).mono ?_); (case side1 => repeat (first | exact HR0.out | (with_reducible refine Kd.C_alloc ?_ _) | (with_reducible refine Kd.C_drewN ?_ _) | (with_reducible refine Kd.C_drew ?_))); (case side2 => exact HC0.out); (case side3 => exact zK BK243.out); rintro e w4 ⟨rfl, hb⟩; refine ⟨_, rfl, ?_⟩; have n0_ := Aside0.mk (blk_below (g := g1_0) (o := .cells #[.int .i64 a1_0, .string a1_1, .bool a1_2, .int .i64 a1_3] 32 (0, 0)) (zK BK243.out) hb); have n1_ := Aside0.mk (below_step (zL HB.out) hb); revert n0_ n1_; clear BK243 HB; intro BK243 HB; (try clear hb); (try clear hb2); (try clear hk); (try clear hi)))
 go_ret
 exact ⟨zE, zL HB.out⟩

/-! ### lease_Table_blocked: function 49 -/
def lease_Table_blocked.f (k : Nat) (a0_0 : Int) (l0_1 : List (S34)) (l0_2 : List (S32)) (a1_0 : Int) (a1_1 : ByteArray) (a1_2 : Bool) (a1_3 : Int) : Option (Bool) := (lease_Lease_44_at56.f k l0_1 a1_0 a1_1 a1_2 a1_3).bind fun t249 => (if t249 = true then (some true) else ((lease_Ask_58_at57.f k l0_2 a1_0 a1_1 a1_2 a1_3).bind fun t250 => (some t250)))
theorem lease_Table_blocked.mono : ∀ a0 a1 a2 a3 a4 a5 a6 k, LeO (lease_Table_blocked.f k a0 a1 a2 a3 a4 a5 a6) (lease_Table_blocked.f (k + 1) a0 a1 a2 a3 a4 a5 a6) := by
 intro a0 a1 a2 a3 a4 a5 a6 k
 unfold lease_Table_blocked.f
 repeat' first
   | (with_reducible exact lease_Ask_58_at57.mono _ _ _ _ _ _)
   | (with_reducible exact lease_Lease_44_at56.mono _ _ _ _ _ _)
   | (with_reducible exact LeO.refl _)
   | (with_reducible exact LeO.none _)
   | (with_reducible refine LeO.ite ?_ ?_)
   | (with_reducible refine LeO.bind ?_ (fun _ => ?_))
   | exact lease_Ask_58_at57.mono _ _ _ _ _ _
   | exact lease_Lease_44_at56.mono _ _ _ _ _ _
   | exact LeO.none _
   | refine LeO.ite ?_ ?_
   | refine LeO.bind ?_ (fun _ => ?_)
set_option maxHeartbeats 8000000 in
set_option maxRecDepth 100000 in
theorem lease_Table_blocked.calls (k : Nat) (a0_0 : Int) (A0_1 : Option Addr) (c0_1 : Nat) (l0_1 : List (S34)) (A0_2 : Option Addr) (c0_2 : Nat) (l0_2 : List (S32)) (a1_0 : Int) (a1_1 : ByteArray) (a1_2 : Bool) (a1_3 : Int) (r : Bool) (w : World) (hr0_1 : Kd.C k34 w A0_1 l0_1.length l0_1) (hc0_1 : l0_1.length ≤ c0_1) (hr0_2 : Kd.C k32 w A0_2 l0_2.length l0_2) (hc0_2 : l0_2.length ≤ c0_2) (h : lease_Table_blocked.f k a0_0 l0_1 l0_2 a1_0 a1_1 a1_2 a1_3 = some r) :
  Calls Tryd.prog 49 #[.agg #[.int .i64 a0_0, .slice A0_1 l0_1.length c0_1, .slice A0_2 l0_2.length c0_2], .agg #[.int .i64 a1_0, .string a1_1, .bool a1_2, .int .i64 a1_3]] w fun e w' => e = .returned (.bool r) ∧ Below w.heap.size w w' := by
 have hu27 := Tryd.underlying27
 have hu32 := Tryd.underlying32
 have HR0_1 := Aside0.mk hr0_1
 have HC0_1 := Aside0.mk hc0_1
 clear hr0_1 hc0_1
 have HR0_2 := Aside0.mk hr0_2
 have HC0_2 := Aside0.mk hc0_2
 clear hr0_2 hc0_2
 have HB := Aside0.mk (Below.refl w.heap.size w)
 have H : ((lease_Lease_44_at56.f k l0_1 a1_0 a1_1 a1_2 a1_3).bind fun t249 => (if t249 = true then (some true) else ((lease_Ask_58_at57.f k l0_2 a1_0 a1_1 a1_2 a1_3).bind fun t250 => (some t250)))) = some r := h
 clear h
 replace H := Option.bind_eq_some_iff.mp H
 obtain ⟨t249, A30, H⟩ := H
 replace H : (if t249 = true then (some true) else ((lease_Ask_58_at57.f k l0_2 a1_0 a1_1 a1_2 a1_3).bind fun t250 => (some t250))) = some r := H
 have A3 := Aside0.mk A30
 clear A30
 by_cases c4 : t249 = true
 ·subst c4
  have H1 : (some true) = some r := by rw [if_pos rfl] at H; exact H
  clear H
  have H := H1
  clear H1
  obtain rfl := Option.some.inj H
  go_enter Tryd.func49, Tryd.ntmps49
  go_wp2_with (first | ((with_reducible refine gate_dst (N := 2) rfl ?_); refine box_event ?hg (N := 2) ?hd (cs := #[.int .i64 a0_0, .slice A0_1 l0_1.length c0_1, .slice A0_2 l0_2.length c0_2]) (t := 27) ?hr ?_; (case hd => rfl); (case hg => rfl); (case hr => first | (go_simp; done) | (go_simp; rfl)); intro gb245 hg w5 hbox hb; have n0_ := Aside0.mk (below_step (zL HB.out) hb); have n1_ := Aside0.mk (hbox); have n2_ := Aside0.mk (zG hg (zL HB.out)); have n3_ := Aside0.mk (zG hg (zL HB.out)); revert n0_ n1_ n2_ n3_; clear HB; intro HB BK245 GW245 GE245; clear hb hbox hg) | ((with_reducible refine gate_dst (N := 3) rfl ?_); refine box_event ?hg (N := 3) ?hd (cs := #[.int .i64 a1_0, .string a1_1, .bool a1_2, .int .i64 a1_3]) (t := 32) ?hr ?_; (case hd => rfl); (case hg => rfl); (case hr => first | (go_simp; done) | (go_simp; rfl)); intro gb246 hg w6 hbox hb; have n0_ := Aside0.mk (blk_below (g := gb245) (o := .cells #[.int .i64 a0_0, .slice A0_1 l0_1.length c0_1, .slice A0_2 l0_2.length c0_2] 27 (0, 0)) (zK BK245.out) hb); have n1_ := Aside0.mk (below_step (zL HB.out) hb); have n2_ := Aside0.mk (hbox); have n3_ := Aside0.mk (zG hg (zL HB.out)); have n4_ := Aside0.mk (zG hg (zL HB.out)); have n5_ := Aside0.mk (zN (g := gb245) (o := .cells #[.int .i64 a0_0, .slice A0_1 l0_1.length c0_1, .slice A0_2 l0_2.length c0_2] 27 (0, 0)) hg (zK BK245.out)); have n6_ := Aside0.mk (zO (g := gb245) (o := .cells #[.int .i64 a0_0, .slice A0_1 l0_1.length c0_1, .slice A0_2 l0_2.length c0_2] 27 (0, 0)) hg (zK BK245.out)); revert n0_ n1_ n2_ n3_ n4_ n5_ n6_; clear BK245 HB; intro BK245 HB BK246 GW246 GE246 NB245_246 NB246_245; clear hb hbox hg; have hnb7 := NB245_246.out; have hnc7 := NB246_245.out; obtain ⟨hcz8_0, hcz8_1, hcz8_2, hfz8_0, hfz8_1, hfz8_2⟩ := zC3 BK245.out) | ((with_reducible refine gate_callee (f := 44) rfl ?_); refine goesL_ (some 12) rfl rfl Tryd.func44 (by kernel_rfl) rfl #[.slice A0_1 l0_1.length c0_1, .func (.func 56) #[] #[.pointer (some ⟨gb246, 0, none⟩)]] rfl zA ?_; (with_reducible refine (lease_Lease_44_at56.calls k _ _ l0_1 gb246 a1_0 a1_1 a1_2 a1_3 true _ ?side1 ?side2 ?side3 A3.out).mono ?_); (case side1 => repeat (first | exact (Kd.C_below HR0_1.out HB.out) | (with_reducible refine Kd.C_alloc ?_ _) | (with_reducible refine Kd.C_drewN ?_ _) | (with_reducible refine Kd.C_drew ?_))); (case side2 => exact HC0_1.out); (case side3 => exact zK BK246.out); rintro e w9 ⟨rfl, hb⟩; refine ⟨_, rfl, ?_⟩; have n0_ := Aside0.mk (blk_below (g := gb245) (o := .cells #[.int .i64 a0_0, .slice A0_1 l0_1.length c0_1, .slice A0_2 l0_2.length c0_2] 27 (0, 0)) (zK BK245.out) hb); have n1_ := Aside0.mk (blk_below (g := gb246) (o := .cells #[.int .i64 a1_0, .string a1_1, .bool a1_2, .int .i64 a1_3] 32 (0, 0)) (zK BK246.out) hb); have n2_ := Aside0.mk (below_step (zL HB.out) hb); revert n0_ n1_ n2_; clear BK245 BK246 HB; intro BK245 BK246 HB; (try clear hb); (try clear hb2); (try clear hk); (try clear hi)))
  go_ret
  exact ⟨zE, zL HB.out⟩
 ·replace c4 := Bool.eq_false_iff.mpr c4
  subst c4
  have H1 : ((lease_Ask_58_at57.f k l0_2 a1_0 a1_1 a1_2 a1_3).bind fun t250 => (some t250)) = some r := by rw [if_neg (show ¬ (false = true) by decide)] at H; exact H
  clear H
  have H := H1
  clear H1
  replace H := Option.bind_eq_some_iff.mp H
  obtain ⟨t250, A100, H⟩ := H
  replace H : (some t250) = some r := H
  have A10 := Aside0.mk A100
  clear A100
  obtain rfl := Option.some.inj H
  go_enter Tryd.func49, Tryd.ntmps49
  go_wp2_with (first | ((with_reducible refine gate_dst (N := 2) rfl ?_); refine box_event ?hg (N := 2) ?hd (cs := #[.int .i64 a0_0, .slice A0_1 l0_1.length c0_1, .slice A0_2 l0_2.length c0_2]) (t := 27) ?hr ?_; (case hd => rfl); (case hg => rfl); (case hr => first | (go_simp; done) | (go_simp; rfl)); intro gb245 hg w11 hbox hb; have n0_ := Aside0.mk (below_step (zL HB.out) hb); have n1_ := Aside0.mk (hbox); have n2_ := Aside0.mk (zG hg (zL HB.out)); have n3_ := Aside0.mk (zG hg (zL HB.out)); revert n0_ n1_ n2_ n3_; clear HB; intro HB BK245 GW245 GE245; clear hb hbox hg) | ((with_reducible refine gate_dst (N := 3) rfl ?_); refine box_event ?hg (N := 3) ?hd (cs := #[.int .i64 a1_0, .string a1_1, .bool a1_2, .int .i64 a1_3]) (t := 32) ?hr ?_; (case hd => rfl); (case hg => rfl); (case hr => first | (go_simp; done) | (go_simp; rfl)); intro gb246 hg w12 hbox hb; have n0_ := Aside0.mk (blk_below (g := gb245) (o := .cells #[.int .i64 a0_0, .slice A0_1 l0_1.length c0_1, .slice A0_2 l0_2.length c0_2] 27 (0, 0)) (zK BK245.out) hb); have n1_ := Aside0.mk (below_step (zL HB.out) hb); have n2_ := Aside0.mk (hbox); have n3_ := Aside0.mk (zG hg (zL HB.out)); have n4_ := Aside0.mk (zG hg (zL HB.out)); have n5_ := Aside0.mk (zN (g := gb245) (o := .cells #[.int .i64 a0_0, .slice A0_1 l0_1.length c0_1, .slice A0_2 l0_2.length c0_2] 27 (0, 0)) hg (zK BK245.out)); have n6_ := Aside0.mk (zO (g := gb245) (o := .cells #[.int .i64 a0_0, .slice A0_1 l0_1.length c0_1, .slice A0_2 l0_2.length c0_2] 27 (0, 0)) hg (zK BK245.out)); revert n0_ n1_ n2_ n3_ n4_ n5_ n6_; clear BK245 HB; intro BK245 HB BK246 GW246 GE246 NB245_246 NB246_245; clear hb hbox hg; have hnb13 := NB245_246.out; have hnc13 := NB246_245.out; obtain ⟨hcz14_0, hcz14_1, hcz14_2, hfz14_0, hfz14_1, hfz14_2⟩ := zC3 BK245.out) | ((with_reducible refine gate_callee (f := 44) rfl ?_); refine goesL_ (some 12) rfl rfl Tryd.func44 (by kernel_rfl) rfl #[.slice A0_1 l0_1.length c0_1, .func (.func 56) #[] #[.pointer (some ⟨gb246, 0, none⟩)]] rfl zA ?_; (with_reducible refine (lease_Lease_44_at56.calls k _ _ l0_1 gb246 a1_0 a1_1 a1_2 a1_3 false _ ?side1 ?side2 ?side3 A3.out).mono ?_); (case side1 => repeat (first | exact (Kd.C_below HR0_1.out HB.out) | (with_reducible refine Kd.C_alloc ?_ _) | (with_reducible refine Kd.C_drewN ?_ _) | (with_reducible refine Kd.C_drew ?_))); (case side2 => exact HC0_1.out); (case side3 => exact zK BK246.out); rintro e w15 ⟨rfl, hb⟩; refine ⟨_, rfl, ?_⟩; have n0_ := Aside0.mk (blk_below (g := gb245) (o := .cells #[.int .i64 a0_0, .slice A0_1 l0_1.length c0_1, .slice A0_2 l0_2.length c0_2] 27 (0, 0)) (zK BK245.out) hb); have n1_ := Aside0.mk (blk_below (g := gb246) (o := .cells #[.int .i64 a1_0, .string a1_1, .bool a1_2, .int .i64 a1_3] 32 (0, 0)) (zK BK246.out) hb); have n2_ := Aside0.mk (below_step (zL HB.out) hb); revert n0_ n1_ n2_; clear BK245 BK246 HB; intro BK245 BK246 HB; (try clear hb); (try clear hb2); (try clear hk); (try clear hi); obtain ⟨hcz16_0, hcz16_1, hcz16_2, hfz16_0, hfz16_1, hfz16_2⟩ := zC3 BK245.out) | (go_at_call 58; (with_reducible refine (lease_Ask_58_at57.calls k _ _ l0_2 gb246 a1_0 a1_1 a1_2 a1_3 t250 _ ?side1 ?side2 ?side3 A10.out).mono ?_); (case side1 => repeat (first | exact (Kd.C_below HR0_2.out HB.out) | (with_reducible refine Kd.C_alloc ?_ _) | (with_reducible refine Kd.C_drewN ?_ _) | (with_reducible refine Kd.C_drew ?_))); (case side2 => exact HC0_2.out); (case side3 => exact zK BK246.out); rintro e w17 ⟨rfl, hb⟩; have n0_ := Aside0.mk (blk_below (g := gb245) (o := .cells #[.int .i64 a0_0, .slice A0_1 l0_1.length c0_1, .slice A0_2 l0_2.length c0_2] 27 (0, 0)) (zK BK245.out) hb); have n1_ := Aside0.mk (blk_below (g := gb246) (o := .cells #[.int .i64 a1_0, .string a1_1, .bool a1_2, .int .i64 a1_3] 32 (0, 0)) (zK BK246.out) hb); have n2_ := Aside0.mk (below_step (zL HB.out) hb); revert n0_ n1_ n2_; clear BK245 BK246 HB; intro BK245 BK246 HB; (try clear hb); (try clear hb2); (try clear hk); (try clear hi)))
  go_ret
  exact ⟨zE, zL HB.out⟩

end Go.Proofs.YtgcghjkaomgloaaDoor.PLease
