-- Written by a program of this session (wip/tools/ext.py, over the kit's printer); not trusted: Lean checks it.
import Derived.Test.YtjdadmjomjhpcaaDoorPLeasex0
namespace Go.Proofs.YtjdadmjomjhpcaaDoor.PLease
open Go.RowKit Go.Proofs.YtjdadmjomjhpcaaDoorW.PrintWords Go.Proofs.YtjdadmjomjhpcaaDoorW.PrintLast Go.Proofs.YtjdadmjomjhpcaaDoorW.PrintMore
attribute [local go_sem] max2_int min2_int max_two min_two max_three min_three max_four min_four
set_option linter.unusedVariables false
set_option linter.unusedSimpArgs false
set_option maxHeartbeats 8000000
set_option maxRecDepth 100000

-- NOT PRINTED: function 46 (lease_Lease_46)

-- NOT PRINTED: function 30 (lease_Lease_30)

/-! ### lease_Valid_1: function 31 -/
def lease_Valid_1.f (a0_0 : Int) (a0_1 : ByteArray) (a0_2 : Bool) (a0_3 : Int) (a0_4 : Int) (a1_0 : Int) (a2_0 : ByteArray) (a3_0 : Int) : Option (Bool) := if a0_0 = a1_0 then (if a0_1.toList = a2_0.toList then (some (a0_3 == a3_0)) else (some false)) else (some false)
theorem lease_Valid_1.calls (a0_0 : Int) (a0_1 : ByteArray) (a0_2 : Bool) (a0_3 : Int) (a0_4 : Int) (g1_0 : Nat) (a1_0 : Int) (g2_0 : Nat) (a2_0 : ByteArray) (g3_0 : Nat) (a3_0 : Int) (r : Bool) (w : World) (hb1_0 : w.heap[g1_0]? = some (.cells #[.int .i64 a1_0] 3 (0, 0))) (hb2_0 : w.heap[g2_0]? = some (.cells #[.string a2_0] 9 (0, 0))) (hb3_0 : w.heap[g3_0]? = some (.cells #[.int .i64 a3_0] 3 (0, 0))) (h : lease_Valid_1.f a0_0 a0_1 a0_2 a0_3 a0_4 a1_0 a2_0 a3_0 = some r) :
  Calls Tryd.prog 31 #[.agg #[.int .i64 a0_0, .string a0_1, .bool a0_2, .int .i64 a0_3, .int .i64 a0_4], .pointer (some ⟨g1_0, 0, none⟩), .pointer (some ⟨g2_0, 0, none⟩), .pointer (some ⟨g3_0, 0, none⟩)] w fun e w' => e = .returned (.bool r) ∧ Below w.heap.size w w' := by
 have hu42 := Tryd.underlying42
 have BK116 := ka hb1_0
 clear hb1_0
 have BK118 := ka hb2_0
 clear hb2_0
 have BK120 := ka hb3_0
 clear hb3_0
 have HB := ka (Below.refl w.heap.size w)
 have H : (if a0_0 = a1_0 then (if a0_1.toList = a2_0.toList then (some (a0_3 == a3_0)) else (some false)) else (some false)) = some r := h
 clear h
 by_cases c5 : a0_0 = a1_0
 ·rw [if_pos c5] at H
  have c5b0 := zb0 c5
  have c5b1 := zb1 c5
  clear c5
  by_cases c6 : a0_1.toList = a2_0.toList
  ·rw [if_pos c6] at H
   have c6b0 := zb0 c6
   have c6b1 := zb1 c6
   clear c6
   obtain rfl := Option.some.inj H
   go_enter Tryd.func31, Tryd.ntmps31
   go_wp2_with (first | ((with_reducible refine gate_dst (N := 4) rfl ?_); refine box_event ?hg (N := 4) ?hd (cs := #[.int .i64 a0_0, .string a0_1, .bool a0_2, .int .i64 a0_3, .int .i64 a0_4]) (t := 42) ?hr ?_; (case hd => rfl); (case hg => rfl); (case hr => (go_simp; try rfl)); intro gb121 hg w7 hbox hb; have BK121 := ka (hbox); have GW121 := ka (zG hg (zL HB.out)); replace HB := ka (below_step (zL HB.out) hb); have NB116_121 := ka (zNK hg BK116.out); have NB121_116 := ka (zOK hg BK116.out); replace BK116 := ka (zB BK116.out hb); have NB118_121 := ka (zNK hg BK118.out); have NB121_118 := ka (zOK hg BK118.out); replace BK118 := ka (zB BK118.out hb); have NB120_121 := ka (zNK hg BK120.out); have NB121_120 := ka (zOK hg BK120.out); replace BK120 := ka (zB BK120.out hb); clear hb hbox hg; have hnb8 := NB121_116.out; have hnc8 := NB116_121.out; have hnb9 := NB121_118.out; have hnc9 := NB118_121.out; have hnb10 := NB121_120.out; have hnc10 := NB120_121.out; obtain ⟨z11_0, z11_1, z11_2, z11_3, z11_4, y11_0, y11_1, y11_2, y11_3, y11_4⟩ := zC5 BK121.out; obtain ⟨z12_0, y12_0⟩ := zC1 BK116.out; obtain ⟨z13_0, y13_0⟩ := zC1 BK118.out; obtain ⟨z14_0, y14_0⟩ := zC1 BK120.out))
   go_ret
   exact ⟨zE, zL HB.out⟩
  rw [if_neg c6] at H
  have c6b0 := zn0 c6
  have c6b1 := zn1 c6
  obtain rfl := Option.some.inj H
  go_enter Tryd.func31, Tryd.ntmps31
  go_wp2_with (first | ((with_reducible refine gate_dst (N := 4) rfl ?_); refine box_event ?hg (N := 4) ?hd (cs := #[.int .i64 a0_0, .string a0_1, .bool a0_2, .int .i64 a0_3, .int .i64 a0_4]) (t := 42) ?hr ?_; (case hd => rfl); (case hg => rfl); (case hr => (go_simp; try rfl)); intro gb121 hg w15 hbox hb; have BK121 := ka (hbox); have GW121 := ka (zG hg (zL HB.out)); replace HB := ka (below_step (zL HB.out) hb); have NB116_121 := ka (zNK hg BK116.out); have NB121_116 := ka (zOK hg BK116.out); replace BK116 := ka (zB BK116.out hb); have NB118_121 := ka (zNK hg BK118.out); have NB121_118 := ka (zOK hg BK118.out); replace BK118 := ka (zB BK118.out hb); have NB120_121 := ka (zNK hg BK120.out); have NB121_120 := ka (zOK hg BK120.out); replace BK120 := ka (zB BK120.out hb); clear hb hbox hg; have hnb16 := NB121_116.out; have hnc16 := NB116_121.out; have hnb17 := NB121_118.out; have hnc17 := NB118_121.out; have hnb18 := NB121_120.out; have hnc18 := NB120_121.out; obtain ⟨z19_0, z19_1, z19_2, z19_3, z19_4, y19_0, y19_1, y19_2, y19_3, y19_4⟩ := zC5 BK121.out; obtain ⟨z20_0, y20_0⟩ := zC1 BK116.out; obtain ⟨z21_0, y21_0⟩ := zC1 BK118.out))
  go_ret
  exact ⟨zE, zL HB.out⟩
 rw [if_neg c5] at H
 have c5b0 := zn0 c5
 have c5b1 := zn1 c5
 obtain rfl := Option.some.inj H
 go_enter Tryd.func31, Tryd.ntmps31
 go_wp2_with (first | ((with_reducible refine gate_dst (N := 4) rfl ?_); refine box_event ?hg (N := 4) ?hd (cs := #[.int .i64 a0_0, .string a0_1, .bool a0_2, .int .i64 a0_3, .int .i64 a0_4]) (t := 42) ?hr ?_; (case hd => rfl); (case hg => rfl); (case hr => (go_simp; try rfl)); intro gb121 hg w22 hbox hb; have BK121 := ka (hbox); have GW121 := ka (zG hg (zL HB.out)); replace HB := ka (below_step (zL HB.out) hb); have NB116_121 := ka (zNK hg BK116.out); have NB121_116 := ka (zOK hg BK116.out); replace BK116 := ka (zB BK116.out hb); have NB118_121 := ka (zNK hg BK118.out); have NB121_118 := ka (zOK hg BK118.out); replace BK118 := ka (zB BK118.out hb); have NB120_121 := ka (zNK hg BK120.out); have NB121_120 := ka (zOK hg BK120.out); replace BK120 := ka (zB BK120.out hb); clear hb hbox hg; have hnb23 := NB121_116.out; have hnc23 := NB116_121.out; have hnb24 := NB121_118.out; have hnc24 := NB118_121.out; have hnb25 := NB121_120.out; have hnc25 := NB120_121.out; obtain ⟨z26_0, z26_1, z26_2, z26_3, z26_4, y26_0, y26_1, y26_2, y26_3, y26_4⟩ := zC5 BK121.out; obtain ⟨z27_0, y27_0⟩ := zC1 BK116.out))
 go_ret
 exact ⟨zE, zL HB.out⟩

/-! ### lease_Lease_46_at31: function 46 -/
def lease_Lease_46_at31.l0 : Nat → List (S42) → Int → Int → Int → ByteArray → Int → Option (Int)
 | 0, _, _, _, _, _, _ => none
 | k + 1, x0, x7, x8, x124000, x125000, x126000 => if x8 < x7 then (if 0 ≤ x8 then (if x8 < (x0.length : Int) then ((lease_Valid_1.f ((rd_T42 x0 x8).f0) ((rd_T42 x0 x8).f1) ((rd_T42 x0 x8).f2) ((rd_T42 x0 x8).f3) ((rd_T42 x0 x8).f4) x124000 x125000 x126000).bind fun t127 => (if t127 = true then (some x8) else (lease_Lease_46_at31.l0 k x0 x7 (wrap64 (x8 + 1)) x124000 x125000 x126000))) else (none)) else (none)) else (some (-1))
def lease_Lease_46_at31.f (k : Nat) (l0 : List (S42)) (a1_0 : Int) (a1_1 : ByteArray) (a1_2 : Int) : Option (Int) := lease_Lease_46_at31.l0 k l0 (l0.length : Int) 0 a1_0 a1_1 a1_2
theorem lease_Lease_46_at31.mono_l : ∀ k, (∀ y0 y1 y2 y3 y4 y5, LeO (lease_Lease_46_at31.l0 k y0 y1 y2 y3 y4 y5) (lease_Lease_46_at31.l0 (k + 1) y0 y1 y2 y3 y4 y5))
 | 0 => fun _ _ _ _ _ _ r h => by simp [lease_Lease_46_at31.l0] at h
 | k + 1 => by
  have ih0 := lease_Lease_46_at31.mono_l k
  ·intro y0 y1 y2 y3 y4 y5
   unfold lease_Lease_46_at31.l0
   exact zLe
theorem lease_Lease_46_at31.mono : ∀ a0 a1 a2 a3 k, LeO (lease_Lease_46_at31.f k a0 a1 a2 a3) (lease_Lease_46_at31.f (k + 1) a0 a1 a2 a3) := by
 intro a0 a1 a2 a3 k
 have ih0 := lease_Lease_46_at31.mono_l k
 unfold lease_Lease_46_at31.f
 exact zLe
theorem lease_Lease_46_at31.calls (k : Nat) (A0 : Option Addr) (c0 : Nat) (l0 : List (S42)) (g1_0 : Nat) (g1_1 : Nat) (g1_2 : Nat) (a1_0 : Int) (a1_1 : ByteArray) (a1_2 : Int) (r : Int) (w : World) (hr0 : Kd.C k42 w A0 l0.length l0) (hc0 : l0.length ≤ c0) (hb1_0 : w.heap[g1_0]? = some (.cells #[.int .i64 a1_0] 3 (0, 0))) (hb1_1 : w.heap[g1_1]? = some (.cells #[.string a1_1] 9 (0, 0))) (hb1_2 : w.heap[g1_2]? = some (.cells #[.int .i64 a1_2] 3 (0, 0))) (h : lease_Lease_46_at31.f k l0 a1_0 a1_1 a1_2 = some r) :
  Calls Tryd.prog 46 #[.slice A0 l0.length c0, .func (.func 31) #[] #[.pointer (some ⟨g1_0, 0, none⟩), .pointer (some ⟨g1_1, 0, none⟩), .pointer (some ⟨g1_2, 0, none⟩)]] w fun e w' => e = .returned (.int .i64 r) ∧ Below w.heap.size w w' := by
 have hu42 := Tryd.underlying42
 have HR0 := ka hr0
 have HC0 := ka hc0
 clear hr0 hc0
 have BK123 := ka hb1_0
 clear hb1_0
 have BK124 := ka hb1_1
 clear hb1_1
 have BK125 := ka hb1_2
 clear hb1_2
 have HB := ka (Below.refl w.heap.size w)
 have H : (lease_Lease_46_at31.l0 k l0 (l0.length : Int) 0 a1_0 a1_1 a1_2) = some r := h
 clear h
 have H' := ka H
 clear H
 go_enter Tryd.func46, Tryd.ntmps46
 go_wp2
 go_loopg [8] k (fun kq v8 w' => ∃ (x8_1 : Int), v8 = .int .i64 x8_1 ∧ Aside0 (lease_Lease_46_at31.l0 kq l0 (l0.length : Int) x8_1 a1_0 a1_1 a1_2 = some r) ∧ Aside0 (kq ≤ k) ∧ Aside0 (w'.heap[g1_0]? = some (.cells #[.int .i64 a1_0] 3 (0, 0))) ∧ Aside0 (w'.heap[g1_1]? = some (.cells #[.string a1_1] 9 (0, 0))) ∧ Aside0 (w'.heap[g1_2]? = some (.cells #[.int .i64 a1_2] 3 (0, 0))) ∧ Aside0 (Below w.heap.size w w'))
 case atStart => exact ⟨(0), zS, H', ⟨Nat.le_refl _⟩, ⟨zK BK123.out⟩, ⟨zK BK124.out⟩, ⟨zK BK125.out⟩, ⟨zL HB.out⟩⟩
 case round =>
  clear H'
  obtain ⟨x8_1, rfl, HA, HK1, BK123, BK124, BK125, HB⟩ := hrel
  cases gk with
  | zero => exact absurd HA.out (by simp [lease_Lease_46_at31.l0])
  | succ k1 =>
   have H := HA.out
   clear HA
   simp only [lease_Lease_46_at31.l0] at H
   by_cases c3 : x8_1 < (l0.length : Int)
   ·rw [if_pos c3] at H
    have c3b0 := zdt c3
    clear c3
    replace H := zif H
    obtain ⟨c4, H⟩ := H
    have c4b0 := zdt c4
    clear c4
    replace H := zif H
    obtain ⟨c5, H⟩ := H
    have c5b0 := zdt c5
    clear c5
    replace H := Option.bind_eq_some_iff.mp H
    obtain ⟨t127, A60, H⟩ := H
    try dsimp only at H
    have A6 := ka A60
    clear A60
    by_cases c7 : t127 = true
    ·subst c7
     rw [if_pos rfl] at H
     obtain rfl := Option.some.inj H
     have p126 : 0 ≤ (x8_1 : Int) := zD
     have q126 : x8_1 < (l0.length : Int) := zD
     obtain ⟨ad126, e126, hx126_0, hx126_1, hx126_2, hx126_3, hx126_4⟩ := at_T42 HR0.out x8_1 p126 q126
     cases e126
     replace hx126_0 := zX HB.out hx126_0
     replace hx126_1 := zX HB.out hx126_1
     replace hx126_2 := zX HB.out hx126_2
     replace hx126_3 := zX HB.out hx126_3
     replace hx126_4 := zX HB.out hx126_4
     replace p126 := eq_true p126
     replace q126 := eq_true q126
     go_wp2_with (first | (go_at_call 31; (with_reducible refine (lease_Valid_1.calls ((rd_T42 l0 x8_1).f0) ((rd_T42 l0 x8_1).f1) ((rd_T42 l0 x8_1).f2) ((rd_T42 l0 x8_1).f3) ((rd_T42 l0 x8_1).f4) g1_0 a1_0 g1_1 a1_1 g1_2 a1_2 true _ ?side1 ?side2 ?side3 A6.out).mono ?_); (case side1 => exact zK BK123.out); (case side2 => exact zK BK124.out); (case side3 => exact zK BK125.out); rintro e w8 ⟨rfl, hb⟩; replace BK123 := ka (zB BK123.out hb); replace BK124 := ka (zB BK124.out hb); replace BK125 := ka (zB BK125.out hb); replace HB := ka (below_step (zL HB.out) hb); (try clear hb); (try clear hb2); (try clear hk); (try clear hi)))
     go_ret
     exact ⟨zE, zL HB.out⟩
    replace c7 := Bool.eq_false_iff.mpr c7
    subst c7
    rw [if_neg (show ¬ (false = true) by decide)] at H
    have H' := ka H
    clear H
    have p126 : 0 ≤ (x8_1 : Int) := zD
    have q126 : x8_1 < (l0.length : Int) := zD
    obtain ⟨ad126, e126, hx126_0, hx126_1, hx126_2, hx126_3, hx126_4⟩ := at_T42 HR0.out x8_1 p126 q126
    cases e126
    replace hx126_0 := zX HB.out hx126_0
    replace hx126_1 := zX HB.out hx126_1
    replace hx126_2 := zX HB.out hx126_2
    replace hx126_3 := zX HB.out hx126_3
    replace hx126_4 := zX HB.out hx126_4
    replace p126 := eq_true p126
    replace q126 := eq_true q126
    go_wp2_with (first | (go_at_call 31; (with_reducible refine (lease_Valid_1.calls ((rd_T42 l0 x8_1).f0) ((rd_T42 l0 x8_1).f1) ((rd_T42 l0 x8_1).f2) ((rd_T42 l0 x8_1).f3) ((rd_T42 l0 x8_1).f4) g1_0 a1_0 g1_1 a1_1 g1_2 a1_2 false _ ?side1 ?side2 ?side3 A6.out).mono ?_); (case side1 => exact zK BK123.out); (case side2 => exact zK BK124.out); (case side3 => exact zK BK125.out); rintro e w9 ⟨rfl, hb⟩; replace BK123 := ka (zB BK123.out hb); replace BK124 := ka (zB BK124.out hb); replace BK125 := ka (zB BK125.out hb); replace HB := ka (below_step (zL HB.out) hb); (try clear hb); (try clear hb2); (try clear hk); (try clear hi)))
    go_roundg k1
    case measure => have := HK1.out; omega
    case rel => exact ⟨(wrap64 (x8_1 + 1)), zS, H', ⟨by have := HK1.out; omega⟩, ⟨zK BK123.out⟩, ⟨zK BK124.out⟩, ⟨zK BK125.out⟩, ⟨zL HB.out⟩⟩
   rw [if_neg c3] at H
   have c3b0 := zdf c3
   clear c3
   obtain rfl := Option.some.inj H
   go_wp2
   go_ret
   exact ⟨zE, zL HB.out⟩

/-! ### lease_Lease_30_at31: function 30 -/
def lease_Lease_30_at31.f (k : Nat) (l0 : List (S42)) (a1_0 : Int) (a1_1 : ByteArray) (a1_2 : Int) : Option (Bool) := (lease_Lease_46_at31.f k l0 a1_0 a1_1 a1_2).bind fun t132 => (some (decide (t132 ≥ 0)))
theorem lease_Lease_30_at31.mono : ∀ a0 a1 a2 a3 k, LeO (lease_Lease_30_at31.f k a0 a1 a2 a3) (lease_Lease_30_at31.f (k + 1) a0 a1 a2 a3) := by
 intro a0 a1 a2 a3 k
 unfold lease_Lease_30_at31.f
 have m0 := @lease_Lease_46_at31.mono
 exact zLe
theorem lease_Lease_30_at31.calls (k : Nat) (A0 : Option Addr) (c0 : Nat) (l0 : List (S42)) (g1_0 : Nat) (g1_1 : Nat) (g1_2 : Nat) (a1_0 : Int) (a1_1 : ByteArray) (a1_2 : Int) (r : Bool) (w : World) (hr0 : Kd.C k42 w A0 l0.length l0) (hc0 : l0.length ≤ c0) (hb1_0 : w.heap[g1_0]? = some (.cells #[.int .i64 a1_0] 3 (0, 0))) (hb1_1 : w.heap[g1_1]? = some (.cells #[.string a1_1] 9 (0, 0))) (hb1_2 : w.heap[g1_2]? = some (.cells #[.int .i64 a1_2] 3 (0, 0))) (h : lease_Lease_30_at31.f k l0 a1_0 a1_1 a1_2 = some r) :
  Calls Tryd.prog 30 #[.slice A0 l0.length c0, .func (.func 31) #[] #[.pointer (some ⟨g1_0, 0, none⟩), .pointer (some ⟨g1_1, 0, none⟩), .pointer (some ⟨g1_2, 0, none⟩)]] w fun e w' => e = .returned (.bool r) ∧ Below w.heap.size w w' := by
 have HR0 := ka hr0
 have HC0 := ka hc0
 clear hr0 hc0
 have BK129 := ka hb1_0
 clear hb1_0
 have BK130 := ka hb1_1
 clear hb1_1
 have BK131 := ka hb1_2
 clear hb1_2
 have HB := ka (Below.refl w.heap.size w)
 have H : ((lease_Lease_46_at31.f k l0 a1_0 a1_1 a1_2).bind fun t132 => (some (decide (t132 ≥ 0)))) = some r := h
 clear h
 replace H := Option.bind_eq_some_iff.mp H
 obtain ⟨t132, A30, H⟩ := H
 try dsimp only at H
 have A3 := ka A30
 clear A30
 obtain rfl := Option.some.inj H
 go_enter Tryd.func30, Tryd.ntmps30
 go_wp2_with (first | ((with_reducible refine gate_callee (f := 46) rfl ?_); refine goesL_ (some 7) rfl rfl Tryd.func46 (by kernel_rfl) rfl #[.slice A0 l0.length c0, .func (.func 31) #[] #[.pointer (some ⟨g1_0, 0, none⟩), .pointer (some ⟨g1_1, 0, none⟩), .pointer (some ⟨g1_2, 0, none⟩)]] rfl zA ?_; (with_reducible refine (lease_Lease_46_at31.calls k _ _ l0 g1_0 g1_1 g1_2 a1_0 a1_1 a1_2 t132 _ ?side1 ?side2 ?side3 ?side4 ?side5 A3.out).mono ?_); (case side1 => repeat (first | exact HR0.out | (with_reducible refine Kd.C_alloc ?_ _) | (with_reducible refine Kd.C_drewN ?_ _) | (with_reducible refine Kd.C_drew ?_))); (case side2 => exact HC0.out); (case side3 => exact zK BK129.out); (case side4 => exact zK BK130.out); (case side5 => exact zK BK131.out); rintro e w4 ⟨rfl, hb⟩; refine ⟨_, rfl, ?_⟩; replace BK129 := ka (zB BK129.out hb); replace BK130 := ka (zB BK130.out hb); replace BK131 := ka (zB BK131.out hb); replace HB := ka (below_step (zL HB.out) hb); (try clear hb); (try clear hb2); (try clear hk); (try clear hi)))
 go_ret
 exact ⟨zE, zL HB.out⟩

/-! ### lease_Valid: function 13 -/
def lease_Valid.f (k : Nat) (a0_0 : Int) (l0_1 : List (S42)) (l0_2 : List (S49)) (a1 : Int) (a2 : ByteArray) (a3 : Int) : Option (Bool) := (lease_Lease_30_at31.f k l0_1 a1 a2 a3).bind fun t138 => (some t138)
theorem lease_Valid.mono : ∀ a0 a1 a2 a3 a4 a5 k, LeO (lease_Valid.f k a0 a1 a2 a3 a4 a5) (lease_Valid.f (k + 1) a0 a1 a2 a3 a4 a5) := by
 intro a0 a1 a2 a3 a4 a5 k
 unfold lease_Valid.f
 have m0 := @lease_Lease_30_at31.mono
 exact zLe
theorem lease_Valid.calls (k : Nat) (a0_0 : Int) (A0_1 : Option Addr) (c0_1 : Nat) (l0_1 : List (S42)) (A0_2 : Option Addr) (c0_2 : Nat) (l0_2 : List (S49)) (a1 : Int) (a2 : ByteArray) (a3 : Int) (r : Bool) (w : World) (hr0_1 : Kd.C k42 w A0_1 l0_1.length l0_1) (hc0_1 : l0_1.length ≤ c0_1) (hr0_2 : Kd.C k49 w A0_2 l0_2.length l0_2) (hc0_2 : l0_2.length ≤ c0_2) (h : lease_Valid.f k a0_0 l0_1 l0_2 a1 a2 a3 = some r) :
  Calls Tryd.prog 13 #[.agg #[.int .i64 a0_0, .slice A0_1 l0_1.length c0_1, .slice A0_2 l0_2.length c0_2], .int .i64 a1, .string a2, .int .i64 a3] w fun e w' => e = .returned (.bool r) ∧ Below w.heap.size w w' := by
 have hu28 := Tryd.underlying28
 have HR0_1 := ka hr0_1
 have HC0_1 := ka hc0_1
 clear hr0_1 hc0_1
 have HR0_2 := ka hr0_2
 have HC0_2 := ka hc0_2
 clear hr0_2 hc0_2
 have HB := ka (Below.refl w.heap.size w)
 have H : ((lease_Lease_30_at31.f k l0_1 a1 a2 a3).bind fun t138 => (some t138)) = some r := h
 clear h
 replace H := Option.bind_eq_some_iff.mp H
 obtain ⟨t138, A50, H⟩ := H
 try dsimp only at H
 have A5 := ka A50
 clear A50
 obtain rfl := Option.some.inj H
 go_enter Tryd.func13, Tryd.ntmps13
 go_wp2_with (first | ((with_reducible refine gate_dst (N := 4) rfl ?_); refine box_event ?hg (N := 4) ?hd (cs := #[.int .i64 a0_0, .slice A0_1 l0_1.length c0_1, .slice A0_2 l0_2.length c0_2]) (t := 28) ?hr ?_; (case hd => rfl); (case hg => rfl); (case hr => (go_simp; try rfl)); intro gb133 hg w6 hbox hb; have BK133 := ka (hbox); have GW133 := ka (zG hg (zL HB.out)); replace HB := ka (below_step (zL HB.out) hb); clear hb hbox hg) | ((with_reducible refine gate_dst (N := 5) rfl ?_); refine box_event ?hg (N := 5) ?hd (cs := #[.int .i64 a1]) (t := 3) ?hr ?_; (case hd => rfl); (case hg => rfl); (case hr => (go_simp; try rfl)); intro gb134 hg w7 hbox hb; have BK134 := ka (hbox); have GW134 := ka (zG hg (zL HB.out)); replace HB := ka (below_step (zL HB.out) hb); have NB133_134 := ka (zNK hg BK133.out); have NB134_133 := ka (zOK hg BK133.out); replace BK133 := ka (zB BK133.out hb); clear hb hbox hg) | ((with_reducible refine gate_dst (N := 6) rfl ?_); refine box_event ?hg (N := 6) ?hd (cs := #[.string a2]) (t := 9) ?hr ?_; (case hd => rfl); (case hg => rfl); (case hr => (go_simp; try rfl)); intro gb135 hg w8 hbox hb; have BK135 := ka (hbox); have GW135 := ka (zG hg (zL HB.out)); replace HB := ka (below_step (zL HB.out) hb); have NB133_135 := ka (zNK hg BK133.out); have NB135_133 := ka (zOK hg BK133.out); replace BK133 := ka (zB BK133.out hb); have NB134_135 := ka (zNK hg BK134.out); have NB135_134 := ka (zOK hg BK134.out); replace BK134 := ka (zB BK134.out hb); clear hb hbox hg) | ((with_reducible refine gate_dst (N := 7) rfl ?_); refine box_event ?hg (N := 7) ?hd (cs := #[.int .i64 a3]) (t := 3) ?hr ?_; (case hd => rfl); (case hg => rfl); (case hr => (go_simp; try rfl)); intro gb136 hg w9 hbox hb; have BK136 := ka (hbox); have GW136 := ka (zG hg (zL HB.out)); replace HB := ka (below_step (zL HB.out) hb); have NB133_136 := ka (zNK hg BK133.out); have NB136_133 := ka (zOK hg BK133.out); replace BK133 := ka (zB BK133.out hb); have NB134_136 := ka (zNK hg BK134.out); have NB136_134 := ka (zOK hg BK134.out); replace BK134 := ka (zB BK134.out hb); have NB135_136 := ka (zNK hg BK135.out); have NB136_135 := ka (zOK hg BK135.out); replace BK135 := ka (zB BK135.out hb); clear hb hbox hg; have hnb10 := NB133_134.out; have hnc10 := NB134_133.out; have hnb11 := NB133_135.out; have hnc11 := NB135_133.out; have hnb12 := NB133_136.out; have hnc12 := NB136_133.out; obtain ⟨z13_0, z13_1, z13_2, y13_0, y13_1, y13_2⟩ := zC3 BK133.out) | ((with_reducible refine gate_callee (f := 30) rfl ?_); refine goesL_ (some 12) rfl rfl Tryd.func30 (by kernel_rfl) rfl #[.slice A0_1 l0_1.length c0_1, .func (.func 31) #[] #[.pointer (some ⟨gb134, 0, none⟩), .pointer (some ⟨gb135, 0, none⟩), .pointer (some ⟨gb136, 0, none⟩)]] rfl zA ?_; (with_reducible refine (lease_Lease_30_at31.calls k _ _ l0_1 gb134 gb135 gb136 a1 a2 a3 t138 _ ?side1 ?side2 ?side3 ?side4 ?side5 A5.out).mono ?_); (case side1 => exact zCS (Kd.C_below HR0_1.out HB.out)); (case side2 => exact HC0_1.out); (case side3 => exact zK BK134.out); (case side4 => exact zK BK135.out); (case side5 => exact zK BK136.out); rintro e w14 ⟨rfl, hb⟩; refine ⟨_, rfl, ?_⟩; replace BK133 := ka (zB BK133.out hb); replace BK134 := ka (zB BK134.out hb); replace BK135 := ka (zB BK135.out hb); replace BK136 := ka (zB BK136.out hb); replace HB := ka (below_step (zL HB.out) hb); (try clear hb); (try clear hb2); (try clear hk); (try clear hi)))
 go_ret
 exact ⟨zE, zL HB.out⟩

-- NOT PRINTED: function 26 (lease_Lease_26)

/-! ### lease_Held_1: function 27 -/
def lease_Held_1.f (a0_0 : Int) (a0_1 : ByteArray) (a0_2 : Bool) (a0_3 : Int) (a0_4 : Int) (a1_0 : Int) (a2_0 : ByteArray) : Option (Bool) := if a0_0 = a1_0 then (some (a0_1.toList == a2_0.toList)) else (some false)
theorem lease_Held_1.calls (a0_0 : Int) (a0_1 : ByteArray) (a0_2 : Bool) (a0_3 : Int) (a0_4 : Int) (g1_0 : Nat) (a1_0 : Int) (g2_0 : Nat) (a2_0 : ByteArray) (r : Bool) (w : World) (hb1_0 : w.heap[g1_0]? = some (.cells #[.int .i64 a1_0] 3 (0, 0))) (hb2_0 : w.heap[g2_0]? = some (.cells #[.string a2_0] 9 (0, 0))) (h : lease_Held_1.f a0_0 a0_1 a0_2 a0_3 a0_4 a1_0 a2_0 = some r) :
  Calls Tryd.prog 27 #[.agg #[.int .i64 a0_0, .string a0_1, .bool a0_2, .int .i64 a0_3, .int .i64 a0_4], .pointer (some ⟨g1_0, 0, none⟩), .pointer (some ⟨g2_0, 0, none⟩)] w fun e w' => e = .returned (.bool r) ∧ Below w.heap.size w w' := by
 have hu42 := Tryd.underlying42
 have BK150 := ka hb1_0
 clear hb1_0
 have BK152 := ka hb2_0
 clear hb2_0
 have HB := ka (Below.refl w.heap.size w)
 have H : (if a0_0 = a1_0 then (some (a0_1.toList == a2_0.toList)) else (some false)) = some r := h
 clear h
 by_cases c4 : a0_0 = a1_0
 ·rw [if_pos c4] at H
  have c4b0 := zb0 c4
  have c4b1 := zb1 c4
  clear c4
  obtain rfl := Option.some.inj H
  go_enter Tryd.func27, Tryd.ntmps27
  go_wp2_with (first | ((with_reducible refine gate_dst (N := 3) rfl ?_); refine box_event ?hg (N := 3) ?hd (cs := #[.int .i64 a0_0, .string a0_1, .bool a0_2, .int .i64 a0_3, .int .i64 a0_4]) (t := 42) ?hr ?_; (case hd => rfl); (case hg => rfl); (case hr => (go_simp; try rfl)); intro gb153 hg w5 hbox hb; have BK153 := ka (hbox); have GW153 := ka (zG hg (zL HB.out)); replace HB := ka (below_step (zL HB.out) hb); have NB150_153 := ka (zNK hg BK150.out); have NB153_150 := ka (zOK hg BK150.out); replace BK150 := ka (zB BK150.out hb); have NB152_153 := ka (zNK hg BK152.out); have NB153_152 := ka (zOK hg BK152.out); replace BK152 := ka (zB BK152.out hb); clear hb hbox hg; have hnb6 := NB153_150.out; have hnc6 := NB150_153.out; have hnb7 := NB153_152.out; have hnc7 := NB152_153.out; obtain ⟨z8_0, z8_1, z8_2, z8_3, z8_4, y8_0, y8_1, y8_2, y8_3, y8_4⟩ := zC5 BK153.out; obtain ⟨z9_0, y9_0⟩ := zC1 BK150.out; obtain ⟨z10_0, y10_0⟩ := zC1 BK152.out))
  go_ret
  exact ⟨zE, zL HB.out⟩
 rw [if_neg c4] at H
 have c4b0 := zn0 c4
 have c4b1 := zn1 c4
 obtain rfl := Option.some.inj H
 go_enter Tryd.func27, Tryd.ntmps27
 go_wp2_with (first | ((with_reducible refine gate_dst (N := 3) rfl ?_); refine box_event ?hg (N := 3) ?hd (cs := #[.int .i64 a0_0, .string a0_1, .bool a0_2, .int .i64 a0_3, .int .i64 a0_4]) (t := 42) ?hr ?_; (case hd => rfl); (case hg => rfl); (case hr => (go_simp; try rfl)); intro gb153 hg w11 hbox hb; have BK153 := ka (hbox); have GW153 := ka (zG hg (zL HB.out)); replace HB := ka (below_step (zL HB.out) hb); have NB150_153 := ka (zNK hg BK150.out); have NB153_150 := ka (zOK hg BK150.out); replace BK150 := ka (zB BK150.out hb); have NB152_153 := ka (zNK hg BK152.out); have NB153_152 := ka (zOK hg BK152.out); replace BK152 := ka (zB BK152.out hb); clear hb hbox hg; have hnb12 := NB153_150.out; have hnc12 := NB150_153.out; have hnb13 := NB153_152.out; have hnc13 := NB152_153.out; obtain ⟨z14_0, z14_1, z14_2, z14_3, z14_4, y14_0, y14_1, y14_2, y14_3, y14_4⟩ := zC5 BK153.out; obtain ⟨z15_0, y15_0⟩ := zC1 BK150.out))
 go_ret
 exact ⟨zE, zL HB.out⟩

/-! ### lease_Lease_26_at27: function 26 -/
def lease_Lease_26_at27.l0 : Nat → List (S42) → List (S42) → List (S42) → Int → Int → Int → ByteArray → Option ((List (S42)) × (List (S42)))
 | 0, _, _, _, _, _, _, _ => none
 | k + 1, x4, x5, x8, x9, x10, x156000, x157000 => if x10 < x9 then (if 0 ≤ x10 then (if x10 < (x8.length : Int) then ((lease_Held_1.f ((rd_T42 x8 x10).f0) ((rd_T42 x8 x10).f1) ((rd_T42 x8 x10).f2) ((rd_T42 x8 x10).f3) ((rd_T42 x8 x10).f4) x156000 x157000).bind fun t159 => (if t159 = true then (if x4.length < 2932031007402 then (lease_Lease_26_at27.l0 k (x4 ++ [(⟨(rd_T42 x8 x10).f0, (rd_T42 x8 x10).f1, (rd_T42 x8 x10).f2, (rd_T42 x8 x10).f3, (rd_T42 x8 x10).f4⟩ : S42)]) x5 x8 x9 (wrap64 (x10 + 1)) x156000 x157000) else (none)) else (if x5.length < 2932031007402 then (lease_Lease_26_at27.l0 k x4 (x5 ++ [(⟨(rd_T42 x8 x10).f0, (rd_T42 x8 x10).f1, (rd_T42 x8 x10).f2, (rd_T42 x8 x10).f3, (rd_T42 x8 x10).f4⟩ : S42)]) x8 x9 (wrap64 (x10 + 1)) x156000 x157000) else (none)))) else (none)) else (none)) else (some (x4, x5))
def lease_Lease_26_at27.f (k : Nat) (l0 : List (S42)) (a1_0 : Int) (a1_1 : ByteArray) : Option ((List (S42)) × (List (S42))) := lease_Lease_26_at27.l0 k ([] : List (S42)) ([] : List (S42)) l0 (l0.length : Int) 0 a1_0 a1_1
theorem lease_Lease_26_at27.mono_l : ∀ k, (∀ y0 y1 y2 y3 y4 y5 y6, LeO (lease_Lease_26_at27.l0 k y0 y1 y2 y3 y4 y5 y6) (lease_Lease_26_at27.l0 (k + 1) y0 y1 y2 y3 y4 y5 y6))
 | 0 => fun _ _ _ _ _ _ _ r h => by simp [lease_Lease_26_at27.l0] at h
 | k + 1 => by
  have ih0 := lease_Lease_26_at27.mono_l k
  ·intro y0 y1 y2 y3 y4 y5 y6
   unfold lease_Lease_26_at27.l0
   exact zLe
theorem lease_Lease_26_at27.mono : ∀ a0 a1 a2 k, LeO (lease_Lease_26_at27.f k a0 a1 a2) (lease_Lease_26_at27.f (k + 1) a0 a1 a2) := by
 intro a0 a1 a2 k
 have ih0 := lease_Lease_26_at27.mono_l k
 unfold lease_Lease_26_at27.f
 exact zLe
theorem lease_Lease_26_at27.calls (k : Nat) (A0 : Option Addr) (c0 : Nat) (l0 : List (S42)) (g1_0 : Nat) (g1_1 : Nat) (a1_0 : Int) (a1_1 : ByteArray) (r1 : List (S42)) (r2 : List (S42)) (w : World) (hr0 : Kd.C k42 w A0 l0.length l0) (hc0 : l0.length ≤ c0) (hb1_0 : w.heap[g1_0]? = some (.cells #[.int .i64 a1_0] 3 (0, 0))) (hb1_1 : w.heap[g1_1]? = some (.cells #[.string a1_1] 9 (0, 0))) (h : lease_Lease_26_at27.f k l0 a1_0 a1_1 = some (r1, r2)) :
  Calls Tryd.prog 26 #[.slice A0 l0.length c0, .func (.func 27) #[] #[.pointer (some ⟨g1_0, 0, none⟩), .pointer (some ⟨g1_1, 0, none⟩)]] w fun e w' => ∃ v0_ v1_ : Value, e = .returned (.tuple #[v0_, v1_]) ∧ Kd.R k42 42 w' w.heap.size (fun k_ => some k_ ≠ (v1_ : Value).ownBlock) v0_ r1 ∧ Kd.R k42 42 w' w.heap.size (fun k_ => some k_ ≠ (v0_ : Value).ownBlock) v1_ r2 ∧ Below w.heap.size w w' := by
 have hu42 := Tryd.underlying42
 have HR0 := ka hr0
 have HC0 := ka hc0
 clear hr0 hc0
 have BK155 := ka hb1_0
 clear hb1_0
 have BK156 := ka hb1_1
 clear hb1_1
 have HB := ka (Below.refl w.heap.size w)
 have H : (lease_Lease_26_at27.l0 k ([] : List (S42)) ([] : List (S42)) l0 (l0.length : Int) 0 a1_0 a1_1) = some (r1, r2) := h
 clear h
 have H' := ka H
 clear H
 go_enter Tryd.func26, Tryd.ntmps26
 go_wp2
 go_loopg [4, 5, 10] k (fun kq v4 v5 v10 w' => ∃ (x4_1 : List (S42)) (x5_1 : List (S42)) (x10_1 : Int), v10 = .int .i64 x10_1 ∧ Aside0 (lease_Lease_26_at27.l0 kq x4_1 x5_1 l0 (l0.length : Int) x10_1 a1_0 a1_1 = some (r1, r2)) ∧ Aside0 (kq ≤ k) ∧ Aside0 (Kd.R k42 42 w' w.heap.size (fun k_ => some k_ ≠ (v5 : Value).ownBlock) v4 x4_1) ∧ Aside0 (Kd.R k42 42 w' w.heap.size (fun k_ => some k_ ≠ (v4 : Value).ownBlock) v5 x5_1) ∧ Aside0 (w'.heap[g1_0]? = some (.cells #[.int .i64 a1_0] 3 (0, 0))) ∧ Aside0 (w'.heap[g1_1]? = some (.cells #[.string a1_1] 9 (0, 0))) ∧ Aside0 (Below w.heap.size w w'))
 case atStart => exact ⟨(([] : List (S42))), (([] : List (S42))), (0), zS, H', ⟨Nat.le_refl _⟩, ⟨zNl⟩, ⟨zNl⟩, ⟨zK BK155.out⟩, ⟨zK BK156.out⟩, ⟨zL HB.out⟩⟩
 case round =>
  clear H'
  obtain ⟨x4_1, x5_1, x10_1, rfl, HA, HK1, HO_4, HO_5, BK155, BK156, HB⟩ := hrel
  cases gk with
  | zero => exact absurd HA.out (by simp [lease_Lease_26_at27.l0])
  | succ k1 =>
   have H := HA.out
   clear HA
   simp only [lease_Lease_26_at27.l0] at H
   by_cases c3 : x10_1 < (l0.length : Int)
   ·rw [if_pos c3] at H
    have c3b0 := zdt c3
    clear c3
    replace H := zif H
    obtain ⟨c4, H⟩ := H
    have c4b0 := zdt c4
    clear c4
    replace H := zif H
    obtain ⟨c5, H⟩ := H
    have c5b0 := zdt c5
    clear c5
    replace H := Option.bind_eq_some_iff.mp H
    obtain ⟨t159, A60, H⟩ := H
    try dsimp only at H
    have A6 := ka A60
    clear A60
    by_cases c7 : t159 = true
    ·subst c7
     rw [if_pos rfl] at H
     replace H := zif H
     obtain ⟨c8, H⟩ := H
     have LMc8 := ka c8
     clear c8
     obtain ⟨y160, hy160⟩ : ∃ y_ : List (S42), y_ = (x4_1 ++ [(⟨(rd_T42 l0 x10_1).f0, (rd_T42 l0 x10_1).f1, (rd_T42 l0 x10_1).f2, (rd_T42 l0 x10_1).f3, (rd_T42 l0 x10_1).f4⟩ : S42)]) := ⟨_, rfl⟩
     replace H : (lease_Lease_26_at27.l0 k1 y160 x5_1 l0 (l0.length : Int) (wrap64 (x10_1 + 1)) a1_0 a1_1) = some (r1, r2) := zH hy160 H
     have Ny160 := ka hy160
     clear hy160
     have H' := ka H
     clear H
     have p157 : 0 ≤ (x10_1 : Int) := zD
     have q157 : x10_1 < (l0.length : Int) := zD
     obtain ⟨ad157, e157, hx157_0, hx157_1, hx157_2, hx157_3, hx157_4⟩ := at_T42 HR0.out x10_1 p157 q157
     cases e157
     replace hx157_0 := zX HB.out hx157_0
     replace hx157_1 := zX HB.out hx157_1
     replace hx157_2 := zX HB.out hx157_2
     replace hx157_3 := zX HB.out hx157_3
     replace hx157_4 := zX HB.out hx157_4
     replace p157 := eq_true p157
     replace q157 := eq_true q157
     go_wp2_with (first | ((with_reducible refine gate_dst (N := 7) rfl ?_); refine box_event ?hg (N := 7) ?hd (cs := #[.int .i64 0, .string ⟨#[]⟩, .bool false, .int .i64 0, .int .i64 0]) (t := 42) ?hr ?_; (case hd => rfl); (case hg => rfl); (case hr => (go_simp; try rfl)); intro gb158 hg w9 hbox hb; replace HO_4 := ka (Kd.R_below (Kd.R_elderB (zR HO_4.out) gb158 (Nat.le_of_eq hg.symm)) hb); replace HO_5 := ka (Kd.R_below (Kd.R_elderB (zR HO_5.out) gb158 (Nat.le_of_eq hg.symm)) hb); have BK158 := ka (hbox); have GW158 := ka (zG hg (zL HB.out)); replace HB := ka (below_step (zL HB.out) hb); have NB155_158 := ka (zNK hg BK155.out); have NB158_155 := ka (zOK hg BK155.out); replace BK155 := ka (zB BK155.out hb); have NB156_158 := ka (zNK hg BK156.out); have NB158_156 := ka (zOK hg BK156.out); replace BK156 := ka (zB BK156.out hb); clear hb hbox hg; have hnb10 := NB158_155.out; have hnc10 := NB155_158.out; have hnb11 := NB158_156.out; have hnc11 := NB156_158.out; obtain ⟨z12_0, z12_1, z12_2, z12_3, z12_4, y12_0, y12_1, y12_2, y12_3, y12_4⟩ := zC5 BK158.out) | (go_at_call 27; (with_reducible refine (lease_Held_1.calls ((rd_T42 l0 x10_1).f0) ((rd_T42 l0 x10_1).f1) ((rd_T42 l0 x10_1).f2) ((rd_T42 l0 x10_1).f3) ((rd_T42 l0 x10_1).f4) g1_0 a1_0 g1_1 a1_1 true _ ?side1 ?side2 A6.out).mono ?_); (case side1 => exact zK BK155.out); (case side2 => exact zK BK156.out); rintro e w13 ⟨rfl, hb⟩; replace HO_4 := ka (Kd.R_below (zM HO_4.out (g := gb158) (fun _ hk => hk.2)) hb); replace HO_5 := ka (Kd.R_below (zM HO_5.out (g := gb158) (fun _ hk => hk.2)) hb); replace BK155 := ka (zB BK155.out hb); replace BK156 := ka (zB BK156.out hb); replace BK158 := ka (blk_below (g := gb158) (o := .cells #[.int .i64 ((rd_T42 l0 x10_1).f0), .string ((rd_T42 l0 x10_1).f1), .bool ((rd_T42 l0 x10_1).f2), .int .i64 ((rd_T42 l0 x10_1).f3), .int .i64 ((rd_T42 l0 x10_1).f4)] 42 (0, 0)) (zP5 BK158.out) hb); replace HB := ka (below_step (zL HB.out) hb); (try clear hb); (try clear hb2); (try clear hk); (try clear hi); obtain ⟨z14_0, z14_1, z14_2, z14_3, z14_4, y14_0, y14_1, y14_2, y14_3, y14_4⟩ := zC5 BK158.out) | ((with_reducible refine gate_builtin (b := .append) (xs := #[.tmp 17, .tmp 19]) rfl ?_); at_builtin; refine Kd.R_append k42 (w0 := w) w.heap.size rfl (.tmp 17) (.tmp 19) 25 42 (.agg #[(.int .i64 0), (.string ⟨#[]⟩), (.bool false), (.int .i64 0), (.int .i64 0)]) 48 rfl Tryd.underlying25 info42 rfl (by decide) (by omega) u4 x4_1 (⟨(rd_T42 l0 x10_1).f0, (rd_T42 l0 x10_1).f1, (rd_T42 l0 x10_1).f2, (rd_T42 l0 x10_1).f3, (rd_T42 l0 x10_1).f4⟩ : S42) [.int .i64 ((rd_T42 l0 x10_1).f0), .string ((rd_T42 l0 x10_1).f1), .bool ((rd_T42 l0 x10_1).f2), .int .i64 ((rd_T42 l0 x10_1).f3), .int .i64 ((rd_T42 l0 x10_1).f4)] (fun k_ => some k_ ≠ (u5 : Value).ownBlock ∧ k_ ≠ gb158) (fun _ => False) rfl rfl ?aP (fun _ hk => hk.elim) ?aF ?aO ?aB ?aS ?aL ?_; (case aP => exact k42_mkM _ _ _ (⟨(rd_T42 l0 x10_1).f0, (rd_T42 l0 x10_1).f1, (rd_T42 l0 x10_1).f2, (rd_T42 l0 x10_1).f3, (rd_T42 l0 x10_1).f4⟩ : S42)); (case aB => exact (zL HB.out)); (case aF => exact (fun k_ hk => ⟨Kd.fresh' (Kd.R_lt (zR HO_5.out)) k_ hk, Kd.freshB (g := gb158) (o := .cells #[.int .i64 ((rd_T42 l0 x10_1).f0), .string ((rd_T42 l0 x10_1).f1), .bool ((rd_T42 l0 x10_1).f2), .int .i64 ((rd_T42 l0 x10_1).f3), .int .i64 ((rd_T42 l0 x10_1).f4)] 42 (0, 0)) (zK BK158.out) k_ hk⟩)); (case aO => exact (zR HO_4.out)); (case aS => exact (below_size (zL HB.out))); (case aL => have := LMc8.out; omega); intro v161 w15 ho hb hg hat; rw [← Ny160.out] at ho; replace HO_5 := ka (Kd.R_after (ok := (fun k_ => k_ ≠ gb158)) (by (with_reducible repeat (first | apply Kd.R_alloc | apply Kd.R_drewN | apply Kd.R_drew)); exact Kd.R_mono HO_5.out (fun _ hk => ⟨hk.2, hk.1⟩)) hg hat); replace BK155 := ka (blk_grown (g := g1_0) (o := .cells #[.int .i64 a1_0] 3 (0, 0)) (zK BK155.out) hg (Kd.R_ne HO_4.out BK155.out (by decide))); replace BK156 := ka (blk_grown (g := g1_1) (o := .cells #[.string a1_1] 9 (0, 0)) (zK BK156.out) hg (Kd.R_ne HO_4.out BK156.out (by decide))); replace BK158 := ka (blk_grown (g := gb158) (o := .cells #[.int .i64 ((rd_T42 l0 x10_1).f0), .string ((rd_T42 l0 x10_1).f1), .bool ((rd_T42 l0 x10_1).f2), .int .i64 ((rd_T42 l0 x10_1).f3), .int .i64 ((rd_T42 l0 x10_1).f4)] 42 (0, 0)) (zK BK158.out) hg (Kd.R_away HO_4.out (fun _ hk => hk.2))); replace HB := ka (hb); have HO162 := ka (ho); clear HO_4; clear ho hb hg hat))
     go_roundg k1
     case measure => have := HK1.out; omega
     case rel => exact ⟨(y160), (x5_1), (wrap64 (x10_1 + 1)), zS, H', ⟨by have := HK1.out; omega⟩, ⟨by (with_reducible repeat (first | apply Kd.R_alloc | apply Kd.R_drewN | apply Kd.R_drew)); exact Kd.R_mono HO162.out (fun _ hk => hk.1)⟩, ⟨by (with_reducible repeat (first | apply Kd.R_alloc | apply Kd.R_drewN | apply Kd.R_drew)); exact Kd.R_mono HO_5.out (fun _ hk => hk.2)⟩, ⟨zK BK155.out⟩, ⟨zK BK156.out⟩, ⟨zL HB.out⟩⟩
    replace c7 := Bool.eq_false_iff.mpr c7
    subst c7
    rw [if_neg (show ¬ (false = true) by decide)] at H
    replace H := zif H
    obtain ⟨c16, H⟩ := H
    have LMc16 := ka c16
    clear c16
    obtain ⟨y163, hy163⟩ : ∃ y_ : List (S42), y_ = (x5_1 ++ [(⟨(rd_T42 l0 x10_1).f0, (rd_T42 l0 x10_1).f1, (rd_T42 l0 x10_1).f2, (rd_T42 l0 x10_1).f3, (rd_T42 l0 x10_1).f4⟩ : S42)]) := ⟨_, rfl⟩
    replace H : (lease_Lease_26_at27.l0 k1 x4_1 y163 l0 (l0.length : Int) (wrap64 (x10_1 + 1)) a1_0 a1_1) = some (r1, r2) := zH hy163 H
    have Ny163 := ka hy163
    clear hy163
    have H' := ka H
    clear H
    have p157 : 0 ≤ (x10_1 : Int) := zD
    have q157 : x10_1 < (l0.length : Int) := zD
    obtain ⟨ad157, e157, hx157_0, hx157_1, hx157_2, hx157_3, hx157_4⟩ := at_T42 HR0.out x10_1 p157 q157
    cases e157
    replace hx157_0 := zX HB.out hx157_0
    replace hx157_1 := zX HB.out hx157_1
    replace hx157_2 := zX HB.out hx157_2
    replace hx157_3 := zX HB.out hx157_3
    replace hx157_4 := zX HB.out hx157_4
    replace p157 := eq_true p157
    replace q157 := eq_true q157
    go_wp2_with (first | ((with_reducible refine gate_dst (N := 7) rfl ?_); refine box_event ?hg (N := 7) ?hd (cs := #[.int .i64 0, .string ⟨#[]⟩, .bool false, .int .i64 0, .int .i64 0]) (t := 42) ?hr ?_; (case hd => rfl); (case hg => rfl); (case hr => (go_simp; try rfl)); intro gb158 hg w17 hbox hb; replace HO_4 := ka (Kd.R_below (Kd.R_elderB (zR HO_4.out) gb158 (Nat.le_of_eq hg.symm)) hb); replace HO_5 := ka (Kd.R_below (Kd.R_elderB (zR HO_5.out) gb158 (Nat.le_of_eq hg.symm)) hb); have BK158 := ka (hbox); have GW158 := ka (zG hg (zL HB.out)); replace HB := ka (below_step (zL HB.out) hb); have NB155_158 := ka (zNK hg BK155.out); have NB158_155 := ka (zOK hg BK155.out); replace BK155 := ka (zB BK155.out hb); have NB156_158 := ka (zNK hg BK156.out); have NB158_156 := ka (zOK hg BK156.out); replace BK156 := ka (zB BK156.out hb); clear hb hbox hg; have hnb18 := NB158_155.out; have hnc18 := NB155_158.out; have hnb19 := NB158_156.out; have hnc19 := NB156_158.out; obtain ⟨z20_0, z20_1, z20_2, z20_3, z20_4, y20_0, y20_1, y20_2, y20_3, y20_4⟩ := zC5 BK158.out) | (go_at_call 27; (with_reducible refine (lease_Held_1.calls ((rd_T42 l0 x10_1).f0) ((rd_T42 l0 x10_1).f1) ((rd_T42 l0 x10_1).f2) ((rd_T42 l0 x10_1).f3) ((rd_T42 l0 x10_1).f4) g1_0 a1_0 g1_1 a1_1 false _ ?side1 ?side2 A6.out).mono ?_); (case side1 => exact zK BK155.out); (case side2 => exact zK BK156.out); rintro e w21 ⟨rfl, hb⟩; replace HO_4 := ka (Kd.R_below (zM HO_4.out (g := gb158) (fun _ hk => hk.2)) hb); replace HO_5 := ka (Kd.R_below (zM HO_5.out (g := gb158) (fun _ hk => hk.2)) hb); replace BK155 := ka (zB BK155.out hb); replace BK156 := ka (zB BK156.out hb); replace BK158 := ka (blk_below (g := gb158) (o := .cells #[.int .i64 ((rd_T42 l0 x10_1).f0), .string ((rd_T42 l0 x10_1).f1), .bool ((rd_T42 l0 x10_1).f2), .int .i64 ((rd_T42 l0 x10_1).f3), .int .i64 ((rd_T42 l0 x10_1).f4)] 42 (0, 0)) (zP5 BK158.out) hb); replace HB := ka (below_step (zL HB.out) hb); (try clear hb); (try clear hb2); (try clear hk); (try clear hi); obtain ⟨z22_0, z22_1, z22_2, z22_3, z22_4, y22_0, y22_1, y22_2, y22_3, y22_4⟩ := zC5 BK158.out) | ((with_reducible refine gate_builtin (b := .append) (xs := #[.tmp 21, .tmp 23]) rfl ?_); at_builtin; refine Kd.R_append k42 (w0 := w) w.heap.size rfl (.tmp 21) (.tmp 23) 25 42 (.agg #[(.int .i64 0), (.string ⟨#[]⟩), (.bool false), (.int .i64 0), (.int .i64 0)]) 48 rfl Tryd.underlying25 info42 rfl (by decide) (by omega) u5 x5_1 (⟨(rd_T42 l0 x10_1).f0, (rd_T42 l0 x10_1).f1, (rd_T42 l0 x10_1).f2, (rd_T42 l0 x10_1).f3, (rd_T42 l0 x10_1).f4⟩ : S42) [.int .i64 ((rd_T42 l0 x10_1).f0), .string ((rd_T42 l0 x10_1).f1), .bool ((rd_T42 l0 x10_1).f2), .int .i64 ((rd_T42 l0 x10_1).f3), .int .i64 ((rd_T42 l0 x10_1).f4)] (fun k_ => some k_ ≠ (u4 : Value).ownBlock ∧ k_ ≠ gb158) (fun _ => False) rfl rfl ?aP (fun _ hk => hk.elim) ?aF ?aO ?aB ?aS ?aL ?_; (case aP => exact k42_mkM _ _ _ (⟨(rd_T42 l0 x10_1).f0, (rd_T42 l0 x10_1).f1, (rd_T42 l0 x10_1).f2, (rd_T42 l0 x10_1).f3, (rd_T42 l0 x10_1).f4⟩ : S42)); (case aB => exact (zL HB.out)); (case aF => exact (fun k_ hk => ⟨Kd.fresh' (Kd.R_lt (zR HO_4.out)) k_ hk, Kd.freshB (g := gb158) (o := .cells #[.int .i64 ((rd_T42 l0 x10_1).f0), .string ((rd_T42 l0 x10_1).f1), .bool ((rd_T42 l0 x10_1).f2), .int .i64 ((rd_T42 l0 x10_1).f3), .int .i64 ((rd_T42 l0 x10_1).f4)] 42 (0, 0)) (zK BK158.out) k_ hk⟩)); (case aO => exact (zR HO_5.out)); (case aS => exact (below_size (zL HB.out))); (case aL => have := LMc16.out; omega); intro v164 w23 ho hb hg hat; rw [← Ny163.out] at ho; replace HO_4 := ka (Kd.R_after (ok := (fun k_ => k_ ≠ gb158)) (by (with_reducible repeat (first | apply Kd.R_alloc | apply Kd.R_drewN | apply Kd.R_drew)); exact Kd.R_mono HO_4.out (fun _ hk => ⟨hk.2, hk.1⟩)) hg hat); replace BK155 := ka (blk_grown (g := g1_0) (o := .cells #[.int .i64 a1_0] 3 (0, 0)) (zK BK155.out) hg (Kd.R_ne HO_5.out BK155.out (by decide))); replace BK156 := ka (blk_grown (g := g1_1) (o := .cells #[.string a1_1] 9 (0, 0)) (zK BK156.out) hg (Kd.R_ne HO_5.out BK156.out (by decide))); replace BK158 := ka (blk_grown (g := gb158) (o := .cells #[.int .i64 ((rd_T42 l0 x10_1).f0), .string ((rd_T42 l0 x10_1).f1), .bool ((rd_T42 l0 x10_1).f2), .int .i64 ((rd_T42 l0 x10_1).f3), .int .i64 ((rd_T42 l0 x10_1).f4)] 42 (0, 0)) (zK BK158.out) hg (Kd.R_away HO_5.out (fun _ hk => hk.2))); replace HB := ka (hb); have HO165 := ka (ho); clear HO_5; clear ho hb hg hat))
    go_roundg k1
    case measure => have := HK1.out; omega
    case rel => exact ⟨(x4_1), (y163), (wrap64 (x10_1 + 1)), zS, H', ⟨by have := HK1.out; omega⟩, ⟨by (with_reducible repeat (first | apply Kd.R_alloc | apply Kd.R_drewN | apply Kd.R_drew)); exact Kd.R_mono HO_4.out (fun _ hk => hk.2)⟩, ⟨by (with_reducible repeat (first | apply Kd.R_alloc | apply Kd.R_drewN | apply Kd.R_drew)); exact Kd.R_mono HO165.out (fun _ hk => hk.1)⟩, ⟨zK BK155.out⟩, ⟨zK BK156.out⟩, ⟨zL HB.out⟩⟩
   rw [if_neg c3] at H
   have c3b0 := zdf c3
   clear c3
   replace H := zs2 H
   obtain ⟨rfl, rfl⟩ := H
   go_wp2
   go_ret2
   exact ⟨_, _, zE, by (with_reducible repeat (first | apply Kd.R_alloc | apply Kd.R_drewN | apply Kd.R_drew)); exact HO_4.out, by (with_reducible repeat (first | apply Kd.R_alloc | apply Kd.R_drewN | apply Kd.R_drew)); exact HO_5.out, zL HB.out⟩

/-! ### lease_Held: function 9 -/
def lease_Held.f (k : Nat) (a0_0 : Int) (l0_1 : List (S42)) (l0_2 : List (S49)) (a1 : Int) (a2 : ByteArray) : Option (Int × ByteArray × Bool × Int × Int × Bool) := (lease_Lease_26_at27.f k l0_1 a1 a2).bind fun bt171 => (if (bt171.1.length : Int) = 0 then (some (0, (⟨#[]⟩ : ByteArray), false, 0, 0, false)) else (if 0 < (bt171.1.length : Int) then (some ((rd_T42 bt171.1 0).f0, (rd_T42 bt171.1 0).f1, (rd_T42 bt171.1 0).f2, (rd_T42 bt171.1 0).f3, (rd_T42 bt171.1 0).f4, true)) else (none)))
theorem lease_Held.mono : ∀ a0 a1 a2 a3 a4 k, LeO (lease_Held.f k a0 a1 a2 a3 a4) (lease_Held.f (k + 1) a0 a1 a2 a3 a4) := by
 intro a0 a1 a2 a3 a4 k
 unfold lease_Held.f
 have m0 := @lease_Lease_26_at27.mono
 exact zLe
theorem lease_Held.calls (k : Nat) (a0_0 : Int) (A0_1 : Option Addr) (c0_1 : Nat) (l0_1 : List (S42)) (A0_2 : Option Addr) (c0_2 : Nat) (l0_2 : List (S49)) (a1 : Int) (a2 : ByteArray) (r1 : Int) (r2 : ByteArray) (r3 : Bool) (r4 : Int) (r5 : Int) (r6 : Bool) (w : World) (hr0_1 : Kd.C k42 w A0_1 l0_1.length l0_1) (hc0_1 : l0_1.length ≤ c0_1) (hr0_2 : Kd.C k49 w A0_2 l0_2.length l0_2) (hc0_2 : l0_2.length ≤ c0_2) (h : lease_Held.f k a0_0 l0_1 l0_2 a1 a2 = some (r1, r2, r3, r4, r5, r6)) :
  Calls Tryd.prog 9 #[.agg #[.int .i64 a0_0, .slice A0_1 l0_1.length c0_1, .slice A0_2 l0_2.length c0_2], .int .i64 a1, .string a2] w fun e w' => e = .returned (.tuple #[.agg #[.int .i64 r1, .string r2, .bool r3, .int .i64 r4, .int .i64 r5], .bool r6]) ∧ Below w.heap.size w w' := by
 have hu28 := Tryd.underlying28
 have hu42 := Tryd.underlying42
 have HR0_1 := ka hr0_1
 have HC0_1 := ka hc0_1
 clear hr0_1 hc0_1
 have HR0_2 := ka hr0_2
 have HC0_2 := ka hc0_2
 clear hr0_2 hc0_2
 have HB := ka (Below.refl w.heap.size w)
 have H : ((lease_Lease_26_at27.f k l0_1 a1 a2).bind fun bt171 => (if (bt171.1.length : Int) = 0 then (some (0, (⟨#[]⟩ : ByteArray), false, 0, 0, false)) else (if 0 < (bt171.1.length : Int) then (some ((rd_T42 bt171.1 0).f0, (rd_T42 bt171.1 0).f1, (rd_T42 bt171.1 0).f2, (rd_T42 bt171.1 0).f3, (rd_T42 bt171.1 0).f4, true)) else (none)))) = some (r1, r2, r3, r4, r5, r6) := h
 clear h
 replace H := Option.bind_eq_some_iff.mp H
 obtain ⟨⟨t171, t172⟩, A40, H⟩ := H
 try dsimp only at H
 have A4 := ka A40
 clear A40
 by_cases c5 : (t171.length : Int) = 0
 ·rw [if_pos c5] at H
  have c5b0 := zb0 c5
  have c5b1 := zb1 c5
  clear c5
  replace H := zs6 H
  obtain ⟨rfl, rfl, rfl, rfl, rfl, rfl⟩ := H
  go_enter Tryd.func9, Tryd.ntmps9
  go_wp2_with (first | ((with_reducible refine gate_dst (N := 3) rfl ?_); refine box_event ?hg (N := 3) ?hd (cs := #[.int .i64 a0_0, .slice A0_1 l0_1.length c0_1, .slice A0_2 l0_2.length c0_2]) (t := 28) ?hr ?_; (case hd => rfl); (case hg => rfl); (case hr => (go_simp; try rfl)); intro gb166 hg w6 hbox hb; have BK166 := ka (hbox); have GW166 := ka (zG hg (zL HB.out)); replace HB := ka (below_step (zL HB.out) hb); clear hb hbox hg) | ((with_reducible refine gate_dst (N := 4) rfl ?_); refine box_event ?hg (N := 4) ?hd (cs := #[.int .i64 a1]) (t := 3) ?hr ?_; (case hd => rfl); (case hg => rfl); (case hr => (go_simp; try rfl)); intro gb167 hg w7 hbox hb; have BK167 := ka (hbox); have GW167 := ka (zG hg (zL HB.out)); replace HB := ka (below_step (zL HB.out) hb); have NB166_167 := ka (zNK hg BK166.out); have NB167_166 := ka (zOK hg BK166.out); replace BK166 := ka (zB BK166.out hb); clear hb hbox hg) | ((with_reducible refine gate_dst (N := 5) rfl ?_); refine box_event ?hg (N := 5) ?hd (cs := #[.string a2]) (t := 9) ?hr ?_; (case hd => rfl); (case hg => rfl); (case hr => (go_simp; try rfl)); intro gb168 hg w8 hbox hb; have BK168 := ka (hbox); have GW168 := ka (zG hg (zL HB.out)); replace HB := ka (below_step (zL HB.out) hb); have NB166_168 := ka (zNK hg BK166.out); have NB168_166 := ka (zOK hg BK166.out); replace BK166 := ka (zB BK166.out hb); have NB167_168 := ka (zNK hg BK167.out); have NB168_167 := ka (zOK hg BK167.out); replace BK167 := ka (zB BK167.out hb); clear hb hbox hg) | ((with_reducible refine gate_dst (N := 6) rfl ?_); refine box_event ?hg (N := 6) ?hd (cs := #[.int .i64 0, .string ⟨#[]⟩, .bool false, .int .i64 0, .int .i64 0]) (t := 42) ?hr ?_; (case hd => rfl); (case hg => rfl); (case hr => (go_simp; try rfl)); intro gb169 hg w9 hbox hb; have BK169 := ka (hbox); have GW169 := ka (zG hg (zL HB.out)); replace HB := ka (below_step (zL HB.out) hb); have NB166_169 := ka (zNK hg BK166.out); have NB169_166 := ka (zOK hg BK166.out); replace BK166 := ka (zB BK166.out hb); have NB167_169 := ka (zNK hg BK167.out); have NB169_167 := ka (zOK hg BK167.out); replace BK167 := ka (zB BK167.out hb); have NB168_169 := ka (zNK hg BK168.out); have NB169_168 := ka (zOK hg BK168.out); replace BK168 := ka (zB BK168.out hb); clear hb hbox hg; have hnb10 := NB166_167.out; have hnc10 := NB167_166.out; have hnb11 := NB166_168.out; have hnc11 := NB168_166.out; have hnb12 := NB166_169.out; have hnc12 := NB169_166.out; obtain ⟨z13_0, z13_1, z13_2, y13_0, y13_1, y13_2⟩ := zC3 BK166.out) | ((with_reducible refine gate_callee (f := 26) rfl ?_); refine goesL_ (some 14) rfl rfl Tryd.func26 (by kernel_rfl) rfl #[.slice A0_1 l0_1.length c0_1, .func (.func 27) #[] #[.pointer (some ⟨gb167, 0, none⟩), .pointer (some ⟨gb168, 0, none⟩)]] rfl zA ?_; (with_reducible refine (lease_Lease_26_at27.calls k _ _ l0_1 gb167 gb168 a1 a2 t171 t172 _ ?side1 ?side2 ?side3 ?side4 A4.out).mono ?_); (case side1 => exact zCS (Kd.C_below HR0_1.out HB.out)); (case side2 => exact HC0_1.out); (case side3 => exact zK BK167.out); (case side4 => exact zK BK168.out); rintro e w14 ⟨v173, v175, rfl, ho0, ho1, hb⟩; refine ⟨_, rfl, ?_⟩; have HO174 := ka (Kd.R_lower (Kd.R_newB ho0 (g := gb169) (o := .cells #[.int .i64 0, .string ⟨#[]⟩, .bool false, .int .i64 0, .int .i64 0] 42 (0, 0)) (zK BK169.out)) (below_size (zL HB.out))); have HO176 := ka (Kd.R_lower (Kd.R_newB ho1 (g := gb169) (o := .cells #[.int .i64 0, .string ⟨#[]⟩, .bool false, .int .i64 0, .int .i64 0] 42 (0, 0)) (zK BK169.out)) (below_size (zL HB.out))); replace BK166 := ka (zB BK166.out hb); replace BK167 := ka (zB BK167.out hb); replace BK168 := ka (zB BK168.out hb); replace BK169 := ka (zB BK169.out hb); replace HB := ka (below_step (zL HB.out) hb); (try clear hb); (try clear hb2); (try clear hk); (try clear hi); (try clear ho0); (try clear ho1); obtain ⟨Ao15, co15, eo15⟩ := Kd.R_slice HO174.out; subst eo15; have hnb16 := NB169_167.out; have hnc16 := NB167_169.out; have hnb17 := NB169_168.out; have hnc17 := NB168_169.out; obtain ⟨z18_0, z18_1, z18_2, z18_3, z18_4, y18_0, y18_1, y18_2, y18_3, y18_4⟩ := zC5 BK169.out))
  refine bodyPost_ret (results_ct rfl _ _ gb169 42 #[.int .i64 0, .string ⟨#[]⟩, .bool false, .int .i64 0, .int .i64 0] (0, 0) _ rfl (zP5 BK169.out) Tryd.underlying42 rfl (by kernel_rfl)) rfl ?_
  exact ⟨zE, zL HB.out⟩
 rw [if_neg c5] at H
 have c5b0 := zn0 c5
 have c5b1 := zn1 c5
 have c5b2 : ¬ (t171 = []) := fun h_ => c5 (by rw [h_]; rfl)
 replace H := zif H
 obtain ⟨c19, H⟩ := H
 have c19b0 := zdt c19
 have c19b1 : decide (0 < t171.length) = true := decide_eq_true (by omega)
 clear c19
 replace H := zs6 H
 obtain ⟨rfl, rfl, rfl, rfl, rfl, rfl⟩ := H
 go_enter Tryd.func9, Tryd.ntmps9
 go_wp2_with (first | ((with_reducible refine gate_dst (N := 3) rfl ?_); refine box_event ?hg (N := 3) ?hd (cs := #[.int .i64 a0_0, .slice A0_1 l0_1.length c0_1, .slice A0_2 l0_2.length c0_2]) (t := 28) ?hr ?_; (case hd => rfl); (case hg => rfl); (case hr => (go_simp; try rfl)); intro gb166 hg w20 hbox hb; have BK166 := ka (hbox); have GW166 := ka (zG hg (zL HB.out)); replace HB := ka (below_step (zL HB.out) hb); clear hb hbox hg) | ((with_reducible refine gate_dst (N := 4) rfl ?_); refine box_event ?hg (N := 4) ?hd (cs := #[.int .i64 a1]) (t := 3) ?hr ?_; (case hd => rfl); (case hg => rfl); (case hr => (go_simp; try rfl)); intro gb167 hg w21 hbox hb; have BK167 := ka (hbox); have GW167 := ka (zG hg (zL HB.out)); replace HB := ka (below_step (zL HB.out) hb); have NB166_167 := ka (zNK hg BK166.out); have NB167_166 := ka (zOK hg BK166.out); replace BK166 := ka (zB BK166.out hb); clear hb hbox hg) | ((with_reducible refine gate_dst (N := 5) rfl ?_); refine box_event ?hg (N := 5) ?hd (cs := #[.string a2]) (t := 9) ?hr ?_; (case hd => rfl); (case hg => rfl); (case hr => (go_simp; try rfl)); intro gb168 hg w22 hbox hb; have BK168 := ka (hbox); have GW168 := ka (zG hg (zL HB.out)); replace HB := ka (below_step (zL HB.out) hb); have NB166_168 := ka (zNK hg BK166.out); have NB168_166 := ka (zOK hg BK166.out); replace BK166 := ka (zB BK166.out hb); have NB167_168 := ka (zNK hg BK167.out); have NB168_167 := ka (zOK hg BK167.out); replace BK167 := ka (zB BK167.out hb); clear hb hbox hg) | ((with_reducible refine gate_dst (N := 6) rfl ?_); refine box_event ?hg (N := 6) ?hd (cs := #[.int .i64 0, .string ⟨#[]⟩, .bool false, .int .i64 0, .int .i64 0]) (t := 42) ?hr ?_; (case hd => rfl); (case hg => rfl); (case hr => (go_simp; try rfl)); intro gb169 hg w23 hbox hb; have BK169 := ka (hbox); have GW169 := ka (zG hg (zL HB.out)); replace HB := ka (below_step (zL HB.out) hb); have NB166_169 := ka (zNK hg BK166.out); have NB169_166 := ka (zOK hg BK166.out); replace BK166 := ka (zB BK166.out hb); have NB167_169 := ka (zNK hg BK167.out); have NB169_167 := ka (zOK hg BK167.out); replace BK167 := ka (zB BK167.out hb); have NB168_169 := ka (zNK hg BK168.out); have NB169_168 := ka (zOK hg BK168.out); replace BK168 := ka (zB BK168.out hb); clear hb hbox hg; have hnb24 := NB166_167.out; have hnc24 := NB167_166.out; have hnb25 := NB166_168.out; have hnc25 := NB168_166.out; have hnb26 := NB166_169.out; have hnc26 := NB169_166.out; obtain ⟨z27_0, z27_1, z27_2, y27_0, y27_1, y27_2⟩ := zC3 BK166.out) | ((with_reducible refine gate_callee (f := 26) rfl ?_); refine goesL_ (some 14) rfl rfl Tryd.func26 (by kernel_rfl) rfl #[.slice A0_1 l0_1.length c0_1, .func (.func 27) #[] #[.pointer (some ⟨gb167, 0, none⟩), .pointer (some ⟨gb168, 0, none⟩)]] rfl zA ?_; (with_reducible refine (lease_Lease_26_at27.calls k _ _ l0_1 gb167 gb168 a1 a2 t171 t172 _ ?side1 ?side2 ?side3 ?side4 A4.out).mono ?_); (case side1 => exact zCS (Kd.C_below HR0_1.out HB.out)); (case side2 => exact HC0_1.out); (case side3 => exact zK BK167.out); (case side4 => exact zK BK168.out); rintro e w28 ⟨v173, v175, rfl, ho0, ho1, hb⟩; refine ⟨_, rfl, ?_⟩; have HO174 := ka (Kd.R_lower (Kd.R_newB ho0 (g := gb169) (o := .cells #[.int .i64 0, .string ⟨#[]⟩, .bool false, .int .i64 0, .int .i64 0] 42 (0, 0)) (zK BK169.out)) (below_size (zL HB.out))); have HO176 := ka (Kd.R_lower (Kd.R_newB ho1 (g := gb169) (o := .cells #[.int .i64 0, .string ⟨#[]⟩, .bool false, .int .i64 0, .int .i64 0] 42 (0, 0)) (zK BK169.out)) (below_size (zL HB.out))); replace BK166 := ka (zB BK166.out hb); replace BK167 := ka (zB BK167.out hb); replace BK168 := ka (zB BK168.out hb); replace BK169 := ka (zB BK169.out hb); replace HB := ka (below_step (zL HB.out) hb); (try clear hb); (try clear hb2); (try clear hk); (try clear hi); (try clear ho0); (try clear ho1); obtain ⟨Ao29, co29, eo29⟩ := Kd.R_slice HO174.out; subst eo29; have p177 : 0 ≤ (0 : Int) := (by omega); have q177 : 0 < (t171.length : Int) := zD; obtain ⟨ad177, e177, hx177_0, hx177_1, hx177_2, hx177_3, hx177_4⟩ := at_T42 (Kd.R_reads' HO174.out).2.2 0 p177 q177; cases e177; have qi177 : (0 < t171.length) = True := eq_true (by omega); (try simp only [show ((0 : Int)).toNat = 0 from rfl, show 0 * 5 = 0 from rfl, Addr.add_zero'] at hx177_0 hx177_1 hx177_2 hx177_3 hx177_4); replace p177 := eq_true p177; replace q177 := eq_true q177; have hnb30 := NB169_167.out; have hnc30 := NB167_169.out; have hnb31 := NB169_168.out; have hnc31 := NB168_169.out; obtain ⟨z32_0, z32_1, z32_2, z32_3, z32_4, y32_0, y32_1, y32_2, y32_3, y32_4⟩ := zC5 BK169.out))
 refine bodyPost_ret (results_ct rfl _ _ gb169 42 #[.int .i64 ((rd_T42 t171 0).f0), .string ((rd_T42 t171 0).f1), .bool ((rd_T42 t171 0).f2), .int .i64 ((rd_T42 t171 0).f3), .int .i64 ((rd_T42 t171 0).f4)] (0, 0) _ rfl (zP5 BK169.out) Tryd.underlying42 rfl (by kernel_rfl)) rfl ?_
 exact ⟨zE, zL HB.out⟩

-- NOT PRINTED: function 28 (lease_Ask_28)

/-! ### lease_Waits_1: function 29 -/
def lease_Waits_1.f (a0_0 : Int) (a0_1 : ByteArray) (a0_2 : Bool) (a0_3 : Int) (a1_0 : Int) : Option (Bool) := some (a0_0 == a1_0)
theorem lease_Waits_1.calls (a0_0 : Int) (a0_1 : ByteArray) (a0_2 : Bool) (a0_3 : Int) (g1_0 : Nat) (a1_0 : Int) (r : Bool) (w : World) (hb1_0 : w.heap[g1_0]? = some (.cells #[.int .i64 a1_0] 3 (0, 0))) (h : lease_Waits_1.f a0_0 a0_1 a0_2 a0_3 a1_0 = some r) :
  Calls Tryd.prog 29 #[.agg #[.int .i64 a0_0, .string a0_1, .bool a0_2, .int .i64 a0_3], .pointer (some ⟨g1_0, 0, none⟩)] w fun e w' => e = .returned (.bool r) ∧ Below w.heap.size w w' := by
 have hu49 := Tryd.underlying49
 have BK187 := ka hb1_0
 clear hb1_0
 have HB := ka (Below.refl w.heap.size w)
 have H : (some (a0_0 == a1_0)) = some r := h
 clear h
 obtain rfl := Option.some.inj H
 go_enter Tryd.func29, Tryd.ntmps29
 go_wp2_with (first | ((with_reducible refine gate_dst (N := 2) rfl ?_); refine box_event ?hg (N := 2) ?hd (cs := #[.int .i64 a0_0, .string a0_1, .bool a0_2, .int .i64 a0_3]) (t := 49) ?hr ?_; (case hd => rfl); (case hg => rfl); (case hr => (go_simp; try rfl)); intro gb188 hg w3 hbox hb; have BK188 := ka (hbox); have GW188 := ka (zG hg (zL HB.out)); replace HB := ka (below_step (zL HB.out) hb); have NB187_188 := ka (zNK hg BK187.out); have NB188_187 := ka (zOK hg BK187.out); replace BK187 := ka (zB BK187.out hb); clear hb hbox hg; have hnb4 := NB188_187.out; have hnc4 := NB187_188.out; obtain ⟨z5_0, z5_1, z5_2, z5_3, y5_0, y5_1, y5_2, y5_3⟩ := zC4 BK188.out; obtain ⟨z6_0, y6_0⟩ := zC1 BK187.out))
 go_ret
 exact ⟨zE, zL HB.out⟩

/-! ### lease_Ask_28_at29: function 28 -/
def lease_Ask_28_at29.l0 : Nat → List (S49) → List (S49) → List (S49) → Int → Int → Int → Option ((List (S49)) × (List (S49)))
 | 0, _, _, _, _, _, _ => none
 | k + 1, x4, x5, x8, x9, x10, x191000 => if x10 < x9 then (if 0 ≤ x10 then (if x10 < (x8.length : Int) then ((lease_Waits_1.f ((rd_T49 x8 x10).f0) ((rd_T49 x8 x10).f1) ((rd_T49 x8 x10).f2) ((rd_T49 x8 x10).f3) x191000).bind fun t193 => (if t193 = true then (if x4.length < 3518437208883 then (lease_Ask_28_at29.l0 k (x4 ++ [(⟨(rd_T49 x8 x10).f0, (rd_T49 x8 x10).f1, (rd_T49 x8 x10).f2, (rd_T49 x8 x10).f3⟩ : S49)]) x5 x8 x9 (wrap64 (x10 + 1)) x191000) else (none)) else (if x5.length < 3518437208883 then (lease_Ask_28_at29.l0 k x4 (x5 ++ [(⟨(rd_T49 x8 x10).f0, (rd_T49 x8 x10).f1, (rd_T49 x8 x10).f2, (rd_T49 x8 x10).f3⟩ : S49)]) x8 x9 (wrap64 (x10 + 1)) x191000) else (none)))) else (none)) else (none)) else (some (x4, x5))
def lease_Ask_28_at29.f (k : Nat) (l0 : List (S49)) (a1_0 : Int) : Option ((List (S49)) × (List (S49))) := lease_Ask_28_at29.l0 k ([] : List (S49)) ([] : List (S49)) l0 (l0.length : Int) 0 a1_0
theorem lease_Ask_28_at29.mono_l : ∀ k, (∀ y0 y1 y2 y3 y4 y5, LeO (lease_Ask_28_at29.l0 k y0 y1 y2 y3 y4 y5) (lease_Ask_28_at29.l0 (k + 1) y0 y1 y2 y3 y4 y5))
 | 0 => fun _ _ _ _ _ _ r h => by simp [lease_Ask_28_at29.l0] at h
 | k + 1 => by
  have ih0 := lease_Ask_28_at29.mono_l k
  ·intro y0 y1 y2 y3 y4 y5
   unfold lease_Ask_28_at29.l0
   exact zLe
theorem lease_Ask_28_at29.mono : ∀ a0 a1 k, LeO (lease_Ask_28_at29.f k a0 a1) (lease_Ask_28_at29.f (k + 1) a0 a1) := by
 intro a0 a1 k
 have ih0 := lease_Ask_28_at29.mono_l k
 unfold lease_Ask_28_at29.f
 exact zLe
theorem lease_Ask_28_at29.calls (k : Nat) (A0 : Option Addr) (c0 : Nat) (l0 : List (S49)) (g1_0 : Nat) (a1_0 : Int) (r1 : List (S49)) (r2 : List (S49)) (w : World) (hr0 : Kd.C k49 w A0 l0.length l0) (hc0 : l0.length ≤ c0) (hb1_0 : w.heap[g1_0]? = some (.cells #[.int .i64 a1_0] 3 (0, 0))) (h : lease_Ask_28_at29.f k l0 a1_0 = some (r1, r2)) :
  Calls Tryd.prog 28 #[.slice A0 l0.length c0, .func (.func 29) #[] #[.pointer (some ⟨g1_0, 0, none⟩)]] w fun e w' => ∃ v0_ v1_ : Value, e = .returned (.tuple #[v0_, v1_]) ∧ Kd.R k49 49 w' w.heap.size (fun k_ => some k_ ≠ (v1_ : Value).ownBlock) v0_ r1 ∧ Kd.R k49 49 w' w.heap.size (fun k_ => some k_ ≠ (v0_ : Value).ownBlock) v1_ r2 ∧ Below w.heap.size w w' := by
 have hu49 := Tryd.underlying49
 have HR0 := ka hr0
 have HC0 := ka hc0
 clear hr0 hc0
 have BK190 := ka hb1_0
 clear hb1_0
 have HB := ka (Below.refl w.heap.size w)
 have H : (lease_Ask_28_at29.l0 k ([] : List (S49)) ([] : List (S49)) l0 (l0.length : Int) 0 a1_0) = some (r1, r2) := h
 clear h
 have H' := ka H
 clear H
 go_enter Tryd.func28, Tryd.ntmps28
 go_wp2
 go_loopg [4, 5, 10] k (fun kq v4 v5 v10 w' => ∃ (x4_1 : List (S49)) (x5_1 : List (S49)) (x10_1 : Int), v10 = .int .i64 x10_1 ∧ Aside0 (lease_Ask_28_at29.l0 kq x4_1 x5_1 l0 (l0.length : Int) x10_1 a1_0 = some (r1, r2)) ∧ Aside0 (kq ≤ k) ∧ Aside0 (Kd.R k49 49 w' w.heap.size (fun k_ => some k_ ≠ (v5 : Value).ownBlock) v4 x4_1) ∧ Aside0 (Kd.R k49 49 w' w.heap.size (fun k_ => some k_ ≠ (v4 : Value).ownBlock) v5 x5_1) ∧ Aside0 (w'.heap[g1_0]? = some (.cells #[.int .i64 a1_0] 3 (0, 0))) ∧ Aside0 (Below w.heap.size w w'))
 case atStart => exact ⟨(([] : List (S49))), (([] : List (S49))), (0), zS, H', ⟨Nat.le_refl _⟩, ⟨zNl⟩, ⟨zNl⟩, ⟨zK BK190.out⟩, ⟨zL HB.out⟩⟩
 case round =>
  clear H'
  obtain ⟨x4_1, x5_1, x10_1, rfl, HA, HK1, HO_4, HO_5, BK190, HB⟩ := hrel
  cases gk with
  | zero => exact absurd HA.out (by simp [lease_Ask_28_at29.l0])
  | succ k1 =>
   have H := HA.out
   clear HA
   simp only [lease_Ask_28_at29.l0] at H
   by_cases c3 : x10_1 < (l0.length : Int)
   ·rw [if_pos c3] at H
    have c3b0 := zdt c3
    clear c3
    replace H := zif H
    obtain ⟨c4, H⟩ := H
    have c4b0 := zdt c4
    clear c4
    replace H := zif H
    obtain ⟨c5, H⟩ := H
    have c5b0 := zdt c5
    clear c5
    replace H := Option.bind_eq_some_iff.mp H
    obtain ⟨t193, A60, H⟩ := H
    try dsimp only at H
    have A6 := ka A60
    clear A60
    by_cases c7 : t193 = true
    ·subst c7
     rw [if_pos rfl] at H
     replace H := zif H
     obtain ⟨c8, H⟩ := H
     have LMc8 := ka c8
     clear c8
     obtain ⟨y194, hy194⟩ : ∃ y_ : List (S49), y_ = (x4_1 ++ [(⟨(rd_T49 l0 x10_1).f0, (rd_T49 l0 x10_1).f1, (rd_T49 l0 x10_1).f2, (rd_T49 l0 x10_1).f3⟩ : S49)]) := ⟨_, rfl⟩
     replace H : (lease_Ask_28_at29.l0 k1 y194 x5_1 l0 (l0.length : Int) (wrap64 (x10_1 + 1)) a1_0) = some (r1, r2) := zH hy194 H
     have Ny194 := ka hy194
     clear hy194
     have H' := ka H
     clear H
     have p191 : 0 ≤ (x10_1 : Int) := zD
     have q191 : x10_1 < (l0.length : Int) := zD
     obtain ⟨ad191, e191, hx191_0, hx191_1, hx191_2, hx191_3⟩ := at_T49 HR0.out x10_1 p191 q191
     cases e191
     replace hx191_0 := zX HB.out hx191_0
     replace hx191_1 := zX HB.out hx191_1
     replace hx191_2 := zX HB.out hx191_2
     replace hx191_3 := zX HB.out hx191_3
     replace p191 := eq_true p191
     replace q191 := eq_true q191
     go_wp2_with (first | ((with_reducible refine gate_dst (N := 7) rfl ?_); refine box_event ?hg (N := 7) ?hd (cs := #[.int .i64 0, .string ⟨#[]⟩, .bool false, .int .i64 0]) (t := 49) ?hr ?_; (case hd => rfl); (case hg => rfl); (case hr => (go_simp; try rfl)); intro gb192 hg w9 hbox hb; replace HO_4 := ka (Kd.R_below (Kd.R_elderB (zR HO_4.out) gb192 (Nat.le_of_eq hg.symm)) hb); replace HO_5 := ka (Kd.R_below (Kd.R_elderB (zR HO_5.out) gb192 (Nat.le_of_eq hg.symm)) hb); have BK192 := ka (hbox); have GW192 := ka (zG hg (zL HB.out)); replace HB := ka (below_step (zL HB.out) hb); have NB190_192 := ka (zNK hg BK190.out); have NB192_190 := ka (zOK hg BK190.out); replace BK190 := ka (zB BK190.out hb); clear hb hbox hg; have hnb10 := NB192_190.out; have hnc10 := NB190_192.out; obtain ⟨z11_0, z11_1, z11_2, z11_3, y11_0, y11_1, y11_2, y11_3⟩ := zC4 BK192.out) | (go_at_call 29; (with_reducible refine (lease_Waits_1.calls ((rd_T49 l0 x10_1).f0) ((rd_T49 l0 x10_1).f1) ((rd_T49 l0 x10_1).f2) ((rd_T49 l0 x10_1).f3) g1_0 a1_0 true _ ?side1 A6.out).mono ?_); (case side1 => exact zK BK190.out); rintro e w12 ⟨rfl, hb⟩; replace HO_4 := ka (Kd.R_below (zM HO_4.out (g := gb192) (fun _ hk => hk.2)) hb); replace HO_5 := ka (Kd.R_below (zM HO_5.out (g := gb192) (fun _ hk => hk.2)) hb); replace BK190 := ka (zB BK190.out hb); replace BK192 := ka (blk_below (g := gb192) (o := .cells #[.int .i64 ((rd_T49 l0 x10_1).f0), .string ((rd_T49 l0 x10_1).f1), .bool ((rd_T49 l0 x10_1).f2), .int .i64 ((rd_T49 l0 x10_1).f3)] 49 (0, 0)) (zP4 BK192.out) hb); replace HB := ka (below_step (zL HB.out) hb); (try clear hb); (try clear hb2); (try clear hk); (try clear hi); obtain ⟨z13_0, z13_1, z13_2, z13_3, y13_0, y13_1, y13_2, y13_3⟩ := zC4 BK192.out) | ((with_reducible refine gate_builtin (b := .append) (xs := #[.tmp 17, .tmp 19]) rfl ?_); at_builtin; refine Kd.R_append k49 (w0 := w) w.heap.size rfl (.tmp 17) (.tmp 19) 26 49 (.agg #[(.int .i64 0), (.string ⟨#[]⟩), (.bool false), (.int .i64 0)]) 40 rfl Tryd.underlying26 info49 rfl (by decide) (by omega) u4 x4_1 (⟨(rd_T49 l0 x10_1).f0, (rd_T49 l0 x10_1).f1, (rd_T49 l0 x10_1).f2, (rd_T49 l0 x10_1).f3⟩ : S49) [.int .i64 ((rd_T49 l0 x10_1).f0), .string ((rd_T49 l0 x10_1).f1), .bool ((rd_T49 l0 x10_1).f2), .int .i64 ((rd_T49 l0 x10_1).f3)] (fun k_ => some k_ ≠ (u5 : Value).ownBlock ∧ k_ ≠ gb192) (fun _ => False) rfl rfl ?aP (fun _ hk => hk.elim) ?aF ?aO ?aB ?aS ?aL ?_; (case aP => exact k49_mkM _ _ _ (⟨(rd_T49 l0 x10_1).f0, (rd_T49 l0 x10_1).f1, (rd_T49 l0 x10_1).f2, (rd_T49 l0 x10_1).f3⟩ : S49)); (case aB => exact (zL HB.out)); (case aF => exact (fun k_ hk => ⟨Kd.fresh' (Kd.R_lt (zR HO_5.out)) k_ hk, Kd.freshB (g := gb192) (o := .cells #[.int .i64 ((rd_T49 l0 x10_1).f0), .string ((rd_T49 l0 x10_1).f1), .bool ((rd_T49 l0 x10_1).f2), .int .i64 ((rd_T49 l0 x10_1).f3)] 49 (0, 0)) (zK BK192.out) k_ hk⟩)); (case aO => exact (zR HO_4.out)); (case aS => exact (below_size (zL HB.out))); (case aL => have := LMc8.out; omega); intro v195 w14 ho hb hg hat; rw [← Ny194.out] at ho; replace HO_5 := ka (Kd.R_after (ok := (fun k_ => k_ ≠ gb192)) (by (with_reducible repeat (first | apply Kd.R_alloc | apply Kd.R_drewN | apply Kd.R_drew)); exact Kd.R_mono HO_5.out (fun _ hk => ⟨hk.2, hk.1⟩)) hg hat); replace BK190 := ka (blk_grown (g := g1_0) (o := .cells #[.int .i64 a1_0] 3 (0, 0)) (zK BK190.out) hg (Kd.R_ne HO_4.out BK190.out (by decide))); replace BK192 := ka (blk_grown (g := gb192) (o := .cells #[.int .i64 ((rd_T49 l0 x10_1).f0), .string ((rd_T49 l0 x10_1).f1), .bool ((rd_T49 l0 x10_1).f2), .int .i64 ((rd_T49 l0 x10_1).f3)] 49 (0, 0)) (zK BK192.out) hg (Kd.R_away HO_4.out (fun _ hk => hk.2))); replace HB := ka (hb); have HO196 := ka (ho); clear HO_4; clear ho hb hg hat))
     go_roundg k1
     case measure => have := HK1.out; omega
     case rel => exact ⟨(y194), (x5_1), (wrap64 (x10_1 + 1)), zS, H', ⟨by have := HK1.out; omega⟩, ⟨by (with_reducible repeat (first | apply Kd.R_alloc | apply Kd.R_drewN | apply Kd.R_drew)); exact Kd.R_mono HO196.out (fun _ hk => hk.1)⟩, ⟨by (with_reducible repeat (first | apply Kd.R_alloc | apply Kd.R_drewN | apply Kd.R_drew)); exact Kd.R_mono HO_5.out (fun _ hk => hk.2)⟩, ⟨zK BK190.out⟩, ⟨zL HB.out⟩⟩
    replace c7 := Bool.eq_false_iff.mpr c7
    subst c7
    rw [if_neg (show ¬ (false = true) by decide)] at H
    replace H := zif H
    obtain ⟨c15, H⟩ := H
    have LMc15 := ka c15
    clear c15
    obtain ⟨y197, hy197⟩ : ∃ y_ : List (S49), y_ = (x5_1 ++ [(⟨(rd_T49 l0 x10_1).f0, (rd_T49 l0 x10_1).f1, (rd_T49 l0 x10_1).f2, (rd_T49 l0 x10_1).f3⟩ : S49)]) := ⟨_, rfl⟩
    replace H : (lease_Ask_28_at29.l0 k1 x4_1 y197 l0 (l0.length : Int) (wrap64 (x10_1 + 1)) a1_0) = some (r1, r2) := zH hy197 H
    have Ny197 := ka hy197
    clear hy197
    have H' := ka H
    clear H
    have p191 : 0 ≤ (x10_1 : Int) := zD
    have q191 : x10_1 < (l0.length : Int) := zD
    obtain ⟨ad191, e191, hx191_0, hx191_1, hx191_2, hx191_3⟩ := at_T49 HR0.out x10_1 p191 q191
    cases e191
    replace hx191_0 := zX HB.out hx191_0
    replace hx191_1 := zX HB.out hx191_1
    replace hx191_2 := zX HB.out hx191_2
    replace hx191_3 := zX HB.out hx191_3
    replace p191 := eq_true p191
    replace q191 := eq_true q191
    go_wp2_with (first | ((with_reducible refine gate_dst (N := 7) rfl ?_); refine box_event ?hg (N := 7) ?hd (cs := #[.int .i64 0, .string ⟨#[]⟩, .bool false, .int .i64 0]) (t := 49) ?hr ?_; (case hd => rfl); (case hg => rfl); (case hr => (go_simp; try rfl)); intro gb192 hg w16 hbox hb; replace HO_4 := ka (Kd.R_below (Kd.R_elderB (zR HO_4.out) gb192 (Nat.le_of_eq hg.symm)) hb); replace HO_5 := ka (Kd.R_below (Kd.R_elderB (zR HO_5.out) gb192 (Nat.le_of_eq hg.symm)) hb); have BK192 := ka (hbox); have GW192 := ka (zG hg (zL HB.out)); replace HB := ka (below_step (zL HB.out) hb); have NB190_192 := ka (zNK hg BK190.out); have NB192_190 := ka (zOK hg BK190.out); replace BK190 := ka (zB BK190.out hb); clear hb hbox hg; have hnb17 := NB192_190.out; have hnc17 := NB190_192.out; obtain ⟨z18_0, z18_1, z18_2, z18_3, y18_0, y18_1, y18_2, y18_3⟩ := zC4 BK192.out) | (go_at_call 29; (with_reducible refine (lease_Waits_1.calls ((rd_T49 l0 x10_1).f0) ((rd_T49 l0 x10_1).f1) ((rd_T49 l0 x10_1).f2) ((rd_T49 l0 x10_1).f3) g1_0 a1_0 false _ ?side1 A6.out).mono ?_); (case side1 => exact zK BK190.out); rintro e w19 ⟨rfl, hb⟩; replace HO_4 := ka (Kd.R_below (zM HO_4.out (g := gb192) (fun _ hk => hk.2)) hb); replace HO_5 := ka (Kd.R_below (zM HO_5.out (g := gb192) (fun _ hk => hk.2)) hb); replace BK190 := ka (zB BK190.out hb); replace BK192 := ka (blk_below (g := gb192) (o := .cells #[.int .i64 ((rd_T49 l0 x10_1).f0), .string ((rd_T49 l0 x10_1).f1), .bool ((rd_T49 l0 x10_1).f2), .int .i64 ((rd_T49 l0 x10_1).f3)] 49 (0, 0)) (zP4 BK192.out) hb); replace HB := ka (below_step (zL HB.out) hb); (try clear hb); (try clear hb2); (try clear hk); (try clear hi); obtain ⟨z20_0, z20_1, z20_2, z20_3, y20_0, y20_1, y20_2, y20_3⟩ := zC4 BK192.out) | ((with_reducible refine gate_builtin (b := .append) (xs := #[.tmp 21, .tmp 23]) rfl ?_); at_builtin; refine Kd.R_append k49 (w0 := w) w.heap.size rfl (.tmp 21) (.tmp 23) 26 49 (.agg #[(.int .i64 0), (.string ⟨#[]⟩), (.bool false), (.int .i64 0)]) 40 rfl Tryd.underlying26 info49 rfl (by decide) (by omega) u5 x5_1 (⟨(rd_T49 l0 x10_1).f0, (rd_T49 l0 x10_1).f1, (rd_T49 l0 x10_1).f2, (rd_T49 l0 x10_1).f3⟩ : S49) [.int .i64 ((rd_T49 l0 x10_1).f0), .string ((rd_T49 l0 x10_1).f1), .bool ((rd_T49 l0 x10_1).f2), .int .i64 ((rd_T49 l0 x10_1).f3)] (fun k_ => some k_ ≠ (u4 : Value).ownBlock ∧ k_ ≠ gb192) (fun _ => False) rfl rfl ?aP (fun _ hk => hk.elim) ?aF ?aO ?aB ?aS ?aL ?_; (case aP => exact k49_mkM _ _ _ (⟨(rd_T49 l0 x10_1).f0, (rd_T49 l0 x10_1).f1, (rd_T49 l0 x10_1).f2, (rd_T49 l0 x10_1).f3⟩ : S49)); (case aB => exact (zL HB.out)); (case aF => exact (fun k_ hk => ⟨Kd.fresh' (Kd.R_lt (zR HO_4.out)) k_ hk, Kd.freshB (g := gb192) (o := .cells #[.int .i64 ((rd_T49 l0 x10_1).f0), .string ((rd_T49 l0 x10_1).f1), .bool ((rd_T49 l0 x10_1).f2), .int .i64 ((rd_T49 l0 x10_1).f3)] 49 (0, 0)) (zK BK192.out) k_ hk⟩)); (case aO => exact (zR HO_5.out)); (case aS => exact (below_size (zL HB.out))); (case aL => have := LMc15.out; omega); intro v198 w21 ho hb hg hat; rw [← Ny197.out] at ho; replace HO_4 := ka (Kd.R_after (ok := (fun k_ => k_ ≠ gb192)) (by (with_reducible repeat (first | apply Kd.R_alloc | apply Kd.R_drewN | apply Kd.R_drew)); exact Kd.R_mono HO_4.out (fun _ hk => ⟨hk.2, hk.1⟩)) hg hat); replace BK190 := ka (blk_grown (g := g1_0) (o := .cells #[.int .i64 a1_0] 3 (0, 0)) (zK BK190.out) hg (Kd.R_ne HO_5.out BK190.out (by decide))); replace BK192 := ka (blk_grown (g := gb192) (o := .cells #[.int .i64 ((rd_T49 l0 x10_1).f0), .string ((rd_T49 l0 x10_1).f1), .bool ((rd_T49 l0 x10_1).f2), .int .i64 ((rd_T49 l0 x10_1).f3)] 49 (0, 0)) (zK BK192.out) hg (Kd.R_away HO_5.out (fun _ hk => hk.2))); replace HB := ka (hb); have HO199 := ka (ho); clear HO_5; clear ho hb hg hat))
    go_roundg k1
    case measure => have := HK1.out; omega
    case rel => exact ⟨(x4_1), (y197), (wrap64 (x10_1 + 1)), zS, H', ⟨by have := HK1.out; omega⟩, ⟨by (with_reducible repeat (first | apply Kd.R_alloc | apply Kd.R_drewN | apply Kd.R_drew)); exact Kd.R_mono HO_4.out (fun _ hk => hk.2)⟩, ⟨by (with_reducible repeat (first | apply Kd.R_alloc | apply Kd.R_drewN | apply Kd.R_drew)); exact Kd.R_mono HO199.out (fun _ hk => hk.1)⟩, ⟨zK BK190.out⟩, ⟨zL HB.out⟩⟩
   rw [if_neg c3] at H
   have c3b0 := zdf c3
   clear c3
   replace H := zs2 H
   obtain ⟨rfl, rfl⟩ := H
   go_wp2
   go_ret2
   exact ⟨_, _, zE, by (with_reducible repeat (first | apply Kd.R_alloc | apply Kd.R_drewN | apply Kd.R_drew)); exact HO_4.out, by (with_reducible repeat (first | apply Kd.R_alloc | apply Kd.R_drewN | apply Kd.R_drew)); exact HO_5.out, zL HB.out⟩

/-! ### lease_Waits: function 11 -/
def lease_Waits.f (k : Nat) (a0_0 : Int) (l0_1 : List (S42)) (l0_2 : List (S49)) (a1 : Int) : Option (Int × ByteArray × Bool × Int × Bool) := (lease_Ask_28_at29.f k l0_2 a1).bind fun bt204 => (if (bt204.1.length : Int) = 0 then (some (0, (⟨#[]⟩ : ByteArray), false, 0, false)) else (if 0 < (bt204.1.length : Int) then (some ((rd_T49 bt204.1 0).f0, (rd_T49 bt204.1 0).f1, (rd_T49 bt204.1 0).f2, (rd_T49 bt204.1 0).f3, true)) else (none)))
theorem lease_Waits.mono : ∀ a0 a1 a2 a3 k, LeO (lease_Waits.f k a0 a1 a2 a3) (lease_Waits.f (k + 1) a0 a1 a2 a3) := by
 intro a0 a1 a2 a3 k
 unfold lease_Waits.f
 have m0 := @lease_Ask_28_at29.mono
 exact zLe
theorem lease_Waits.calls (k : Nat) (a0_0 : Int) (A0_1 : Option Addr) (c0_1 : Nat) (l0_1 : List (S42)) (A0_2 : Option Addr) (c0_2 : Nat) (l0_2 : List (S49)) (a1 : Int) (r1 : Int) (r2 : ByteArray) (r3 : Bool) (r4 : Int) (r5 : Bool) (w : World) (hr0_1 : Kd.C k42 w A0_1 l0_1.length l0_1) (hc0_1 : l0_1.length ≤ c0_1) (hr0_2 : Kd.C k49 w A0_2 l0_2.length l0_2) (hc0_2 : l0_2.length ≤ c0_2) (h : lease_Waits.f k a0_0 l0_1 l0_2 a1 = some (r1, r2, r3, r4, r5)) :
  Calls Tryd.prog 11 #[.agg #[.int .i64 a0_0, .slice A0_1 l0_1.length c0_1, .slice A0_2 l0_2.length c0_2], .int .i64 a1] w fun e w' => e = .returned (.tuple #[.agg #[.int .i64 r1, .string r2, .bool r3, .int .i64 r4], .bool r5]) ∧ Below w.heap.size w w' := by
 have hu28 := Tryd.underlying28
 have hu49 := Tryd.underlying49
 have HR0_1 := ka hr0_1
 have HC0_1 := ka hc0_1
 clear hr0_1 hc0_1
 have HR0_2 := ka hr0_2
 have HC0_2 := ka hc0_2
 clear hr0_2 hc0_2
 have HB := ka (Below.refl w.heap.size w)
 have H : ((lease_Ask_28_at29.f k l0_2 a1).bind fun bt204 => (if (bt204.1.length : Int) = 0 then (some (0, (⟨#[]⟩ : ByteArray), false, 0, false)) else (if 0 < (bt204.1.length : Int) then (some ((rd_T49 bt204.1 0).f0, (rd_T49 bt204.1 0).f1, (rd_T49 bt204.1 0).f2, (rd_T49 bt204.1 0).f3, true)) else (none)))) = some (r1, r2, r3, r4, r5) := h
 clear h
 replace H := Option.bind_eq_some_iff.mp H
 obtain ⟨⟨t204, t205⟩, A30, H⟩ := H
 try dsimp only at H
 have A3 := ka A30
 clear A30
 by_cases c4 : (t204.length : Int) = 0
 ·rw [if_pos c4] at H
  have c4b0 := zb0 c4
  have c4b1 := zb1 c4
  clear c4
  replace H := zs5 H
  obtain ⟨rfl, rfl, rfl, rfl, rfl⟩ := H
  go_enter Tryd.func11, Tryd.ntmps11
  go_wp2_with (first | ((with_reducible refine gate_dst (N := 2) rfl ?_); refine box_event ?hg (N := 2) ?hd (cs := #[.int .i64 a0_0, .slice A0_1 l0_1.length c0_1, .slice A0_2 l0_2.length c0_2]) (t := 28) ?hr ?_; (case hd => rfl); (case hg => rfl); (case hr => (go_simp; try rfl)); intro gb200 hg w5 hbox hb; have BK200 := ka (hbox); have GW200 := ka (zG hg (zL HB.out)); replace HB := ka (below_step (zL HB.out) hb); clear hb hbox hg) | ((with_reducible refine gate_dst (N := 3) rfl ?_); refine box_event ?hg (N := 3) ?hd (cs := #[.int .i64 a1]) (t := 3) ?hr ?_; (case hd => rfl); (case hg => rfl); (case hr => (go_simp; try rfl)); intro gb201 hg w6 hbox hb; have BK201 := ka (hbox); have GW201 := ka (zG hg (zL HB.out)); replace HB := ka (below_step (zL HB.out) hb); have NB200_201 := ka (zNK hg BK200.out); have NB201_200 := ka (zOK hg BK200.out); replace BK200 := ka (zB BK200.out hb); clear hb hbox hg) | ((with_reducible refine gate_dst (N := 4) rfl ?_); refine box_event ?hg (N := 4) ?hd (cs := #[.int .i64 0, .string ⟨#[]⟩, .bool false, .int .i64 0]) (t := 49) ?hr ?_; (case hd => rfl); (case hg => rfl); (case hr => (go_simp; try rfl)); intro gb202 hg w7 hbox hb; have BK202 := ka (hbox); have GW202 := ka (zG hg (zL HB.out)); replace HB := ka (below_step (zL HB.out) hb); have NB200_202 := ka (zNK hg BK200.out); have NB202_200 := ka (zOK hg BK200.out); replace BK200 := ka (zB BK200.out hb); have NB201_202 := ka (zNK hg BK201.out); have NB202_201 := ka (zOK hg BK201.out); replace BK201 := ka (zB BK201.out hb); clear hb hbox hg; have hnb8 := NB200_201.out; have hnc8 := NB201_200.out; have hnb9 := NB200_202.out; have hnc9 := NB202_200.out; obtain ⟨z10_0, z10_1, z10_2, y10_0, y10_1, y10_2⟩ := zC3 BK200.out) | ((with_reducible refine gate_callee (f := 28) rfl ?_); refine goesL_ (some 12) rfl rfl Tryd.func28 (by kernel_rfl) rfl #[.slice A0_2 l0_2.length c0_2, .func (.func 29) #[] #[.pointer (some ⟨gb201, 0, none⟩)]] rfl zA ?_; (with_reducible refine (lease_Ask_28_at29.calls k _ _ l0_2 gb201 a1 t204 t205 _ ?side1 ?side2 ?side3 A3.out).mono ?_); (case side1 => exact zCS (Kd.C_below HR0_2.out HB.out)); (case side2 => exact HC0_2.out); (case side3 => exact zK BK201.out); rintro e w11 ⟨v206, v208, rfl, ho0, ho1, hb⟩; refine ⟨_, rfl, ?_⟩; have HO207 := ka (Kd.R_lower (Kd.R_newB ho0 (g := gb202) (o := .cells #[.int .i64 0, .string ⟨#[]⟩, .bool false, .int .i64 0] 49 (0, 0)) (zK BK202.out)) (below_size (zL HB.out))); have HO209 := ka (Kd.R_lower (Kd.R_newB ho1 (g := gb202) (o := .cells #[.int .i64 0, .string ⟨#[]⟩, .bool false, .int .i64 0] 49 (0, 0)) (zK BK202.out)) (below_size (zL HB.out))); replace BK200 := ka (zB BK200.out hb); replace BK201 := ka (zB BK201.out hb); replace BK202 := ka (zB BK202.out hb); replace HB := ka (below_step (zL HB.out) hb); (try clear hb); (try clear hb2); (try clear hk); (try clear hi); (try clear ho0); (try clear ho1); obtain ⟨Ao12, co12, eo12⟩ := Kd.R_slice HO207.out; subst eo12; have hnb13 := NB202_201.out; have hnc13 := NB201_202.out; obtain ⟨z14_0, z14_1, z14_2, z14_3, y14_0, y14_1, y14_2, y14_3⟩ := zC4 BK202.out))
  refine bodyPost_ret (results_ct rfl _ _ gb202 49 #[.int .i64 0, .string ⟨#[]⟩, .bool false, .int .i64 0] (0, 0) _ rfl (zP4 BK202.out) Tryd.underlying49 rfl (by kernel_rfl)) rfl ?_
  exact ⟨zE, zL HB.out⟩
 rw [if_neg c4] at H
 have c4b0 := zn0 c4
 have c4b1 := zn1 c4
 have c4b2 : ¬ (t204 = []) := fun h_ => c4 (by rw [h_]; rfl)
 replace H := zif H
 obtain ⟨c15, H⟩ := H
 have c15b0 := zdt c15
 have c15b1 : decide (0 < t204.length) = true := decide_eq_true (by omega)
 clear c15
 replace H := zs5 H
 obtain ⟨rfl, rfl, rfl, rfl, rfl⟩ := H
 go_enter Tryd.func11, Tryd.ntmps11
 go_wp2_with (first | ((with_reducible refine gate_dst (N := 2) rfl ?_); refine box_event ?hg (N := 2) ?hd (cs := #[.int .i64 a0_0, .slice A0_1 l0_1.length c0_1, .slice A0_2 l0_2.length c0_2]) (t := 28) ?hr ?_; (case hd => rfl); (case hg => rfl); (case hr => (go_simp; try rfl)); intro gb200 hg w16 hbox hb; have BK200 := ka (hbox); have GW200 := ka (zG hg (zL HB.out)); replace HB := ka (below_step (zL HB.out) hb); clear hb hbox hg) | ((with_reducible refine gate_dst (N := 3) rfl ?_); refine box_event ?hg (N := 3) ?hd (cs := #[.int .i64 a1]) (t := 3) ?hr ?_; (case hd => rfl); (case hg => rfl); (case hr => (go_simp; try rfl)); intro gb201 hg w17 hbox hb; have BK201 := ka (hbox); have GW201 := ka (zG hg (zL HB.out)); replace HB := ka (below_step (zL HB.out) hb); have NB200_201 := ka (zNK hg BK200.out); have NB201_200 := ka (zOK hg BK200.out); replace BK200 := ka (zB BK200.out hb); clear hb hbox hg) | ((with_reducible refine gate_dst (N := 4) rfl ?_); refine box_event ?hg (N := 4) ?hd (cs := #[.int .i64 0, .string ⟨#[]⟩, .bool false, .int .i64 0]) (t := 49) ?hr ?_; (case hd => rfl); (case hg => rfl); (case hr => (go_simp; try rfl)); intro gb202 hg w18 hbox hb; have BK202 := ka (hbox); have GW202 := ka (zG hg (zL HB.out)); replace HB := ka (below_step (zL HB.out) hb); have NB200_202 := ka (zNK hg BK200.out); have NB202_200 := ka (zOK hg BK200.out); replace BK200 := ka (zB BK200.out hb); have NB201_202 := ka (zNK hg BK201.out); have NB202_201 := ka (zOK hg BK201.out); replace BK201 := ka (zB BK201.out hb); clear hb hbox hg; have hnb19 := NB200_201.out; have hnc19 := NB201_200.out; have hnb20 := NB200_202.out; have hnc20 := NB202_200.out; obtain ⟨z21_0, z21_1, z21_2, y21_0, y21_1, y21_2⟩ := zC3 BK200.out) | ((with_reducible refine gate_callee (f := 28) rfl ?_); refine goesL_ (some 12) rfl rfl Tryd.func28 (by kernel_rfl) rfl #[.slice A0_2 l0_2.length c0_2, .func (.func 29) #[] #[.pointer (some ⟨gb201, 0, none⟩)]] rfl zA ?_; (with_reducible refine (lease_Ask_28_at29.calls k _ _ l0_2 gb201 a1 t204 t205 _ ?side1 ?side2 ?side3 A3.out).mono ?_); (case side1 => exact zCS (Kd.C_below HR0_2.out HB.out)); (case side2 => exact HC0_2.out); (case side3 => exact zK BK201.out); rintro e w22 ⟨v206, v208, rfl, ho0, ho1, hb⟩; refine ⟨_, rfl, ?_⟩; have HO207 := ka (Kd.R_lower (Kd.R_newB ho0 (g := gb202) (o := .cells #[.int .i64 0, .string ⟨#[]⟩, .bool false, .int .i64 0] 49 (0, 0)) (zK BK202.out)) (below_size (zL HB.out))); have HO209 := ka (Kd.R_lower (Kd.R_newB ho1 (g := gb202) (o := .cells #[.int .i64 0, .string ⟨#[]⟩, .bool false, .int .i64 0] 49 (0, 0)) (zK BK202.out)) (below_size (zL HB.out))); replace BK200 := ka (zB BK200.out hb); replace BK201 := ka (zB BK201.out hb); replace BK202 := ka (zB BK202.out hb); replace HB := ka (below_step (zL HB.out) hb); (try clear hb); (try clear hb2); (try clear hk); (try clear hi); (try clear ho0); (try clear ho1); obtain ⟨Ao23, co23, eo23⟩ := Kd.R_slice HO207.out; subst eo23; have p210 : 0 ≤ (0 : Int) := (by omega); have q210 : 0 < (t204.length : Int) := zD; obtain ⟨ad210, e210, hx210_0, hx210_1, hx210_2, hx210_3⟩ := at_T49 (Kd.R_reads' HO207.out).2.2 0 p210 q210; cases e210; have qi210 : (0 < t204.length) = True := eq_true (by omega); (try simp only [show ((0 : Int)).toNat = 0 from rfl, show 0 * 4 = 0 from rfl, Addr.add_zero'] at hx210_0 hx210_1 hx210_2 hx210_3); replace p210 := eq_true p210; replace q210 := eq_true q210; have hnb24 := NB202_201.out; have hnc24 := NB201_202.out; obtain ⟨z25_0, z25_1, z25_2, z25_3, y25_0, y25_1, y25_2, y25_3⟩ := zC4 BK202.out))
 refine bodyPost_ret (results_ct rfl _ _ gb202 49 #[.int .i64 ((rd_T49 t204 0).f0), .string ((rd_T49 t204 0).f1), .bool ((rd_T49 t204 0).f2), .int .i64 ((rd_T49 t204 0).f3)] (0, 0) _ rfl (zP4 BK202.out) Tryd.underlying49 rfl (by kernel_rfl)) rfl ?_
 exact ⟨zE, zL HB.out⟩

end Go.Proofs.YtjdadmjomjhpcaaDoor.PLease
