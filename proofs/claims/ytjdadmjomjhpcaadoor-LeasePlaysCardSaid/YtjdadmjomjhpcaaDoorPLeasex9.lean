-- Written by a program of this session (wip/tools/ext.py, over the kit's printer); not trusted: Lean checks it.
import Derived.Test.YtjdadmjomjhpcaaDoorPLeasex0
namespace Go.Proofs.YtjdadmjomjhpcaaDoor.PLease
open Go.RowKit Go.Proofs.YtjdadmjomjhpcaaDoorW.PrintWords Go.Proofs.YtjdadmjomjhpcaaDoorW.PrintLast Go.Proofs.YtjdadmjomjhpcaaDoorW.PrintMore
attribute [local go_sem] max2_int min2_int max_two min_two max_three min_three max_four min_four
set_option linter.unusedVariables false
set_option linter.unusedSimpArgs false
set_option maxHeartbeats 8000000
set_option maxRecDepth 100000

/-! ### cooperageref16_Valid: function 14 -/
def cooperageref16_Valid.l0 : Nat → Int → ByteArray → Int → Int → Int → List (S45) → List (S52) → Option (Bool)
 | 0, _, _, _, _, _, _, _ => none
 | k + 1, x1, x2, x3, x9, x535000, x535001, x535002 => if x9 < (x535001.length : Int) then (if 0 ≤ x9 then (if ((rd_T45 x535001 x9).f0) = x1 then (if ((rd_T45 x535001 x9).f1).toList = x2.toList then (if ((rd_T45 x535001 x9).f3) = x3 then (some true) else (cooperageref16_Valid.l0 k x1 x2 x3 (wrap64 (x9 + 1)) x535000 x535001 x535002)) else (cooperageref16_Valid.l0 k x1 x2 x3 (wrap64 (x9 + 1)) x535000 x535001 x535002)) else (cooperageref16_Valid.l0 k x1 x2 x3 (wrap64 (x9 + 1)) x535000 x535001 x535002)) else (none)) else (some false)
def cooperageref16_Valid.f (k : Nat) (a0_0 : Int) (l0_1 : List (S45)) (l0_2 : List (S52)) (a1 : Int) (a2 : ByteArray) (a3 : Int) : Option (Bool) := cooperageref16_Valid.l0 k a1 a2 a3 0 a0_0 l0_1 l0_2
theorem cooperageref16_Valid.mono_l : ∀ k, (∀ y0 y1 y2 y3 y4 y5 y6, LeO (cooperageref16_Valid.l0 k y0 y1 y2 y3 y4 y5 y6) (cooperageref16_Valid.l0 (k + 1) y0 y1 y2 y3 y4 y5 y6))
 | 0 => fun _ _ _ _ _ _ _ r h => by simp [cooperageref16_Valid.l0] at h
 | k + 1 => by
  have ih0 := cooperageref16_Valid.mono_l k
  ·intro y0 y1 y2 y3 y4 y5 y6
   unfold cooperageref16_Valid.l0
   exact zLe
theorem cooperageref16_Valid.mono : ∀ a0 a1 a2 a3 a4 a5 k, LeO (cooperageref16_Valid.f k a0 a1 a2 a3 a4 a5) (cooperageref16_Valid.f (k + 1) a0 a1 a2 a3 a4 a5) := by
 intro a0 a1 a2 a3 a4 a5 k
 have ih0 := cooperageref16_Valid.mono_l k
 unfold cooperageref16_Valid.f
 exact zLe
theorem cooperageref16_Valid.calls (k : Nat) (a0_0 : Int) (A0_1 : Option Addr) (c0_1 : Nat) (l0_1 : List (S45)) (A0_2 : Option Addr) (c0_2 : Nat) (l0_2 : List (S52)) (a1 : Int) (a2 : ByteArray) (a3 : Int) (r : Bool) (w : World) (hr0_1 : Kd.C k45 w A0_1 l0_1.length l0_1) (hc0_1 : l0_1.length ≤ c0_1) (hr0_2 : Kd.C k52 w A0_2 l0_2.length l0_2) (hc0_2 : l0_2.length ≤ c0_2) (h : cooperageref16_Valid.f k a0_0 l0_1 l0_2 a1 a2 a3 = some r) :
  Calls Tryd.prog 14 #[.agg #[.int .i64 a0_0, .slice A0_1 l0_1.length c0_1, .slice A0_2 l0_2.length c0_2], .int .i64 a1, .string a2, .int .i64 a3] w fun e w' => e = .returned (.bool r) ∧ Below w.heap.size w w' := by
 have hu32 := Tryd.underlying32
 have hu45 := Tryd.underlying45
 have HR0_1 := ka hr0_1
 have HC0_1 := ka hc0_1
 clear hr0_1 hc0_1
 have HR0_2 := ka hr0_2
 have HC0_2 := ka hc0_2
 clear hr0_2 hc0_2
 have HB := ka (Below.refl w.heap.size w)
 have H : (cooperageref16_Valid.l0 k a1 a2 a3 0 a0_0 l0_1 l0_2) = some r := h
 clear h
 have H' := ka H
 clear H
 go_enter Tryd.func14, Tryd.ntmps14
 go_wp2_with (first | ((with_reducible refine gate_dst (N := 4) rfl ?_); refine box_event ?hg (N := 4) ?hd (cs := #[.int .i64 a0_0, .slice A0_1 l0_1.length c0_1, .slice A0_2 l0_2.length c0_2]) (t := 32) ?hr ?_; (case hd => rfl); (case hg => rfl); (case hr => (go_simp; try rfl)); intro gb534 hg w5 hbox hb; have BK534 := ka (hbox); have GW534 := ka (zG hg (zL HB.out)); replace HB := ka (below_step (zL HB.out) hb); clear hb hbox hg))
 go_loopg [9] k (fun kq v9 w' => ∃ (x9_1 : Int), v9 = .int .i64 x9_1 ∧ Aside0 (cooperageref16_Valid.l0 kq a1 a2 a3 x9_1 a0_0 l0_1 l0_2 = some r) ∧ Aside0 (kq ≤ k) ∧ Aside0 (w'.heap[gb534]? = some (.cells #[.int .i64 a0_0, (.slice A0_1 l0_1.length c0_1), (.slice A0_2 l0_2.length c0_2)] 32 (0, 0))) ∧ Aside0 (Below w.heap.size w w'))
 case atStart => exact ⟨(0), zS, H', ⟨Nat.le_refl _⟩, ⟨zK BK534.out⟩, ⟨zL HB.out⟩⟩
 case round =>
  clear H'
  obtain ⟨x9_1, rfl, HA, HK1, BK534, HB⟩ := hrel
  cases gk with
  | zero => exact absurd HA.out (by simp [cooperageref16_Valid.l0])
  | succ k1 =>
   have H := HA.out
   clear HA
   simp only [cooperageref16_Valid.l0] at H
   by_cases c6 : x9_1 < (l0_1.length : Int)
   case neg =>
    rw [if_neg c6] at H
    have c6b0 := zdf c6
    clear c6
    obtain rfl := Option.some.inj H
    obtain ⟨z27_0, z27_1, z27_2, y27_0, y27_1, y27_2⟩ := zC3 BK534.out
    go_wp2
    go_ret
    exact ⟨zE, zL HB.out⟩
   case' pos =>
    rw [if_pos c6] at H
    have c6b0 := zdt c6
    clear c6
    by_cases c7 : 0 ≤ x9_1
    case neg =>
     rw [if_neg c7] at H
     exact absurd H (by simp)
    case' pos =>
     rw [if_pos c7] at H
     have c7b0 := zdt c7
     clear c7
     by_cases c8 : ((rd_T45 l0_1 x9_1).f0) = a1
     case' neg =>
      rw [if_neg c8] at H
      have c8b0 := zn0 c8
      have c8b1 := zn1 c8
     case' pos =>
      rw [if_pos c8] at H
      have c8b0 := zb0 c8
      have c8b1 := zb1 c8
      clear c8
      by_cases c9 : ((rd_T45 l0_1 x9_1).f1).toList = a2.toList
      case' neg =>
       rw [if_neg c9] at H
       have c9b0 := zn0 c9
       have c9b1 := zn1 c9
      case' pos =>
       rw [if_pos c9] at H
       have c9b0 := zb0 c9
       have c9b1 := zb1 c9
       clear c9
       by_cases c10 : ((rd_T45 l0_1 x9_1).f3) = a3
       case pos =>
        rw [if_pos c10] at H
        have c10b0 := zb0 c10
        have c10b1 := zb1 c10
        clear c10
        obtain rfl := Option.some.inj H
        obtain ⟨z11_0, z11_1, z11_2, y11_0, y11_1, y11_2⟩ := zC3 BK534.out
        have p535 : 0 ≤ (x9_1 : Int) := zD
        have q535 : x9_1 < (l0_1.length : Int) := zD
        obtain ⟨ad535, e535, hx535_0, hx535_1, hx535_2, hx535_3, hx535_4⟩ := at_T45 HR0_1.out x9_1 p535 q535
        cases e535
        replace hx535_0 := zX HB.out hx535_0
        replace hx535_1 := zX HB.out hx535_1
        replace hx535_2 := zX HB.out hx535_2
        replace hx535_3 := zX HB.out hx535_3
        replace hx535_4 := zX HB.out hx535_4
        replace p535 := eq_true p535
        replace q535 := eq_true q535
        go_wp2_with (first | ((with_reducible refine gate_dst (N := 10) rfl ?_); refine box_event ?hg (N := 10) ?hd (cs := #[.int .i64 0, .string ⟨#[]⟩, .bool false, .int .i64 0, .int .i64 0]) (t := 45) ?hr ?_; (case hd => rfl); (case hg => rfl); (case hr => (go_simp; try rfl)); intro gb536 hg w12 hbox hb; have BK536 := ka (hbox); have GW536 := ka (zG hg (zL HB.out)); replace HB := ka (below_step (zL HB.out) hb); have NB534_536 := ka (zNK hg BK534.out); have NB536_534 := ka (zOK hg BK534.out); replace BK534 := ka (zB BK534.out hb); clear hb hbox hg; have hnb13 := NB536_534.out; have hnc13 := NB534_536.out; obtain ⟨z14_0, z14_1, z14_2, z14_3, z14_4, y14_0, y14_1, y14_2, y14_3, y14_4⟩ := zC5 BK536.out))
        go_ret
        exact ⟨zE, zL HB.out⟩
       case' neg =>
        rw [if_neg c10] at H
        have c10b0 := zn0 c10
        have c10b1 := zn1 c10
   all_goals
    have H' := ka H
    clear H
    obtain ⟨z15_0, z15_1, z15_2, y15_0, y15_1, y15_2⟩ := zC3 BK534.out
    have p535 : 0 ≤ (x9_1 : Int) := zD
    have q535 : x9_1 < (l0_1.length : Int) := zD
    obtain ⟨ad535, e535, hx535_0, hx535_1, hx535_2, hx535_3, hx535_4⟩ := at_T45 HR0_1.out x9_1 p535 q535
    cases e535
    replace hx535_0 := zX HB.out hx535_0
    replace hx535_1 := zX HB.out hx535_1
    replace hx535_2 := zX HB.out hx535_2
    replace hx535_3 := zX HB.out hx535_3
    replace hx535_4 := zX HB.out hx535_4
    replace p535 := eq_true p535
    replace q535 := eq_true q535
    go_wp2_with (first | ((with_reducible refine gate_dst (N := 10) rfl ?_); refine box_event ?hg (N := 10) ?hd (cs := #[.int .i64 0, .string ⟨#[]⟩, .bool false, .int .i64 0, .int .i64 0]) (t := 45) ?hr ?_; (case hd => rfl); (case hg => rfl); (case hr => (go_simp; try rfl)); intro gb536 hg w16 hbox hb; have BK536 := ka (hbox); have GW536 := ka (zG hg (zL HB.out)); replace HB := ka (below_step (zL HB.out) hb); have NB534_536 := ka (zNK hg BK534.out); have NB536_534 := ka (zOK hg BK534.out); replace BK534 := ka (zB BK534.out hb); clear hb hbox hg; have hnb17 := NB536_534.out; have hnc17 := NB534_536.out; obtain ⟨z18_0, z18_1, z18_2, z18_3, z18_4, y18_0, y18_1, y18_2, y18_3, y18_4⟩ := zC5 BK536.out))
    go_roundg k1
    case measure => have := HK1.out; omega
    case rel => exact ⟨(wrap64 (x9_1 + 1)), zS, H', ⟨by have := HK1.out; omega⟩, ⟨zK BK534.out⟩, ⟨zL HB.out⟩⟩

/-! ### cooperageref16_time: function 42 -/
def cooperageref16_time.f (a0 : Int) : Option (Bool) := if a0 ≥ 0 then (some (decide (a0 ≤ 1099511627776))) else (some false)
theorem cooperageref16_time.calls (a0 : Int) (r : Bool) (w : World) (h : cooperageref16_time.f a0 = some r) :
  Calls Tryd.prog 42 #[.int .i64 a0] w fun e w' => e = .returned (.bool r) ∧ Drawn0 w w' := by
 have H : (if a0 ≥ 0 then (some (decide (a0 ≤ 1099511627776))) else (some false)) = some r := h
 clear h
 by_cases c2 : a0 ≥ 0
 ·rw [if_pos c2] at H
  have c2b0 : decide (0 ≤ a0) = true := zdt c2
  clear c2
  obtain rfl := Option.some.inj H
  go_enter Tryd.func42, Tryd.ntmps42
  go_wp2
  go_ret
  exact ⟨by first | rfl | (simp; done) | (simp [*]; done), zd0⟩
 rw [if_neg c2] at H
 have c2b0 : decide (0 ≤ a0) = false := zdf c2
 clear c2
 obtain rfl := Option.some.inj H
 go_enter Tryd.func42, Tryd.ntmps42
 go_wp2
 go_ret
 exact ⟨by first | rfl | (simp; done) | (simp [*]; done), zd0⟩

/-! ### cooperageref16_free: function 50 -/
mutual
def cooperageref16_free.l0 : Nat → List (S45) → List (S52) → Int → Int → ByteArray → Bool → Int → Option (Bool)
 | 0, _, _, _, _, _, _, _ => none
 | k + 1, x0, x1, x7, x538000, x538001, x538002, x538003 => if x7 < (x0.length : Int) then (if 0 ≤ x7 then (if ((rd_T45 x0 x7).f1).toList = x538001.toList then (if (rd_T45 x0 x7).f2 = true then (some false) else (if x538002 = true then (some false) else (cooperageref16_free.l0 k x0 x1 (wrap64 (x7 + 1)) x538000 x538001 x538002 x538003))) else (cooperageref16_free.l0 k x0 x1 (wrap64 (x7 + 1)) x538000 x538001 x538002 x538003)) else (none)) else (cooperageref16_free.l1 k x0 x1 0 x538000 x538001 x538002 x538003)
def cooperageref16_free.l1 : Nat → List (S45) → List (S52) → Int → Int → ByteArray → Bool → Int → Option (Bool)
 | 0, _, _, _, _, _, _, _ => none
 | k + 1, x0, x1, x8, x538000, x538001, x538002, x538003 => if x8 < (x1.length : Int) then (if 0 ≤ x8 then (if ((rd_T52 x1 x8).f1).toList = x538001.toList then (some false) else (cooperageref16_free.l1 k x0 x1 (wrap64 (x8 + 1)) x538000 x538001 x538002 x538003)) else (none)) else (some (decide ((x0.length : Int) < 200)))
end
def cooperageref16_free.f (k : Nat) (l0 : List (S45)) (l1 : List (S52)) (a2_0 : Int) (a2_1 : ByteArray) (a2_2 : Bool) (a2_3 : Int) : Option (Bool) := cooperageref16_free.l0 k l0 l1 0 a2_0 a2_1 a2_2 a2_3
theorem cooperageref16_free.mono_l : ∀ k, (∀ y0 y1 y2 y3 y4 y5 y6, LeO (cooperageref16_free.l0 k y0 y1 y2 y3 y4 y5 y6) (cooperageref16_free.l0 (k + 1) y0 y1 y2 y3 y4 y5 y6)) ∧ (∀ y0 y1 y2 y3 y4 y5 y6, LeO (cooperageref16_free.l1 k y0 y1 y2 y3 y4 y5 y6) (cooperageref16_free.l1 (k + 1) y0 y1 y2 y3 y4 y5 y6))
 | 0 => ⟨fun _ _ _ _ _ _ _ r h => by simp [cooperageref16_free.l0] at h, fun _ _ _ _ _ _ _ r h => by simp [cooperageref16_free.l1] at h⟩
 | k + 1 => by
  obtain ⟨ih0, ih1⟩ := cooperageref16_free.mono_l k
  refine ⟨?_, ?_⟩
  ·intros
   unfold cooperageref16_free.l0
   exact zLe
  ·intros
   unfold cooperageref16_free.l1
   exact zLe
theorem cooperageref16_free.mono : ∀ a0 a1 a2 a3 a4 a5 k, LeO (cooperageref16_free.f k a0 a1 a2 a3 a4 a5) (cooperageref16_free.f (k + 1) a0 a1 a2 a3 a4 a5) := by
 intro a0 a1 a2 a3 a4 a5 k
 obtain ⟨ih0, ih1⟩ := cooperageref16_free.mono_l k
 unfold cooperageref16_free.f
 exact zLe
theorem cooperageref16_free.calls (k : Nat) (A0 : Option Addr) (c0 : Nat) (l0 : List (S45)) (A1 : Option Addr) (c1 : Nat) (l1 : List (S52)) (a2_0 : Int) (a2_1 : ByteArray) (a2_2 : Bool) (a2_3 : Int) (r : Bool) (w : World) (hr0 : Kd.C k45 w A0 l0.length l0) (hc0 : l0.length ≤ c0) (hr1 : Kd.C k52 w A1 l1.length l1) (hc1 : l1.length ≤ c1) (h : cooperageref16_free.f k l0 l1 a2_0 a2_1 a2_2 a2_3 = some r) :
  Calls Tryd.prog 50 #[.slice A0 l0.length c0, .slice A1 l1.length c1, .agg #[.int .i64 a2_0, .string a2_1, .bool a2_2, .int .i64 a2_3]] w fun e w' => e = .returned (.bool r) ∧ Below w.heap.size w w' := by
 have hu52 := Tryd.underlying52
 have HR0 := ka hr0
 have HC0 := ka hc0
 clear hr0 hc0
 have HR1 := ka hr1
 have HC1 := ka hc1
 clear hr1 hc1
 have HB := ka (Below.refl w.heap.size w)
 have H : (cooperageref16_free.l0 k l0 l1 0 a2_0 a2_1 a2_2 a2_3) = some r := h
 clear h
 have H' := ka H
 clear H
 go_enter Tryd.func50, Tryd.ntmps50
 have F_ := trivial
 repeat ((first | clear F_ | go_quiet (fail)); try go_wp2_with (first | ((with_reducible refine gate_dst (N := 5) rfl ?_); refine box_event ?hg (N := 5) ?hd (cs := #[.int .i64 a2_0, .string a2_1, .bool a2_2, .int .i64 a2_3]) (t := 52) ?hr ?_; (case hd => rfl); (case hg => rfl); (case hr => (go_simp; try rfl)); intro gb537 hg w4 hbox hb; have BK537 := ka (hbox); have GW537 := ka (zG hg (zL HB.out)); replace HB := ka (below_step (zL HB.out) hb); clear hb hbox hg)))
 go_loopg [7] k (fun kq v7 w' => ∃ (x7_1 : Int), v7 = .int .i64 x7_1 ∧ Aside0 (cooperageref16_free.l0 kq l0 l1 x7_1 a2_0 a2_1 a2_2 a2_3 = some r) ∧ Aside0 (kq ≤ k) ∧ Aside0 (w'.heap[gb537]? = some (.cells #[.int .i64 a2_0, .string a2_1, .bool a2_2, .int .i64 a2_3] 52 (0, 0))) ∧ Aside0 (Below w.heap.size w w'))
 case atStart => exact ⟨(0), zS, H', ⟨Nat.le_refl _⟩, ⟨zK BK537.out⟩, ⟨zL HB.out⟩⟩
 case round =>
  clear H'
  obtain ⟨x7_1, rfl, HA, HK1, BK537, HB⟩ := hrel
  cases gk with
  | zero => exact absurd HA.out (by simp [cooperageref16_free.l0])
  | succ k1 =>
   have H := HA.out
   clear HA
   simp only [cooperageref16_free.l0] at H
   by_cases c5 : x7_1 < (l0.length : Int)
   case neg =>
    rw [if_neg c5] at H
    have c5b0 := zdf c5
    clear c5
    have H' := ka H
    clear H
    go_wp2
    repeat (go_quiet (fail); try go_wp2)
    go_loopg [8] k1 (fun kq v8 w' => ∃ (x8_2 : Int), v8 = .int .i64 x8_2 ∧ Aside0 (cooperageref16_free.l1 kq l0 l1 x8_2 a2_0 a2_1 a2_2 a2_3 = some r) ∧ Aside0 (kq ≤ k1) ∧ Aside0 (w'.heap[gb537]? = some (.cells #[.int .i64 a2_0, .string a2_1, .bool a2_2, .int .i64 a2_3] 52 (0, 0))) ∧ Aside0 (Below w.heap.size w w'))
    case atStart => exact ⟨(0), zS, H', ⟨Nat.le_refl _⟩, ⟨zK BK537.out⟩, ⟨zL HB.out⟩⟩
    case round =>
     clear H'
     try clear c5
     try clear c5b0
     obtain ⟨x8_2, rfl, HA, HK2, BK537, HB⟩ := hrel
     cases gk with
     | zero => exact absurd HA.out (by simp [cooperageref16_free.l1])
     | succ k2 =>
      have H := HA.out
      clear HA
      simp only [cooperageref16_free.l1] at H
      by_cases c15 : x8_2 < (l1.length : Int)
      ·rw [if_pos c15] at H
       have c15b0 := zdt c15
       clear c15
       replace H := zif H
       obtain ⟨c16, H⟩ := H
       have c16b0 := zdt c16
       clear c16
       by_cases c17 : ((rd_T52 l1 x8_2).f1).toList = a2_1.toList
       ·rw [if_pos c17] at H
        have c17b0 := zb0 c17
        have c17b1 := zb1 c17
        clear c17
        obtain rfl := Option.some.inj H
        have p540 : 0 ≤ (x8_2 : Int) := zD
        have q540 : x8_2 < (l1.length : Int) := zD
        obtain ⟨ad540, e540, hx540_0, hx540_1, hx540_2, hx540_3⟩ := at_T52 HR1.out x8_2 p540 q540
        cases e540
        replace hx540_0 := zX HB.out hx540_0
        replace hx540_1 := zX HB.out hx540_1
        replace hx540_2 := zX HB.out hx540_2
        replace hx540_3 := zX HB.out hx540_3
        replace p540 := eq_true p540
        replace q540 := eq_true q540
        obtain ⟨z18_0, z18_1, z18_2, z18_3, y18_0, y18_1, y18_2, y18_3⟩ := zC4 BK537.out
        go_wp2
        repeat (go_quiet (fail); try go_wp2)
        go_ret
        exact ⟨zE, zL HB.out⟩
       rw [if_neg c17] at H
       have c17b0 := zn0 c17
       have c17b1 := zn1 c17
       have H' := ka H
       clear H
       have p540 : 0 ≤ (x8_2 : Int) := zD
       have q540 : x8_2 < (l1.length : Int) := zD
       obtain ⟨ad540, e540, hx540_0, hx540_1, hx540_2, hx540_3⟩ := at_T52 HR1.out x8_2 p540 q540
       cases e540
       replace hx540_0 := zX HB.out hx540_0
       replace hx540_1 := zX HB.out hx540_1
       replace hx540_2 := zX HB.out hx540_2
       replace hx540_3 := zX HB.out hx540_3
       replace p540 := eq_true p540
       replace q540 := eq_true q540
       obtain ⟨z19_0, z19_1, z19_2, z19_3, y19_0, y19_1, y19_2, y19_3⟩ := zC4 BK537.out
       go_wp2
       repeat (go_quiet (fail); try go_wp2)
       go_roundg k2
       case measure => have := HK1.out; have := HK2.out; omega
       case rel => exact ⟨(wrap64 (x8_2 + 1)), zS, H', ⟨by have := HK1.out; have := HK2.out; omega⟩, ⟨zK BK537.out⟩, ⟨zL HB.out⟩⟩
      rw [if_neg c15] at H
      have c15b0 := zdf c15
      clear c15
      obtain rfl := Option.some.inj H
      go_wp2
      repeat (go_quiet (fail); try go_wp2)
      go_ret
      exact ⟨zE, zL HB.out⟩
   case' pos =>
    rw [if_pos c5] at H
    have c5b0 := zdt c5
    clear c5
    by_cases c6 : 0 ≤ x7_1
    case neg =>
     rw [if_neg c6] at H
     exact absurd H (by simp)
    case' pos =>
     rw [if_pos c6] at H
     have c6b0 := zdt c6
     clear c6
     by_cases c7 : ((rd_T45 l0 x7_1).f1).toList = a2_1.toList
     case neg =>
      rw [if_neg c7] at H
      have c7b0 := zn0 c7
      have c7b1 := zn1 c7
      have H' := ka H
      clear H
      have p538 : 0 ≤ (x7_1 : Int) := zD
      have q538 : x7_1 < (l0.length : Int) := zD
      obtain ⟨ad538, e538, hx538_0, hx538_1, hx538_2, hx538_3, hx538_4⟩ := at_T45 HR0.out x7_1 p538 q538
      cases e538
      replace hx538_0 := zX HB.out hx538_0
      replace hx538_1 := zX HB.out hx538_1
      replace hx538_2 := zX HB.out hx538_2
      replace hx538_3 := zX HB.out hx538_3
      replace hx538_4 := zX HB.out hx538_4
      replace p538 := eq_true p538
      replace q538 := eq_true q538
      obtain ⟨z14_0, z14_1, z14_2, z14_3, y14_0, y14_1, y14_2, y14_3⟩ := zC4 BK537.out
      go_wp2
      repeat (go_quiet (fail); try go_wp2)
      go_roundg k1
      case measure => have := HK1.out; omega
      case rel => exact ⟨(wrap64 (x7_1 + 1)), zS, H', ⟨by have := HK1.out; omega⟩, ⟨zK BK537.out⟩, ⟨zL HB.out⟩⟩
     case' pos =>
      rw [if_pos c7] at H
      have c7b0 := zb0 c7
      have c7b1 := zb1 c7
      clear c7
      obtain ⟨bq8, hbq8⟩ : ∃ b_ : Bool, b_ = ((rd_T45 l0 x7_1).f2) := ⟨_, rfl⟩
      replace H : (if bq8 = true then (some false) else (if a2_2 = true then (some false) else (cooperageref16_free.l0 k1 l0 l1 (wrap64 (x7_1 + 1)) a2_0 a2_1 a2_2 a2_3))) = some r := by rw [← hbq8] at H; exact H
      have Nbq8 := ka hbq8
      clear hbq8
      by_cases c9 : bq8 = true
      case' pos =>
       subst c9
      case' neg =>
       replace c9 := Bool.eq_false_iff.mpr c9
       subst c9
       rw [if_neg (show ¬ (false = true) by decide)] at H
       by_cases c11 : a2_2 = true
       case neg =>
        replace c11 := Bool.eq_false_iff.mpr c11
        subst c11
        rw [if_neg (show ¬ (false = true) by decide)] at H
        have H' := ka H
        clear H
        have p538 : 0 ≤ (x7_1 : Int) := zD
        have q538 : x7_1 < (l0.length : Int) := zD
        obtain ⟨ad538, e538, hx538_0, hx538_1, hx538_2, hx538_3, hx538_4⟩ := at_T45 HR0.out x7_1 p538 q538
        (try rw [← Nbq8.out] at hx538_2)
        cases e538
        replace hx538_0 := zX HB.out hx538_0
        replace hx538_1 := zX HB.out hx538_1
        replace hx538_2 := zX HB.out hx538_2
        replace hx538_3 := zX HB.out hx538_3
        replace hx538_4 := zX HB.out hx538_4
        replace p538 := eq_true p538
        replace q538 := eq_true q538
        obtain ⟨z13_0, z13_1, z13_2, z13_3, y13_0, y13_1, y13_2, y13_3⟩ := zC4 BK537.out
        have p539 : 0 ≤ (x7_1 : Int) := zD
        have q539 : x7_1 < (l0.length : Int) := zD
        obtain ⟨ad539, e539, hx539_0, hx539_1, hx539_2, hx539_3, hx539_4⟩ := at_T45 HR0.out x7_1 p539 q539
        (try rw [← Nbq8.out] at hx539_2)
        obtain rfl : ad538 = ad539 := (by injection e539)
        replace hx539_0 := zX HB.out hx539_0
        replace hx539_1 := zX HB.out hx539_1
        replace hx539_2 := zX HB.out hx539_2
        replace hx539_3 := zX HB.out hx539_3
        replace hx539_4 := zX HB.out hx539_4
        replace p539 := eq_true p539
        replace q539 := eq_true q539
        go_wp2
        repeat (go_quiet (fail); try go_wp2)
        go_roundg k1
        case measure => have := HK1.out; omega
        case rel => exact ⟨(wrap64 (x7_1 + 1)), zS, H', ⟨by have := HK1.out; omega⟩, ⟨zK BK537.out⟩, ⟨zL HB.out⟩⟩
       case' pos =>
        subst c11
   all_goals
    rw [if_pos rfl] at H
    obtain rfl := Option.some.inj H
    have p538 : 0 ≤ (x7_1 : Int) := zD
    have q538 : x7_1 < (l0.length : Int) := zD
    obtain ⟨ad538, e538, hx538_0, hx538_1, hx538_2, hx538_3, hx538_4⟩ := at_T45 HR0.out x7_1 p538 q538
    (try rw [← Nbq8.out] at hx538_2)
    cases e538
    replace hx538_0 := zX HB.out hx538_0
    replace hx538_1 := zX HB.out hx538_1
    replace hx538_2 := zX HB.out hx538_2
    replace hx538_3 := zX HB.out hx538_3
    replace hx538_4 := zX HB.out hx538_4
    replace p538 := eq_true p538
    replace q538 := eq_true q538
    obtain ⟨z10_0, z10_1, z10_2, z10_3, y10_0, y10_1, y10_2, y10_3⟩ := zC4 BK537.out
    have p539 : 0 ≤ (x7_1 : Int) := zD
    have q539 : x7_1 < (l0.length : Int) := zD
    obtain ⟨ad539, e539, hx539_0, hx539_1, hx539_2, hx539_3, hx539_4⟩ := at_T45 HR0.out x7_1 p539 q539
    (try rw [← Nbq8.out] at hx539_2)
    obtain rfl : ad538 = ad539 := (by injection e539)
    replace hx539_0 := zX HB.out hx539_0
    replace hx539_1 := zX HB.out hx539_1
    replace hx539_2 := zX HB.out hx539_2
    replace hx539_3 := zX HB.out hx539_3
    replace hx539_4 := zX HB.out hx539_4
    replace p539 := eq_true p539
    replace q539 := eq_true q539
    go_wp2
    repeat (go_quiet (fail); try go_wp2)
    go_ret
    exact ⟨zE, zL HB.out⟩

end Go.Proofs.YtjdadmjomjhpcaaDoor.PLease
