-- Written by a program of this session (wip/tools/ext.py, over the kit's printer); not trusted: Lean checks it.
import Derived.Test.YtjdadmjomjhpcaaDoorPLeasex10
namespace Go.Proofs.YtjdadmjomjhpcaaDoor.PLease
open Go.RowKit Go.Proofs.YtjdadmjomjhpcaaDoorW.PrintWords Go.Proofs.YtjdadmjomjhpcaaDoorW.PrintLast Go.Proofs.YtjdadmjomjhpcaaDoorW.PrintMore
attribute [local go_sem] max2_int min2_int max_two min_two max_three min_three max_four min_four
set_option linter.unusedVariables false
set_option linter.unusedSimpArgs false
set_option maxHeartbeats 8000000
set_option maxRecDepth 100000

/-! ### cooperageref16_Give: function 21 -/
def cooperageref16_Give.l0 : Nat → Int → ByteArray → Int → List (S45) → Int → Int → List (S45) → List (S52) → Option (Int × (List (S45)) × (List (S52)) × Int)
 | 0, _, _, _, _, _, _, _, _ => none
 | k + 1, x1, x2, x4, x12, x13, x560000, x560001, x560002 => if x13 < (x560001.length : Int) then (if 0 ≤ x13 then (if ((rd_T45 x560001 x13).f0) = x1 then (if ((rd_T45 x560001 x13).f1).toList = x2.toList then (cooperageref16_Give.l0 k x1 x2 x4 x12 (wrap64 (x13 + 1)) x560000 x560001 x560002) else (if x12.length < 2932031007402 then (cooperageref16_Give.l0 k x1 x2 x4 (x12 ++ [(⟨(rd_T45 x560001 x13).f0, (rd_T45 x560001 x13).f1, (rd_T45 x560001 x13).f2, (rd_T45 x560001 x13).f3, (rd_T45 x560001 x13).f4⟩ : S45)]) (wrap64 (x13 + 1)) x560000 x560001 x560002) else (none))) else (if x12.length < 2932031007402 then (cooperageref16_Give.l0 k x1 x2 x4 (x12 ++ [(⟨(rd_T45 x560001 x13).f0, (rd_T45 x560001 x13).f1, (rd_T45 x560001 x13).f2, (rd_T45 x560001 x13).f3, (rd_T45 x560001 x13).f4⟩ : S45)]) (wrap64 (x13 + 1)) x560000 x560001 x560002) else (none))) else (none)) else ((cooperageref16_settle.f k x560000 x12 x560002 x4).bind fun bt573 => (some (bt573.1, bt573.2.1, bt573.2.2, 0)))
def cooperageref16_Give.f (k : Nat) (a0_0 : Int) (l0_1 : List (S45)) (l0_2 : List (S52)) (a1 : Int) (a2 : ByteArray) (a3 : Int) (a4 : Int) : Option (Int × (List (S45)) × (List (S52)) × Int) := (cooperageref16_time.f a4).bind fun t561 => (if t561 = true then ((cooperageref16_Valid.f k a0_0 l0_1 l0_2 a1 a2 a3).bind fun t562 => (if t562 = true then (cooperageref16_Give.l0 k a1 a2 a4 ([] : List (S45)) 0 a0_0 l0_1 l0_2) else (some (0, ([] : List (S45)), ([] : List (S52)), 8)))) else (some (0, ([] : List (S45)), ([] : List (S52)), 1)))
theorem cooperageref16_Give.mono_l : ∀ k, (∀ y0 y1 y2 y3 y4 y5 y6 y7, LeO (cooperageref16_Give.l0 k y0 y1 y2 y3 y4 y5 y6 y7) (cooperageref16_Give.l0 (k + 1) y0 y1 y2 y3 y4 y5 y6 y7))
 | 0 => fun _ _ _ _ _ _ _ _ r h => by simp [cooperageref16_Give.l0] at h
 | k + 1 => by
  have ih0 := cooperageref16_Give.mono_l k
  ·intro y0 y1 y2 y3 y4 y5 y6 y7
   unfold cooperageref16_Give.l0
   have m0 := @cooperageref16_Valid.mono
   have m1 := @cooperageref16_settle.mono
   exact zLe
theorem cooperageref16_Give.mono : ∀ a0 a1 a2 a3 a4 a5 a6 k, LeO (cooperageref16_Give.f k a0 a1 a2 a3 a4 a5 a6) (cooperageref16_Give.f (k + 1) a0 a1 a2 a3 a4 a5 a6) := by
 intro a0 a1 a2 a3 a4 a5 a6 k
 have ih0 := cooperageref16_Give.mono_l k
 unfold cooperageref16_Give.f
 have m0 := @cooperageref16_Valid.mono
 have m1 := @cooperageref16_settle.mono
 exact zLe
theorem cooperageref16_Give.calls (k : Nat) (a0_0 : Int) (A0_1 : Option Addr) (c0_1 : Nat) (l0_1 : List (S45)) (A0_2 : Option Addr) (c0_2 : Nat) (l0_2 : List (S52)) (a1 : Int) (a2 : ByteArray) (a3 : Int) (a4 : Int) (r1 : Int) (r2 : List (S45)) (r3 : List (S52)) (r4 : Int) (w : World) (hr0_1 : Kd.C k45 w A0_1 l0_1.length l0_1) (hc0_1 : l0_1.length ≤ c0_1) (hr0_2 : Kd.C k52 w A0_2 l0_2.length l0_2) (hc0_2 : l0_2.length ≤ c0_2) (h : cooperageref16_Give.f k a0_0 l0_1 l0_2 a1 a2 a3 a4 = some (r1, r2, r3, r4)) :
  Calls Tryd.prog 21 #[.agg #[.int .i64 a0_0, .slice A0_1 l0_1.length c0_1, .slice A0_2 l0_2.length c0_2], .int .i64 a1, .string a2, .int .i64 a3, .int .i64 a4] w fun e w' => ∃ v1_ v2_ : Value, e = .returned (.tuple #[.agg #[.int .i64 r1, v1_, v2_], .int .i64 r4]) ∧ Kd.R k45 45 w' w.heap.size (fun _ => True) v1_ r2 ∧ Kd.R k52 52 w' w.heap.size (fun _ => True) v2_ r3 ∧ Below w.heap.size w w' := by
 have hu32 := Tryd.underlying32
 have hu45 := Tryd.underlying45
 have HR0_1 := ka hr0_1
 have HC0_1 := ka hc0_1
 clear hr0_1 hc0_1
 have HR0_2 := ka hr0_2
 have HC0_2 := ka hc0_2
 clear hr0_2 hc0_2
 have HB := ka (Below.refl w.heap.size w)
 have H : ((cooperageref16_time.f a4).bind fun t561 => (if t561 = true then ((cooperageref16_Valid.f k a0_0 l0_1 l0_2 a1 a2 a3).bind fun t562 => (if t562 = true then (cooperageref16_Give.l0 k a1 a2 a4 ([] : List (S45)) 0 a0_0 l0_1 l0_2) else (some (0, ([] : List (S45)), ([] : List (S52)), 8)))) else (some (0, ([] : List (S45)), ([] : List (S52)), 1)))) = some (r1, r2, r3, r4) := h
 clear h
 replace H := Option.bind_eq_some_iff.mp H
 obtain ⟨t561, A60, H⟩ := H
 try dsimp only at H
 have A6 := ka A60
 clear A60
 by_cases c7 : t561 = true
 ·subst c7
  rw [if_pos rfl] at H
  replace H := Option.bind_eq_some_iff.mp H
  obtain ⟨t562, A80, H⟩ := H
  try dsimp only at H
  have A8 := ka A80
  clear A80
  by_cases c9 : t562 = true
  ·subst c9
   rw [if_pos rfl] at H
   have H' := ka H
   clear H
   go_enter Tryd.func21, Tryd.ntmps21
   go_wp2_with (first | ((with_reducible refine gate_dst (N := 5) rfl ?_); refine box_event ?hg (N := 5) ?hd (cs := #[.int .i64 a0_0, .slice A0_1 l0_1.length c0_1, .slice A0_2 l0_2.length c0_2]) (t := 32) ?hr ?_; (case hd => rfl); (case hg => rfl); (case hr => (go_simp; try rfl)); intro gb559 hg w10 hbox hb; have BK559 := ka (hbox); have GW559 := ka (zG hg (zL HB.out)); replace HB := ka (below_step (zL HB.out) hb); clear hb hbox hg) | ((with_reducible refine gate_dst (N := 10) rfl ?_); refine box_event ?hg (N := 10) ?hd (cs := #[.int .i64 0, .slice none 0 0, .slice none 0 0]) (t := 32) ?hr ?_; (case hd => rfl); (case hg => rfl); (case hr => (go_simp; try rfl)); intro gb560 hg w11 hbox hb; have BK560 := ka (hbox); have GW560 := ka (zG hg (zL HB.out)); replace HB := ka (below_step (zL HB.out) hb); have NB559_560 := ka (zNK hg BK559.out); have NB560_559 := ka (zOK hg BK559.out); replace BK559 := ka (zB BK559.out hb); clear hb hbox hg) | ((with_reducible refine gate_callee (f := 42) rfl ?_); refine goesL_ (some 15) rfl rfl Tryd.func42 (by kernel_rfl) rfl #[.int .i64 a4] rfl zA ?_; (with_reducible refine (cooperageref16_time.calls a4 true _ A6.out).mono ?_); rintro e w' ⟨rfl, ⟨nd, rfl⟩⟩; refine ⟨_, rfl, ?_⟩; have hnb12 := NB559_560.out; have hnc12 := NB560_559.out; obtain ⟨z13_0, z13_1, z13_2, y13_0, y13_1, y13_2⟩ := zC3 BK559.out) | ((with_reducible refine gate_callee (f := 14) rfl ?_); refine goesL_ (some 22) rfl rfl Tryd.func14 (by kernel_rfl) rfl #[.agg #[.int .i64 a0_0, .slice A0_1 l0_1.length c0_1, .slice A0_2 l0_2.length c0_2], .int .i64 a1, .string a2, .int .i64 a3] rfl zA ?_; (with_reducible refine (cooperageref16_Valid.calls k a0_0 _ _ l0_1 _ _ l0_2 a1 a2 a3 true _ ?side1 ?side2 ?side3 ?side4 A8.out).mono ?_); (case side1 => repeat (first | exact (Kd.C_below HR0_1.out (zL HB.out)) | (with_reducible refine Kd.C_alloc ?_ _) | (with_reducible refine Kd.C_drewN ?_ _) | (with_reducible refine Kd.C_drew ?_))); (case side2 => exact HC0_1.out); (case side3 => repeat (first | exact (Kd.C_below HR0_2.out (zL HB.out)) | (with_reducible refine Kd.C_alloc ?_ _) | (with_reducible refine Kd.C_drewN ?_ _) | (with_reducible refine Kd.C_drew ?_))); (case side4 => exact HC0_2.out); rintro e w14 ⟨rfl, hb⟩; refine ⟨_, rfl, ?_⟩; replace BK559 := ka (zB BK559.out hb); replace BK560 := ka (zB BK560.out hb); replace HB := ka (below_step (zL HB.out) hb); (try clear hb); (try clear hb2); (try clear hk); (try clear hi)))
   go_loopg [12, 13] k (fun kq v12 v13 w' => ∃ (x12_1 : List (S45)) (x13_1 : Int), v13 = .int .i64 x13_1 ∧ Aside0 (cooperageref16_Give.l0 kq a1 a2 a4 x12_1 x13_1 a0_0 l0_1 l0_2 = some (r1, r2, r3, r4)) ∧ Aside0 (kq ≤ k) ∧ Aside0 (Kd.R k45 45 w' w.heap.size (fun _ => True) v12 x12_1) ∧ Aside0 (w'.heap[gb559]? = some (.cells #[.int .i64 a0_0, (.slice A0_1 l0_1.length c0_1), (.slice A0_2 l0_2.length c0_2)] 32 (0, 0))) ∧ Aside0 (w'.heap[gb560]? = some (.cells #[.int .i64 0, (.slice none 0 0), (.slice none 0 0)] 32 (0, 0))) ∧ Aside0 (Below w.heap.size w w'))
   case atStart => exact ⟨(([] : List (S45))), (0), zS, H', ⟨Nat.le_refl _⟩, ⟨zNl⟩, ⟨zK BK559.out⟩, ⟨zK BK560.out⟩, ⟨zL HB.out⟩⟩
   case round =>
    clear H'
    try clear c7
    try clear c9
    try clear z13_0 z13_1 z13_2
    try clear y13_0 y13_1 y13_2
    obtain ⟨x12_1, x13_1, rfl, HA, HK1, HO_12, BK559, BK560, HB⟩ := hrel
    cases gk with
    | zero => exact absurd HA.out (by simp [cooperageref16_Give.l0])
    | succ k1 =>
     have H := HA.out
     clear HA
     simp only [cooperageref16_Give.l0] at H
     by_cases c15 : x13_1 < (l0_1.length : Int)
     ·rw [if_pos c15] at H
      have c15b0 := zdt c15
      clear c15
      replace H := zif H
      obtain ⟨c16, H⟩ := H
      have c16b0 := zdt c16
      clear c16
      by_cases c17 : ((rd_T45 l0_1 x13_1).f0) = a1
      ·rw [if_pos c17] at H
       have c17b0 := zb0 c17
       have c17b1 := zb1 c17
       clear c17
       by_cases c18 : ((rd_T45 l0_1 x13_1).f1).toList = a2.toList
       ·rw [if_pos c18] at H
        have c18b0 := zb0 c18
        have c18b1 := zb1 c18
        clear c18
        have H' := ka H
        clear H
        have hnb19 := NB559_560.out
        have hnc19 := NB560_559.out
        obtain ⟨z20_0, z20_1, z20_2, y20_0, y20_1, y20_2⟩ := zC3 BK559.out
        have p563 : 0 ≤ (x13_1 : Int) := zD
        have q563 : x13_1 < (l0_1.length : Int) := zD
        obtain ⟨ad563, e563, hx563_0, hx563_1, hx563_2, hx563_3, hx563_4⟩ := at_T45 HR0_1.out x13_1 p563 q563
        cases e563
        replace hx563_0 := zX HB.out hx563_0
        replace hx563_1 := zX HB.out hx563_1
        replace hx563_2 := zX HB.out hx563_2
        replace hx563_3 := zX HB.out hx563_3
        replace hx563_4 := zX HB.out hx563_4
        replace p563 := eq_true p563
        replace q563 := eq_true q563
        have p564 : 0 ≤ (x13_1 : Int) := zD
        have q564 : x13_1 < (l0_1.length : Int) := zD
        obtain ⟨ad564, e564, hx564_0, hx564_1, hx564_2, hx564_3, hx564_4⟩ := at_T45 HR0_1.out x13_1 p564 q564
        obtain rfl : ad563 = ad564 := (by injection e564)
        replace hx564_0 := zX HB.out hx564_0
        replace hx564_1 := zX HB.out hx564_1
        replace hx564_2 := zX HB.out hx564_2
        replace hx564_3 := zX HB.out hx564_3
        replace hx564_4 := zX HB.out hx564_4
        replace p564 := eq_true p564
        replace q564 := eq_true q564
        go_wp2
        go_roundg k1
        case measure => have := HK1.out; omega
        case rel => exact ⟨(x12_1), (wrap64 (x13_1 + 1)), zS, H', ⟨by have := HK1.out; omega⟩, ⟨zR HO_12.out⟩, ⟨zK BK559.out⟩, ⟨zK BK560.out⟩, ⟨zL HB.out⟩⟩
       rw [if_neg c18] at H
       have c18b0 := zn0 c18
       have c18b1 := zn1 c18
       replace H := zif H
       obtain ⟨c21, H⟩ := H
       have LMc21 := ka c21
       clear c21
       obtain ⟨y566, hy566⟩ : ∃ y_ : List (S45), y_ = (x12_1 ++ [(⟨(rd_T45 l0_1 x13_1).f0, (rd_T45 l0_1 x13_1).f1, (rd_T45 l0_1 x13_1).f2, (rd_T45 l0_1 x13_1).f3, (rd_T45 l0_1 x13_1).f4⟩ : S45)]) := ⟨_, rfl⟩
       replace H : (cooperageref16_Give.l0 k1 a1 a2 a4 y566 (wrap64 (x13_1 + 1)) a0_0 l0_1 l0_2) = some (r1, r2, r3, r4) := zH hy566 H
       have Ny566 := ka hy566
       clear hy566
       have H' := ka H
       clear H
       have hnb22 := NB559_560.out
       have hnc22 := NB560_559.out
       obtain ⟨z23_0, z23_1, z23_2, y23_0, y23_1, y23_2⟩ := zC3 BK559.out
       have p563 : 0 ≤ (x13_1 : Int) := zD
       have q563 : x13_1 < (l0_1.length : Int) := zD
       obtain ⟨ad563, e563, hx563_0, hx563_1, hx563_2, hx563_3, hx563_4⟩ := at_T45 HR0_1.out x13_1 p563 q563
       cases e563
       replace hx563_0 := zX HB.out hx563_0
       replace hx563_1 := zX HB.out hx563_1
       replace hx563_2 := zX HB.out hx563_2
       replace hx563_3 := zX HB.out hx563_3
       replace hx563_4 := zX HB.out hx563_4
       replace p563 := eq_true p563
       replace q563 := eq_true q563
       have p564 : 0 ≤ (x13_1 : Int) := zD
       have q564 : x13_1 < (l0_1.length : Int) := zD
       obtain ⟨ad564, e564, hx564_0, hx564_1, hx564_2, hx564_3, hx564_4⟩ := at_T45 HR0_1.out x13_1 p564 q564
       obtain rfl : ad563 = ad564 := (by injection e564)
       replace hx564_0 := zX HB.out hx564_0
       replace hx564_1 := zX HB.out hx564_1
       replace hx564_2 := zX HB.out hx564_2
       replace hx564_3 := zX HB.out hx564_3
       replace hx564_4 := zX HB.out hx564_4
       replace p564 := eq_true p564
       replace q564 := eq_true q564
       have p565 : 0 ≤ (x13_1 : Int) := zD
       have q565 : x13_1 < (l0_1.length : Int) := zD
       obtain ⟨ad565, e565, hx565_0, hx565_1, hx565_2, hx565_3, hx565_4⟩ := at_T45 HR0_1.out x13_1 p565 q565
       obtain rfl : ad563 = ad565 := (by injection e565)
       replace hx565_0 := zX HB.out hx565_0
       replace hx565_1 := zX HB.out hx565_1
       replace hx565_2 := zX HB.out hx565_2
       replace hx565_3 := zX HB.out hx565_3
       replace hx565_4 := zX HB.out hx565_4
       replace p565 := eq_true p565
       replace q565 := eq_true q565
       go_wp2_with (first | ((with_reducible refine gate_builtin (b := .append) (xs := #[.tmp 50, .tmp 56]) rfl ?_); at_builtin; refine Kd.R_append k45 (w0 := w) w.heap.size rfl (.tmp 50) (.tmp 56) 29 45 (.agg #[(.int .i64 0), (.string ⟨#[]⟩), (.bool false), (.int .i64 0), (.int .i64 0)]) 48 rfl Tryd.underlying29 info45 rfl (by decide) (by omega) u12 x12_1 (⟨(rd_T45 l0_1 x13_1).f0, (rd_T45 l0_1 x13_1).f1, (rd_T45 l0_1 x13_1).f2, (rd_T45 l0_1 x13_1).f3, (rd_T45 l0_1 x13_1).f4⟩ : S45) [.int .i64 ((rd_T45 l0_1 x13_1).f0), .string ((rd_T45 l0_1 x13_1).f1), .bool ((rd_T45 l0_1 x13_1).f2), .int .i64 ((rd_T45 l0_1 x13_1).f3), .int .i64 ((rd_T45 l0_1 x13_1).f4)] (fun _ => True) (fun _ => False) rfl rfl ?aP (fun _ hk => hk.elim) ?aF ?aO ?aB ?aS ?aL ?_; (case aP => exact k45_mkM _ _ _ (⟨(rd_T45 l0_1 x13_1).f0, (rd_T45 l0_1 x13_1).f1, (rd_T45 l0_1 x13_1).f2, (rd_T45 l0_1 x13_1).f3, (rd_T45 l0_1 x13_1).f4⟩ : S45)); (case aB => exact (zL HB.out)); (case aF => exact (fun _ _ => trivial)); (case aO => exact (zR HO_12.out)); (case aS => exact (below_size (zL HB.out))); (case aL => have := LMc21.out; omega); intro v567 w24 ho hb hg hat; rw [← Ny566.out] at ho; replace BK559 := ka (blk_grown (g := gb559) (o := .cells #[.int .i64 a0_0, .slice (some ad563) l0_1.length c0_1, .slice A0_2 l0_2.length c0_2] 32 (0, 0)) (zK BK559.out) hg (Kd.R_ne HO_12.out BK559.out (by decide))); replace BK560 := ka (blk_grown (g := gb560) (o := .cells #[.int .i64 0, .slice none 0 0, .slice none 0 0] 32 (0, 0)) (zK BK560.out) hg (Kd.R_ne HO_12.out BK560.out (by decide))); replace HB := ka (hb); have HO568 := ka (ho); clear HO_12; clear ho hb hg hat))
       go_roundg k1
       case measure => have := HK1.out; omega
       case rel => exact ⟨(y566), (wrap64 (x13_1 + 1)), zS, H', ⟨by have := HK1.out; omega⟩, ⟨zR HO568.out⟩, ⟨zK BK559.out⟩, ⟨zK BK560.out⟩, ⟨zL HB.out⟩⟩
      rw [if_neg c17] at H
      have c17b0 := zn0 c17
      have c17b1 := zn1 c17
      replace H := zif H
      obtain ⟨c25, H⟩ := H
      have LMc25 := ka c25
      clear c25
      obtain ⟨y570, hy570⟩ : ∃ y_ : List (S45), y_ = (x12_1 ++ [(⟨(rd_T45 l0_1 x13_1).f0, (rd_T45 l0_1 x13_1).f1, (rd_T45 l0_1 x13_1).f2, (rd_T45 l0_1 x13_1).f3, (rd_T45 l0_1 x13_1).f4⟩ : S45)]) := ⟨_, rfl⟩
      replace H : (cooperageref16_Give.l0 k1 a1 a2 a4 y570 (wrap64 (x13_1 + 1)) a0_0 l0_1 l0_2) = some (r1, r2, r3, r4) := zH hy570 H
      have Ny570 := ka hy570
      clear hy570
      have H' := ka H
      clear H
      have hnb26 := NB559_560.out
      have hnc26 := NB560_559.out
      obtain ⟨z27_0, z27_1, z27_2, y27_0, y27_1, y27_2⟩ := zC3 BK559.out
      have p563 : 0 ≤ (x13_1 : Int) := zD
      have q563 : x13_1 < (l0_1.length : Int) := zD
      obtain ⟨ad563, e563, hx563_0, hx563_1, hx563_2, hx563_3, hx563_4⟩ := at_T45 HR0_1.out x13_1 p563 q563
      cases e563
      replace hx563_0 := zX HB.out hx563_0
      replace hx563_1 := zX HB.out hx563_1
      replace hx563_2 := zX HB.out hx563_2
      replace hx563_3 := zX HB.out hx563_3
      replace hx563_4 := zX HB.out hx563_4
      replace p563 := eq_true p563
      replace q563 := eq_true q563
      have p569 : 0 ≤ (x13_1 : Int) := zD
      have q569 : x13_1 < (l0_1.length : Int) := zD
      obtain ⟨ad569, e569, hx569_0, hx569_1, hx569_2, hx569_3, hx569_4⟩ := at_T45 HR0_1.out x13_1 p569 q569
      obtain rfl : ad563 = ad569 := (by injection e569)
      replace hx569_0 := zX HB.out hx569_0
      replace hx569_1 := zX HB.out hx569_1
      replace hx569_2 := zX HB.out hx569_2
      replace hx569_3 := zX HB.out hx569_3
      replace hx569_4 := zX HB.out hx569_4
      replace p569 := eq_true p569
      replace q569 := eq_true q569
      go_wp2_with (first | ((with_reducible refine gate_builtin (b := .append) (xs := #[.tmp 50, .tmp 56]) rfl ?_); at_builtin; refine Kd.R_append k45 (w0 := w) w.heap.size rfl (.tmp 50) (.tmp 56) 29 45 (.agg #[(.int .i64 0), (.string ⟨#[]⟩), (.bool false), (.int .i64 0), (.int .i64 0)]) 48 rfl Tryd.underlying29 info45 rfl (by decide) (by omega) u12 x12_1 (⟨(rd_T45 l0_1 x13_1).f0, (rd_T45 l0_1 x13_1).f1, (rd_T45 l0_1 x13_1).f2, (rd_T45 l0_1 x13_1).f3, (rd_T45 l0_1 x13_1).f4⟩ : S45) [.int .i64 ((rd_T45 l0_1 x13_1).f0), .string ((rd_T45 l0_1 x13_1).f1), .bool ((rd_T45 l0_1 x13_1).f2), .int .i64 ((rd_T45 l0_1 x13_1).f3), .int .i64 ((rd_T45 l0_1 x13_1).f4)] (fun _ => True) (fun _ => False) rfl rfl ?aP (fun _ hk => hk.elim) ?aF ?aO ?aB ?aS ?aL ?_; (case aP => exact k45_mkM _ _ _ (⟨(rd_T45 l0_1 x13_1).f0, (rd_T45 l0_1 x13_1).f1, (rd_T45 l0_1 x13_1).f2, (rd_T45 l0_1 x13_1).f3, (rd_T45 l0_1 x13_1).f4⟩ : S45)); (case aB => exact (zL HB.out)); (case aF => exact (fun _ _ => trivial)); (case aO => exact (zR HO_12.out)); (case aS => exact (below_size (zL HB.out))); (case aL => have := LMc25.out; omega); intro v571 w28 ho hb hg hat; rw [← Ny570.out] at ho; replace BK559 := ka (blk_grown (g := gb559) (o := .cells #[.int .i64 a0_0, .slice (some ad563) l0_1.length c0_1, .slice A0_2 l0_2.length c0_2] 32 (0, 0)) (zK BK559.out) hg (Kd.R_ne HO_12.out BK559.out (by decide))); replace BK560 := ka (blk_grown (g := gb560) (o := .cells #[.int .i64 0, .slice none 0 0, .slice none 0 0] 32 (0, 0)) (zK BK560.out) hg (Kd.R_ne HO_12.out BK560.out (by decide))); replace HB := ka (hb); have HO572 := ka (ho); clear HO_12; clear ho hb hg hat))
      go_roundg k1
      case measure => have := HK1.out; omega
      case rel => exact ⟨(y570), (wrap64 (x13_1 + 1)), zS, H', ⟨by have := HK1.out; omega⟩, ⟨zR HO572.out⟩, ⟨zK BK559.out⟩, ⟨zK BK560.out⟩, ⟨zL HB.out⟩⟩
     rw [if_neg c15] at H
     have c15b0 := zdf c15
     clear c15
     replace H := Option.bind_eq_some_iff.mp H
     obtain ⟨⟨t573, t574, t577⟩, A290, H⟩ := H
     try dsimp only at H
     have A29 := ka A290
     clear A290
     replace H := zs4 H
     obtain ⟨rfl, rfl, rfl, rfl⟩ := H
     have hnb30 := NB559_560.out
     have hnc30 := NB560_559.out
     obtain ⟨z31_0, z31_1, z31_2, y31_0, y31_1, y31_2⟩ := zC3 BK559.out
     obtain ⟨Ao32, co32, eo32⟩ := Kd.R_slice HO_12.out
     subst eo32
     go_wp2_with (first | ((with_reducible refine gate_callee (f := 43) rfl ?_); refine goesL_ (some 65) rfl rfl Tryd.func43 (by kernel_rfl) rfl #[.agg #[.int .i64 a0_0, .slice Ao32 x12_1.length co32, .slice A0_2 l0_2.length c0_2], .int .i64 a4] rfl zA ?_; (with_reducible refine (cooperageref16_settle.calls k1 a0_0 _ _ x12_1 _ _ l0_2 a4 t573 t574 t577 _ ?side1 ?side2 ?side3 ?side4 A29.out).mono ?_); (case side1 => exact zCS (Kd.R_reads' HO_12.out).2.2); (case side2 => exact (Kd.R_reads' HO_12.out).2.1); (case side3 => exact zCS (Kd.C_below HR0_2.out HB.out)); (case side4 => exact HC0_2.out); rintro e w33 ⟨v575, v578, rfl, ho0, ho1, hb⟩; refine ⟨_, rfl, ?_⟩; have HO576 := ka (Kd.R_lower (Kd.R_new' ho0 (Kd.R_lt (zR HO_12.out))) (below_size (zL HB.out))); replace HO_12 := ka (Kd.R_elder' (zR HO_12.out) (Kd.R_base ho0) hb); have HO579 := ka (Kd.R_lower ho1 (below_size (zL HB.out))); replace BK559 := ka (zB BK559.out hb); replace BK560 := ka (zB BK560.out hb); replace HB := ka (below_step (zL HB.out) hb); (try clear hb); (try clear hb2); (try clear hk); (try clear hi); (try clear ho0); (try clear ho1); obtain ⟨z34_0, z34_1, z34_2, y34_0, y34_1, y34_2⟩ := zC3 BK560.out; obtain ⟨Ao35, co35, eo35⟩ := Kd.R_slice HO576.out; subst eo35; obtain ⟨Ao36, co36, eo36⟩ := Kd.R_slice HO579.out; subst eo36))
     refine bodyPost_ret (results_ct rfl _ _ gb560 32 #[.int .i64 t573, .slice Ao35 t574.length co35, .slice Ao36 t577.length co36] (0, 0) _ rfl (zP3 BK560.out) Tryd.underlying32 rfl (by kernel_rfl)) rfl ?_
     exact ⟨_, _, zE, by (with_reducible repeat (first | apply Kd.R_alloc | apply Kd.R_drewN | apply Kd.R_drew)); exact Kd.R_mono (zNT HO576.out BK560.out) (fun _ hk => trivial), by (with_reducible repeat (first | apply Kd.R_alloc | apply Kd.R_drewN | apply Kd.R_drew)); exact Kd.R_mono (zNT HO579.out BK560.out) (fun _ hk => trivial), zL HB.out⟩
  replace c9 := Bool.eq_false_iff.mpr c9
  subst c9
  rw [if_neg (show ¬ (false = true) by decide)] at H
  replace H := zs4 H
  obtain ⟨rfl, rfl, rfl, rfl⟩ := H
  go_enter Tryd.func21, Tryd.ntmps21
  go_wp2_with (first | ((with_reducible refine gate_dst (N := 5) rfl ?_); refine box_event ?hg (N := 5) ?hd (cs := #[.int .i64 a0_0, .slice A0_1 l0_1.length c0_1, .slice A0_2 l0_2.length c0_2]) (t := 32) ?hr ?_; (case hd => rfl); (case hg => rfl); (case hr => (go_simp; try rfl)); intro gb559 hg w37 hbox hb; have BK559 := ka (hbox); have GW559 := ka (zG hg (zL HB.out)); replace HB := ka (below_step (zL HB.out) hb); clear hb hbox hg) | ((with_reducible refine gate_dst (N := 10) rfl ?_); refine box_event ?hg (N := 10) ?hd (cs := #[.int .i64 0, .slice none 0 0, .slice none 0 0]) (t := 32) ?hr ?_; (case hd => rfl); (case hg => rfl); (case hr => (go_simp; try rfl)); intro gb560 hg w38 hbox hb; have BK560 := ka (hbox); have GW560 := ka (zG hg (zL HB.out)); replace HB := ka (below_step (zL HB.out) hb); have NB559_560 := ka (zNK hg BK559.out); have NB560_559 := ka (zOK hg BK559.out); replace BK559 := ka (zB BK559.out hb); clear hb hbox hg) | ((with_reducible refine gate_callee (f := 42) rfl ?_); refine goesL_ (some 15) rfl rfl Tryd.func42 (by kernel_rfl) rfl #[.int .i64 a4] rfl zA ?_; (with_reducible refine (cooperageref16_time.calls a4 true _ A6.out).mono ?_); rintro e w' ⟨rfl, ⟨nd, rfl⟩⟩; refine ⟨_, rfl, ?_⟩; (try (rw [drewN_self w38]; generalize hq_ : World.drewN w38 _ = w38; have n0_ : Aside0 (w38.heap[gb559]? = some (.cells #[.int .i64 a0_0, .slice A0_1 l0_1.length c0_1, .slice A0_2 l0_2.length c0_2] 32 (0, 0))) := ⟨by rw [← hq_]; exact (zK BK559.out)⟩; have n1_ : Aside0 (w38.heap[gb560]? = some (.cells #[.int .i64 0, .slice none 0 0, .slice none 0 0] 32 (0, 0))) := ⟨by rw [← hq_]; exact (zK BK560.out)⟩; have n2_ : Aside0 (Below w.heap.size w w38) := ⟨by rw [← hq_]; exact (zL HB.out)⟩; clear BK559 BK560 HB hq_; have BK559 := n0_; have BK560 := n1_; have HB := n2_; clear n0_ n1_ n2_; (try (obtain ⟨z31_0, z31_1, z31_2, y31_0, y31_1, y31_2⟩ := zC3 BK559.out)); (try (obtain ⟨z34_0, z34_1, z34_2, y34_0, y34_1, y34_2⟩ := zC3 BK560.out)))); have hnb39 := NB559_560.out; have hnc39 := NB560_559.out; obtain ⟨z40_0, z40_1, z40_2, y40_0, y40_1, y40_2⟩ := zC3 BK559.out) | ((with_reducible refine gate_callee (f := 14) rfl ?_); refine goesL_ (some 22) rfl rfl Tryd.func14 (by kernel_rfl) rfl #[.agg #[.int .i64 a0_0, .slice A0_1 l0_1.length c0_1, .slice A0_2 l0_2.length c0_2], .int .i64 a1, .string a2, .int .i64 a3] rfl zA ?_; (with_reducible refine (cooperageref16_Valid.calls k a0_0 _ _ l0_1 _ _ l0_2 a1 a2 a3 false _ ?side1 ?side2 ?side3 ?side4 A8.out).mono ?_); (case side1 => exact zCS (Kd.C_below HR0_1.out HB.out)); (case side2 => exact HC0_1.out); (case side3 => exact zCS (Kd.C_below HR0_2.out HB.out)); (case side4 => exact HC0_2.out); rintro e w41 ⟨rfl, hb⟩; refine ⟨_, rfl, ?_⟩; replace BK559 := ka (zB BK559.out hb); replace BK560 := ka (zB BK560.out hb); replace HB := ka (below_step (zL HB.out) hb); (try clear hb); (try clear hb2); (try clear hk); (try clear hi); obtain ⟨z42_0, z42_1, z42_2, y42_0, y42_1, y42_2⟩ := zC3 BK560.out))
  refine bodyPost_ret (results_ct rfl _ _ gb560 32 #[.int .i64 0, .slice none 0 0, .slice none 0 0] (0, 0) _ rfl (zP3 BK560.out) Tryd.underlying32 rfl (by kernel_rfl)) rfl ?_
  exact ⟨_, _, zE, zNl, zNl, zL HB.out⟩
 replace c7 := Bool.eq_false_iff.mpr c7
 subst c7
 rw [if_neg (show ¬ (false = true) by decide)] at H
 replace H := zs4 H
 obtain ⟨rfl, rfl, rfl, rfl⟩ := H
 go_enter Tryd.func21, Tryd.ntmps21
 go_wp2_with (first | ((with_reducible refine gate_dst (N := 5) rfl ?_); refine box_event ?hg (N := 5) ?hd (cs := #[.int .i64 a0_0, .slice A0_1 l0_1.length c0_1, .slice A0_2 l0_2.length c0_2]) (t := 32) ?hr ?_; (case hd => rfl); (case hg => rfl); (case hr => (go_simp; try rfl)); intro gb559 hg w43 hbox hb; have BK559 := ka (hbox); have GW559 := ka (zG hg (zL HB.out)); replace HB := ka (below_step (zL HB.out) hb); clear hb hbox hg) | ((with_reducible refine gate_dst (N := 10) rfl ?_); refine box_event ?hg (N := 10) ?hd (cs := #[.int .i64 0, .slice none 0 0, .slice none 0 0]) (t := 32) ?hr ?_; (case hd => rfl); (case hg => rfl); (case hr => (go_simp; try rfl)); intro gb560 hg w44 hbox hb; have BK560 := ka (hbox); have GW560 := ka (zG hg (zL HB.out)); replace HB := ka (below_step (zL HB.out) hb); have NB559_560 := ka (zNK hg BK559.out); have NB560_559 := ka (zOK hg BK559.out); replace BK559 := ka (zB BK559.out hb); clear hb hbox hg) | ((with_reducible refine gate_callee (f := 42) rfl ?_); refine goesL_ (some 15) rfl rfl Tryd.func42 (by kernel_rfl) rfl #[.int .i64 a4] rfl zA ?_; (with_reducible refine (cooperageref16_time.calls a4 false _ A6.out).mono ?_); rintro e w' ⟨rfl, ⟨nd, rfl⟩⟩; refine ⟨_, rfl, ?_⟩; (try (rw [drewN_self w44]; generalize hq_ : World.drewN w44 _ = w44; have n0_ : Aside0 (w44.heap[gb559]? = some (.cells #[.int .i64 a0_0, .slice A0_1 l0_1.length c0_1, .slice A0_2 l0_2.length c0_2] 32 (0, 0))) := ⟨by rw [← hq_]; exact (zK BK559.out)⟩; have n1_ : Aside0 (w44.heap[gb560]? = some (.cells #[.int .i64 0, .slice none 0 0, .slice none 0 0] 32 (0, 0))) := ⟨by rw [← hq_]; exact (zK BK560.out)⟩; have n2_ : Aside0 (Below w.heap.size w w44) := ⟨by rw [← hq_]; exact (zL HB.out)⟩; clear BK559 BK560 HB hq_; have BK559 := n0_; have BK560 := n1_; have HB := n2_; clear n0_ n1_ n2_; (try (obtain ⟨z40_0, z40_1, z40_2, y40_0, y40_1, y40_2⟩ := zC3 BK559.out)); (try (obtain ⟨z42_0, z42_1, z42_2, y42_0, y42_1, y42_2⟩ := zC3 BK560.out)))); have hnb45 := NB560_559.out; have hnc45 := NB559_560.out; obtain ⟨z46_0, z46_1, z46_2, y46_0, y46_1, y46_2⟩ := zC3 BK560.out))
 refine bodyPost_ret (results_ct rfl _ _ gb560 32 #[.int .i64 0, .slice none 0 0, .slice none 0 0] (0, 0) _ rfl (zP3 BK560.out) Tryd.underlying32 rfl (by kernel_rfl)) rfl ?_
 exact ⟨_, _, zE, zNl, zNl, zL HB.out⟩

/-! ### cooperageref16_life: function 44 -/
def cooperageref16_life.f (a0 : Int) : Option (Bool) := if a0 ≥ 1 then (some (decide (a0 ≤ 1048576))) else (some false)
theorem cooperageref16_life.calls (a0 : Int) (r : Bool) (w : World) (h : cooperageref16_life.f a0 = some r) :
  Calls Tryd.prog 44 #[.int .i64 a0] w fun e w' => e = .returned (.bool r) ∧ Drawn0 w w' := by
 have H : (if a0 ≥ 1 then (some (decide (a0 ≤ 1048576))) else (some false)) = some r := h
 clear h
 by_cases c2 : a0 ≥ 1
 ·rw [if_pos c2] at H
  have c2b0 : decide (1 ≤ a0) = true := zdt c2
  clear c2
  obtain rfl := Option.some.inj H
  go_enter Tryd.func44, Tryd.ntmps44
  go_wp2
  go_ret
  exact ⟨by first | rfl | (simp; done) | (simp [*]; done), zd0⟩
 rw [if_neg c2] at H
 have c2b0 : decide (1 ≤ a0) = false := zdf c2
 clear c2
 obtain rfl := Option.some.inj H
 go_enter Tryd.func44, Tryd.ntmps44
 go_wp2
 go_ret
 exact ⟨by first | rfl | (simp; done) | (simp [*]; done), zd0⟩

/-! ### cooperageref16_Renew: function 22 -/
mutual
def cooperageref16_Renew.j0 : Nat → Int → ByteArray → Int → Int → Int → Bool → Int → List (S45) → List (S52) → Option (Int × (List (S45)) × (List (S52)) × Int)
 | 0, _, _, _, _, _, _, _, _, _ => none
 | k + 1, x1, x2, x3, x4, x5, x23, x581000, x581001, x581002 => if x23 = true then (some (0, ([] : List (S45)), ([] : List (S52)), 1)) else ((cooperageref16_Valid.f k x581000 x581001 x581002 x1 x2 x3).bind fun t584 => (if t584 = true then ((some (([] : List (S45)) : List (S45))).bind fun y585 => (if y585.length + x581001.length < 2932031007402 then (cooperageref16_Renew.l0 k x1 x2 x4 x5 (y585 ++ x581001) 0 x581000 x581001 x581002) else (none))) else (some (0, ([] : List (S45)), ([] : List (S52)), 8))))
def cooperageref16_Renew.l0 : Nat → Int → ByteArray → Int → Int → List (S45) → Int → Int → List (S45) → List (S52) → Option (Int × (List (S45)) × (List (S52)) × Int)
 | 0, _, _, _, _, _, _, _, _, _ => none
 | k + 1, x1, x2, x4, x5, x14, x15, x581000, x581001, x581002 => if x15 < (x14.length : Int) then (if 0 ≤ x15 then (if ((rd_T45 x14 x15).f0) = x1 then (if ((rd_T45 x14 x15).f1).toList = x2.toList then (cooperageref16_Renew.l0 k x1 x2 x4 x5 (x14.set (x15 : Int).toNat (⟨(rd_T45 x14 x15).f0, (rd_T45 x14 x15).f1, (rd_T45 x14 x15).f2, (rd_T45 x14 x15).f3, wrap64 (x5 + x4)⟩ : S45)) (wrap64 (x15 + 1)) x581000 x581001 x581002) else (cooperageref16_Renew.l0 k x1 x2 x4 x5 x14 (wrap64 (x15 + 1)) x581000 x581001 x581002)) else (cooperageref16_Renew.l0 k x1 x2 x4 x5 x14 (wrap64 (x15 + 1)) x581000 x581001 x581002)) else (none)) else (some (x581000, x14, x581002, 0))
end
def cooperageref16_Renew.f (k : Nat) (a0_0 : Int) (l0_1 : List (S45)) (l0_2 : List (S52)) (a1 : Int) (a2 : ByteArray) (a3 : Int) (a4 : Int) (a5 : Int) : Option (Int × (List (S45)) × (List (S52)) × Int) := (cooperageref16_life.f a4).bind fun t582 => (if t582 = true then ((cooperageref16_time.f a5).bind fun t583 => (cooperageref16_Renew.j0 k a1 a2 a3 a4 a5 (!t583) a0_0 l0_1 l0_2)) else (cooperageref16_Renew.j0 k a1 a2 a3 a4 a5 true a0_0 l0_1 l0_2))
theorem cooperageref16_Renew.mono_l : ∀ k, (∀ y0 y1 y2 y3 y4 y5 y6 y7 y8, LeO (cooperageref16_Renew.j0 k y0 y1 y2 y3 y4 y5 y6 y7 y8) (cooperageref16_Renew.j0 (k + 1) y0 y1 y2 y3 y4 y5 y6 y7 y8)) ∧ (∀ y0 y1 y2 y3 y4 y5 y6 y7 y8, LeO (cooperageref16_Renew.l0 k y0 y1 y2 y3 y4 y5 y6 y7 y8) (cooperageref16_Renew.l0 (k + 1) y0 y1 y2 y3 y4 y5 y6 y7 y8))
 | 0 => ⟨fun _ _ _ _ _ _ _ _ _ r h => by simp [cooperageref16_Renew.j0] at h, fun _ _ _ _ _ _ _ _ _ r h => by simp [cooperageref16_Renew.l0] at h⟩
 | k + 1 => by
  obtain ⟨ih0, ih1⟩ := cooperageref16_Renew.mono_l k
  have m0 := @cooperageref16_Valid.mono
  refine ⟨?_, ?_⟩
  ·intros
   unfold cooperageref16_Renew.j0
   exact zLe
  ·intros
   unfold cooperageref16_Renew.l0
   exact zLe
theorem cooperageref16_Renew.mono : ∀ a0 a1 a2 a3 a4 a5 a6 a7 k, LeO (cooperageref16_Renew.f k a0 a1 a2 a3 a4 a5 a6 a7) (cooperageref16_Renew.f (k + 1) a0 a1 a2 a3 a4 a5 a6 a7) := by
 intro a0 a1 a2 a3 a4 a5 a6 a7 k
 obtain ⟨ih0, ih1⟩ := cooperageref16_Renew.mono_l k
 unfold cooperageref16_Renew.f
 have m0 := @cooperageref16_Valid.mono
 exact zLe
theorem cooperageref16_Renew.calls (k : Nat) (a0_0 : Int) (A0_1 : Option Addr) (c0_1 : Nat) (l0_1 : List (S45)) (P0_2_ : Nat → Prop) (A0_2 : Option Addr) (c0_2 : Nat) (l0_2 : List (S52)) (a1 : Int) (a2 : ByteArray) (a3 : Int) (a4 : Int) (a5 : Int) (r1 : Int) (r2 : List (S45)) (r3 : List (S52)) (r4 : Int) (w : World) (hr0_1 : Kd.C k45 w A0_1 l0_1.length l0_1) (hc0_1 : l0_1.length ≤ c0_1) (hs0_2 : Kd.V k52 52 w w.heap.size (fun k_ => P0_2_ k_) (.slice A0_2 l0_2.length c0_2) l0_2) (h : cooperageref16_Renew.f k a0_0 l0_1 l0_2 a1 a2 a3 a4 a5 = some (r1, r2, r3, r4)) :
  Calls Tryd.prog 22 #[.agg #[.int .i64 a0_0, .slice A0_1 l0_1.length c0_1, .slice A0_2 l0_2.length c0_2], .int .i64 a1, .string a2, .int .i64 a3, .int .i64 a4, .int .i64 a5] w fun e w' => ∃ v1_ v2_ : Value, e = .returned (.tuple #[.agg #[.int .i64 r1, v1_, v2_], .int .i64 r4]) ∧ Kd.R k45 45 w' w.heap.size (fun k_ => (w.heap.size ≤ k_)) v1_ r2 ∧ Kd.V k52 52 w' w.heap.size (fun k_ => (P0_2_ k_ ∨ w.heap.size ≤ k_) ∧ some k_ ≠ (v1_ : Value).ownBlock) v2_ r3 ∧ Below w.heap.size w w' := by
 have hu32 := Tryd.underlying32
 have HR0_1 := ka hr0_1
 have HC0_1 := ka hc0_1
 clear hr0_1 hc0_1
 have HO0_2 := ka (show Kd.V k52 52 w w.heap.size (fun k_ => (P0_2_ k_ ∨ w.heap.size ≤ k_)) (.slice A0_2 l0_2.length c0_2) l0_2 from Kd.V_mono hs0_2 (fun k_ hk => .inl hk))
 have HB := ka (Below.refl w.heap.size w)
 have H : ((cooperageref16_life.f a4).bind fun t582 => (if t582 = true then ((cooperageref16_time.f a5).bind fun t583 => (cooperageref16_Renew.j0 k a1 a2 a3 a4 a5 (!t583) a0_0 l0_1 l0_2)) else (cooperageref16_Renew.j0 k a1 a2 a3 a4 a5 true a0_0 l0_1 l0_2))) = some (r1, r2, r3, r4) := h
 clear h
 have HC7 := ka H
 clear H
 go_enter Tryd.func22, Tryd.ntmps22
 go_upto_region 1 with (first | ((with_reducible refine gate_dst (N := 6) rfl ?_); refine box_event ?hg (N := 6) ?hd (cs := #[.int .i64 a0_0, .slice A0_1 l0_1.length c0_1, .slice A0_2 l0_2.length c0_2]) (t := 32) ?hr ?_; (case hd => rfl); (case hg => rfl); (case hr => (go_simp; try rfl)); intro gb580 hg w8 hbox hb; replace HO0_2 := ka (Kd.V_below (Kd.V_elderB (zV HO0_2.out) gb580 (Nat.le_of_eq hg.symm)) hb); have BK580 := ka (hbox); have GW580 := ka (zG hg (zL HB.out)); replace HB := ka (below_step (zL HB.out) hb); clear hb hbox hg) | ((with_reducible refine gate_dst (N := 12) rfl ?_); refine box_event ?hg (N := 12) ?hd (cs := #[.int .i64 0, .slice none 0 0, .slice none 0 0]) (t := 32) ?hr ?_; (case hd => rfl); (case hg => rfl); (case hr => (go_simp; try rfl)); intro gb581 hg w9 hbox hb; replace HO0_2 := ka (Kd.V_below (Kd.V_elderB (zV HO0_2.out) gb581 (Nat.le_of_eq hg.symm)) hb); have BK581 := ka (hbox); have GW581 := ka (zG hg (zL HB.out)); replace HB := ka (below_step (zL HB.out) hb); have NB580_581 := ka (zNK hg BK580.out); have NB581_580 := ka (zOK hg BK580.out); replace BK580 := ka (zB BK580.out hb); clear hb hbox hg))
 (try simp only [Act.put, List.setIfInBounds_toArray, List.set_cons_zero, List.set_cons_succ])
 go_cut [23] (fun v23 wc => ∃ (kq : Nat) (x23_6 : Bool), v23 = .bool x23_6 ∧ Aside0 (cooperageref16_Renew.j0 kq a1 a2 a3 a4 a5 x23_6 a0_0 l0_1 l0_2 = some (r1, r2, r3, r4)) ∧ Aside0 (kq ≤ k) ∧ Aside0 (Kd.V k52 52 wc w.heap.size (fun k_ => (P0_2_ k_ ∨ w.heap.size ≤ k_) ∧ k_ ≠ gb580 ∧ k_ ≠ gb581) (.slice A0_2 l0_2.length c0_2) l0_2) ∧ Aside0 (wc.heap[gb580]? = some (.cells #[.int .i64 a0_0, (.slice A0_1 l0_1.length c0_1), (.slice A0_2 l0_2.length c0_2)] 32 (0, 0))) ∧ Aside0 (wc.heap[gb581]? = some (.cells #[.int .i64 0, (.slice none 0 0), (.slice none 0 0)] 32 (0, 0))) ∧ Aside0 (Below w.heap.size w wc))
 case first =>
  have H := HC7.out
  clear HC7
  replace H := Option.bind_eq_some_iff.mp H
  obtain ⟨t582, A100, H⟩ := H
  try dsimp only at H
  have A10 := ka A100
  clear A100
  by_cases c11 : t582 = true
  ·subst c11
   rw [if_pos rfl] at H
   replace H := Option.bind_eq_some_iff.mp H
   obtain ⟨t583, A120, H⟩ := H
   try dsimp only at H
   have A12 := ka A120
   clear A120
   have H' := ka H
   clear H
   go_wp2_with (first | ((with_reducible refine gate_callee (f := 44) rfl ?_); refine goesL_ (some 17) rfl rfl Tryd.func44 (by kernel_rfl) rfl #[.int .i64 a4] rfl zA ?_; (with_reducible refine (cooperageref16_life.calls a4 true _ A10.out).mono ?_); rintro e w' ⟨rfl, ⟨nd, rfl⟩⟩; refine ⟨_, rfl, ?_⟩) | (go_at_call 42; (with_reducible refine (cooperageref16_time.calls a5 t583 _ A12.out).mono ?_); rintro e w' ⟨rfl, ⟨nd, rfl⟩⟩))
   go_meet
   case rel => exact ⟨_, (!t583), zS, H', ⟨by first | omega | exact Nat.le_refl _⟩, ⟨by (with_reducible repeat (first | apply Kd.V_alloc | apply Kd.V_drewN | apply Kd.V_drew)); exact Kd.V_mono HO0_2.out (fun _ hk => ⟨hk.1.1, ⟨hk.1.2, hk.2⟩⟩)⟩, ⟨zK BK580.out⟩, ⟨zK BK581.out⟩, ⟨zL HB.out⟩⟩
  replace c11 := Bool.eq_false_iff.mpr c11
  subst c11
  rw [if_neg (show ¬ (false = true) by decide)] at H
  have H' := ka H
  clear H
  go_wp2_with (first | ((with_reducible refine gate_callee (f := 44) rfl ?_); refine goesL_ (some 17) rfl rfl Tryd.func44 (by kernel_rfl) rfl #[.int .i64 a4] rfl zA ?_; (with_reducible refine (cooperageref16_life.calls a4 false _ A10.out).mono ?_); rintro e w' ⟨rfl, ⟨nd, rfl⟩⟩; refine ⟨_, rfl, ?_⟩))
  go_meet
  case rel => exact ⟨_, (true), zS, H', ⟨by first | omega | exact Nat.le_refl _⟩, ⟨by (with_reducible repeat (first | apply Kd.V_alloc | apply Kd.V_drewN | apply Kd.V_drew)); exact Kd.V_mono HO0_2.out (fun _ hk => ⟨hk.1.1, ⟨hk.1.2, hk.2⟩⟩)⟩, ⟨zK BK580.out⟩, ⟨zK BK581.out⟩, ⟨zL HB.out⟩⟩
 case rest =>
  clear HC7
  obtain ⟨kq, x23_6, rfl, HA, HJ6, HO_581002, BK580, BK581, HB⟩ := hcut
  cases kq with
  | zero => exact absurd HA.out (by simp [cooperageref16_Renew.j0])
  | succ kj6 =>
   have H := HA.out
   clear HA
   simp only [cooperageref16_Renew.j0] at H
   by_cases c13 : x23_6 = true
   ·subst c13
    rw [if_pos rfl] at H
    replace H := zs4 H
    obtain ⟨rfl, rfl, rfl, rfl⟩ := H
    have hnb14 := NB581_580.out
    have hnc14 := NB580_581.out
    obtain ⟨z15_0, z15_1, z15_2, y15_0, y15_1, y15_2⟩ := zC3 BK581.out
    go_wp2
    refine bodyPost_ret (results_ct rfl _ _ gb581 32 #[.int .i64 0, .slice none 0 0, .slice none 0 0] (0, 0) _ rfl (zP3 BK581.out) Tryd.underlying32 rfl (by kernel_rfl)) rfl ?_
    exact ⟨_, _, zE, zNl, Kd.V_nil _ _ _ _ _, zL HB.out⟩
   replace c13 := Bool.eq_false_iff.mpr c13
   subst c13
   rw [if_neg (show ¬ (false = true) by decide)] at H
   replace H := Option.bind_eq_some_iff.mp H
   obtain ⟨t584, A160, H⟩ := H
   try dsimp only at H
   have A16 := ka A160
   clear A160
   by_cases c17 : t584 = true
   ·subst c17
    rw [if_pos rfl] at H
    obtain ⟨y585, hy585⟩ : ∃ y_ : List (S45), y_ = (([] : List (S45))) := ⟨_, rfl⟩
    replace H : (if y585.length + l0_1.length < 2932031007402 then (cooperageref16_Renew.l0 kj6 a1 a2 a4 a5 (y585 ++ l0_1) 0 a0_0 l0_1 l0_2) else (none)) = some (r1, r2, r3, r4) := zH hy585 H
    have Ny585 := ka hy585
    clear hy585
    replace H := zif H
    obtain ⟨c18, H⟩ := H
    have LMc18 := ka c18
    clear c18
    obtain ⟨y588, hy588⟩ : ∃ y_ : List (S45), y_ = (y585 ++ l0_1) := ⟨_, rfl⟩
    replace H : (cooperageref16_Renew.l0 kj6 a1 a2 a4 a5 y588 0 a0_0 l0_1 l0_2) = some (r1, r2, r3, r4) := zH hy588 H
    have Ny588 := ka hy588
    clear hy588
    have H' := ka H
    clear H
    have hnb19 := NB580_581.out
    have hnc19 := NB581_580.out
    obtain ⟨z20_0, z20_1, z20_2, y20_0, y20_1, y20_2⟩ := zC3 BK580.out
    go_wp2_with (first | ((with_reducible refine gate_callee (f := 14) rfl ?_); refine goesL_ (some 29) rfl rfl Tryd.func14 (by kernel_rfl) rfl #[.agg #[.int .i64 a0_0, .slice A0_1 l0_1.length c0_1, .slice A0_2 l0_2.length c0_2], .int .i64 a1, .string a2, .int .i64 a3] rfl zA ?_; (with_reducible refine (cooperageref16_Valid.calls kj6 a0_0 _ _ l0_1 _ _ l0_2 a1 a2 a3 true _ ?side1 ?side2 ?side3 ?side4 A16.out).mono ?_); (case side1 => exact zCS (Kd.C_below HR0_1.out HB.out)); (case side2 => exact HC0_1.out); (case side3 => exact zCS (Kd.V_reads' HO_581002.out).2.2); (case side4 => exact (Kd.V_reads' HO_581002.out).2.1); rintro e w21 ⟨rfl, hb⟩; refine ⟨_, rfl, ?_⟩; replace HO_581002 := ka (Kd.V_below (zV HO_581002.out) hb); replace BK580 := ka (zB BK580.out hb); replace BK581 := ka (zB BK581.out hb); replace HB := ka (below_step (zL HB.out) hb); (try clear hb); (try clear hb2); (try clear hk); (try clear hi)) | ((with_reducible refine gate_dst (N := 32) rfl ?_); refine Kd.R_lit k45 _ 45 ?hg (N := 32) ?hd (xs := ([] : List (S45))) (inner := []) (ok := fun _ => True) (okp := fun _ => True) ?hr ?hp (fun _ hk => hk) trivial (Below.refl _ _) (Nat.le_refl _) (by simp) ?_; (case hd => rfl); (case hg => rfl); (case hr => (go_simp; try rfl)); (case hp => exact (Reps.none _ _)); intro v586 w22 ho23 hb hg_ hnew_; clear hg_ hnew_; (first | rw [← Ny585.out] at ho23 | (simp only [Int.reduceToNat] at ho23; rw [← Ny585.out] at ho23)); replace HO_581002 := ka (Kd.V_elder' (zV HO_581002.out) (Kd.R_base ho23) hb); have HO587 := ka (Kd.R_lower (Kd.R_newM (M := fun k_ => (w.heap.size ≤ k_)) ho23 (below_size (zL HB.out)) (fun k_ h_ => h_)) (below_size (zL HB.out))); replace BK580 := ka (zB BK580.out hb); replace BK581 := ka (zB BK581.out hb); replace HB := ka (below_step (zL HB.out) hb); clear hb ho23; obtain ⟨z24_0, z24_1, z24_2, y24_0, y24_1, y24_2⟩ := zC3 BK580.out) | ((with_reducible refine gate_builtin (b := .append) (xs := #[.tmp 32, .tmp 34]) rfl ?_); at_builtin; refine Kd.R_append_rows k45 (w0 := w) w.heap.size rfl (.tmp 32) (.tmp 34) 29 45 (.agg #[(.int .i64 0), (.string ⟨#[]⟩), (.bool false), (.int .i64 0), (.int .i64 0)]) 48 rfl Tryd.underlying29 info45 rfl (by decide) (by omega) v586 y585 l0_1 _ _ _ (fun k_ => (w.heap.size ≤ k_)) (fun _ => False) rfl rfl ?aO ?aR (fun _ _ h => h) (fun _ h => h.elim) ?aF ?aB ?aS ?aL ?_; (case aR => repeat (first | exact (Kd.C_below HR0_1.out HB.out) | (with_reducible refine Kd.C_alloc ?_ _) | (with_reducible refine Kd.C_drewN ?_ _) | (with_reducible refine Kd.C_drew ?_))); (case aB => exact (zL HB.out)); (case aF => exact (fun k_ hk => (Nat.le_trans (below_size (zL HB.out)) hk))); (case aO => exact (by (with_reducible repeat (first | apply Kd.R_alloc | apply Kd.R_drewN | apply Kd.R_drew)); exact Kd.R_mono HO587.out (fun _ hk => hk.1))); (case aS => exact (below_size (zL HB.out))); (case aL => have := LMc18.out; omega); intro v589 w25 ho hb hg hat; rw [← Ny588.out] at ho; replace HO_581002 := ka (Kd.V_afterv (ok := (fun k_ => (P0_2_ k_ ∨ w.heap.size ≤ k_) ∧ k_ ≠ gb580 ∧ k_ ≠ gb581)) (zV HO_581002.out) hg hat); replace BK580 := ka (blk_grown (g := gb580) (o := .cells #[.int .i64 a0_0, .slice A0_1 l0_1.length c0_1, .slice A0_2 l0_2.length c0_2] 32 (0, 0)) (zK BK580.out) hg (Kd.R_ne HO587.out BK580.out (by decide))); replace BK581 := ka (blk_grown (g := gb581) (o := .cells #[.int .i64 0, .slice none 0 0, .slice none 0 0] 32 (0, 0)) (zK BK581.out) hg (Kd.R_ne HO587.out BK581.out (by decide))); replace HB := ka (hb); have HO590 := ka (ho); clear HO587; clear ho hb hg hat))
    go_loopg [15] kj6 (fun kq v15 w' => ∃ (x14_2 : List (S45)) (x15_2 : Int), v15 = .int .i64 x15_2 ∧ Aside0 (cooperageref16_Renew.l0 kq a1 a2 a4 a5 x14_2 x15_2 a0_0 l0_1 l0_2 = some (r1, r2, r3, r4)) ∧ Aside0 (kq ≤ kj6) ∧ Aside0 (Kd.R k45 45 w' w.heap.size (fun k_ => (w.heap.size ≤ k_)) v589 x14_2) ∧ Aside0 (Kd.V k52 52 w' w.heap.size (fun k_ => (P0_2_ k_ ∨ w.heap.size ≤ k_) ∧ some k_ ≠ (v589 : Value).ownBlock ∧ k_ ≠ gb580 ∧ k_ ≠ gb581) (.slice A0_2 l0_2.length c0_2) l0_2) ∧ Aside0 (w'.heap[gb580]? = some (.cells #[.int .i64 a0_0, (.slice A0_1 l0_1.length c0_1), (.slice A0_2 l0_2.length c0_2)] 32 (0, 0))) ∧ Aside0 (w'.heap[gb581]? = some (.cells #[.int .i64 0, (.slice none 0 0), (.slice none 0 0)] 32 (0, 0))) ∧ Aside0 (Below w.heap.size w w'))
    case atStart => exact ⟨(y588), (0), zS, H', ⟨Nat.le_refl _⟩, ⟨zR HO590.out⟩, ⟨by (with_reducible repeat (first | apply Kd.V_alloc | apply Kd.V_drewN | apply Kd.V_drew)); exact Kd.V_mono HO_581002.out (fun _ hk => ⟨hk.1.1, ⟨hk.2, ⟨hk.1.2.1, hk.1.2.2⟩⟩⟩)⟩, ⟨zK BK580.out⟩, ⟨zK BK581.out⟩, ⟨zL HB.out⟩⟩
    case round =>
     clear H'
     try clear c13
     try clear c17
     try clear c18
     try clear z20_0 z20_1 z20_2
     try clear z24_0 z24_1 z24_2
     try clear y20_0 y20_1 y20_2
     try clear y24_0 y24_1 y24_2
     obtain ⟨x14_2, x15_2, rfl, HA, HK2, HO_14, HO_581002, BK580, BK581, HB⟩ := hrel
     cases gk with
     | zero => exact absurd HA.out (by simp [cooperageref16_Renew.l0])
     | succ k2 =>
      have H := HA.out
      clear HA
      simp only [cooperageref16_Renew.l0] at H
      by_cases c26 : x15_2 < (x14_2.length : Int)
      ·rw [if_pos c26] at H
       have c26b0 := zdt c26
       clear c26
       replace H := zif H
       obtain ⟨c27, H⟩ := H
       have c27b0 := zdt c27
       clear c27
       by_cases c28 : ((rd_T45 x14_2 x15_2).f0) = a1
       ·rw [if_pos c28] at H
        have c28b0 := zb0 c28
        have c28b1 := zb1 c28
        clear c28
        by_cases c29 : ((rd_T45 x14_2 x15_2).f1).toList = a2.toList
        ·rw [if_pos c29] at H
         have c29b0 := zb0 c29
         have c29b1 := zb1 c29
         clear c29
         obtain ⟨y593, hy593⟩ : ∃ y_ : List (S45), y_ = (x14_2.set (x15_2 : Int).toNat (⟨(rd_T45 x14_2 x15_2).f0, (rd_T45 x14_2 x15_2).f1, (rd_T45 x14_2 x15_2).f2, (rd_T45 x14_2 x15_2).f3, wrap64 (a5 + a4)⟩ : S45)) := ⟨_, rfl⟩
         replace H : (cooperageref16_Renew.l0 k2 a1 a2 a4 a5 y593 (wrap64 (x15_2 + 1)) a0_0 l0_1 l0_2) = some (r1, r2, r3, r4) := zH hy593 H
         have Ny593 := ka hy593
         clear hy593
         have H' := ka H
         clear H
         obtain ⟨Ao31, co31, eo31⟩ := Kd.R_slice HO_14.out
         subst eo31
         have p591 : 0 ≤ (x15_2 : Int) := zD
         have q591 : x15_2 < (x14_2.length : Int) := zD
         obtain ⟨ad591, e591, hx591_0, hx591_1, hx591_2, hx591_3, hx591_4⟩ := at_T45 (Kd.R_reads' HO_14.out).2.2 x15_2 p591 q591
         cases e591
         replace p591 := eq_true p591
         replace q591 := eq_true q591
         have p592 : 0 ≤ (x15_2 : Int) := zD
         have q592 : x15_2 < (x14_2.length : Int) := zD
         obtain ⟨ad592, e592, hx592_0, hx592_1, hx592_2, hx592_3, hx592_4⟩ := at_T45 (Kd.R_reads' HO_14.out).2.2 x15_2 p592 q592
         obtain rfl : ad591 = ad592 := (by injection e592)
         replace p592 := eq_true p592
         replace q592 := eq_true q592
         have p30 : 0 ≤ (x15_2 : Int) := zD
         have q30 : (x15_2 : Int) < ((x14_2.length : Int) : Int) := zD
         obtain ⟨go30, co30, eo30, gb30, gl30, cl30, HG30⟩ := Kd.R_form HO_14.out (by omega)
         (first | cases eo30 | (injection eo30 with ea_ en_ ec_; (first | subst ea_ | (injection ea_ with ea_; subst ea_)); subst ec_; clear en_))
         have GB30 := ka gb30
         have GG30 := ka HG30
         clear gb30 gl30 HG30
         (first | simp only [add_plain] at hx591_0 | skip)
         (first | simp only [add_plain] at hx591_1 | skip)
         (first | simp only [add_plain] at hx591_2 | skip)
         (first | simp only [add_plain] at hx591_3 | skip)
         (first | simp only [add_plain] at hx591_4 | skip)
         (first | simp only [add_plain] at hx592_0 | skip)
         (first | simp only [add_plain] at hx592_1 | skip)
         (first | simp only [add_plain] at hx592_2 | skip)
         (first | simp only [add_plain] at hx592_3 | skip)
         (first | simp only [add_plain] at hx592_4 | skip)
         obtain ⟨ce30, hcl30, hM30, hcc30, hfr30⟩ := Kd.R_elem HO_14.out z45 (x15_2 : Int) p30 q30
         obtain rfl := k45_openM hM30
         have hx30_0 : wr.cell? ⟨go30, (x15_2 : Int).toNat * 5, none⟩ = some (.int .i64 ((rd_T45 x14_2 x15_2).f0)) := hcc30 0 _ rfl
         have hx30_1 : wr.cell? ⟨go30, (x15_2 : Int).toNat * 5 + 1, none⟩ = some (.string ((rd_T45 x14_2 x15_2).f1)) := hcc30 1 _ rfl
         have hx30_2 : wr.cell? ⟨go30, (x15_2 : Int).toNat * 5 + 2, none⟩ = some (.bool ((rd_T45 x14_2 x15_2).f2)) := hcc30 2 _ rfl
         have hx30_3 : wr.cell? ⟨go30, (x15_2 : Int).toNat * 5 + 3, none⟩ = some (.int .i64 ((rd_T45 x14_2 x15_2).f3)) := hcc30 3 _ rfl
         have hx30_4 : wr.cell? ⟨go30, (x15_2 : Int).toNat * 5 + 4, none⟩ = some (.int .i64 ((rd_T45 x14_2 x15_2).f4)) := hcc30 4 _ rfl
         have hf30_0 : wr.frozen? ⟨go30, (x15_2 : Int).toNat * 5, none⟩ = false := hfr30 0
         have hf30_1 : wr.frozen? ⟨go30, (x15_2 : Int).toNat * 5 + 1, none⟩ = false := hfr30 1
         have hf30_2 : wr.frozen? ⟨go30, (x15_2 : Int).toNat * 5 + 2, none⟩ = false := hfr30 2
         have hf30_3 : wr.frozen? ⟨go30, (x15_2 : Int).toNat * 5 + 3, none⟩ = false := hfr30 3
         have hf30_4 : wr.frozen? ⟨go30, (x15_2 : Int).toNat * 5 + 4, none⟩ = false := hfr30 4
         clear hcl30 hcc30 hfr30 hM30
         replace p30 := eq_true p30
         replace q30 := eq_true q30
         have HX32 := ka (show Kd.R k45 45 wr w.heap.size (fun k_ => (w.heap.size ≤ k_)) (.slice (some ⟨go30, 0, none⟩) x14_2.length co31) x14_2 from (zR HO_14.out))
         obtain ⟨ce32, hcl32, hM32, hcc32, hfr32⟩ := Kd.R_elem HX32.out z45 (x15_2 : Int) zD (by have h_ : (x15_2 : Int) < ((x14_2.length : Int) : Int) := zD; first | exact h_ | (have e_ := (Kd.R_reads' HO_14.out).1; omega) | simpa using h_)
         obtain rfl := k45_openM hM32
         have HP32 := Kd.R_seg HX32.out (x15_2 : Int) zD (by have h_ : (x15_2 : Int) < ((x14_2.length : Int) : Int) := zD; first | exact h_ | (have e_ := (Kd.R_reads' HO_14.out).1; omega) | simpa using h_) (seg := [.int .i64 (wrap64 (a5 + a4))]) (j := 4) hcl32 hcc32 (show 5 ≤ 5 from by decide) (x' := (⟨(rd_T45 x14_2 x15_2).f0, (rd_T45 x14_2 x15_2).f1, (rd_T45 x14_2 x15_2).f2, (rd_T45 x14_2 x15_2).f3, wrap64 (a5 + a4)⟩ : S45)) (k45_mkM _ _ _ (⟨(rd_T45 x14_2 x15_2).f0, (rd_T45 x14_2 x15_2).f1, (rd_T45 x14_2 x15_2).f2, (rd_T45 x14_2 x15_2).f3, wrap64 (a5 + a4)⟩ : S45) ) (fun _ hk => hk)
         have hx32_4 := hcc32 4 _ rfl
         (try simp only [show (k45).sz = 5 from rfl, Nat.mul_one, Nat.add_zero] at hx32_4)
         have hf32_4 := hfr32 4
         (try simp only [show (k45).sz = 5 from rfl, Nat.mul_one, Nat.add_zero] at hf32_4)
         clear hcl32 hcc32 hfr32 hM32
         go_wp2_with (first | ((with_reducible refine gate_store (t := 3) (p := 64) rfl ?_); refine store_event (t := 3) (p := 64) (v := ?vo_w33) (w1 := (wr.setCell ⟨go30, (x15_2 : Int).toNat * 5 + 4, none⟩ (.int .i64 (wrap64 (a5 + a4))))) ?hg ?ho ?hn ?hr ?_; (case ho => rfl); (case hg => rfl); (case hn => rfl); (case hr => (go_simp; try rfl)); intro w33 hw; have hg : wr.grownBy w33 (some go30) := (by rw [hw]; exact HP32.2); have hp_ : Kd.R k45 45 w33 w.heap.size (fun k_ => (w.heap.size ≤ k_)) (.slice (some ⟨go30, 0, none⟩) x14_2.length co31) y593 := (by rw [hw, Ny593.out]; exact HP32.1); clear HP32; replace HO_581002 := ka (Kd.V_afterv (v := (.slice (some ⟨go30, 0, none⟩) x14_2.length co31)) (v1 := (.slice (some ⟨go30, 0, none⟩) x14_2.length co31)) (ok := (fun k_ => (P0_2_ k_ ∨ w.heap.size ≤ k_) ∧ k_ ≠ gb580 ∧ k_ ≠ gb581)) (by (with_reducible repeat (first | apply Kd.V_alloc | apply Kd.V_drewN | apply Kd.V_drew)); exact Kd.V_mono HO_581002.out (fun _ hk => ⟨⟨hk.1, ⟨hk.2.2.1, hk.2.2.2⟩⟩, hk.2.1⟩)) hg (.inl rfl)); replace BK580 := ka (blk_grown (g := gb580) (o := .cells #[.int .i64 a0_0, .slice A0_1 l0_1.length c0_1, .slice A0_2 l0_2.length c0_2] 32 (0, 0)) (zK BK580.out) hg (Kd.R_ne HO_14.out BK580.out (by decide))); replace BK581 := ka (blk_grown (g := gb581) (o := .cells #[.int .i64 0, .slice none 0 0, .slice none 0 0] 32 (0, 0)) (zK BK581.out) hg (Kd.R_ne HO_14.out BK581.out (by decide))); replace HO_14 := ka (hp_); replace HB := ka ((by rw [hw]; exact below_set (HB.out) GB30.out : Below w.heap.size w w33)); clear hg hw hp_))
         go_roundg k2
         case measure => have := HJ6.out; have := HK2.out; omega
         case rel => exact ⟨(y593), (wrap64 (x15_2 + 1)), zS, H', ⟨by have := HJ6.out; have := HK2.out; omega⟩, ⟨zR HO_14.out⟩, ⟨by (with_reducible repeat (first | apply Kd.V_alloc | apply Kd.V_drewN | apply Kd.V_drew)); exact Kd.V_mono HO_581002.out (fun _ hk => ⟨hk.1.1, ⟨hk.2, ⟨hk.1.2.1, hk.1.2.2⟩⟩⟩)⟩, ⟨zK BK580.out⟩, ⟨zK BK581.out⟩, ⟨zL HB.out⟩⟩
        rw [if_neg c29] at H
        have c29b0 := zn0 c29
        have c29b1 := zn1 c29
        have H' := ka H
        clear H
        obtain ⟨Ao34, co34, eo34⟩ := Kd.R_slice HO_14.out
        subst eo34
        have p591 : 0 ≤ (x15_2 : Int) := zD
        have q591 : x15_2 < (x14_2.length : Int) := zD
        obtain ⟨ad591, e591, hx591_0, hx591_1, hx591_2, hx591_3, hx591_4⟩ := at_T45 (Kd.R_reads' HO_14.out).2.2 x15_2 p591 q591
        cases e591
        replace p591 := eq_true p591
        replace q591 := eq_true q591
        have p592 : 0 ≤ (x15_2 : Int) := zD
        have q592 : x15_2 < (x14_2.length : Int) := zD
        obtain ⟨ad592, e592, hx592_0, hx592_1, hx592_2, hx592_3, hx592_4⟩ := at_T45 (Kd.R_reads' HO_14.out).2.2 x15_2 p592 q592
        obtain rfl : ad591 = ad592 := (by injection e592)
        replace p592 := eq_true p592
        replace q592 := eq_true q592
        go_wp2
        go_roundg k2
        case measure => have := HJ6.out; have := HK2.out; omega
        case rel => exact ⟨(x14_2), (wrap64 (x15_2 + 1)), zS, H', ⟨by have := HJ6.out; have := HK2.out; omega⟩, ⟨zR HO_14.out⟩, ⟨zV HO_581002.out⟩, ⟨zK BK580.out⟩, ⟨zK BK581.out⟩, ⟨zL HB.out⟩⟩
       rw [if_neg c28] at H
       have c28b0 := zn0 c28
       have c28b1 := zn1 c28
       have H' := ka H
       clear H
       obtain ⟨Ao35, co35, eo35⟩ := Kd.R_slice HO_14.out
       subst eo35
       have p591 : 0 ≤ (x15_2 : Int) := zD
       have q591 : x15_2 < (x14_2.length : Int) := zD
       obtain ⟨ad591, e591, hx591_0, hx591_1, hx591_2, hx591_3, hx591_4⟩ := at_T45 (Kd.R_reads' HO_14.out).2.2 x15_2 p591 q591
       cases e591
       replace p591 := eq_true p591
       replace q591 := eq_true q591
       go_wp2
       go_roundg k2
       case measure => have := HJ6.out; have := HK2.out; omega
       case rel => exact ⟨(x14_2), (wrap64 (x15_2 + 1)), zS, H', ⟨by have := HJ6.out; have := HK2.out; omega⟩, ⟨zR HO_14.out⟩, ⟨zV HO_581002.out⟩, ⟨zK BK580.out⟩, ⟨zK BK581.out⟩, ⟨zL HB.out⟩⟩
      rw [if_neg c26] at H
      have c26b0 := zdf c26
      clear c26
      replace H := zs4 H
      obtain ⟨rfl, rfl, rfl, rfl⟩ := H
      obtain ⟨Ao36, co36, eo36⟩ := Kd.R_slice HO_14.out
      subst eo36
      have hnb37 := NB580_581.out
      have hnc37 := NB581_580.out
      obtain ⟨z38_0, z38_1, z38_2, y38_0, y38_1, y38_2⟩ := zC3 BK580.out
      obtain ⟨z39_0, z39_1, z39_2, y39_0, y39_1, y39_2⟩ := zC3 BK581.out
      go_wp2
      refine bodyPost_ret (results_ct rfl _ _ gb581 32 #[.int .i64 a0_0, .slice Ao36 x14_2.length co36, .slice A0_2 l0_2.length c0_2] (0, 0) _ rfl (zP3 BK581.out) Tryd.underlying32 rfl (by kernel_rfl)) rfl ?_
      exact ⟨_, _, zE, by (with_reducible repeat (first | apply Kd.R_alloc | apply Kd.R_drewN | apply Kd.R_drew)); exact Kd.R_mono (zNT HO_14.out BK581.out) (fun _ hk => hk.1), by (with_reducible repeat (first | apply Kd.V_alloc | apply Kd.V_drewN | apply Kd.V_drew)); exact Kd.V_mono (zNV HO_581002.out (g := gb581) (fun _ hk => hk.2.2.2)) (fun _ hk => ⟨hk.1.1, hk.1.2.1⟩), zL HB.out⟩
   replace c17 := Bool.eq_false_iff.mpr c17
   subst c17
   rw [if_neg (show ¬ (false = true) by decide)] at H
   replace H := zs4 H
   obtain ⟨rfl, rfl, rfl, rfl⟩ := H
   have hnb40 := NB580_581.out
   have hnc40 := NB581_580.out
   obtain ⟨z41_0, z41_1, z41_2, y41_0, y41_1, y41_2⟩ := zC3 BK580.out
   go_wp2_with (first | ((with_reducible refine gate_callee (f := 14) rfl ?_); refine goesL_ (some 29) rfl rfl Tryd.func14 (by kernel_rfl) rfl #[.agg #[.int .i64 a0_0, .slice A0_1 l0_1.length c0_1, .slice A0_2 l0_2.length c0_2], .int .i64 a1, .string a2, .int .i64 a3] rfl zA ?_; (with_reducible refine (cooperageref16_Valid.calls kj6 a0_0 _ _ l0_1 _ _ l0_2 a1 a2 a3 false _ ?side1 ?side2 ?side3 ?side4 A16.out).mono ?_); (case side1 => exact zCS (Kd.C_below HR0_1.out HB.out)); (case side2 => exact HC0_1.out); (case side3 => exact zCS (Kd.V_reads' HO_581002.out).2.2); (case side4 => exact (Kd.V_reads' HO_581002.out).2.1); rintro e w42 ⟨rfl, hb⟩; refine ⟨_, rfl, ?_⟩; replace HO_581002 := ka (Kd.V_below (zV HO_581002.out) hb); replace BK580 := ka (zB BK580.out hb); replace BK581 := ka (zB BK581.out hb); replace HB := ka (below_step (zL HB.out) hb); (try clear hb); (try clear hb2); (try clear hk); (try clear hi); obtain ⟨z43_0, z43_1, z43_2, y43_0, y43_1, y43_2⟩ := zC3 BK581.out))
   refine bodyPost_ret (results_ct rfl _ _ gb581 32 #[.int .i64 0, .slice none 0 0, .slice none 0 0] (0, 0) _ rfl (zP3 BK581.out) Tryd.underlying32 rfl (by kernel_rfl)) rfl ?_
   exact ⟨_, _, zE, zNl, Kd.V_nil _ _ _ _ _, zL HB.out⟩

end Go.Proofs.YtjdadmjomjhpcaaDoor.PLease
