-- Written by a program of this session (wip/tools/ext.py, over the kit's printer); not trusted: Lean checks it.
import Derived.Test.YthnholondnfjoaaDoorPParsex0
import Derived.Test.YthnholondnfjoaaDoorPParsex2
import Derived.Test.YthnholondnfjoaaDoorPParsex3
namespace Go.Proofs.YthnholondnfjoaaDoor.PParse
open Go.RowKit Go.Proofs.YthnholondnfjoaaDoorW.PrintWords Go.Proofs.YthnholondnfjoaaDoorW.PrintLast Go.Proofs.YthnholondnfjoaaDoorW.PrintMore
attribute [local go_sem] max2_int min2_int max_two min_two max_three min_three max_four min_four
set_option linter.unusedVariables false
set_option linter.unusedSimpArgs false
set_option maxHeartbeats 8000000
set_option maxRecDepth 100000

/-! ### parse_conditional: function 44 -/
def parse_conditional.j0 : Nat → ByteArray → Bool → Int → Int → ByteArray → ByteArray → ByteArray → ByteArray → ByteArray → ByteArray → ByteArray → Option (Int × Int × ByteArray × ByteArray × ByteArray × ByteArray × ByteArray × ByteArray × ByteArray × List ByteArray × Bool)
 | 0, _, _, _, _, _, _, _, _, _, _, _ => none
 | k + 1, x1, x20, x142000, x142001, x142002, x142003, x142004, x142005, x142006, x142007, x142008 => if x20 = true then ((parse_Name.f k x1).bind fun t142 => (some (x142000, x142001, x142002, x1, x142004, x142005, x142006, x142007, x142008, ([] : List ByteArray), t142))) else ((strings_CutPrefix.f x1 (⟨#[40]⟩ : ByteArray)).bind fun bt143 => ((strings_CutSuffix.f bt143.1 (⟨#[41]⟩ : ByteArray)).bind fun bt145 => ((parse_sides.f k bt145.1 (⟨#[44]⟩ : ByteArray)).bind fun bt147 => (if bt143.2 = true then (if bt145.2 = true then (some (x142000, x142001, x142002, bt147.1, bt147.2.1, x142005, x142006, x142007, x142008, ([] : List ByteArray), bt147.2.2)) else (some (x142000, x142001, x142002, bt147.1, bt147.2.1, x142005, x142006, x142007, x142008, ([] : List ByteArray), false))) else (some (x142000, x142001, x142002, bt147.1, bt147.2.1, x142005, x142006, x142007, x142008, ([] : List ByteArray), false))))))
def parse_conditional.f (k : Nat) (a0 : ByteArray) (a1 : ByteArray) : Option (Int × Int × ByteArray × ByteArray × ByteArray × ByteArray × ByteArray × ByteArray × ByteArray × List ByteArray × Bool) := if a0.toList = ([105, 102, 100, 101, 102] : List UInt8) then (parse_conditional.j0 k a1 true 3 0 a0 (⟨#[]⟩ : ByteArray) (⟨#[]⟩ : ByteArray) (⟨#[]⟩ : ByteArray) (⟨#[]⟩ : ByteArray) (⟨#[]⟩ : ByteArray) (⟨#[]⟩ : ByteArray)) else (parse_conditional.j0 k a1 (a0.toList == ([105, 102, 110, 100, 101, 102] : List UInt8)) 3 0 a0 (⟨#[]⟩ : ByteArray) (⟨#[]⟩ : ByteArray) (⟨#[]⟩ : ByteArray) (⟨#[]⟩ : ByteArray) (⟨#[]⟩ : ByteArray) (⟨#[]⟩ : ByteArray))
theorem parse_conditional.mono_l : ∀ k, (∀ y0 y1 y2 y3 y4 y5 y6 y7 y8 y9 y10, LeO (parse_conditional.j0 k y0 y1 y2 y3 y4 y5 y6 y7 y8 y9 y10) (parse_conditional.j0 (k + 1) y0 y1 y2 y3 y4 y5 y6 y7 y8 y9 y10))
 | 0 => fun _ _ _ _ _ _ _ _ _ _ _ r h => by simp [parse_conditional.j0] at h
 | k + 1 => by
  have ih0 := parse_conditional.mono_l k
  ·intro y0 y1 y2 y3 y4 y5 y6 y7 y8 y9 y10
   unfold parse_conditional.j0
   have m0 := @parse_Name.mono
   have m1 := @parse_sides.mono
   exact zLe
theorem parse_conditional.mono : ∀ a0 a1 k, LeO (parse_conditional.f k a0 a1) (parse_conditional.f (k + 1) a0 a1) := by
 intro a0 a1 k
 have ih0 := parse_conditional.mono_l k
 unfold parse_conditional.f
 have m0 := @parse_Name.mono
 have m1 := @parse_sides.mono
 exact zLe
theorem parse_conditional.calls (k : Nat) (a0 : ByteArray) (a1 : ByteArray) (r1 : Int) (r2 : Int) (r3 : ByteArray) (r4 : ByteArray) (r5 : ByteArray) (r6 : ByteArray) (r7 : ByteArray) (r8 : ByteArray) (r9 : ByteArray) (r10 : List ByteArray) (r11 : Bool) (w : World) (h : parse_conditional.f k a0 a1 = some (r1, r2, r3, r4, r5, r6, r7, r8, r9, r10, r11)) :
  Calls Tryd.prog 44 #[.string a0, .string a1] w fun e w' => ∃ v9_ : Value, e = .returned (.tuple #[.agg #[.int .i64 r1, .int .i64 r2, .string r3, .string r4, .string r5, .string r6, .string r7, .string r8, .string r9, v9_], .bool r11]) ∧ Kd.R Kd.string 9 w' w.heap.size (fun _ => True) v9_ r10 ∧ Below w.heap.size w w' := by
 have hu45 := Tryd.underlying45
 have HB := ka (Below.refl w.heap.size w)
 have H : (if a0.toList = ([105, 102, 100, 101, 102] : List UInt8) then (parse_conditional.j0 k a1 true 3 0 a0 (⟨#[]⟩ : ByteArray) (⟨#[]⟩ : ByteArray) (⟨#[]⟩ : ByteArray) (⟨#[]⟩ : ByteArray) (⟨#[]⟩ : ByteArray) (⟨#[]⟩ : ByteArray)) else (parse_conditional.j0 k a1 (a0.toList == ([105, 102, 110, 100, 101, 102] : List UInt8)) 3 0 a0 (⟨#[]⟩ : ByteArray) (⟨#[]⟩ : ByteArray) (⟨#[]⟩ : ByteArray) (⟨#[]⟩ : ByteArray) (⟨#[]⟩ : ByteArray) (⟨#[]⟩ : ByteArray))) = some (r1, r2, r3, r4, r5, r6, r7, r8, r9, r10, r11) := h
 clear h
 have HC3 := ka H
 clear H
 go_enter Tryd.func44, Tryd.ntmps44
 go_upto_region 2 with (first | ((with_reducible refine gate_dst (N := 4) rfl ?_); refine box_event ?hg (N := 4) ?hd (cs := #[.int .i64 0, .int .i64 0, .string ⟨#[]⟩, .string ⟨#[]⟩, .string ⟨#[]⟩, .string ⟨#[]⟩, .string ⟨#[]⟩, .string ⟨#[]⟩, .string ⟨#[]⟩, .slice none 0 0]) (t := 45) ?hr ?_; (case hd => rfl); (case hg => rfl); (case hr => (go_simp; try rfl)); intro gb140 hg w4 hbox hb; have BK140 := ka (hbox); have GW140 := ka (zG hg (zL HB.out)); have GE140 := ka (zG hg (zL HB.out)); replace HB := ka (below_step (zL HB.out) hb); clear hb hbox hg) | ((with_reducible refine gate_dst (N := 6) rfl ?_); refine box_event ?hg (N := 6) ?hd (cs := #[.int .i64 0, .int .i64 0, .string ⟨#[]⟩, .string ⟨#[]⟩, .string ⟨#[]⟩, .string ⟨#[]⟩, .string ⟨#[]⟩, .string ⟨#[]⟩, .string ⟨#[]⟩, .slice none 0 0]) (t := 45) ?hr ?_; (case hd => rfl); (case hg => rfl); (case hr => (go_simp; try rfl)); intro gb141 hg w5 hbox hb; have BK141 := ka (hbox); have GW141 := ka (zG hg (zL HB.out)); have GE141 := ka (zG hg (zL HB.out)); replace HB := ka (below_step (zL HB.out) hb); have NB140_141 := ka (zNK hg BK140.out); have NB141_140 := ka (zOK hg BK140.out); replace BK140 := ka (zB BK140.out hb); clear hb hbox hg; have hnb6 := NB141_140.out; have hnc6 := NB140_141.out; obtain ⟨z7_0, z7_1, z7_2, z7_3, z7_4, z7_5, z7_6, z7_7, z7_8, z7_9, y7_0, y7_1, y7_2, y7_3, y7_4, y7_5, y7_6, y7_7, y7_8, y7_9⟩ := zC10 BK141.out))
 (try simp only [Act.put, List.setIfInBounds_toArray, List.set_cons_zero, List.set_cons_succ])
 go_cut [20] (fun v20 wc => ∃ (kq : Nat) (x20_2 : Bool), v20 = .bool x20_2 ∧ Aside0 (parse_conditional.j0 kq a1 x20_2 3 0 a0 (⟨#[]⟩ : ByteArray) (⟨#[]⟩ : ByteArray) (⟨#[]⟩ : ByteArray) (⟨#[]⟩ : ByteArray) (⟨#[]⟩ : ByteArray) (⟨#[]⟩ : ByteArray) = some (r1, r2, r3, r4, r5, r6, r7, r8, r9, r10, r11)) ∧ Aside0 (kq ≤ k) ∧ Aside0 (wc.heap[gb140]? = some (.cells #[.int .i64 0, .int .i64 0, .string ⟨#[]⟩, .string ⟨#[]⟩, .string ⟨#[]⟩, .string ⟨#[]⟩, .string ⟨#[]⟩, .string ⟨#[]⟩, .string ⟨#[]⟩, (.slice none 0 0)] 45 (0, 0))) ∧ Aside0 (wc.heap[gb141]? = some (.cells #[.int .i64 3, .int .i64 0, .string a0, .string ⟨#[]⟩, .string ⟨#[]⟩, .string ⟨#[]⟩, .string ⟨#[]⟩, .string ⟨#[]⟩, .string ⟨#[]⟩, (.slice none 0 0)] 45 (0, 0))) ∧ Aside0 (Below w.heap.size w wc))
 case first =>
  have H := HC3.out
  clear HC3
  by_cases c8 : a0.toList = ([105, 102, 100, 101, 102] : List UInt8)
  ·rw [if_pos c8] at H
   have c8b0 := zb0 c8
   have c8b1 := zb1 c8
   clear c8
   (first | rw [c8b0] | (simp only [i64_w, i32_w]; rw [c8b0]) | rw [isE_ c8b0] | skip)
   have H' := ka H
   clear H
   go_wp2
   go_meet
   case rel => exact ⟨_, (true), zS, H', ⟨by first | omega | exact Nat.le_refl _⟩, ⟨zK BK140.out⟩, ⟨zP10 BK141.out⟩, ⟨zL HB.out⟩⟩
  rw [if_neg c8] at H
  have c8b0 := zn0 c8
  have c8b1 := zn1 c8
  (first | rw [c8b0] | (simp only [i64_w, i32_w]; rw [c8b0]) | rw [isE_ c8b0] | skip)
  have H' := ka H
  clear H
  go_wp2
  go_meet
  case rel => exact ⟨_, ((a0.toList == ([105, 102, 110, 100, 101, 102] : List UInt8))), zS, H', ⟨by first | omega | exact Nat.le_refl _⟩, ⟨zK BK140.out⟩, ⟨zP10 BK141.out⟩, ⟨zL HB.out⟩⟩
 case rest =>
  clear HC3
  try clear z7_0 z7_1 z7_2 z7_3 z7_4 z7_5 z7_6 z7_7 z7_8 z7_9
  try clear y7_0 y7_1 y7_2 y7_3 y7_4 y7_5 y7_6 y7_7 y7_8 y7_9
  obtain ⟨kq, x20_2, rfl, HA, HJ2, BK140, BK141, HB⟩ := hcut
  cases kq with
  | zero => exact absurd HA.out (by simp [parse_conditional.j0])
  | succ kj2 =>
   have H := HA.out
   clear HA
   simp only [parse_conditional.j0] at H
   by_cases c9 : x20_2 = true
   ·subst c9
    rw [if_pos rfl] at H
    replace H := Option.bind_eq_some_iff.mp H
    obtain ⟨t142, A100, H⟩ := H
    try dsimp only at H
    have A10 := ka A100
    clear A100
    replace H := zs11 H
    obtain ⟨rfl, rfl, rfl, rfl, rfl, rfl, rfl, rfl, rfl, rfl, rfl⟩ := H
    have hnb11 := NB141_140.out
    have hnc11 := NB140_141.out
    obtain ⟨z12_0, z12_1, z12_2, z12_3, z12_4, z12_5, z12_6, z12_7, z12_8, z12_9, y12_0, y12_1, y12_2, y12_3, y12_4, y12_5, y12_6, y12_7, y12_8, y12_9⟩ := zC10 BK141.out
    try go_wp2
    replace BK140 : Aside0 ((wc.setCell ⟨gb141, 3, none⟩ (.string a1)).heap[gb140]? = some (.cells #[.int .i64 0, .int .i64 0, .string ⟨#[]⟩, .string ⟨#[]⟩, .string ⟨#[]⟩, .string ⟨#[]⟩, .string ⟨#[]⟩, .string ⟨#[]⟩, .string ⟨#[]⟩, .slice none 0 0] 45 (0, 0))) := ⟨zK BK140.out⟩
    replace BK141 : Aside0 ((wc.setCell ⟨gb141, 3, none⟩ (.string a1)).heap[gb141]? = some (.cells #[.int .i64 3, .int .i64 0, .string a0, .string a1, .string ⟨#[]⟩, .string ⟨#[]⟩, .string ⟨#[]⟩, .string ⟨#[]⟩, .string ⟨#[]⟩, .slice none 0 0] 45 (0, 0))) := ⟨by (with_reducible repeat (first | refine blk_drewN ?_ _ | refine blk_drew ?_ | refine blk_alloc ?_ _)); refine blk_put (cs := #[.int .i64 3, .int .i64 0, .string a0, .string ⟨#[]⟩, .string ⟨#[]⟩, .string ⟨#[]⟩, .string ⟨#[]⟩, .string ⟨#[]⟩, .string ⟨#[]⟩, .slice none 0 0]) ?_ 3 _ rfl; (with_reducible repeat (first | refine blk_drewN ?_ _ | refine blk_drew ?_ | refine blk_alloc ?_ _)); exact BK141.out⟩
    replace HB : Aside0 (Below w.heap.size w (wc.setCell ⟨gb141, 3, none⟩ (.string a1))) := ⟨zL HB.out⟩
    generalize (wc.setCell ⟨gb141, 3, none⟩ (.string a1)) = w13 at BK140 BK141 HB ⊢
    replace BK140 := ka (blk_drew BK140.out)
    replace BK141 := ka (blk_drew BK141.out)
    replace HB := ka (below_drew1 HB.out)
    refine start_ (n := 5) (S := fun w' => w'.cell? ⟨gb141, 0, none⟩ = some (.int .i64 3) ∧ w'.cell? ⟨gb141, 1, none⟩ = some (.int .i64 0) ∧ w'.cell? ⟨gb141, 2, none⟩ = some (.string a0) ∧ w'.cell? ⟨gb141, 3, none⟩ = some (.string a1) ∧ w'.cell? ⟨gb141, 4, none⟩ = some (.string ⟨#[]⟩) ∧ w'.cell? ⟨gb141, 5, none⟩ = some (.string ⟨#[]⟩) ∧ w'.cell? ⟨gb141, 6, none⟩ = some (.string ⟨#[]⟩) ∧ w'.cell? ⟨gb141, 7, none⟩ = some (.string ⟨#[]⟩) ∧ w'.cell? ⟨gb141, 8, none⟩ = some (.string ⟨#[]⟩) ∧ w'.cell? ⟨gb141, 9, none⟩ = some (.slice none 0 0)) (ds := []) #[false, false, false, false, false] (by kernel_rfl) rfl rfl ⟨zc BK141.out 0, zc BK141.out 1, zc BK141.out 2, zc BK141.out 3, zc BK141.out 4, zc BK141.out 5, zc BK141.out 6, zc BK141.out 7, zc BK141.out 8, zc BK141.out 9⟩ (fun hHeld => ?_)
    generalize w13.drew = w14 at BK140 BK141 HB hHeld ⊢
    refine zkp 1 (N := some 24) (h := ?_)
    refine zkt 0 (N := some 23) hHeld (h := ?_)
    refine one_ (i := 2) (N := some 25) #[true, true, true, false, false] rfl rfl (by kernel_rfl) (by decide) (fun K hK => ?_)
    refine goes_ Tryd.func15 (by kernel_rfl) rfl #[.string a1] (by rfl) rfl rfl zA ?_
    with_reducible refine (parse_Name.calls kj2 a1 t142 _ A10.out).mono ?_
    rintro e w15 ⟨rfl, hb⟩
    refine ⟨_, rfl, ?_⟩
    replace BK140 := ka (zB BK140.out hb)
    replace BK141 := ka (zB BK141.out hb)
    replace HB := ka (below_step (zL HB.out) hb)
    (try clear hb)
    (try clear hb2)
    (try clear hk)
    (try clear hi)
    refine hK.out _ _ ⟨zc BK141.out 0, zc BK141.out 1, zc BK141.out 2, zc BK141.out 3, zc BK141.out 4, zc BK141.out 5, zc BK141.out 6, zc BK141.out 7, zc BK141.out 8, zc BK141.out 9⟩ (fun hHeld => ?_)
    clear hK K
    refine znm (N := some 25) (h := ?_)
    refine one_ (i := 3) (N := none) #[true, true, true, true, false] rfl rfl (by kernel_rfl) (by decide) (fun K hK => ?_)
    have hs16 : w15.cell? ⟨gb140, 0, none⟩ = some (.int .i64 0) := zc BK140.out 0
    have hfs16 := blk_frozen BK140.out 0
    have hns16_1 := NB141_140.out
    have hms16_1 := NB140_141.out
    have hs17 : w15.cell? ⟨gb140, 1, none⟩ = some (.int .i64 0) := zc BK140.out 1
    have hfs17 := blk_frozen BK140.out 1
    have hns17_1 := NB141_140.out
    have hms17_1 := NB140_141.out
    have hs18 : w15.cell? ⟨gb140, 2, none⟩ = some (.string ⟨#[]⟩) := zc BK140.out 2
    have hfs18 := blk_frozen BK140.out 2
    have hns18_1 := NB141_140.out
    have hms18_1 := NB140_141.out
    have hs19 : w15.cell? ⟨gb140, 3, none⟩ = some (.string ⟨#[]⟩) := zc BK140.out 3
    have hfs19 := blk_frozen BK140.out 3
    have hns19_1 := NB141_140.out
    have hms19_1 := NB140_141.out
    have hs20 : w15.cell? ⟨gb140, 4, none⟩ = some (.string ⟨#[]⟩) := zc BK140.out 4
    have hfs20 := blk_frozen BK140.out 4
    have hns20_1 := NB141_140.out
    have hms20_1 := NB140_141.out
    have hs21 : w15.cell? ⟨gb140, 5, none⟩ = some (.string ⟨#[]⟩) := zc BK140.out 5
    have hfs21 := blk_frozen BK140.out 5
    have hns21_1 := NB141_140.out
    have hms21_1 := NB140_141.out
    have hs22 : w15.cell? ⟨gb140, 6, none⟩ = some (.string ⟨#[]⟩) := zc BK140.out 6
    have hfs22 := blk_frozen BK140.out 6
    have hns22_1 := NB141_140.out
    have hms22_1 := NB140_141.out
    have hs23 : w15.cell? ⟨gb140, 7, none⟩ = some (.string ⟨#[]⟩) := zc BK140.out 7
    have hfs23 := blk_frozen BK140.out 7
    have hns23_1 := NB141_140.out
    have hms23_1 := NB140_141.out
    have hs24 : w15.cell? ⟨gb140, 8, none⟩ = some (.string ⟨#[]⟩) := zc BK140.out 8
    have hfs24 := blk_frozen BK140.out 8
    have hns24_1 := NB141_140.out
    have hms24_1 := NB140_141.out
    have hs25 : w15.cell? ⟨gb140, 9, none⟩ = some (.slice none 0 0) := zc BK140.out 9
    have hfs25 := blk_frozen BK140.out 9
    have hns25_1 := NB141_140.out
    have hms25_1 := NB140_141.out
    refine skip_ (w1 := ?_) (by rfl) rfl ?_ ?_
    rotate_left
    ·go_simp
     rfl
    refine hK.out _ _ ⟨(zW NB141_140.out hHeld.1), (zW NB141_140.out hHeld.2.1), (zW NB141_140.out hHeld.2.2.1), (zW NB141_140.out hHeld.2.2.2.1), (zW NB141_140.out hHeld.2.2.2.2.1), (zW NB141_140.out hHeld.2.2.2.2.2.1), (zW NB141_140.out hHeld.2.2.2.2.2.2.1), (zW NB141_140.out hHeld.2.2.2.2.2.2.2.1), (zW NB141_140.out hHeld.2.2.2.2.2.2.2.2.1), (zW NB141_140.out hHeld.2.2.2.2.2.2.2.2.2)⟩ (fun hHeld => ?_)
    clear hK K
    refine zkp 4 (N := some 5) (h := ?_)
    refine done_ (by kernel_rfl) ?_
    try go_wp2
    refine bodyPost_ret (results_ct rfl _ _ gb140 45 #[.int .i64 3, .int .i64 0, .string a0, .string a1, .string ⟨#[]⟩, .string ⟨#[]⟩, .string ⟨#[]⟩, .string ⟨#[]⟩, .string ⟨#[]⟩, .slice none 0 0] (0, 0) _ rfl (zP10 BK140.out) Tryd.underlying45 rfl (by kernel_rfl)) rfl ?_
    exact ⟨_, zE, zNl, zL HB.out⟩
   replace c9 := Bool.eq_false_iff.mpr c9
   subst c9
   rw [if_neg (show ¬ (false = true) by decide)] at H
   replace H := Option.bind_eq_some_iff.mp H
   obtain ⟨⟨t143, t144⟩, A260, H⟩ := H
   try dsimp only at H
   have A26 := ka A260
   clear A260
   replace H := Option.bind_eq_some_iff.mp H
   obtain ⟨⟨t145, t146⟩, A270, H⟩ := H
   try dsimp only at H
   have A27 := ka A270
   clear A270
   replace H := Option.bind_eq_some_iff.mp H
   obtain ⟨⟨t147, t148, t149⟩, A280, H⟩ := H
   try dsimp only at H
   have A28 := ka A280
   clear A280
   by_cases c29 : t144 = true
   ·subst c29
    rw [if_pos rfl] at H
    by_cases c30 : t146 = true
    ·subst c30
     rw [if_pos rfl] at H
     replace H := zs11 H
     obtain ⟨rfl, rfl, rfl, rfl, rfl, rfl, rfl, rfl, rfl, rfl, rfl⟩ := H
     go_wp2_with (first | ((with_reducible refine gate_callee (f := 65) rfl ?_); refine goesL_ (some 28) rfl rfl Tryd.func65 (by kernel_rfl) rfl #[.string a1, .string ⟨#[40]⟩] rfl zA ?_; (with_reducible refine (strings_CutPrefix.calls a1 (⟨#[40]⟩ : ByteArray) t143 true _ A26.out).mono ?_); rintro e w' ⟨rfl, ⟨nd, rfl⟩⟩; refine ⟨_, rfl, ?_⟩; (try (rw [drewN_self wc]; generalize hq_ : World.drewN wc _ = wc; have n0_ : Aside0 (wc.heap[gb140]? = some (.cells #[.int .i64 0, .int .i64 0, .string ⟨#[]⟩, .string ⟨#[]⟩, .string ⟨#[]⟩, .string ⟨#[]⟩, .string ⟨#[]⟩, .string ⟨#[]⟩, .string ⟨#[]⟩, .slice none 0 0] 45 (0, 0))) := ⟨by rw [← hq_]; exact (zK BK140.out)⟩; have n1_ : Aside0 (wc.heap[gb141]? = some (.cells #[.int .i64 3, .int .i64 0, .string a0, .string ⟨#[]⟩, .string ⟨#[]⟩, .string ⟨#[]⟩, .string ⟨#[]⟩, .string ⟨#[]⟩, .string ⟨#[]⟩, .slice none 0 0] 45 (0, 0))) := ⟨by rw [← hq_]; exact (zK BK141.out)⟩; have n2_ : Aside0 (Below w.heap.size w wc) := ⟨by rw [← hq_]; exact (zL HB.out)⟩; clear BK140 BK141 HB hq_; have BK140 := n0_; have BK141 := n1_; have HB := n2_; clear n0_ n1_ n2_; (try (obtain ⟨z12_0, z12_1, z12_2, z12_3, z12_4, z12_5, z12_6, z12_7, z12_8, z12_9, y12_0, y12_1, y12_2, y12_3, y12_4, y12_5, y12_6, y12_7, y12_8, y12_9⟩ := zC10 BK141.out))))) | ((with_reducible refine gate_callee (f := 66) rfl ?_); refine goesL_ (some 33) rfl rfl Tryd.func66 (by kernel_rfl) rfl #[.string t143, .string ⟨#[41]⟩] rfl zA ?_; (with_reducible refine (strings_CutSuffix.calls t143 (⟨#[41]⟩ : ByteArray) t145 true _ A27.out).mono ?_); rintro e w' ⟨rfl, ⟨nd, rfl⟩⟩; refine ⟨_, rfl, ?_⟩; (try (rw [drewN_self wc]; generalize hq_ : World.drewN wc _ = wc; have n0_ : Aside0 (wc.heap[gb140]? = some (.cells #[.int .i64 0, .int .i64 0, .string ⟨#[]⟩, .string ⟨#[]⟩, .string ⟨#[]⟩, .string ⟨#[]⟩, .string ⟨#[]⟩, .string ⟨#[]⟩, .string ⟨#[]⟩, .slice none 0 0] 45 (0, 0))) := ⟨by rw [← hq_]; exact (zK BK140.out)⟩; have n1_ : Aside0 (wc.heap[gb141]? = some (.cells #[.int .i64 3, .int .i64 0, .string a0, .string ⟨#[]⟩, .string ⟨#[]⟩, .string ⟨#[]⟩, .string ⟨#[]⟩, .string ⟨#[]⟩, .string ⟨#[]⟩, .slice none 0 0] 45 (0, 0))) := ⟨by rw [← hq_]; exact (zK BK141.out)⟩; have n2_ : Aside0 (Below w.heap.size w wc) := ⟨by rw [← hq_]; exact (zL HB.out)⟩; clear BK140 BK141 HB hq_; have BK140 := n0_; have BK141 := n1_; have HB := n2_; clear n0_ n1_ n2_; (try (obtain ⟨z12_0, z12_1, z12_2, z12_3, z12_4, z12_5, z12_6, z12_7, z12_8, z12_9, y12_0, y12_1, y12_2, y12_3, y12_4, y12_5, y12_6, y12_7, y12_8, y12_9⟩ := zC10 BK141.out))))) | ((with_reducible refine gate_callee (f := 67) rfl ?_); refine goesL_ (some 38) rfl rfl Tryd.func67 (by kernel_rfl) rfl #[.string t145, .string ⟨#[44]⟩] rfl zA ?_; (with_reducible refine (parse_sides.calls kj2 t145 (⟨#[44]⟩ : ByteArray) t147 t148 t149 _ A28.out).mono ?_); rintro e w31 ⟨rfl, hb⟩; refine ⟨_, rfl, ?_⟩; replace BK140 := ka (zB BK140.out hb); replace BK141 := ka (zB BK141.out hb); replace HB := ka (below_step (zL HB.out) hb); (try clear hb); (try clear hb2); (try clear hk); (try clear hi); have hnb32 := NB141_140.out; have hnc32 := NB140_141.out; obtain ⟨z33_0, z33_1, z33_2, z33_3, z33_4, z33_5, z33_6, z33_7, z33_8, z33_9, y33_0, y33_1, y33_2, y33_3, y33_4, y33_5, y33_6, y33_7, y33_8, y33_9⟩ := zC10 BK141.out; obtain ⟨z34_0, z34_1, z34_2, z34_3, z34_4, z34_5, z34_6, z34_7, z34_8, z34_9, y34_0, y34_1, y34_2, y34_3, y34_4, y34_5, y34_6, y34_7, y34_8, y34_9⟩ := zC10 BK140.out))
     refine bodyPost_ret (results_ct rfl _ _ gb140 45 #[.int .i64 3, .int .i64 0, .string a0, .string t147, .string t148, .string ⟨#[]⟩, .string ⟨#[]⟩, .string ⟨#[]⟩, .string ⟨#[]⟩, .slice none 0 0] (0, 0) _ rfl (zP10 BK140.out) Tryd.underlying45 rfl (by kernel_rfl)) rfl ?_
     exact ⟨_, zE, zNl, zL HB.out⟩
    replace c30 := Bool.eq_false_iff.mpr c30
    subst c30
    rw [if_neg (show ¬ (false = true) by decide)] at H
    replace H := zs11 H
    obtain ⟨rfl, rfl, rfl, rfl, rfl, rfl, rfl, rfl, rfl, rfl, rfl⟩ := H
    go_wp2_with (first | ((with_reducible refine gate_callee (f := 65) rfl ?_); refine goesL_ (some 28) rfl rfl Tryd.func65 (by kernel_rfl) rfl #[.string a1, .string ⟨#[40]⟩] rfl zA ?_; (with_reducible refine (strings_CutPrefix.calls a1 (⟨#[40]⟩ : ByteArray) t143 true _ A26.out).mono ?_); rintro e w' ⟨rfl, ⟨nd, rfl⟩⟩; refine ⟨_, rfl, ?_⟩; (try (rw [drewN_self wc]; generalize hq_ : World.drewN wc _ = wc; have n0_ : Aside0 (wc.heap[gb140]? = some (.cells #[.int .i64 0, .int .i64 0, .string ⟨#[]⟩, .string ⟨#[]⟩, .string ⟨#[]⟩, .string ⟨#[]⟩, .string ⟨#[]⟩, .string ⟨#[]⟩, .string ⟨#[]⟩, .slice none 0 0] 45 (0, 0))) := ⟨by rw [← hq_]; exact (zK BK140.out)⟩; have n1_ : Aside0 (wc.heap[gb141]? = some (.cells #[.int .i64 3, .int .i64 0, .string a0, .string ⟨#[]⟩, .string ⟨#[]⟩, .string ⟨#[]⟩, .string ⟨#[]⟩, .string ⟨#[]⟩, .string ⟨#[]⟩, .slice none 0 0] 45 (0, 0))) := ⟨by rw [← hq_]; exact (zK BK141.out)⟩; have n2_ : Aside0 (Below w.heap.size w wc) := ⟨by rw [← hq_]; exact (zL HB.out)⟩; clear BK140 BK141 HB hq_; have BK140 := n0_; have BK141 := n1_; have HB := n2_; clear n0_ n1_ n2_; (try (obtain ⟨z34_0, z34_1, z34_2, z34_3, z34_4, z34_5, z34_6, z34_7, z34_8, z34_9, y34_0, y34_1, y34_2, y34_3, y34_4, y34_5, y34_6, y34_7, y34_8, y34_9⟩ := zC10 BK140.out)); (try (obtain ⟨z33_0, z33_1, z33_2, z33_3, z33_4, z33_5, z33_6, z33_7, z33_8, z33_9, y33_0, y33_1, y33_2, y33_3, y33_4, y33_5, y33_6, y33_7, y33_8, y33_9⟩ := zC10 BK141.out))))) | ((with_reducible refine gate_callee (f := 66) rfl ?_); refine goesL_ (some 33) rfl rfl Tryd.func66 (by kernel_rfl) rfl #[.string t143, .string ⟨#[41]⟩] rfl zA ?_; (with_reducible refine (strings_CutSuffix.calls t143 (⟨#[41]⟩ : ByteArray) t145 false _ A27.out).mono ?_); rintro e w' ⟨rfl, ⟨nd, rfl⟩⟩; refine ⟨_, rfl, ?_⟩; (try (rw [drewN_self wc]; generalize hq_ : World.drewN wc _ = wc; have n0_ : Aside0 (wc.heap[gb140]? = some (.cells #[.int .i64 0, .int .i64 0, .string ⟨#[]⟩, .string ⟨#[]⟩, .string ⟨#[]⟩, .string ⟨#[]⟩, .string ⟨#[]⟩, .string ⟨#[]⟩, .string ⟨#[]⟩, .slice none 0 0] 45 (0, 0))) := ⟨by rw [← hq_]; exact (zK BK140.out)⟩; have n1_ : Aside0 (wc.heap[gb141]? = some (.cells #[.int .i64 3, .int .i64 0, .string a0, .string ⟨#[]⟩, .string ⟨#[]⟩, .string ⟨#[]⟩, .string ⟨#[]⟩, .string ⟨#[]⟩, .string ⟨#[]⟩, .slice none 0 0] 45 (0, 0))) := ⟨by rw [← hq_]; exact (zK BK141.out)⟩; have n2_ : Aside0 (Below w.heap.size w wc) := ⟨by rw [← hq_]; exact (zL HB.out)⟩; clear BK140 BK141 HB hq_; have BK140 := n0_; have BK141 := n1_; have HB := n2_; clear n0_ n1_ n2_; (try (obtain ⟨z34_0, z34_1, z34_2, z34_3, z34_4, z34_5, z34_6, z34_7, z34_8, z34_9, y34_0, y34_1, y34_2, y34_3, y34_4, y34_5, y34_6, y34_7, y34_8, y34_9⟩ := zC10 BK140.out)); (try (obtain ⟨z33_0, z33_1, z33_2, z33_3, z33_4, z33_5, z33_6, z33_7, z33_8, z33_9, y33_0, y33_1, y33_2, y33_3, y33_4, y33_5, y33_6, y33_7, y33_8, y33_9⟩ := zC10 BK141.out))))) | ((with_reducible refine gate_callee (f := 67) rfl ?_); refine goesL_ (some 38) rfl rfl Tryd.func67 (by kernel_rfl) rfl #[.string t145, .string ⟨#[44]⟩] rfl zA ?_; (with_reducible refine (parse_sides.calls kj2 t145 (⟨#[44]⟩ : ByteArray) t147 t148 t149 _ A28.out).mono ?_); rintro e w35 ⟨rfl, hb⟩; refine ⟨_, rfl, ?_⟩; replace BK140 := ka (zB BK140.out hb); replace BK141 := ka (zB BK141.out hb); replace HB := ka (below_step (zL HB.out) hb); (try clear hb); (try clear hb2); (try clear hk); (try clear hi); have hnb36 := NB141_140.out; have hnc36 := NB140_141.out; obtain ⟨z37_0, z37_1, z37_2, z37_3, z37_4, z37_5, z37_6, z37_7, z37_8, z37_9, y37_0, y37_1, y37_2, y37_3, y37_4, y37_5, y37_6, y37_7, y37_8, y37_9⟩ := zC10 BK141.out; obtain ⟨z38_0, z38_1, z38_2, z38_3, z38_4, z38_5, z38_6, z38_7, z38_8, z38_9, y38_0, y38_1, y38_2, y38_3, y38_4, y38_5, y38_6, y38_7, y38_8, y38_9⟩ := zC10 BK140.out))
    refine bodyPost_ret (results_ct rfl _ _ gb140 45 #[.int .i64 3, .int .i64 0, .string a0, .string t147, .string t148, .string ⟨#[]⟩, .string ⟨#[]⟩, .string ⟨#[]⟩, .string ⟨#[]⟩, .slice none 0 0] (0, 0) _ rfl (zP10 BK140.out) Tryd.underlying45 rfl (by kernel_rfl)) rfl ?_
    exact ⟨_, zE, zNl, zL HB.out⟩
   replace c29 := Bool.eq_false_iff.mpr c29
   subst c29
   rw [if_neg (show ¬ (false = true) by decide)] at H
   replace H := zs11 H
   obtain ⟨rfl, rfl, rfl, rfl, rfl, rfl, rfl, rfl, rfl, rfl, rfl⟩ := H
   go_wp2_with (first | ((with_reducible refine gate_callee (f := 65) rfl ?_); refine goesL_ (some 28) rfl rfl Tryd.func65 (by kernel_rfl) rfl #[.string a1, .string ⟨#[40]⟩] rfl zA ?_; (with_reducible refine (strings_CutPrefix.calls a1 (⟨#[40]⟩ : ByteArray) t143 false _ A26.out).mono ?_); rintro e w' ⟨rfl, ⟨nd, rfl⟩⟩; refine ⟨_, rfl, ?_⟩; (try (rw [drewN_self wc]; generalize hq_ : World.drewN wc _ = wc; have n0_ : Aside0 (wc.heap[gb140]? = some (.cells #[.int .i64 0, .int .i64 0, .string ⟨#[]⟩, .string ⟨#[]⟩, .string ⟨#[]⟩, .string ⟨#[]⟩, .string ⟨#[]⟩, .string ⟨#[]⟩, .string ⟨#[]⟩, .slice none 0 0] 45 (0, 0))) := ⟨by rw [← hq_]; exact (zK BK140.out)⟩; have n1_ : Aside0 (wc.heap[gb141]? = some (.cells #[.int .i64 3, .int .i64 0, .string a0, .string ⟨#[]⟩, .string ⟨#[]⟩, .string ⟨#[]⟩, .string ⟨#[]⟩, .string ⟨#[]⟩, .string ⟨#[]⟩, .slice none 0 0] 45 (0, 0))) := ⟨by rw [← hq_]; exact (zK BK141.out)⟩; have n2_ : Aside0 (Below w.heap.size w wc) := ⟨by rw [← hq_]; exact (zL HB.out)⟩; clear BK140 BK141 HB hq_; have BK140 := n0_; have BK141 := n1_; have HB := n2_; clear n0_ n1_ n2_; (try (obtain ⟨z38_0, z38_1, z38_2, z38_3, z38_4, z38_5, z38_6, z38_7, z38_8, z38_9, y38_0, y38_1, y38_2, y38_3, y38_4, y38_5, y38_6, y38_7, y38_8, y38_9⟩ := zC10 BK140.out)); (try (obtain ⟨z37_0, z37_1, z37_2, z37_3, z37_4, z37_5, z37_6, z37_7, z37_8, z37_9, y37_0, y37_1, y37_2, y37_3, y37_4, y37_5, y37_6, y37_7, y37_8, y37_9⟩ := zC10 BK141.out))))) | ((with_reducible refine gate_callee (f := 66) rfl ?_); refine goesL_ (some 33) rfl rfl Tryd.func66 (by kernel_rfl) rfl #[.string t143, .string ⟨#[41]⟩] rfl zA ?_; (with_reducible refine (strings_CutSuffix.calls t143 (⟨#[41]⟩ : ByteArray) t145 t146 _ A27.out).mono ?_); rintro e w' ⟨rfl, ⟨nd, rfl⟩⟩; refine ⟨_, rfl, ?_⟩; (try (rw [drewN_self wc]; generalize hq_ : World.drewN wc _ = wc; have n0_ : Aside0 (wc.heap[gb140]? = some (.cells #[.int .i64 0, .int .i64 0, .string ⟨#[]⟩, .string ⟨#[]⟩, .string ⟨#[]⟩, .string ⟨#[]⟩, .string ⟨#[]⟩, .string ⟨#[]⟩, .string ⟨#[]⟩, .slice none 0 0] 45 (0, 0))) := ⟨by rw [← hq_]; exact (zK BK140.out)⟩; have n1_ : Aside0 (wc.heap[gb141]? = some (.cells #[.int .i64 3, .int .i64 0, .string a0, .string ⟨#[]⟩, .string ⟨#[]⟩, .string ⟨#[]⟩, .string ⟨#[]⟩, .string ⟨#[]⟩, .string ⟨#[]⟩, .slice none 0 0] 45 (0, 0))) := ⟨by rw [← hq_]; exact (zK BK141.out)⟩; have n2_ : Aside0 (Below w.heap.size w wc) := ⟨by rw [← hq_]; exact (zL HB.out)⟩; clear BK140 BK141 HB hq_; have BK140 := n0_; have BK141 := n1_; have HB := n2_; clear n0_ n1_ n2_; (try (obtain ⟨z38_0, z38_1, z38_2, z38_3, z38_4, z38_5, z38_6, z38_7, z38_8, z38_9, y38_0, y38_1, y38_2, y38_3, y38_4, y38_5, y38_6, y38_7, y38_8, y38_9⟩ := zC10 BK140.out)); (try (obtain ⟨z37_0, z37_1, z37_2, z37_3, z37_4, z37_5, z37_6, z37_7, z37_8, z37_9, y37_0, y37_1, y37_2, y37_3, y37_4, y37_5, y37_6, y37_7, y37_8, y37_9⟩ := zC10 BK141.out))))) | ((with_reducible refine gate_callee (f := 67) rfl ?_); refine goesL_ (some 38) rfl rfl Tryd.func67 (by kernel_rfl) rfl #[.string t145, .string ⟨#[44]⟩] rfl zA ?_; (with_reducible refine (parse_sides.calls kj2 t145 (⟨#[44]⟩ : ByteArray) t147 t148 t149 _ A28.out).mono ?_); rintro e w39 ⟨rfl, hb⟩; refine ⟨_, rfl, ?_⟩; replace BK140 := ka (zB BK140.out hb); replace BK141 := ka (zB BK141.out hb); replace HB := ka (below_step (zL HB.out) hb); (try clear hb); (try clear hb2); (try clear hk); (try clear hi); have hnb40 := NB141_140.out; have hnc40 := NB140_141.out; obtain ⟨z41_0, z41_1, z41_2, z41_3, z41_4, z41_5, z41_6, z41_7, z41_8, z41_9, y41_0, y41_1, y41_2, y41_3, y41_4, y41_5, y41_6, y41_7, y41_8, y41_9⟩ := zC10 BK141.out; obtain ⟨z42_0, z42_1, z42_2, z42_3, z42_4, z42_5, z42_6, z42_7, z42_8, z42_9, y42_0, y42_1, y42_2, y42_3, y42_4, y42_5, y42_6, y42_7, y42_8, y42_9⟩ := zC10 BK140.out))
   refine bodyPost_ret (results_ct rfl _ _ gb140 45 #[.int .i64 3, .int .i64 0, .string a0, .string t147, .string t148, .string ⟨#[]⟩, .string ⟨#[]⟩, .string ⟨#[]⟩, .string ⟨#[]⟩, .slice none 0 0] (0, 0) _ rfl (zP10 BK140.out) Tryd.underlying45 rfl (by kernel_rfl)) rfl ?_
   exact ⟨_, zE, zNl, zL HB.out⟩

/-! ### parse_has: function 68 -/
def parse_has.f (k : Nat) (a0 : ByteArray) (a1 : ByteArray) : Option (Bool) := (parse_sides.f k a0 a1).bind fun bt150 => (some bt150.2.2)
theorem parse_has.mono : ∀ a0 a1 k, LeO (parse_has.f k a0 a1) (parse_has.f (k + 1) a0 a1) := by
 intro a0 a1 k
 unfold parse_has.f
 have m0 := @parse_sides.mono
 exact zLe
theorem parse_has.calls (k : Nat) (a0 : ByteArray) (a1 : ByteArray) (r : Bool) (w : World) (h : parse_has.f k a0 a1 = some r) :
  Calls Tryd.prog 68 #[.string a0, .string a1] w fun e w' => e = .returned (.bool r) ∧ Below w.heap.size w w' := by
 have HB := ka (Below.refl w.heap.size w)
 have H : ((parse_sides.f k a0 a1).bind fun bt150 => (some bt150.2.2)) = some r := h
 clear h
 replace H := Option.bind_eq_some_iff.mp H
 obtain ⟨⟨t150, t151, t152⟩, A30, H⟩ := H
 try dsimp only at H
 have A3 := ka A30
 clear A30
 obtain rfl := Option.some.inj H
 go_enter Tryd.func68, Tryd.ntmps68
 go_wp2_with (first | ((with_reducible refine gate_callee (f := 67) rfl ?_); refine goesL_ (some 11) rfl rfl Tryd.func67 (by kernel_rfl) rfl #[.string a0, .string a1] rfl zA ?_; (with_reducible refine (parse_sides.calls k a0 a1 t150 t151 t152 _ A3.out).mono ?_); rintro e w4 ⟨rfl, hb⟩; refine ⟨_, rfl, ?_⟩; replace HB := ka (below_step (zL HB.out) hb); (try clear hb); (try clear hb2); (try clear hk); (try clear hi)))
 go_ret
 exact ⟨zE, zL HB.out⟩

end Go.Proofs.YthnholondnfjoaaDoor.PParse
