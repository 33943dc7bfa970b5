-- Written by a program of this session (wip/tools/ext.py, over the kit's printer); not trusted: Lean checks it.
import Derived.Test.YthnholondnfjoaaDoorPParsex0
import Derived.Test.YthnholondnfjoaaDoorPParsex3
import Derived.Test.YthnholondnfjoaaDoorPParsex4
namespace Go.Proofs.YthnholondnfjoaaDoor.PParse
open Go.RowKit Go.Proofs.YthnholondnfjoaaDoorW.PrintWords Go.Proofs.YthnholondnfjoaaDoorW.PrintLast Go.Proofs.YthnholondnfjoaaDoorW.PrintMore
attribute [local go_sem] max2_int min2_int max_two min_two max_three min_three max_four min_four
set_option linter.unusedVariables false
set_option linter.unusedSimpArgs false
set_option maxHeartbeats 8000000
set_option maxRecDepth 100000

/-! ### parse_rule: function 45 -/
mutual
def parse_rule.j1 : Nat → ByteArray → Int → Int → ByteArray → ByteArray → ByteArray → ByteArray → ByteArray → ByteArray → ByteArray → Option (Int × Int × ByteArray × ByteArray × ByteArray × ByteArray × ByteArray × ByteArray × ByteArray × List ByteArray × Bool)
 | 0, _, _, _, _, _, _, _, _, _, _ => none
 | k + 1, x1, x156000, x156001, x156002, x156003, x156004, x156005, x156006, x156007, x156008 => (parse_sides.f k x1 (⟨#[124]⟩ : ByteArray)).bind fun bt160 => (if x156005.toList = ([] : List UInt8) then (some (x156000, x156001, x156002, x156003, x156004, x156005, x156006, bt160.1, bt160.2.1, ([] : List ByteArray), false)) else (if bt160.2.2 = true then ((parse_has.f k bt160.2.1 (⟨#[124]⟩ : ByteArray)).bind fun t163 => (some (x156000, x156001, x156002, x156003, x156004, x156005, x156006, bt160.1, bt160.2.1, ([] : List ByteArray), !t163))) else (some (x156000, x156001, x156002, x156003, x156004, x156005, x156006, bt160.1, bt160.2.1, ([] : List ByteArray), !false))))
def parse_rule.j0 : Nat → ByteArray → Bool → Int → Int → ByteArray → ByteArray → ByteArray → ByteArray → ByteArray → ByteArray → ByteArray → Option (Int × Int × ByteArray × ByteArray × ByteArray × ByteArray × ByteArray × ByteArray × ByteArray × List ByteArray × Bool)
 | 0, _, _, _, _, _, _, _, _, _, _, _ => none
 | k + 1, x1, x29, x156000, x156001, x156002, x156003, x156004, x156005, x156006, x156007, x156008 => if x29 = true then (some (x156000, x156001, x156002, x156003, x156004, x156005, x156006, x156007, x156008, ([] : List ByteArray), false)) else (parse_rule.j1 k x1 x156000 x156001 x156002 x156003 x156004 x156005 x156006 x156007 x156008)
end
def parse_rule.f (k : Nat) (a0 : ByteArray) (a1 : ByteArray) : Option (Int × Int × ByteArray × ByteArray × ByteArray × ByteArray × ByteArray × ByteArray × ByteArray × List ByteArray × Bool) := (text_Trim.f a0).bind fun t154 => ((parse_sides.f k a1 (⟨#[58]⟩ : ByteArray)).bind fun bt156 => (if bt156.2.2 = true then (if bt156.1.toList = ([] : List UInt8) then (parse_rule.j0 k bt156.2.1 true 2 0 (⟨#[]⟩ : ByteArray) (⟨#[]⟩ : ByteArray) (⟨#[]⟩ : ByteArray) t154 bt156.1 (⟨#[]⟩ : ByteArray) (⟨#[]⟩ : ByteArray)) else ((parse_has.f k bt156.2.1 (⟨#[58]⟩ : ByteArray)).bind fun t159 => (parse_rule.j0 k bt156.2.1 t159 2 0 (⟨#[]⟩ : ByteArray) (⟨#[]⟩ : ByteArray) (⟨#[]⟩ : ByteArray) t154 bt156.1 (⟨#[]⟩ : ByteArray) (⟨#[]⟩ : ByteArray)))) else (parse_rule.j1 k a1 2 0 (⟨#[]⟩ : ByteArray) (⟨#[]⟩ : ByteArray) (⟨#[]⟩ : ByteArray) t154 (⟨#[]⟩ : ByteArray) (⟨#[]⟩ : ByteArray) (⟨#[]⟩ : ByteArray))))
theorem parse_rule.mono_l : ∀ k, (∀ y0 y1 y2 y3 y4 y5 y6 y7 y8 y9, LeO (parse_rule.j1 k y0 y1 y2 y3 y4 y5 y6 y7 y8 y9) (parse_rule.j1 (k + 1) y0 y1 y2 y3 y4 y5 y6 y7 y8 y9)) ∧ (∀ y0 y1 y2 y3 y4 y5 y6 y7 y8 y9 y10, LeO (parse_rule.j0 k y0 y1 y2 y3 y4 y5 y6 y7 y8 y9 y10) (parse_rule.j0 (k + 1) y0 y1 y2 y3 y4 y5 y6 y7 y8 y9 y10))
 | 0 => ⟨fun _ _ _ _ _ _ _ _ _ _ r h => by simp [parse_rule.j1] at h, fun _ _ _ _ _ _ _ _ _ _ _ r h => by simp [parse_rule.j0] at h⟩
 | k + 1 => by
  obtain ⟨ih0, ih1⟩ := parse_rule.mono_l k
  have m0 := @parse_has.mono
  have m1 := @parse_sides.mono
  refine ⟨?_, ?_⟩
  ·intros
   unfold parse_rule.j1
   exact zLe
  ·intros
   unfold parse_rule.j0
   exact zLe
theorem parse_rule.mono : ∀ a0 a1 k, LeO (parse_rule.f k a0 a1) (parse_rule.f (k + 1) a0 a1) := by
 intro a0 a1 k
 obtain ⟨ih0, ih1⟩ := parse_rule.mono_l k
 unfold parse_rule.f
 have m0 := @parse_has.mono
 have m1 := @parse_sides.mono
 exact zLe
def parse_rule.T9 : Bool × List (List Nat × List Nat) := (true, [([], []), ([], []), ([1], [1]), ([2], [2]), ([3], [3]), ([4], [4]), ([5, 4, 4], [4, 5]), ([6], [6]), ([7, 6], [6, 7]), ([8, 6, 6], [6, 8]), ([6, 9, 4], [4, 6, 9]), ([10, 4], [4, 10]), ([4, 11], [4, 11]), ([0, 9, 0], [0]), ([12, 13, 0, 1, 2, 3, 4, 5, 6, 7, 8, 9, 10, 11, 12, 13], [12])])
def parse_rule.B9 : List Nat := [0, 0, 2, 6, 14, 30, 62, 126, 254, 510, 1022, 2046, 4094, 1023, 16383]
theorem parse_rule.tab9 : rtab .any (opsOf Tryd.f45 9) = parse_rule.T9 := by kernel_rfl
theorem parse_rule.bits9 : waitsOk parse_rule.T9.2 parse_rule.B9 = true := by kernel_rfl
theorem parse_rule.calls (k : Nat) (a0 : ByteArray) (a1 : ByteArray) (r1 : Int) (r2 : Int) (r3 : ByteArray) (r4 : ByteArray) (r5 : ByteArray) (r6 : ByteArray) (r7 : ByteArray) (r8 : ByteArray) (r9 : ByteArray) (r10 : List ByteArray) (r11 : Bool) (w : World) (h : parse_rule.f k a0 a1 = some (r1, r2, r3, r4, r5, r6, r7, r8, r9, r10, r11)) :
  Calls Tryd.prog 45 #[.string a0, .string a1] w fun e w' => ∃ v9_ : Value, e = .returned (.tuple #[.agg #[.int .i64 r1, .int .i64 r2, .string r3, .string r4, .string r5, .string r6, .string r7, .string r8, .string r9, v9_], .bool r11]) ∧ Kd.R Kd.string 9 w' w.heap.size (fun _ => True) v9_ r10 ∧ Below w.heap.size w w' := by
 have hu45 := Tryd.underlying45
 have HB := ka (Below.refl w.heap.size w)
 have H : ((text_Trim.f a0).bind fun t154 => ((parse_sides.f k a1 (⟨#[58]⟩ : ByteArray)).bind fun bt156 => (if bt156.2.2 = true then (if bt156.1.toList = ([] : List UInt8) then (parse_rule.j0 k bt156.2.1 true 2 0 (⟨#[]⟩ : ByteArray) (⟨#[]⟩ : ByteArray) (⟨#[]⟩ : ByteArray) t154 bt156.1 (⟨#[]⟩ : ByteArray) (⟨#[]⟩ : ByteArray)) else ((parse_has.f k bt156.2.1 (⟨#[58]⟩ : ByteArray)).bind fun t159 => (parse_rule.j0 k bt156.2.1 t159 2 0 (⟨#[]⟩ : ByteArray) (⟨#[]⟩ : ByteArray) (⟨#[]⟩ : ByteArray) t154 bt156.1 (⟨#[]⟩ : ByteArray) (⟨#[]⟩ : ByteArray)))) else (parse_rule.j1 k a1 2 0 (⟨#[]⟩ : ByteArray) (⟨#[]⟩ : ByteArray) (⟨#[]⟩ : ByteArray) t154 (⟨#[]⟩ : ByteArray) (⟨#[]⟩ : ByteArray) (⟨#[]⟩ : ByteArray))))) = some (r1, r2, r3, r4, r5, r6, r7, r8, r9, r10, r11) := h
 clear h
 replace H := Option.bind_eq_some_iff.mp H
 obtain ⟨t154, A30, H⟩ := H
 try dsimp only at H
 have A3 := ka A30
 clear A30
 replace H := Option.bind_eq_some_iff.mp H
 obtain ⟨⟨t156, t157, t158⟩, A40, H⟩ := H
 try dsimp only at H
 have A4 := ka A40
 clear A40
 have HC5 := ka H
 clear H
 go_enter Tryd.func45, Tryd.ntmps45
 go_upto_if 20 with (first | ((with_reducible refine gate_dst (N := 4) rfl ?_); refine box_event ?hg (N := 4) ?hd (cs := #[.int .i64 0, .int .i64 0, .string ⟨#[]⟩, .string ⟨#[]⟩, .string ⟨#[]⟩, .string ⟨#[]⟩, .string ⟨#[]⟩, .string ⟨#[]⟩, .string ⟨#[]⟩, .slice none 0 0]) (t := 45) ?hr ?_; (case hd => rfl); (case hg => rfl); (case hr => (go_simp; try rfl)); intro gb153 hg w6 hbox hb; have BK153 := ka (hbox); have GW153 := ka (zG hg (zL HB.out)); have GE153 := ka (zG hg (zL HB.out)); replace HB := ka (below_step (zL HB.out) hb); clear hb hbox hg) | ((with_reducible refine gate_callee (f := 24) rfl ?_); refine goesL_ (some 12) rfl rfl Tryd.func24 (by kernel_rfl) rfl #[.string a0] rfl zA ?_; (with_reducible refine (text_Trim.calls a0 t154 _ A3.out).mono ?_); rintro e w7 ⟨rfl, hb⟩; refine ⟨_, rfl, ?_⟩; replace BK153 := ka (zB BK153.out hb); replace HB := ka (below_step (zL HB.out) hb); (try clear hb); (try clear hb2); (try clear hk); (try clear hi)) | ((with_reducible refine gate_dst (N := 6) rfl ?_); refine box_event ?hg (N := 6) ?hd (cs := #[.int .i64 0, .int .i64 0, .string ⟨#[]⟩, .string ⟨#[]⟩, .string ⟨#[]⟩, .string ⟨#[]⟩, .string ⟨#[]⟩, .string ⟨#[]⟩, .string ⟨#[]⟩, .slice none 0 0]) (t := 45) ?hr ?_; (case hd => rfl); (case hg => rfl); (case hr => (go_simp; try rfl)); intro gb155 hg w8 hbox hb; have BK155 := ka (hbox); have GW155 := ka (zG hg (zL HB.out)); have GE155 := ka (zG hg (zL HB.out)); replace HB := ka (below_step (zL HB.out) hb); have NB153_155 := ka (zNK hg BK153.out); have NB155_153 := ka (zOK hg BK153.out); replace BK153 := ka (zB BK153.out hb); clear hb hbox hg; have hnb9 := NB155_153.out; have hnc9 := NB153_155.out; obtain ⟨z10_0, z10_1, z10_2, z10_3, z10_4, z10_5, z10_6, z10_7, z10_8, z10_9, y10_0, y10_1, y10_2, y10_3, y10_4, y10_5, y10_6, y10_7, y10_8, y10_9⟩ := zC10 BK155.out) | ((with_reducible refine gate_callee (f := 67) rfl ?_); refine goesL_ (some 16) rfl rfl Tryd.func67 (by kernel_rfl) rfl #[.string a1, .string ⟨#[58]⟩] rfl zA ?_; (with_reducible refine (parse_sides.calls k a1 (⟨#[58]⟩ : ByteArray) t156 t157 t158 _ A4.out).mono ?_); rintro e w11 ⟨rfl, hb⟩; refine ⟨_, rfl, ?_⟩; replace BK153 := ka (zB BK153.out hb); replace BK155 := ka (blk_below (g := gb155) (o := .cells #[.int .i64 2, .int .i64 0, .string ⟨#[]⟩, .string ⟨#[]⟩, .string ⟨#[]⟩, .string t154, .string ⟨#[]⟩, .string ⟨#[]⟩, .string ⟨#[]⟩, .slice none 0 0] 45 (0, 0)) (zP10 BK155.out) hb); replace HB := ka (below_step (zL HB.out) hb); (try clear hb); (try clear hb2); (try clear hk); (try clear hi)))
 (try simp only [Act.put, List.setIfInBounds_toArray, List.set_cons_zero, List.set_cons_succ])
 go_cut [1] (fun v1 wc => ∃ (kq : Nat) (x1_4 : ByteArray) (x154000_4 : Int) (x154001_4 : Int) (x154002_4 : ByteArray) (x154003_4 : ByteArray) (x154004_4 : ByteArray) (x154005_4 : ByteArray) (x154006_4 : ByteArray) (x154007_4 : ByteArray) (x154008_4 : ByteArray) (x156006_4 : ByteArray), v1 = .string x1_4 ∧ Aside0 (parse_rule.j1 kq x1_4 2 0 (⟨#[]⟩ : ByteArray) (⟨#[]⟩ : ByteArray) (⟨#[]⟩ : ByteArray) t154 x156006_4 (⟨#[]⟩ : ByteArray) (⟨#[]⟩ : ByteArray) = some (r1, r2, r3, r4, r5, r6, r7, r8, r9, r10, r11)) ∧ Aside0 (kq ≤ k) ∧ Aside0 (wc.heap[gb153]? = some (.cells #[.int .i64 x154000_4, .int .i64 x154001_4, .string x154002_4, .string x154003_4, .string x154004_4, .string x154005_4, .string x154006_4, .string x154007_4, .string x154008_4, (.slice none 0 0)] 45 (0, 0))) ∧ Aside0 (wc.heap[gb155]? = some (.cells #[.int .i64 2, .int .i64 0, .string ⟨#[]⟩, .string ⟨#[]⟩, .string ⟨#[]⟩, .string t154, .string x156006_4, .string ⟨#[]⟩, .string ⟨#[]⟩, (.slice none 0 0)] 45 (0, 0))) ∧ Aside0 (Below w.heap.size w wc))
 case first =>
  have H := HC5.out
  clear HC5
  by_cases c12 : t158 = true
  ·subst c12
   rw [if_pos rfl] at H
   have HC13 := ka H
   clear H
   have hnb14 := NB155_153.out
   have hnc14 := NB153_155.out
   obtain ⟨z15_0, z15_1, z15_2, z15_3, z15_4, z15_5, z15_6, z15_7, z15_8, z15_9, y15_0, y15_1, y15_2, y15_3, y15_4, y15_5, y15_6, y15_7, y15_8, y15_9⟩ := zC10 BK155.out
   go_upto_region 5 with (fail)
   go_cut [29] (fun v29 wc => ∃ (kq : Nat) (x29_12 : Bool), v29 = .bool x29_12 ∧ Aside0 (parse_rule.j0 kq t157 x29_12 2 0 (⟨#[]⟩ : ByteArray) (⟨#[]⟩ : ByteArray) (⟨#[]⟩ : ByteArray) t154 t156 (⟨#[]⟩ : ByteArray) (⟨#[]⟩ : ByteArray) = some (r1, r2, r3, r4, r5, r6, r7, r8, r9, r10, r11)) ∧ Aside0 (kq ≤ k) ∧ Aside0 (wc.heap[gb153]? = some (.cells #[.int .i64 0, .int .i64 0, .string ⟨#[]⟩, .string ⟨#[]⟩, .string ⟨#[]⟩, .string ⟨#[]⟩, .string ⟨#[]⟩, .string ⟨#[]⟩, .string ⟨#[]⟩, (.slice none 0 0)] 45 (0, 0))) ∧ Aside0 (wc.heap[gb155]? = some (.cells #[.int .i64 2, .int .i64 0, .string ⟨#[]⟩, .string ⟨#[]⟩, .string ⟨#[]⟩, .string t154, .string t156, .string ⟨#[]⟩, .string ⟨#[]⟩, (.slice none 0 0)] 45 (0, 0))) ∧ Aside0 (Below w.heap.size w wc))
   case first =>
    have H := HC13.out
    clear HC13
    by_cases c16 : t156.toList = ([] : List UInt8)
    ·rw [if_pos c16] at H
     have c16b0 := zb0 c16
     have c16b1 := zb1 c16
     clear c16
     (first | rw [c16b0] | (simp only [i64_w, i32_w]; rw [c16b0]) | rw [isE_ c16b0] | skip)
     have H' := ka H
     clear H
     go_wp2
     go_meet
     case rel => exact ⟨_, (true), zS, H', ⟨by first | omega | exact Nat.le_refl _⟩, ⟨zK BK153.out⟩, ⟨by (with_reducible repeat (first | refine blk_drewN ?_ _ | refine blk_drew ?_ | refine blk_alloc ?_ _)); refine blk_put (cs := #[.int .i64 2, .int .i64 0, .string ⟨#[]⟩, .string ⟨#[]⟩, .string ⟨#[]⟩, .string t154, .string ⟨#[]⟩, .string ⟨#[]⟩, .string ⟨#[]⟩, .slice none 0 0]) ?_ 6 _ rfl; (with_reducible repeat (first | refine blk_drewN ?_ _ | refine blk_drew ?_ | refine blk_alloc ?_ _)); exact BK155.out⟩, ⟨zL HB.out⟩⟩
    rw [if_neg c16] at H
    have c16b0 := zn0 c16
    have c16b1 := zn1 c16
    (first | rw [c16b0] | (simp only [i64_w, i32_w]; rw [c16b0]) | rw [isE_ c16b0] | skip)
    replace H := Option.bind_eq_some_iff.mp H
    obtain ⟨t159, A170, H⟩ := H
    try dsimp only at H
    have A17 := ka A170
    clear A170
    have H' := ka H
    clear H
    go_wp2_with (first | (go_at_call 68; (with_reducible refine (parse_has.calls k t157 (⟨#[58]⟩ : ByteArray) t159 _ A17.out).mono ?_); rintro e w18 ⟨rfl, hb⟩; replace BK153 := ka (zB BK153.out hb); replace BK155 := ka (blk_below (g := gb155) (o := .cells #[.int .i64 2, .int .i64 0, .string ⟨#[]⟩, .string ⟨#[]⟩, .string ⟨#[]⟩, .string t154, .string t156, .string ⟨#[]⟩, .string ⟨#[]⟩, .slice none 0 0] 45 (0, 0)) (by (with_reducible repeat (first | refine blk_drewN ?_ _ | refine blk_drew ?_ | refine blk_alloc ?_ _)); refine blk_put (cs := #[.int .i64 2, .int .i64 0, .string ⟨#[]⟩, .string ⟨#[]⟩, .string ⟨#[]⟩, .string t154, .string ⟨#[]⟩, .string ⟨#[]⟩, .string ⟨#[]⟩, .slice none 0 0]) ?_ 6 _ rfl; (with_reducible repeat (first | refine blk_drewN ?_ _ | refine blk_drew ?_ | refine blk_alloc ?_ _)); exact BK155.out) hb); replace HB := ka (below_step (zL HB.out) hb); (try clear hb); (try clear hb2); (try clear hk); (try clear hi)))
    go_meet
    case rel => exact ⟨_, (t159), zS, H', ⟨by first | omega | exact Nat.le_refl _⟩, ⟨zK BK153.out⟩, ⟨zK BK155.out⟩, ⟨zL HB.out⟩⟩
   case rest =>
    clear HC13
    try clear c12
    try clear z10_0 z10_1 z10_2 z10_3 z10_4 z10_5 z10_6 z10_7 z10_8 z10_9
    try clear z15_0 z15_1 z15_2 z15_3 z15_4 z15_5 z15_6 z15_7 z15_8 z15_9
    try clear y10_0 y10_1 y10_2 y10_3 y10_4 y10_5 y10_6 y10_7 y10_8 y10_9
    try clear y15_0 y15_1 y15_2 y15_3 y15_4 y15_5 y15_6 y15_7 y15_8 y15_9
    obtain ⟨kq, x29_12, rfl, HA, HJ12, BK153, BK155, HB⟩ := hcut
    cases kq with
    | zero => exact absurd HA.out (by simp [parse_rule.j0])
    | succ kj12 =>
     have H := HA.out
     clear HA
     simp only [parse_rule.j0] at H
     by_cases c19 : x29_12 = true
     ·subst c19
      rw [if_pos rfl] at H
      replace H := zs11 H
      obtain ⟨rfl, rfl, rfl, rfl, rfl, rfl, rfl, rfl, rfl, rfl, rfl⟩ := H
      have hnb20 := NB155_153.out
      have hnc20 := NB153_155.out
      obtain ⟨z21_0, z21_1, z21_2, z21_3, z21_4, z21_5, z21_6, z21_7, z21_8, z21_9, y21_0, y21_1, y21_2, y21_3, y21_4, y21_5, y21_6, y21_7, y21_8, y21_9⟩ := zC10 BK155.out
      obtain ⟨z22_0, z22_1, z22_2, z22_3, z22_4, z22_5, z22_6, z22_7, z22_8, z22_9, y22_0, y22_1, y22_2, y22_3, y22_4, y22_5, y22_6, y22_7, y22_8, y22_9⟩ := zC10 BK153.out
      go_wp2
      refine bodyPost_ret (results_ct rfl _ _ gb153 45 #[.int .i64 2, .int .i64 0, .string ⟨#[]⟩, .string ⟨#[]⟩, .string ⟨#[]⟩, .string t154, .string t156, .string ⟨#[]⟩, .string ⟨#[]⟩, .slice none 0 0] (0, 0) _ rfl (zP10 BK153.out) Tryd.underlying45 rfl (by kernel_rfl)) rfl ?_
      exact ⟨_, zE, zNl, zL HB.out⟩
     replace c19 := Bool.eq_false_iff.mpr c19
     subst c19
     rw [if_neg (show ¬ (false = true) by decide)] at H
     have H' := ka H
     clear H
     go_wp2
     go_meet
     case rel => exact ⟨_, (t157), (0), (0), ((⟨#[]⟩ : ByteArray)), ((⟨#[]⟩ : ByteArray)), ((⟨#[]⟩ : ByteArray)), ((⟨#[]⟩ : ByteArray)), ((⟨#[]⟩ : ByteArray)), ((⟨#[]⟩ : ByteArray)), ((⟨#[]⟩ : ByteArray)), (t156), zS, H', ⟨by have := HJ12.out; first | omega | exact Nat.le_refl _⟩, ⟨zK BK153.out⟩, ⟨zK BK155.out⟩, ⟨zL HB.out⟩⟩
  replace c12 := Bool.eq_false_iff.mpr c12
  subst c12
  rw [if_neg (show ¬ (false = true) by decide)] at H
  have H' := ka H
  clear H
  go_wp2
  go_meet
  case rel => exact ⟨_, (a1), (0), (0), ((⟨#[]⟩ : ByteArray)), ((⟨#[]⟩ : ByteArray)), ((⟨#[]⟩ : ByteArray)), ((⟨#[]⟩ : ByteArray)), ((⟨#[]⟩ : ByteArray)), ((⟨#[]⟩ : ByteArray)), ((⟨#[]⟩ : ByteArray)), ((⟨#[]⟩ : ByteArray)), zS, H', ⟨by first | omega | exact Nat.le_refl _⟩, ⟨zK BK153.out⟩, ⟨zK BK155.out⟩, ⟨zL HB.out⟩⟩
 case rest =>
  clear HC5
  try clear z10_0 z10_1 z10_2 z10_3 z10_4 z10_5 z10_6 z10_7 z10_8 z10_9
  try clear y10_0 y10_1 y10_2 y10_3 y10_4 y10_5 y10_6 y10_7 y10_8 y10_9
  obtain ⟨kq, x1_4, x154000_4, x154001_4, x154002_4, x154003_4, x154004_4, x154005_4, x154006_4, x154007_4, x154008_4, x156006_4, rfl, HA, HJ4, BK153, BK155, HB⟩ := hcut
  cases kq with
  | zero => exact absurd HA.out (by simp [parse_rule.j1])
  | succ kj4 =>
   have H := HA.out
   clear HA
   simp only [parse_rule.j1] at H
   replace H := Option.bind_eq_some_iff.mp H
   obtain ⟨⟨t160, t161, t162⟩, A230, H⟩ := H
   try dsimp only at H
   have A23 := ka A230
   clear A230
   by_cases c24 : t154.toList = ([] : List UInt8)
   ·rw [if_pos c24] at H
    have c24b0 := zb0 c24
    have c24b1 := zb1 c24
    clear c24
    replace H := zs11 H
    obtain ⟨rfl, rfl, rfl, rfl, rfl, rfl, rfl, rfl, rfl, rfl, rfl⟩ := H
    try go_wp2_with (first | ((with_reducible refine gate_callee (f := 67) rfl ?_); refine goesL_ (some 33) rfl rfl Tryd.func67 (by kernel_rfl) rfl #[.string x1_4, .string ⟨#[124]⟩] rfl zA ?_; (with_reducible refine (parse_sides.calls kj4 x1_4 (⟨#[124]⟩ : ByteArray) t160 t161 t162 _ A23.out).mono ?_); rintro e w25 ⟨rfl, hb⟩; refine ⟨_, rfl, ?_⟩; replace BK153 := ka (zB BK153.out hb); replace BK155 := ka (zB BK155.out hb); replace HB := ka (below_step (zL HB.out) hb); (try clear hb); (try clear hb2); (try clear hk); (try clear hi); have hnb26 := NB155_153.out; have hnc26 := NB153_155.out; obtain ⟨z27_0, z27_1, z27_2, z27_3, z27_4, z27_5, z27_6, z27_7, z27_8, z27_9, y27_0, y27_1, y27_2, y27_3, y27_4, y27_5, y27_6, y27_7, y27_8, y27_9⟩ := zC10 BK155.out))
    replace BK153 : Aside0 (((w25.setCell ⟨gb155, 7, none⟩ (.string t160)).setCell ⟨gb155, 8, none⟩ (.string t161)).heap[gb153]? = some (.cells #[.int .i64 x154000_4, .int .i64 x154001_4, .string x154002_4, .string x154003_4, .string x154004_4, .string x154005_4, .string x154006_4, .string x154007_4, .string x154008_4, .slice none 0 0] 45 (0, 0))) := ⟨zK BK153.out⟩
    replace BK155 : Aside0 (((w25.setCell ⟨gb155, 7, none⟩ (.string t160)).setCell ⟨gb155, 8, none⟩ (.string t161)).heap[gb155]? = some (.cells #[.int .i64 2, .int .i64 0, .string ⟨#[]⟩, .string ⟨#[]⟩, .string ⟨#[]⟩, .string t154, .string x156006_4, .string t160, .string t161, .slice none 0 0] 45 (0, 0))) := ⟨by (with_reducible repeat (first | refine blk_drewN ?_ _ | refine blk_drew ?_ | refine blk_alloc ?_ _)); refine blk_put (cs := #[.int .i64 2, .int .i64 0, .string ⟨#[]⟩, .string ⟨#[]⟩, .string ⟨#[]⟩, .string t154, .string x156006_4, .string t160, .string ⟨#[]⟩, .slice none 0 0]) ?_ 8 _ rfl; (with_reducible repeat (first | refine blk_drewN ?_ _ | refine blk_drew ?_ | refine blk_alloc ?_ _)); refine blk_put (cs := #[.int .i64 2, .int .i64 0, .string ⟨#[]⟩, .string ⟨#[]⟩, .string ⟨#[]⟩, .string t154, .string x156006_4, .string ⟨#[]⟩, .string ⟨#[]⟩, .slice none 0 0]) ?_ 7 _ rfl; (with_reducible repeat (first | refine blk_drewN ?_ _ | refine blk_drew ?_ | refine blk_alloc ?_ _)); exact BK155.out⟩
    replace HB : Aside0 (Below w.heap.size w ((w25.setCell ⟨gb155, 7, none⟩ (.string t160)).setCell ⟨gb155, 8, none⟩ (.string t161))) := ⟨zL HB.out⟩
    repeat rw [zDC]
    repeat rw [zDD]
    generalize ((w25.setCell ⟨gb155, 7, none⟩ (.string t160)).setCell ⟨gb155, 8, none⟩ (.string t161)) = w28 at BK153 BK155 HB ⊢
    replace BK153 := ka (blk_drew BK153.out)
    replace BK155 := ka (blk_drew BK155.out)
    replace HB := ka (below_drew1 HB.out)
    refine start_ (n := 15) (S := fun w' => w'.cell? ⟨gb155, 0, none⟩ = some (.int .i64 2) ∧ w'.cell? ⟨gb155, 1, none⟩ = some (.int .i64 0) ∧ w'.cell? ⟨gb155, 2, none⟩ = some (.string ⟨#[]⟩) ∧ w'.cell? ⟨gb155, 3, none⟩ = some (.string ⟨#[]⟩) ∧ w'.cell? ⟨gb155, 4, none⟩ = some (.string ⟨#[]⟩) ∧ w'.cell? ⟨gb155, 5, none⟩ = some (.string t154) ∧ w'.cell? ⟨gb155, 6, none⟩ = some (.string x156006_4) ∧ w'.cell? ⟨gb155, 7, none⟩ = some (.string t160) ∧ w'.cell? ⟨gb155, 8, none⟩ = some (.string t161) ∧ w'.cell? ⟨gb155, 9, none⟩ = some (.slice none 0 0)) (ds := []) #[false, false, false, false, false, false, false, false, false, false, false, false, false, false, false] (by kernel_rfl) rfl rfl ⟨zc BK155.out 0, zc BK155.out 1, zc BK155.out 2, zc BK155.out 3, zc BK155.out 4, zc BK155.out 5, zc BK155.out 6, zc BK155.out 7, zc BK155.out 8, zc BK155.out 9⟩ (fun hHeld => ?_); refine with_tabW parse_rule.tab9 parse_rule.bits9 (fun HT_ HW_ => ?_)
    generalize w28.drew = w29 at BK153 BK155 HB hHeld ⊢
    refine zpp 1 (N := some 40) HT_ (h := ?_)
    refine zpt 0 (N := some 39) HT_ HW_ hHeld (h := ?_)
    refine zpt 2 (N := some 41) HT_ HW_ hHeld (h := ?_)
    refine zpp 3 (N := some 42) HT_ (h := ?_)
    refine zpp 4 (N := some 43) HT_ (h := ?_)
    refine zpu 5 (N := some 44) HT_ (h := ?_)
    refine zpu 6 (N := some 45) HT_ (h := ?_)
    refine zpu 7 (N := some 46) HT_ (h := ?_)
    refine zpu 8 (N := some 47) HT_ (h := ?_)
    refine zpu 9 (N := some 48) HT_ (h := ?_)
    refine zpu 10 (N := some 49) HT_ (h := ?_)
    refine zpu 11 (N := some 50) HT_ (h := ?_)
    refine zpp 12 (N := some 51) HT_ (h := ?_)
    refine one_ (i := 13) (N := none) #[true, true, true, true, true, true, true, true, true, true, true, true, true, true, false] rfl rfl (one_of HT_.out (by kernel_rfl)) (by decide) (fun K hK => ?_)
    have hs30 : w29.cell? ⟨gb153, 0, none⟩ = some (.int .i64 x154000_4) := zc BK153.out 0
    have hfs30 := blk_frozen BK153.out 0
    have hns30_1 := NB155_153.out
    have hms30_1 := NB153_155.out
    have hs31 : w29.cell? ⟨gb153, 1, none⟩ = some (.int .i64 x154001_4) := zc BK153.out 1
    have hfs31 := blk_frozen BK153.out 1
    have hns31_1 := NB155_153.out
    have hms31_1 := NB153_155.out
    have hs32 : w29.cell? ⟨gb153, 2, none⟩ = some (.string x154002_4) := zc BK153.out 2
    have hfs32 := blk_frozen BK153.out 2
    have hns32_1 := NB155_153.out
    have hms32_1 := NB153_155.out
    have hs33 : w29.cell? ⟨gb153, 3, none⟩ = some (.string x154003_4) := zc BK153.out 3
    have hfs33 := blk_frozen BK153.out 3
    have hns33_1 := NB155_153.out
    have hms33_1 := NB153_155.out
    have hs34 : w29.cell? ⟨gb153, 4, none⟩ = some (.string x154004_4) := zc BK153.out 4
    have hfs34 := blk_frozen BK153.out 4
    have hns34_1 := NB155_153.out
    have hms34_1 := NB153_155.out
    have hs35 : w29.cell? ⟨gb153, 5, none⟩ = some (.string x154005_4) := zc BK153.out 5
    have hfs35 := blk_frozen BK153.out 5
    have hns35_1 := NB155_153.out
    have hms35_1 := NB153_155.out
    have hs36 : w29.cell? ⟨gb153, 6, none⟩ = some (.string x154006_4) := zc BK153.out 6
    have hfs36 := blk_frozen BK153.out 6
    have hns36_1 := NB155_153.out
    have hms36_1 := NB153_155.out
    have hs37 : w29.cell? ⟨gb153, 7, none⟩ = some (.string x154007_4) := zc BK153.out 7
    have hfs37 := blk_frozen BK153.out 7
    have hns37_1 := NB155_153.out
    have hms37_1 := NB153_155.out
    have hs38 : w29.cell? ⟨gb153, 8, none⟩ = some (.string x154008_4) := zc BK153.out 8
    have hfs38 := blk_frozen BK153.out 8
    have hns38_1 := NB155_153.out
    have hms38_1 := NB153_155.out
    have hs39 : w29.cell? ⟨gb153, 9, none⟩ = some (.slice none 0 0) := zc BK153.out 9
    have hfs39 := blk_frozen BK153.out 9
    have hns39_1 := NB155_153.out
    have hms39_1 := NB153_155.out
    refine skip_ (w1 := ?_) (by rfl) rfl ?_ ?_
    rotate_left
    ·go_simp
     rfl
    refine hK.out _ _ ⟨(zW NB155_153.out hHeld.1), (zW NB155_153.out hHeld.2.1), (zW NB155_153.out hHeld.2.2.1), (zW NB155_153.out hHeld.2.2.2.1), (zW NB155_153.out hHeld.2.2.2.2.1), (zW NB155_153.out hHeld.2.2.2.2.2.1), (zW NB155_153.out hHeld.2.2.2.2.2.2.1), (zW NB155_153.out hHeld.2.2.2.2.2.2.2.1), (zW NB155_153.out hHeld.2.2.2.2.2.2.2.2.1), (zW NB155_153.out hHeld.2.2.2.2.2.2.2.2.2)⟩ (fun hHeld => ?_)
    clear hK K
    refine zpp 14 (N := some 5) HT_ (h := ?_)
    refine done_ (done_of HT_.out (by kernel_rfl)) ?_
    try go_wp2
    refine bodyPost_ret (results_ct rfl _ _ gb153 45 #[.int .i64 2, .int .i64 0, .string ⟨#[]⟩, .string ⟨#[]⟩, .string ⟨#[]⟩, .string t154, .string x156006_4, .string t160, .string t161, .slice none 0 0] (0, 0) _ rfl (zP10 BK153.out) Tryd.underlying45 rfl (by kernel_rfl)) rfl ?_
    exact ⟨_, zE, zNl, zL HB.out⟩
   rw [if_neg c24] at H
   have c24b0 := zn0 c24
   have c24b1 := zn1 c24
   by_cases c40 : t162 = true
   ·subst c40
    rw [if_pos rfl] at H
    replace H := Option.bind_eq_some_iff.mp H
    obtain ⟨t163, A410, H⟩ := H
    try dsimp only at H
    have A41 := ka A410
    clear A410
    replace H := zs11 H
    obtain ⟨rfl, rfl, rfl, rfl, rfl, rfl, rfl, rfl, rfl, rfl, rfl⟩ := H
    try go_wp2_with (first | ((with_reducible refine gate_callee (f := 67) rfl ?_); refine goesL_ (some 33) rfl rfl Tryd.func67 (by kernel_rfl) rfl #[.string x1_4, .string ⟨#[124]⟩] rfl zA ?_; (with_reducible refine (parse_sides.calls kj4 x1_4 (⟨#[124]⟩ : ByteArray) t160 t161 true _ A23.out).mono ?_); rintro e w42 ⟨rfl, hb⟩; refine ⟨_, rfl, ?_⟩; replace BK153 := ka (zB BK153.out hb); replace BK155 := ka (zB BK155.out hb); replace HB := ka (below_step (zL HB.out) hb); (try clear hb); (try clear hb2); (try clear hk); (try clear hi); have hnb43 := NB155_153.out; have hnc43 := NB153_155.out; obtain ⟨z44_0, z44_1, z44_2, z44_3, z44_4, z44_5, z44_6, z44_7, z44_8, z44_9, y44_0, y44_1, y44_2, y44_3, y44_4, y44_5, y44_6, y44_7, y44_8, y44_9⟩ := zC10 BK155.out))
    replace BK153 : Aside0 (((w42.setCell ⟨gb155, 7, none⟩ (.string t160)).setCell ⟨gb155, 8, none⟩ (.string t161)).heap[gb153]? = some (.cells #[.int .i64 x154000_4, .int .i64 x154001_4, .string x154002_4, .string x154003_4, .string x154004_4, .string x154005_4, .string x154006_4, .string x154007_4, .string x154008_4, .slice none 0 0] 45 (0, 0))) := ⟨zK BK153.out⟩
    replace BK155 : Aside0 (((w42.setCell ⟨gb155, 7, none⟩ (.string t160)).setCell ⟨gb155, 8, none⟩ (.string t161)).heap[gb155]? = some (.cells #[.int .i64 2, .int .i64 0, .string ⟨#[]⟩, .string ⟨#[]⟩, .string ⟨#[]⟩, .string t154, .string x156006_4, .string t160, .string t161, .slice none 0 0] 45 (0, 0))) := ⟨by (with_reducible repeat (first | refine blk_drewN ?_ _ | refine blk_drew ?_ | refine blk_alloc ?_ _)); refine blk_put (cs := #[.int .i64 2, .int .i64 0, .string ⟨#[]⟩, .string ⟨#[]⟩, .string ⟨#[]⟩, .string t154, .string x156006_4, .string t160, .string ⟨#[]⟩, .slice none 0 0]) ?_ 8 _ rfl; (with_reducible repeat (first | refine blk_drewN ?_ _ | refine blk_drew ?_ | refine blk_alloc ?_ _)); refine blk_put (cs := #[.int .i64 2, .int .i64 0, .string ⟨#[]⟩, .string ⟨#[]⟩, .string ⟨#[]⟩, .string t154, .string x156006_4, .string ⟨#[]⟩, .string ⟨#[]⟩, .slice none 0 0]) ?_ 7 _ rfl; (with_reducible repeat (first | refine blk_drewN ?_ _ | refine blk_drew ?_ | refine blk_alloc ?_ _)); exact BK155.out⟩
    replace HB : Aside0 (Below w.heap.size w ((w42.setCell ⟨gb155, 7, none⟩ (.string t160)).setCell ⟨gb155, 8, none⟩ (.string t161))) := ⟨zL HB.out⟩
    repeat rw [zDC]
    repeat rw [zDD]
    generalize ((w42.setCell ⟨gb155, 7, none⟩ (.string t160)).setCell ⟨gb155, 8, none⟩ (.string t161)) = w45 at BK153 BK155 HB ⊢
    replace BK153 := ka (blk_drew BK153.out)
    replace BK155 := ka (blk_drew BK155.out)
    replace HB := ka (below_drew1 HB.out)
    refine start_ (n := 15) (S := fun w' => w'.cell? ⟨gb155, 0, none⟩ = some (.int .i64 2) ∧ w'.cell? ⟨gb155, 1, none⟩ = some (.int .i64 0) ∧ w'.cell? ⟨gb155, 2, none⟩ = some (.string ⟨#[]⟩) ∧ w'.cell? ⟨gb155, 3, none⟩ = some (.string ⟨#[]⟩) ∧ w'.cell? ⟨gb155, 4, none⟩ = some (.string ⟨#[]⟩) ∧ w'.cell? ⟨gb155, 5, none⟩ = some (.string t154) ∧ w'.cell? ⟨gb155, 6, none⟩ = some (.string x156006_4) ∧ w'.cell? ⟨gb155, 7, none⟩ = some (.string t160) ∧ w'.cell? ⟨gb155, 8, none⟩ = some (.string t161) ∧ w'.cell? ⟨gb155, 9, none⟩ = some (.slice none 0 0)) (ds := []) #[false, false, false, false, false, false, false, false, false, false, false, false, false, false, false] (by kernel_rfl) rfl rfl ⟨zc BK155.out 0, zc BK155.out 1, zc BK155.out 2, zc BK155.out 3, zc BK155.out 4, zc BK155.out 5, zc BK155.out 6, zc BK155.out 7, zc BK155.out 8, zc BK155.out 9⟩ (fun hHeld => ?_); refine with_tabW parse_rule.tab9 parse_rule.bits9 (fun HT_ HW_ => ?_)
    generalize w45.drew = w46 at BK153 BK155 HB hHeld ⊢
    refine zpp 1 (N := some 40) HT_ (h := ?_)
    refine zpt 0 (N := some 39) HT_ HW_ hHeld (h := ?_)
    refine zpt 2 (N := some 41) HT_ HW_ hHeld (h := ?_)
    refine zpp 3 (N := some 42) HT_ (h := ?_)
    refine zpp 4 (N := some 43) HT_ (h := ?_)
    refine zpp 5 (N := some 44) HT_ (h := ?_)
    refine zpp 6 (N := some 45) HT_ (h := ?_)
    refine zpp 7 (N := some 46) HT_ (h := ?_)
    refine zpt 8 (N := some 47) HT_ HW_ hHeld (h := ?_)
    refine one_ (i := 9) (N := some 48) #[true, true, true, true, true, true, true, true, true, true, false, false, false, false, false] rfl rfl (one_of HT_.out (by kernel_rfl)) (by decide) (fun K hK => ?_)
    refine goes_ Tryd.func68 (by kernel_rfl) rfl #[.string t161, .string ⟨#[124]⟩] (by rfl) rfl rfl zA ?_
    with_reducible refine (parse_has.calls kj4 t161 (⟨#[124]⟩ : ByteArray) t163 _ A41.out).mono ?_
    rintro e w47 ⟨rfl, hb⟩
    refine ⟨_, rfl, ?_⟩
    replace BK153 := ka (zB BK153.out hb)
    replace BK155 := ka (zB BK155.out hb)
    replace HB := ka (below_step (zL HB.out) hb)
    (try clear hb)
    (try clear hb2)
    (try clear hk)
    (try clear hi)
    refine hK.out _ _ ⟨zc BK155.out 0, zc BK155.out 1, zc BK155.out 2, zc BK155.out 3, zc BK155.out 4, zc BK155.out 5, zc BK155.out 6, zc BK155.out 7, zc BK155.out 8, zc BK155.out 9⟩ (fun hHeld => ?_)
    clear hK K
    refine znm (N := some 48) (h := ?_)
    refine zpp 10 (N := some 49) HT_ (h := ?_)
    refine zpp 11 (N := some 50) HT_ (h := ?_)
    refine zpp 12 (N := some 51) HT_ (h := ?_)
    refine one_ (i := 13) (N := none) #[true, true, true, true, true, true, true, true, true, true, true, true, true, true, false] rfl rfl (one_of HT_.out (by kernel_rfl)) (by decide) (fun K hK => ?_)
    have hs48 : w47.cell? ⟨gb153, 0, none⟩ = some (.int .i64 x154000_4) := zc BK153.out 0
    have hfs48 := blk_frozen BK153.out 0
    have hns48_1 := NB155_153.out
    have hms48_1 := NB153_155.out
    have hs49 : w47.cell? ⟨gb153, 1, none⟩ = some (.int .i64 x154001_4) := zc BK153.out 1
    have hfs49 := blk_frozen BK153.out 1
    have hns49_1 := NB155_153.out
    have hms49_1 := NB153_155.out
    have hs50 : w47.cell? ⟨gb153, 2, none⟩ = some (.string x154002_4) := zc BK153.out 2
    have hfs50 := blk_frozen BK153.out 2
    have hns50_1 := NB155_153.out
    have hms50_1 := NB153_155.out
    have hs51 : w47.cell? ⟨gb153, 3, none⟩ = some (.string x154003_4) := zc BK153.out 3
    have hfs51 := blk_frozen BK153.out 3
    have hns51_1 := NB155_153.out
    have hms51_1 := NB153_155.out
    have hs52 : w47.cell? ⟨gb153, 4, none⟩ = some (.string x154004_4) := zc BK153.out 4
    have hfs52 := blk_frozen BK153.out 4
    have hns52_1 := NB155_153.out
    have hms52_1 := NB153_155.out
    have hs53 : w47.cell? ⟨gb153, 5, none⟩ = some (.string x154005_4) := zc BK153.out 5
    have hfs53 := blk_frozen BK153.out 5
    have hns53_1 := NB155_153.out
    have hms53_1 := NB153_155.out
    have hs54 : w47.cell? ⟨gb153, 6, none⟩ = some (.string x154006_4) := zc BK153.out 6
    have hfs54 := blk_frozen BK153.out 6
    have hns54_1 := NB155_153.out
    have hms54_1 := NB153_155.out
    have hs55 : w47.cell? ⟨gb153, 7, none⟩ = some (.string x154007_4) := zc BK153.out 7
    have hfs55 := blk_frozen BK153.out 7
    have hns55_1 := NB155_153.out
    have hms55_1 := NB153_155.out
    have hs56 : w47.cell? ⟨gb153, 8, none⟩ = some (.string x154008_4) := zc BK153.out 8
    have hfs56 := blk_frozen BK153.out 8
    have hns56_1 := NB155_153.out
    have hms56_1 := NB153_155.out
    have hs57 : w47.cell? ⟨gb153, 9, none⟩ = some (.slice none 0 0) := zc BK153.out 9
    have hfs57 := blk_frozen BK153.out 9
    have hns57_1 := NB155_153.out
    have hms57_1 := NB153_155.out
    refine skip_ (w1 := ?_) (by rfl) rfl ?_ ?_
    rotate_left
    ·go_simp
     rfl
    refine hK.out _ _ ⟨(zW NB155_153.out hHeld.1), (zW NB155_153.out hHeld.2.1), (zW NB155_153.out hHeld.2.2.1), (zW NB155_153.out hHeld.2.2.2.1), (zW NB155_153.out hHeld.2.2.2.2.1), (zW NB155_153.out hHeld.2.2.2.2.2.1), (zW NB155_153.out hHeld.2.2.2.2.2.2.1), (zW NB155_153.out hHeld.2.2.2.2.2.2.2.1), (zW NB155_153.out hHeld.2.2.2.2.2.2.2.2.1), (zW NB155_153.out hHeld.2.2.2.2.2.2.2.2.2)⟩ (fun hHeld => ?_)
    clear hK K
    refine zpp 14 (N := some 5) HT_ (h := ?_)
    refine done_ (done_of HT_.out (by kernel_rfl)) ?_
    try go_wp2
    refine bodyPost_ret (results_ct rfl _ _ gb153 45 #[.int .i64 2, .int .i64 0, .string ⟨#[]⟩, .string ⟨#[]⟩, .string ⟨#[]⟩, .string t154, .string x156006_4, .string t160, .string t161, .slice none 0 0] (0, 0) _ rfl (zP10 BK153.out) Tryd.underlying45 rfl (by kernel_rfl)) rfl ?_
    exact ⟨_, zE, zNl, zL HB.out⟩
   replace c40 := Bool.eq_false_iff.mpr c40
   subst c40
   rw [if_neg (show ¬ (false = true) by decide)] at H
   replace H := zs11 H
   obtain ⟨rfl, rfl, rfl, rfl, rfl, rfl, rfl, rfl, rfl, rfl, rfl⟩ := H
   try go_wp2_with (first | ((with_reducible refine gate_callee (f := 67) rfl ?_); refine goesL_ (some 33) rfl rfl Tryd.func67 (by kernel_rfl) rfl #[.string x1_4, .string ⟨#[124]⟩] rfl zA ?_; (with_reducible refine (parse_sides.calls kj4 x1_4 (⟨#[124]⟩ : ByteArray) t160 t161 false _ A23.out).mono ?_); rintro e w58 ⟨rfl, hb⟩; refine ⟨_, rfl, ?_⟩; replace BK153 := ka (zB BK153.out hb); replace BK155 := ka (zB BK155.out hb); replace HB := ka (below_step (zL HB.out) hb); (try clear hb); (try clear hb2); (try clear hk); (try clear hi); have hnb59 := NB155_153.out; have hnc59 := NB153_155.out; obtain ⟨z60_0, z60_1, z60_2, z60_3, z60_4, z60_5, z60_6, z60_7, z60_8, z60_9, y60_0, y60_1, y60_2, y60_3, y60_4, y60_5, y60_6, y60_7, y60_8, y60_9⟩ := zC10 BK155.out))
   replace BK153 : Aside0 (((w58.setCell ⟨gb155, 7, none⟩ (.string t160)).setCell ⟨gb155, 8, none⟩ (.string t161)).heap[gb153]? = some (.cells #[.int .i64 x154000_4, .int .i64 x154001_4, .string x154002_4, .string x154003_4, .string x154004_4, .string x154005_4, .string x154006_4, .string x154007_4, .string x154008_4, .slice none 0 0] 45 (0, 0))) := ⟨zK BK153.out⟩
   replace BK155 : Aside0 (((w58.setCell ⟨gb155, 7, none⟩ (.string t160)).setCell ⟨gb155, 8, none⟩ (.string t161)).heap[gb155]? = some (.cells #[.int .i64 2, .int .i64 0, .string ⟨#[]⟩, .string ⟨#[]⟩, .string ⟨#[]⟩, .string t154, .string x156006_4, .string t160, .string t161, .slice none 0 0] 45 (0, 0))) := ⟨by (with_reducible repeat (first | refine blk_drewN ?_ _ | refine blk_drew ?_ | refine blk_alloc ?_ _)); refine blk_put (cs := #[.int .i64 2, .int .i64 0, .string ⟨#[]⟩, .string ⟨#[]⟩, .string ⟨#[]⟩, .string t154, .string x156006_4, .string t160, .string ⟨#[]⟩, .slice none 0 0]) ?_ 8 _ rfl; (with_reducible repeat (first | refine blk_drewN ?_ _ | refine blk_drew ?_ | refine blk_alloc ?_ _)); refine blk_put (cs := #[.int .i64 2, .int .i64 0, .string ⟨#[]⟩, .string ⟨#[]⟩, .string ⟨#[]⟩, .string t154, .string x156006_4, .string ⟨#[]⟩, .string ⟨#[]⟩, .slice none 0 0]) ?_ 7 _ rfl; (with_reducible repeat (first | refine blk_drewN ?_ _ | refine blk_drew ?_ | refine blk_alloc ?_ _)); exact BK155.out⟩
   replace HB : Aside0 (Below w.heap.size w ((w58.setCell ⟨gb155, 7, none⟩ (.string t160)).setCell ⟨gb155, 8, none⟩ (.string t161))) := ⟨zL HB.out⟩
   repeat rw [zDC]
   repeat rw [zDD]
   generalize ((w58.setCell ⟨gb155, 7, none⟩ (.string t160)).setCell ⟨gb155, 8, none⟩ (.string t161)) = w61 at BK153 BK155 HB ⊢
   replace BK153 := ka (blk_drew BK153.out)
   replace BK155 := ka (blk_drew BK155.out)
   replace HB := ka (below_drew1 HB.out)
   refine start_ (n := 15) (S := fun w' => w'.cell? ⟨gb155, 0, none⟩ = some (.int .i64 2) ∧ w'.cell? ⟨gb155, 1, none⟩ = some (.int .i64 0) ∧ w'.cell? ⟨gb155, 2, none⟩ = some (.string ⟨#[]⟩) ∧ w'.cell? ⟨gb155, 3, none⟩ = some (.string ⟨#[]⟩) ∧ w'.cell? ⟨gb155, 4, none⟩ = some (.string ⟨#[]⟩) ∧ w'.cell? ⟨gb155, 5, none⟩ = some (.string t154) ∧ w'.cell? ⟨gb155, 6, none⟩ = some (.string x156006_4) ∧ w'.cell? ⟨gb155, 7, none⟩ = some (.string t160) ∧ w'.cell? ⟨gb155, 8, none⟩ = some (.string t161) ∧ w'.cell? ⟨gb155, 9, none⟩ = some (.slice none 0 0)) (ds := []) #[false, false, false, false, false, false, false, false, false, false, false, false, false, false, false] (by kernel_rfl) rfl rfl ⟨zc BK155.out 0, zc BK155.out 1, zc BK155.out 2, zc BK155.out 3, zc BK155.out 4, zc BK155.out 5, zc BK155.out 6, zc BK155.out 7, zc BK155.out 8, zc BK155.out 9⟩ (fun hHeld => ?_); refine with_tabW parse_rule.tab9 parse_rule.bits9 (fun HT_ HW_ => ?_)
   generalize w61.drew = w62 at BK153 BK155 HB hHeld ⊢
   refine zpp 1 (N := some 40) HT_ (h := ?_)
   refine zpt 0 (N := some 39) HT_ HW_ hHeld (h := ?_)
   refine zpt 2 (N := some 41) HT_ HW_ hHeld (h := ?_)
   refine zpp 3 (N := some 42) HT_ (h := ?_)
   refine zpp 4 (N := some 43) HT_ (h := ?_)
   refine zpp 5 (N := some 44) HT_ (h := ?_)
   refine zpp 6 (N := some 45) HT_ (h := ?_)
   refine zpu 7 (N := some 46) HT_ (h := ?_)
   refine zpu 8 (N := some 47) HT_ (h := ?_)
   refine zpu 9 (N := some 48) HT_ (h := ?_)
   refine zpp 10 (N := some 49) HT_ (h := ?_)
   refine zpp 11 (N := some 50) HT_ (h := ?_)
   refine zpp 12 (N := some 51) HT_ (h := ?_)
   refine one_ (i := 13) (N := none) #[true, true, true, true, true, true, true, true, true, true, true, true, true, true, false] rfl rfl (one_of HT_.out (by kernel_rfl)) (by decide) (fun K hK => ?_)
   have hs63 : w62.cell? ⟨gb153, 0, none⟩ = some (.int .i64 x154000_4) := zc BK153.out 0
   have hfs63 := blk_frozen BK153.out 0
   have hns63_1 := NB155_153.out
   have hms63_1 := NB153_155.out
   have hs64 : w62.cell? ⟨gb153, 1, none⟩ = some (.int .i64 x154001_4) := zc BK153.out 1
   have hfs64 := blk_frozen BK153.out 1
   have hns64_1 := NB155_153.out
   have hms64_1 := NB153_155.out
   have hs65 : w62.cell? ⟨gb153, 2, none⟩ = some (.string x154002_4) := zc BK153.out 2
   have hfs65 := blk_frozen BK153.out 2
   have hns65_1 := NB155_153.out
   have hms65_1 := NB153_155.out
   have hs66 : w62.cell? ⟨gb153, 3, none⟩ = some (.string x154003_4) := zc BK153.out 3
   have hfs66 := blk_frozen BK153.out 3
   have hns66_1 := NB155_153.out
   have hms66_1 := NB153_155.out
   have hs67 : w62.cell? ⟨gb153, 4, none⟩ = some (.string x154004_4) := zc BK153.out 4
   have hfs67 := blk_frozen BK153.out 4
   have hns67_1 := NB155_153.out
   have hms67_1 := NB153_155.out
   have hs68 : w62.cell? ⟨gb153, 5, none⟩ = some (.string x154005_4) := zc BK153.out 5
   have hfs68 := blk_frozen BK153.out 5
   have hns68_1 := NB155_153.out
   have hms68_1 := NB153_155.out
   have hs69 : w62.cell? ⟨gb153, 6, none⟩ = some (.string x154006_4) := zc BK153.out 6
   have hfs69 := blk_frozen BK153.out 6
   have hns69_1 := NB155_153.out
   have hms69_1 := NB153_155.out
   have hs70 : w62.cell? ⟨gb153, 7, none⟩ = some (.string x154007_4) := zc BK153.out 7
   have hfs70 := blk_frozen BK153.out 7
   have hns70_1 := NB155_153.out
   have hms70_1 := NB153_155.out
   have hs71 : w62.cell? ⟨gb153, 8, none⟩ = some (.string x154008_4) := zc BK153.out 8
   have hfs71 := blk_frozen BK153.out 8
   have hns71_1 := NB155_153.out
   have hms71_1 := NB153_155.out
   have hs72 : w62.cell? ⟨gb153, 9, none⟩ = some (.slice none 0 0) := zc BK153.out 9
   have hfs72 := blk_frozen BK153.out 9
   have hns72_1 := NB155_153.out
   have hms72_1 := NB153_155.out
   refine skip_ (w1 := ?_) (by rfl) rfl ?_ ?_
   rotate_left
   ·go_simp
    rfl
   refine hK.out _ _ ⟨(zW NB155_153.out hHeld.1), (zW NB155_153.out hHeld.2.1), (zW NB155_153.out hHeld.2.2.1), (zW NB155_153.out hHeld.2.2.2.1), (zW NB155_153.out hHeld.2.2.2.2.1), (zW NB155_153.out hHeld.2.2.2.2.2.1), (zW NB155_153.out hHeld.2.2.2.2.2.2.1), (zW NB155_153.out hHeld.2.2.2.2.2.2.2.1), (zW NB155_153.out hHeld.2.2.2.2.2.2.2.2.1), (zW NB155_153.out hHeld.2.2.2.2.2.2.2.2.2)⟩ (fun hHeld => ?_)
   clear hK K
   refine zpp 14 (N := some 5) HT_ (h := ?_)
   refine done_ (done_of HT_.out (by kernel_rfl)) ?_
   try go_wp2
   refine bodyPost_ret (results_ct rfl _ _ gb153 45 #[.int .i64 2, .int .i64 0, .string ⟨#[]⟩, .string ⟨#[]⟩, .string ⟨#[]⟩, .string t154, .string x156006_4, .string t160, .string t161, .slice none 0 0] (0, 0) _ rfl (zP10 BK153.out) Tryd.underlying45 rfl (by kernel_rfl)) rfl ?_
   exact ⟨_, zE, zNl, zL HB.out⟩

end Go.Proofs.YthnholondnfjoaaDoor.PParse
