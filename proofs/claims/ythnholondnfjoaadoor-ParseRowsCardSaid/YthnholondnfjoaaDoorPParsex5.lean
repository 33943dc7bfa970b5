-- Written by a program of this session (wip/tools/ext.py, over the kit's printer); not trusted: Lean checks it.
import Derived.Test.YthnholondnfjoaaDoorPParsex0
import Derived.Test.YthnholondnfjoaaDoorPParsex3
import Derived.Test.YthnholondnfjoaaDoorPParsex4
namespace Go.Proofs.YthnholondnfjoaaDoor.PParse
open Go.RowKit Go.Proofs.YthnholondnfjoaaDoorW.PrintWords Go.Proofs.YthnholondnfjoaaDoorW.PrintLast Go.Proofs.YthnholondnfjoaaDoorW.PrintMore
attribute [local go_sem] max2_int min2_int max_two min_two max_three min_three max_four min_four   -- for this text's walks alone
set_option linter.unusedVariables false
set_option linter.unusedSimpArgs false

/-! ### parse_rule: function 45 -/
def parse_rule.j0 : Nat → ByteArray → Bool → Int → Int → ByteArray → ByteArray → ByteArray → ByteArray → ByteArray → ByteArray → ByteArray → Option (Int × Int × ByteArray × ByteArray × ByteArray × ByteArray × ByteArray × ByteArray × ByteArray × List ByteArray × Bool)
 | 0, _, _, _, _, _, _, _, _, _, _, _ => none
 | k + 1, x1, x29, x156000, x156001, x156002, x156003, x156004, x156005, x156006, x156007, x156008 => if x29 = true then (some (x156000, x156001, x156002, x156003, x156004, x156005, x156006, x156007, x156008, ([] : List ByteArray), false)) else ((parse_sides.f k x1 (⟨#[124]⟩ : ByteArray)).bind fun bt160 => (if x156005.toList = ([] : List UInt8) then (some (x156000, x156001, x156002, x156003, x156004, x156005, x156006, bt160.1, bt160.2.1, ([] : List ByteArray), false)) else (if bt160.2.2 = true then ((parse_has.f k bt160.2.1 (⟨#[124]⟩ : ByteArray)).bind fun t163 => (some (x156000, x156001, x156002, x156003, x156004, x156005, x156006, bt160.1, bt160.2.1, ([] : List ByteArray), !t163))) else (some (x156000, x156001, x156002, x156003, x156004, x156005, x156006, bt160.1, bt160.2.1, ([] : List ByteArray), !false)))))
def parse_rule.f (k : Nat) (a0 : ByteArray) (a1 : ByteArray) : Option (Int × Int × ByteArray × ByteArray × ByteArray × ByteArray × ByteArray × ByteArray × ByteArray × List ByteArray × Bool) := (text_Trim.f a0).bind fun t154 => ((parse_sides.f k a1 (⟨#[58]⟩ : ByteArray)).bind fun bt156 => (if bt156.2.2 = true then (if bt156.1.toList = ([] : List UInt8) then (parse_rule.j0 k bt156.2.1 true 2 0 (⟨#[]⟩ : ByteArray) (⟨#[]⟩ : ByteArray) (⟨#[]⟩ : ByteArray) t154 bt156.1 (⟨#[]⟩ : ByteArray) (⟨#[]⟩ : ByteArray)) else ((parse_has.f k bt156.2.1 (⟨#[58]⟩ : ByteArray)).bind fun t159 => (parse_rule.j0 k bt156.2.1 t159 2 0 (⟨#[]⟩ : ByteArray) (⟨#[]⟩ : ByteArray) (⟨#[]⟩ : ByteArray) t154 bt156.1 (⟨#[]⟩ : ByteArray) (⟨#[]⟩ : ByteArray)))) else ((parse_sides.f k a1 (⟨#[124]⟩ : ByteArray)).bind fun bt164 => (if t154.toList = ([] : List UInt8) then (some (2, 0, (⟨#[]⟩ : ByteArray), (⟨#[]⟩ : ByteArray), (⟨#[]⟩ : ByteArray), t154, (⟨#[]⟩ : ByteArray), bt164.1, bt164.2.1, ([] : List ByteArray), false)) else (if bt164.2.2 = true then ((parse_has.f k bt164.2.1 (⟨#[124]⟩ : ByteArray)).bind fun t167 => (some (2, 0, (⟨#[]⟩ : ByteArray), (⟨#[]⟩ : ByteArray), (⟨#[]⟩ : ByteArray), t154, (⟨#[]⟩ : ByteArray), bt164.1, bt164.2.1, ([] : List ByteArray), !t167))) else (some (2, 0, (⟨#[]⟩ : ByteArray), (⟨#[]⟩ : ByteArray), (⟨#[]⟩ : ByteArray), t154, (⟨#[]⟩ : ByteArray), bt164.1, bt164.2.1, ([] : List ByteArray), !false)))))))
theorem parse_rule.mono_l : ∀ k, (∀ y0 y1 y2 y3 y4 y5 y6 y7 y8 y9 y10, LeO (parse_rule.j0 k y0 y1 y2 y3 y4 y5 y6 y7 y8 y9 y10) (parse_rule.j0 (k + 1) y0 y1 y2 y3 y4 y5 y6 y7 y8 y9 y10))
 | 0 => fun _ _ _ _ _ _ _ _ _ _ _ r h => by simp [parse_rule.j0] at h
 | k + 1 => by
  have ih0 := parse_rule.mono_l k
  ·intro y0 y1 y2 y3 y4 y5 y6 y7 y8 y9 y10
   unfold parse_rule.j0
   repeat' first
   | (with_reducible exact ih0 _ _ _ _ _ _ _ _ _ _ _)
   | (with_reducible exact parse_has.mono _ _ _)
   | (with_reducible exact parse_sides.mono _ _ _)
   | (with_reducible exact LeO.refl _)
   | (with_reducible exact LeO.none _)
   | (with_reducible refine LeO.ite ?_ ?_)
   | (with_reducible refine LeO.bind ?_ (fun _ => ?_))
   | exact ih0 _ _ _ _ _ _ _ _ _ _ _
   | exact parse_has.mono _ _ _
   | exact parse_sides.mono _ _ _
   | exact LeO.none _
   | refine LeO.ite ?_ ?_
   | refine LeO.bind ?_ (fun _ => ?_)
theorem parse_rule.mono : ∀ a0 a1 k, LeO (parse_rule.f k a0 a1) (parse_rule.f (k + 1) a0 a1) := by
 intro a0 a1 k
 have ih0 := parse_rule.mono_l k
 unfold parse_rule.f
 repeat' first
   | (with_reducible exact ih0 _ _ _ _ _ _ _ _ _ _ _)
   | (with_reducible exact parse_has.mono _ _ _)
   | (with_reducible exact parse_sides.mono _ _ _)
   | (with_reducible exact LeO.refl _)
   | (with_reducible exact LeO.none _)
   | (with_reducible refine LeO.ite ?_ ?_)
   | (with_reducible refine LeO.bind ?_ (fun _ => ?_))
   | exact ih0 _ _ _ _ _ _ _ _ _ _ _
   | exact parse_has.mono _ _ _
   | exact parse_sides.mono _ _ _
   | exact LeO.none _
   | refine LeO.ite ?_ ?_
   | refine LeO.bind ?_ (fun _ => ?_)
def parse_rule.T9 : Bool × List (List Nat × List Nat) := (true, [([], []), ([], []), ([1], [1]), ([2], [2]), ([3], [3]), ([4], [4]), ([5, 4, 4], [4, 5]), ([6], [6]), ([7, 6], [6, 7]), ([8, 6, 6], [6, 8]), ([6, 9, 4], [4, 6, 9]), ([10, 4], [4, 10]), ([4, 11], [4, 11]), ([0, 9, 0], [0]), ([12, 13, 0, 1, 2, 3, 4, 5, 6, 7, 8, 9, 10, 11, 12, 13], [12])])
def parse_rule.B9 : List Nat := [0, 0, 2, 6, 14, 30, 62, 126, 254, 510, 1022, 2046, 4094, 1023, 16383]
theorem parse_rule.tab9 : rtab .any (opsOf Tryd.f45 9) = parse_rule.T9 := by kernel_rfl
theorem parse_rule.bits9 : waitsOk parse_rule.T9.2 parse_rule.B9 = true := by kernel_rfl
set_option maxHeartbeats 8000000 in
set_option maxRecDepth 100000 in
theorem parse_rule.calls (k : Nat) (a0 : ByteArray) (a1 : ByteArray) (r1 : Int) (r2 : Int) (r3 : ByteArray) (r4 : ByteArray) (r5 : ByteArray) (r6 : ByteArray) (r7 : ByteArray) (r8 : ByteArray) (r9 : ByteArray) (r10 : List ByteArray) (r11 : Bool) (w : World) (h : parse_rule.f k a0 a1 = some (r1, r2, r3, r4, r5, r6, r7, r8, r9, r10, r11)) :
  Calls Tryd.prog 45 #[.string a0, .string a1] w fun e w' => ∃ v9_ : Value, e = .returned (.tuple #[.agg #[.int .i64 r1, .int .i64 r2, .string r3, .string r4, .string r5, .string r6, .string r7, .string r8, .string r9, v9_], .bool r11]) ∧ Kd.R Kd.string 9 w' w.heap.size (fun _ => True) v9_ r10 ∧ Below w.heap.size w w' := by
 have hu45 := Tryd.underlying45
 have HB := Aside0.mk (Below.refl w.heap.size w)
 have H : ((text_Trim.f a0).bind fun t154 => ((parse_sides.f k a1 (⟨#[58]⟩ : ByteArray)).bind fun bt156 => (if bt156.2.2 = true then (if bt156.1.toList = ([] : List UInt8) then (parse_rule.j0 k bt156.2.1 true 2 0 (⟨#[]⟩ : ByteArray) (⟨#[]⟩ : ByteArray) (⟨#[]⟩ : ByteArray) t154 bt156.1 (⟨#[]⟩ : ByteArray) (⟨#[]⟩ : ByteArray)) else ((parse_has.f k bt156.2.1 (⟨#[58]⟩ : ByteArray)).bind fun t159 => (parse_rule.j0 k bt156.2.1 t159 2 0 (⟨#[]⟩ : ByteArray) (⟨#[]⟩ : ByteArray) (⟨#[]⟩ : ByteArray) t154 bt156.1 (⟨#[]⟩ : ByteArray) (⟨#[]⟩ : ByteArray)))) else ((parse_sides.f k a1 (⟨#[124]⟩ : ByteArray)).bind fun bt164 => (if t154.toList = ([] : List UInt8) then (some (2, 0, (⟨#[]⟩ : ByteArray), (⟨#[]⟩ : ByteArray), (⟨#[]⟩ : ByteArray), t154, (⟨#[]⟩ : ByteArray), bt164.1, bt164.2.1, ([] : List ByteArray), false)) else (if bt164.2.2 = true then ((parse_has.f k bt164.2.1 (⟨#[124]⟩ : ByteArray)).bind fun t167 => (some (2, 0, (⟨#[]⟩ : ByteArray), (⟨#[]⟩ : ByteArray), (⟨#[]⟩ : ByteArray), t154, (⟨#[]⟩ : ByteArray), bt164.1, bt164.2.1, ([] : List ByteArray), !t167))) else (some (2, 0, (⟨#[]⟩ : ByteArray), (⟨#[]⟩ : ByteArray), (⟨#[]⟩ : ByteArray), t154, (⟨#[]⟩ : ByteArray), bt164.1, bt164.2.1, ([] : List ByteArray), !false)))))))) = some (r1, r2, r3, r4, r5, r6, r7, r8, r9, r10, r11) := h
 clear h
 replace H := Option.bind_eq_some_iff.mp H
 obtain ⟨t154, A30, H⟩ := H
 replace H : ((parse_sides.f k a1 (⟨#[58]⟩ : ByteArray)).bind fun bt156 => (if bt156.2.2 = true then (if bt156.1.toList = ([] : List UInt8) then (parse_rule.j0 k bt156.2.1 true 2 0 (⟨#[]⟩ : ByteArray) (⟨#[]⟩ : ByteArray) (⟨#[]⟩ : ByteArray) t154 bt156.1 (⟨#[]⟩ : ByteArray) (⟨#[]⟩ : ByteArray)) else ((parse_has.f k bt156.2.1 (⟨#[58]⟩ : ByteArray)).bind fun t159 => (parse_rule.j0 k bt156.2.1 t159 2 0 (⟨#[]⟩ : ByteArray) (⟨#[]⟩ : ByteArray) (⟨#[]⟩ : ByteArray) t154 bt156.1 (⟨#[]⟩ : ByteArray) (⟨#[]⟩ : ByteArray)))) else ((parse_sides.f k a1 (⟨#[124]⟩ : ByteArray)).bind fun bt164 => (if t154.toList = ([] : List UInt8) then (some (2, 0, (⟨#[]⟩ : ByteArray), (⟨#[]⟩ : ByteArray), (⟨#[]⟩ : ByteArray), t154, (⟨#[]⟩ : ByteArray), bt164.1, bt164.2.1, ([] : List ByteArray), false)) else (if bt164.2.2 = true then ((parse_has.f k bt164.2.1 (⟨#[124]⟩ : ByteArray)).bind fun t167 => (some (2, 0, (⟨#[]⟩ : ByteArray), (⟨#[]⟩ : ByteArray), (⟨#[]⟩ : ByteArray), t154, (⟨#[]⟩ : ByteArray), bt164.1, bt164.2.1, ([] : List ByteArray), !t167))) else (some (2, 0, (⟨#[]⟩ : ByteArray), (⟨#[]⟩ : ByteArray), (⟨#[]⟩ : ByteArray), t154, (⟨#[]⟩ : ByteArray), bt164.1, bt164.2.1, ([] : List ByteArray), !false))))))) = some (r1, r2, r3, r4, r5, r6, r7, r8, r9, r10, r11) := H
 have A3 := Aside0.mk A30
 clear A30
 replace H := Option.bind_eq_some_iff.mp H
 obtain ⟨⟨t156, t157, t158⟩, A40, H⟩ := H
 replace H : (if t158 = true then (if t156.toList = ([] : List UInt8) then (parse_rule.j0 k t157 true 2 0 (⟨#[]⟩ : ByteArray) (⟨#[]⟩ : ByteArray) (⟨#[]⟩ : ByteArray) t154 t156 (⟨#[]⟩ : ByteArray) (⟨#[]⟩ : ByteArray)) else ((parse_has.f k t157 (⟨#[58]⟩ : ByteArray)).bind fun t159 => (parse_rule.j0 k t157 t159 2 0 (⟨#[]⟩ : ByteArray) (⟨#[]⟩ : ByteArray) (⟨#[]⟩ : ByteArray) t154 t156 (⟨#[]⟩ : ByteArray) (⟨#[]⟩ : ByteArray)))) else ((parse_sides.f k a1 (⟨#[124]⟩ : ByteArray)).bind fun bt164 => (if t154.toList = ([] : List UInt8) then (some (2, 0, (⟨#[]⟩ : ByteArray), (⟨#[]⟩ : ByteArray), (⟨#[]⟩ : ByteArray), t154, (⟨#[]⟩ : ByteArray), bt164.1, bt164.2.1, ([] : List ByteArray), false)) else (if bt164.2.2 = true then ((parse_has.f k bt164.2.1 (⟨#[124]⟩ : ByteArray)).bind fun t167 => (some (2, 0, (⟨#[]⟩ : ByteArray), (⟨#[]⟩ : ByteArray), (⟨#[]⟩ : ByteArray), t154, (⟨#[]⟩ : ByteArray), bt164.1, bt164.2.1, ([] : List ByteArray), !t167))) else (some (2, 0, (⟨#[]⟩ : ByteArray), (⟨#[]⟩ : ByteArray), (⟨#[]⟩ : ByteArray), t154, (⟨#[]⟩ : ByteArray), bt164.1, bt164.2.1, ([] : List ByteArray), !false)))))) = some (r1, r2, r3, r4, r5, r6, r7, r8, r9, r10, r11) := H
 have A4 := Aside0.mk A40
 clear A40
 by_cases c5 : t158 = true
 ·subst c5
  have H1 : (if t156.toList = ([] : List UInt8) then (parse_rule.j0 k t157 true 2 0 (⟨#[]⟩ : ByteArray) (⟨#[]⟩ : ByteArray) (⟨#[]⟩ : ByteArray) t154 t156 (⟨#[]⟩ : ByteArray) (⟨#[]⟩ : ByteArray)) else ((parse_has.f k t157 (⟨#[58]⟩ : ByteArray)).bind fun t159 => (parse_rule.j0 k t157 t159 2 0 (⟨#[]⟩ : ByteArray) (⟨#[]⟩ : ByteArray) (⟨#[]⟩ : ByteArray) t154 t156 (⟨#[]⟩ : ByteArray) (⟨#[]⟩ : ByteArray)))) = some (r1, r2, r3, r4, r5, r6, r7, r8, r9, r10, r11) := by rw [if_pos rfl] at H; exact H
  clear H
  have H := H1
  clear H1
  have HC6 := Aside0.mk H
  clear H
  go_enter Tryd.func45, Tryd.ntmps45
  go_upto_region 5 with (first | ((with_reducible refine gate_dst (N := 4) rfl ?_); refine box_event ?hg (N := 4) ?hd (cs := #[.int .i64 0, .int .i64 0, .string (⟨#[]⟩ : ByteArray), .string (⟨#[]⟩ : ByteArray), .string (⟨#[]⟩ : ByteArray), .string (⟨#[]⟩ : ByteArray), .string (⟨#[]⟩ : ByteArray), .string (⟨#[]⟩ : ByteArray), .string (⟨#[]⟩ : ByteArray), .slice none 0 0]) (t := 45) ?hr ?_; (case hd => rfl); (case hg => rfl); (case hr => first | (go_simp; done) | (go_simp; rfl)); intro gb153 hg w7 hbox hb; have n0_ := Aside0.mk (below_step (zL HB.out) hb); have n1_ := Aside0.mk (hbox); have n2_ := Aside0.mk (zG hg (zL HB.out)); have n3_ := Aside0.mk (zG hg (zL HB.out)); revert n0_ n1_ n2_ n3_; clear HB; intro HB BK153 GW153 GE153; clear hb hbox hg) | ((with_reducible refine gate_callee (f := 24) rfl ?_); refine goesL_ (some 12) rfl rfl Tryd.func24 (by kernel_rfl) rfl #[.string a0] rfl zA ?_; (with_reducible refine (text_Trim.calls a0 t154 _ A3.out).mono ?_); rintro e w8 ⟨rfl, hb⟩; refine ⟨_, rfl, ?_⟩; have n0_ := Aside0.mk (blk_below (g := gb153) (o := .cells #[.int .i64 0, .int .i64 0, .string (⟨#[]⟩ : ByteArray), .string (⟨#[]⟩ : ByteArray), .string (⟨#[]⟩ : ByteArray), .string (⟨#[]⟩ : ByteArray), .string (⟨#[]⟩ : ByteArray), .string (⟨#[]⟩ : ByteArray), .string (⟨#[]⟩ : ByteArray), .slice none 0 0] 45 (0, 0)) (zK BK153.out) hb); have n1_ := Aside0.mk (below_step (zL HB.out) hb); revert n0_ n1_; clear BK153 HB; intro BK153 HB; (try clear hb); (try clear hb2); (try clear hk); (try clear hi)) | ((with_reducible refine gate_dst (N := 6) rfl ?_); refine box_event ?hg (N := 6) ?hd (cs := #[.int .i64 0, .int .i64 0, .string (⟨#[]⟩ : ByteArray), .string (⟨#[]⟩ : ByteArray), .string (⟨#[]⟩ : ByteArray), .string (⟨#[]⟩ : ByteArray), .string (⟨#[]⟩ : ByteArray), .string (⟨#[]⟩ : ByteArray), .string (⟨#[]⟩ : ByteArray), .slice none 0 0]) (t := 45) ?hr ?_; (case hd => rfl); (case hg => rfl); (case hr => first | (go_simp; done) | (go_simp; rfl)); intro gb155 hg w9 hbox hb; have n0_ := Aside0.mk (blk_below (g := gb153) (o := .cells #[.int .i64 0, .int .i64 0, .string (⟨#[]⟩ : ByteArray), .string (⟨#[]⟩ : ByteArray), .string (⟨#[]⟩ : ByteArray), .string (⟨#[]⟩ : ByteArray), .string (⟨#[]⟩ : ByteArray), .string (⟨#[]⟩ : ByteArray), .string (⟨#[]⟩ : ByteArray), .slice none 0 0] 45 (0, 0)) (zK BK153.out) hb); have n1_ := Aside0.mk (below_step (zL HB.out) hb); have n2_ := Aside0.mk (hbox); have n3_ := Aside0.mk (zG hg (zL HB.out)); have n4_ := Aside0.mk (zG hg (zL HB.out)); have n5_ := Aside0.mk (zN (g := gb153) (o := .cells #[.int .i64 0, .int .i64 0, .string (⟨#[]⟩ : ByteArray), .string (⟨#[]⟩ : ByteArray), .string (⟨#[]⟩ : ByteArray), .string (⟨#[]⟩ : ByteArray), .string (⟨#[]⟩ : ByteArray), .string (⟨#[]⟩ : ByteArray), .string (⟨#[]⟩ : ByteArray), .slice none 0 0] 45 (0, 0)) hg (zK BK153.out)); have n6_ := Aside0.mk (zO (g := gb153) (o := .cells #[.int .i64 0, .int .i64 0, .string (⟨#[]⟩ : ByteArray), .string (⟨#[]⟩ : ByteArray), .string (⟨#[]⟩ : ByteArray), .string (⟨#[]⟩ : ByteArray), .string (⟨#[]⟩ : ByteArray), .string (⟨#[]⟩ : ByteArray), .string (⟨#[]⟩ : ByteArray), .slice none 0 0] 45 (0, 0)) hg (zK BK153.out)); revert n0_ n1_ n2_ n3_ n4_ n5_ n6_; clear BK153 HB; intro BK153 HB BK155 GW155 GE155 NB153_155 NB155_153; clear hb hbox hg; have hnb10 := NB155_153.out; have hnc10 := NB153_155.out; obtain ⟨hcz11_0, hcz11_1, hcz11_2, hcz11_3, hcz11_4, hcz11_5, hcz11_6, hcz11_7, hcz11_8, hcz11_9, hfz11_0, hfz11_1, hfz11_2, hfz11_3, hfz11_4, hfz11_5, hfz11_6, hfz11_7, hfz11_8, hfz11_9⟩ := zC10 BK155.out) | ((with_reducible refine gate_callee (f := 67) rfl ?_); refine goesL_ (some 16) rfl rfl Tryd.func67 (by kernel_rfl) rfl #[.string a1, .string (⟨#[58]⟩ : ByteArray)] rfl zA ?_; (with_reducible refine (parse_sides.calls k a1 (⟨#[58]⟩ : ByteArray) t156 t157 true _ A4.out).mono ?_); rintro e w12 ⟨rfl, hb⟩; refine ⟨_, rfl, ?_⟩; have n0_ := Aside0.mk (blk_below (g := gb153) (o := .cells #[.int .i64 0, .int .i64 0, .string (⟨#[]⟩ : ByteArray), .string (⟨#[]⟩ : ByteArray), .string (⟨#[]⟩ : ByteArray), .string (⟨#[]⟩ : ByteArray), .string (⟨#[]⟩ : ByteArray), .string (⟨#[]⟩ : ByteArray), .string (⟨#[]⟩ : ByteArray), .slice none 0 0] 45 (0, 0)) (zK BK153.out) hb); have n1_ := Aside0.mk (blk_below (g := gb155) (o := .cells #[.int .i64 2, .int .i64 0, .string (⟨#[]⟩ : ByteArray), .string (⟨#[]⟩ : ByteArray), .string (⟨#[]⟩ : ByteArray), .string t154, .string (⟨#[]⟩ : ByteArray), .string (⟨#[]⟩ : ByteArray), .string (⟨#[]⟩ : ByteArray), .slice none 0 0] 45 (0, 0)) (zP10 BK155.out) hb); have n2_ := Aside0.mk (below_step (zL HB.out) hb); revert n0_ n1_ n2_; clear BK153 BK155 HB; intro BK153 BK155 HB; (try clear hb); (try clear hb2); (try clear hk); (try clear hi); obtain ⟨hcz13_0, hcz13_1, hcz13_2, hcz13_3, hcz13_4, hcz13_5, hcz13_6, hcz13_7, hcz13_8, hcz13_9, hfz13_0, hfz13_1, hfz13_2, hfz13_3, hfz13_4, hfz13_5, hfz13_6, hfz13_7, hfz13_8, hfz13_9⟩ := zC10 BK155.out))
  (try simp only [Act.put, List.setIfInBounds_toArray, List.set_cons_zero, List.set_cons_succ])
  go_cut [29] (fun v29 wc => ∃ (kq : Nat) (x29_5 : Bool), v29 = .bool x29_5 ∧ Aside0 (parse_rule.j0 kq t157 x29_5 2 0 (⟨#[]⟩ : ByteArray) (⟨#[]⟩ : ByteArray) (⟨#[]⟩ : ByteArray) t154 t156 (⟨#[]⟩ : ByteArray) (⟨#[]⟩ : ByteArray) = some (r1, r2, r3, r4, r5, r6, r7, r8, r9, r10, r11)) ∧ Aside0 (kq ≤ k) ∧ Aside0 (wc.heap[gb153]? = some (.cells #[.int .i64 0, .int .i64 0, .string (⟨#[]⟩ : ByteArray), .string (⟨#[]⟩ : ByteArray), .string (⟨#[]⟩ : ByteArray), .string (⟨#[]⟩ : ByteArray), .string (⟨#[]⟩ : ByteArray), .string (⟨#[]⟩ : ByteArray), .string (⟨#[]⟩ : ByteArray), (.slice none 0 0)] 45 (0, 0))) ∧ Aside0 (wc.heap[gb155]? = some (.cells #[.int .i64 2, .int .i64 0, .string (⟨#[]⟩ : ByteArray), .string (⟨#[]⟩ : ByteArray), .string (⟨#[]⟩ : ByteArray), .string t154, .string t156, .string (⟨#[]⟩ : ByteArray), .string (⟨#[]⟩ : ByteArray), (.slice none 0 0)] 45 (0, 0))) ∧ Aside0 (Below w.heap.size w wc))
  case first =>
   have H := HC6.out
   clear HC6
   by_cases c14 : t156.toList = ([] : List UInt8)
   ·rw [if_pos c14] at H
    have c14b0 : (t156.toList == ([] : List UInt8)) = true := beq_iff_eq.mpr c14
    have c14b1 : (t156.toList != ([] : List UInt8)) = false := bne_eq_false_iff_eq.mpr c14
    clear c14
    (first | rw [c14b0] | (simp only [i64_w, i32_w]; rw [c14b0]) | skip)
    have H' := Aside0.mk H
    clear H
    go_wp2
    go_meet
    case rel => exact ⟨_, (true), zS, H', ⟨by first | omega | exact Nat.le_refl _⟩, ⟨zK BK153.out⟩, ⟨by (with_reducible repeat (first | refine blk_drewN ?_ _ | refine blk_drew ?_ | refine blk_alloc ?_ _)); refine blk_put (cs := #[.int .i64 2, .int .i64 0, .string (⟨#[]⟩ : ByteArray), .string (⟨#[]⟩ : ByteArray), .string (⟨#[]⟩ : ByteArray), .string t154, .string (⟨#[]⟩ : ByteArray), .string (⟨#[]⟩ : ByteArray), .string (⟨#[]⟩ : ByteArray), .slice none 0 0]) ?_ 6 _ rfl; (with_reducible repeat (first | refine blk_drewN ?_ _ | refine blk_drew ?_ | refine blk_alloc ?_ _)); exact BK155.out⟩, ⟨zL HB.out⟩⟩
   ·rw [if_neg c14] at H
    have c14b0 : (t156.toList == ([] : List UInt8)) = false := beq_eq_false_iff_ne.mpr c14
    have c14b1 : (t156.toList != ([] : List UInt8)) = true := bne_iff_ne.mpr c14
    (first | rw [c14b0] | (simp only [i64_w, i32_w]; rw [c14b0]) | skip)
    replace H := Option.bind_eq_some_iff.mp H
    obtain ⟨t159, A150, H⟩ := H
    replace H : (parse_rule.j0 k t157 t159 2 0 (⟨#[]⟩ : ByteArray) (⟨#[]⟩ : ByteArray) (⟨#[]⟩ : ByteArray) t154 t156 (⟨#[]⟩ : ByteArray) (⟨#[]⟩ : ByteArray)) = some (r1, r2, r3, r4, r5, r6, r7, r8, r9, r10, r11) := H
    have A15 := Aside0.mk A150
    clear A150
    have H' := Aside0.mk H
    clear H
    go_wp2_with (first | (go_at_call 68; (with_reducible refine (parse_has.calls k t157 (⟨#[58]⟩ : ByteArray) t159 _ A15.out).mono ?_); rintro e w16 ⟨rfl, hb⟩; have n0_ := Aside0.mk (blk_below (g := gb153) (o := .cells #[.int .i64 0, .int .i64 0, .string (⟨#[]⟩ : ByteArray), .string (⟨#[]⟩ : ByteArray), .string (⟨#[]⟩ : ByteArray), .string (⟨#[]⟩ : ByteArray), .string (⟨#[]⟩ : ByteArray), .string (⟨#[]⟩ : ByteArray), .string (⟨#[]⟩ : ByteArray), .slice none 0 0] 45 (0, 0)) (zK BK153.out) hb); have n1_ := Aside0.mk (blk_below (g := gb155) (o := .cells #[.int .i64 2, .int .i64 0, .string (⟨#[]⟩ : ByteArray), .string (⟨#[]⟩ : ByteArray), .string (⟨#[]⟩ : ByteArray), .string t154, .string t156, .string (⟨#[]⟩ : ByteArray), .string (⟨#[]⟩ : ByteArray), .slice none 0 0] 45 (0, 0)) (by (with_reducible repeat (first | refine blk_drewN ?_ _ | refine blk_drew ?_ | refine blk_alloc ?_ _)); refine blk_put (cs := #[.int .i64 2, .int .i64 0, .string (⟨#[]⟩ : ByteArray), .string (⟨#[]⟩ : ByteArray), .string (⟨#[]⟩ : ByteArray), .string t154, .string (⟨#[]⟩ : ByteArray), .string (⟨#[]⟩ : ByteArray), .string (⟨#[]⟩ : ByteArray), .slice none 0 0]) ?_ 6 _ rfl; (with_reducible repeat (first | refine blk_drewN ?_ _ | refine blk_drew ?_ | refine blk_alloc ?_ _)); exact BK155.out) hb); have n2_ := Aside0.mk (below_step (zL HB.out) hb); revert n0_ n1_ n2_; clear BK153 BK155 HB; intro BK153 BK155 HB; (try clear hb); (try clear hb2); (try clear hk); (try clear hi)))
    go_meet
    case rel => exact ⟨_, (t159), zS, H', ⟨by first | omega | exact Nat.le_refl _⟩, ⟨zK BK153.out⟩, ⟨zK BK155.out⟩, ⟨zL HB.out⟩⟩
  case rest =>
   clear HC6
   try clear c1
   try clear c2
   try clear p2
   try clear c4
   try clear c5
   try clear c6
   try clear c10
   try clear c14
   try clear c14b0
   try clear c14b1
   try clear hcz11_0
   try clear hcz11_1
   try clear hcz11_2
   try clear hcz11_3
   try clear hcz11_4
   try clear hcz11_5
   try clear hcz11_6
   try clear hcz11_7
   try clear hcz11_8
   try clear hcz11_9
   try clear hcz13_0
   try clear hcz13_1
   try clear hcz13_2
   try clear hcz13_3
   try clear hcz13_4
   try clear hcz13_5
   try clear hcz13_6
   try clear hcz13_7
   try clear hcz13_8
   try clear hcz13_9
   try clear hfz11_0
   try clear hfz11_1
   try clear hfz11_2
   try clear hfz11_3
   try clear hfz11_4
   try clear hfz11_5
   try clear hfz11_6
   try clear hfz11_7
   try clear hfz11_8
   try clear hfz11_9
   try clear hfz13_0
   try clear hfz13_1
   try clear hfz13_2
   try clear hfz13_3
   try clear hfz13_4
   try clear hfz13_5
   try clear hfz13_6
   try clear hfz13_7
   try clear hfz13_8
   try clear hfz13_9
   obtain ⟨kq, x29_5, rfl, HA, HJ5, BK153, BK155, HB⟩ := hcut
   cases kq with
   | zero => exact absurd HA.out (by simp [parse_rule.j0])
   | succ kj5 =>
    have H := HA.out
    clear HA
    simp only [parse_rule.j0] at H
    by_cases c17 : x29_5 = true
    ·subst c17
     have H1 : (some (2, 0, (⟨#[]⟩ : ByteArray), (⟨#[]⟩ : ByteArray), (⟨#[]⟩ : ByteArray), t154, t156, (⟨#[]⟩ : ByteArray), (⟨#[]⟩ : ByteArray), ([] : List ByteArray), false)) = some (r1, r2, r3, r4, r5, r6, r7, r8, r9, r10, r11) := by rw [if_pos rfl] at H; exact H
     clear H
     have H := H1
     clear H1
     simp only [Option.some.injEq, Prod.mk.injEq] at H
     obtain ⟨rfl, rfl, rfl, rfl, rfl, rfl, rfl, rfl, rfl, rfl, rfl⟩ := H
     have hnb18 := NB155_153.out
     have hnc18 := NB153_155.out
     obtain ⟨hcz19_0, hcz19_1, hcz19_2, hcz19_3, hcz19_4, hcz19_5, hcz19_6, hcz19_7, hcz19_8, hcz19_9, hfz19_0, hfz19_1, hfz19_2, hfz19_3, hfz19_4, hfz19_5, hfz19_6, hfz19_7, hfz19_8, hfz19_9⟩ := zC10 BK155.out
     obtain ⟨hcz20_0, hcz20_1, hcz20_2, hcz20_3, hcz20_4, hcz20_5, hcz20_6, hcz20_7, hcz20_8, hcz20_9, hfz20_0, hfz20_1, hfz20_2, hfz20_3, hfz20_4, hfz20_5, hfz20_6, hfz20_7, hfz20_8, hfz20_9⟩ := zC10 BK153.out
     go_wp2
     refine bodyPost_ret (results_ct rfl _ _ gb153 45 #[.int .i64 2, .int .i64 0, .string (⟨#[]⟩ : ByteArray), .string (⟨#[]⟩ : ByteArray), .string (⟨#[]⟩ : ByteArray), .string t154, .string t156, .string (⟨#[]⟩ : ByteArray), .string (⟨#[]⟩ : ByteArray), .slice none 0 0] (0, 0) _ rfl (zP10 BK153.out) Tryd.underlying45 rfl (by kernel_rfl)) rfl ?_
     exact ⟨_, zE, by first | exact Kd.R_nil _ _ _ _ _ | exact Kd.N_nil _ _ _ _ _ | exact Kd.V_nil _ _ _ _ _ | exact Kd.Q_nil _ _ _ _ _ | exact Kd.S_nil _ _ _ _ _, zL HB.out⟩
    ·replace c17 := Bool.eq_false_iff.mpr c17
     subst c17
     have H1 : ((parse_sides.f kj5 t157 (⟨#[124]⟩ : ByteArray)).bind fun bt160 => (if t154.toList = ([] : List UInt8) then (some (2, 0, (⟨#[]⟩ : ByteArray), (⟨#[]⟩ : ByteArray), (⟨#[]⟩ : ByteArray), t154, t156, bt160.1, bt160.2.1, ([] : List ByteArray), false)) else (if bt160.2.2 = true then ((parse_has.f kj5 bt160.2.1 (⟨#[124]⟩ : ByteArray)).bind fun t163 => (some (2, 0, (⟨#[]⟩ : ByteArray), (⟨#[]⟩ : ByteArray), (⟨#[]⟩ : ByteArray), t154, t156, bt160.1, bt160.2.1, ([] : List ByteArray), !t163))) else (some (2, 0, (⟨#[]⟩ : ByteArray), (⟨#[]⟩ : ByteArray), (⟨#[]⟩ : ByteArray), t154, t156, bt160.1, bt160.2.1, ([] : List ByteArray), !false))))) = some (r1, r2, r3, r4, r5, r6, r7, r8, r9, r10, r11) := by rw [if_neg (show ¬ (false = true) by decide)] at H; exact H
     clear H
     have H := H1
     clear H1
     replace H := Option.bind_eq_some_iff.mp H
     obtain ⟨⟨t160, t161, t162⟩, A210, H⟩ := H
     replace H : (if t154.toList = ([] : List UInt8) then (some (2, 0, (⟨#[]⟩ : ByteArray), (⟨#[]⟩ : ByteArray), (⟨#[]⟩ : ByteArray), t154, t156, t160, t161, ([] : List ByteArray), false)) else (if t162 = true then ((parse_has.f kj5 t161 (⟨#[124]⟩ : ByteArray)).bind fun t163 => (some (2, 0, (⟨#[]⟩ : ByteArray), (⟨#[]⟩ : ByteArray), (⟨#[]⟩ : ByteArray), t154, t156, t160, t161, ([] : List ByteArray), !t163))) else (some (2, 0, (⟨#[]⟩ : ByteArray), (⟨#[]⟩ : ByteArray), (⟨#[]⟩ : ByteArray), t154, t156, t160, t161, ([] : List ByteArray), !false)))) = some (r1, r2, r3, r4, r5, r6, r7, r8, r9, r10, r11) := H
     have A21 := Aside0.mk A210
     clear A210
     by_cases c22 : t154.toList = ([] : List UInt8)
     ·rw [if_pos c22] at H
      have c22b0 : (t154.toList == ([] : List UInt8)) = true := beq_iff_eq.mpr c22
      have c22b1 : (t154.toList != ([] : List UInt8)) = false := bne_eq_false_iff_eq.mpr c22
      clear c22
      simp only [Option.some.injEq, Prod.mk.injEq] at H
      obtain ⟨rfl, rfl, rfl, rfl, rfl, rfl, rfl, rfl, rfl, rfl, rfl⟩ := H
      try go_wp2_with (first | ((with_reducible refine gate_callee (f := 67) rfl ?_); refine goesL_ (some 33) rfl rfl Tryd.func67 (by kernel_rfl) rfl #[.string t157, .string (⟨#[124]⟩ : ByteArray)] rfl zA ?_; (with_reducible refine (parse_sides.calls kj5 t157 (⟨#[124]⟩ : ByteArray) t160 t161 t162 _ A21.out).mono ?_); rintro e w23 ⟨rfl, hb⟩; refine ⟨_, rfl, ?_⟩; have n0_ := Aside0.mk (blk_below (g := gb153) (o := .cells #[.int .i64 0, .int .i64 0, .string (⟨#[]⟩ : ByteArray), .string (⟨#[]⟩ : ByteArray), .string (⟨#[]⟩ : ByteArray), .string (⟨#[]⟩ : ByteArray), .string (⟨#[]⟩ : ByteArray), .string (⟨#[]⟩ : ByteArray), .string (⟨#[]⟩ : ByteArray), .slice none 0 0] 45 (0, 0)) (zK BK153.out) hb); have n1_ := Aside0.mk (blk_below (g := gb155) (o := .cells #[.int .i64 2, .int .i64 0, .string (⟨#[]⟩ : ByteArray), .string (⟨#[]⟩ : ByteArray), .string (⟨#[]⟩ : ByteArray), .string t154, .string t156, .string (⟨#[]⟩ : ByteArray), .string (⟨#[]⟩ : ByteArray), .slice none 0 0] 45 (0, 0)) (zK BK155.out) hb); have n2_ := Aside0.mk (below_step (zL HB.out) hb); revert n0_ n1_ n2_; clear BK153 BK155 HB; intro BK153 BK155 HB; (try clear hb); (try clear hb2); (try clear hk); (try clear hi); have hnb24 := NB155_153.out; have hnc24 := NB153_155.out; obtain ⟨hcz25_0, hcz25_1, hcz25_2, hcz25_3, hcz25_4, hcz25_5, hcz25_6, hcz25_7, hcz25_8, hcz25_9, hfz25_0, hfz25_1, hfz25_2, hfz25_3, hfz25_4, hfz25_5, hfz25_6, hfz25_7, hfz25_8, hfz25_9⟩ := zC10 BK155.out))
      have n0_ : Aside0 (((w23.setCell ⟨gb155, 7, none⟩ (.string t160)).setCell ⟨gb155, 8, none⟩ (.string t161)).heap[gb153]? = some (.cells #[.int .i64 0, .int .i64 0, .string (⟨#[]⟩ : ByteArray), .string (⟨#[]⟩ : ByteArray), .string (⟨#[]⟩ : ByteArray), .string (⟨#[]⟩ : ByteArray), .string (⟨#[]⟩ : ByteArray), .string (⟨#[]⟩ : ByteArray), .string (⟨#[]⟩ : ByteArray), .slice none 0 0] 45 (0, 0))) := ⟨zK BK153.out⟩
      have n1_ : Aside0 (((w23.setCell ⟨gb155, 7, none⟩ (.string t160)).setCell ⟨gb155, 8, none⟩ (.string t161)).heap[gb155]? = some (.cells #[.int .i64 2, .int .i64 0, .string (⟨#[]⟩ : ByteArray), .string (⟨#[]⟩ : ByteArray), .string (⟨#[]⟩ : ByteArray), .string t154, .string t156, .string t160, .string t161, .slice none 0 0] 45 (0, 0))) := ⟨by (with_reducible repeat (first | refine blk_drewN ?_ _ | refine blk_drew ?_ | refine blk_alloc ?_ _)); refine blk_put (cs := #[.int .i64 2, .int .i64 0, .string (⟨#[]⟩ : ByteArray), .string (⟨#[]⟩ : ByteArray), .string (⟨#[]⟩ : ByteArray), .string t154, .string t156, .string t160, .string (⟨#[]⟩ : ByteArray), .slice none 0 0]) ?_ 8 _ rfl; (with_reducible repeat (first | refine blk_drewN ?_ _ | refine blk_drew ?_ | refine blk_alloc ?_ _)); refine blk_put (cs := #[.int .i64 2, .int .i64 0, .string (⟨#[]⟩ : ByteArray), .string (⟨#[]⟩ : ByteArray), .string (⟨#[]⟩ : ByteArray), .string t154, .string t156, .string (⟨#[]⟩ : ByteArray), .string (⟨#[]⟩ : ByteArray), .slice none 0 0]) ?_ 7 _ rfl; (with_reducible repeat (first | refine blk_drewN ?_ _ | refine blk_drew ?_ | refine blk_alloc ?_ _)); exact BK155.out⟩
      have n2_ : Aside0 (Below w.heap.size w ((w23.setCell ⟨gb155, 7, none⟩ (.string t160)).setCell ⟨gb155, 8, none⟩ (.string t161))) := ⟨zL HB.out⟩
      (try clear BK153)
      (try clear BK155)
      (try clear HB)
      generalize ((w23.setCell ⟨gb155, 7, none⟩ (.string t160)).setCell ⟨gb155, 8, none⟩ (.string t161)) = w26 at n0_ n1_ n2_ ⊢
      have BK153 := n0_
      have BK155 := n1_
      have HB := n2_
      clear n0_ n1_ n2_
      have n0_ := Aside0.mk (blk_drew BK153.out)
      have n1_ := Aside0.mk (blk_drew BK155.out)
      have n2_ := Aside0.mk (below_drew1 HB.out)
      clear BK153
      clear BK155
      clear HB
      have BK153 := n0_
      have BK155 := n1_
      have HB := n2_
      clear n0_ n1_ n2_
      refine start_ (n := 15) (S := fun w' => w'.cell? ⟨gb155, 0, none⟩ = some (.int .i64 2) ∧ w'.cell? ⟨gb155, 1, none⟩ = some (.int .i64 0) ∧ w'.cell? ⟨gb155, 2, none⟩ = some (.string (⟨#[]⟩ : ByteArray)) ∧ w'.cell? ⟨gb155, 3, none⟩ = some (.string (⟨#[]⟩ : ByteArray)) ∧ w'.cell? ⟨gb155, 4, none⟩ = some (.string (⟨#[]⟩ : ByteArray)) ∧ w'.cell? ⟨gb155, 5, none⟩ = some (.string t154) ∧ w'.cell? ⟨gb155, 6, none⟩ = some (.string t156) ∧ w'.cell? ⟨gb155, 7, none⟩ = some (.string t160) ∧ w'.cell? ⟨gb155, 8, none⟩ = some (.string t161) ∧ w'.cell? ⟨gb155, 9, none⟩ = some (.slice none 0 0)) (ds := []) #[false, false, false, false, false, false, false, false, false, false, false, false, false, false, false] (by kernel_rfl) rfl rfl ⟨(blk_cell BK155.out 0).trans rfl, (blk_cell BK155.out 1).trans rfl, (blk_cell BK155.out 2).trans rfl, (blk_cell BK155.out 3).trans rfl, (blk_cell BK155.out 4).trans rfl, (blk_cell BK155.out 5).trans rfl, (blk_cell BK155.out 6).trans rfl, (blk_cell BK155.out 7).trans rfl, (blk_cell BK155.out 8).trans rfl, (blk_cell BK155.out 9).trans rfl⟩ (fun hHeld => ?_); refine with_tabW parse_rule.tab9 parse_rule.bits9 (fun HT_ HW_ => ?_)
      generalize w26.drew = w27 at BK153 BK155 HB hHeld ⊢
      refine pure_ (i := 1) (N := some 40) (v := ?_) (a' := ?_) #[false, true, false, false, false, false, false, false, false, false, false, false, false, false, false] rfl rfl (any_of HT_.out (by kernel_rfl)) (fun _ _ _ h => h) (Or.inl ⟨by rfl, ?_⟩) ?_ ?_
      rotate_left
      ·intro w'
       go_simp
       with_reducible rfl
      rotate_left
      ·simp only [Act.put, List.setIfInBounds_toArray, List.set_cons_zero, List.set_cons_succ, i64_w, i32_w]
       rfl
      refine take_ (i := 0) (N := some 39) (v := ?_) (a' := ?_) #[true, true, false, false, false, false, false, false, false, false, false, false, false, false, false] rfl rfl (take_ofW HT_.out HW_.out (by kernel_rfl)) (fun _ _ _ h => h) (Or.inl ⟨by rfl, ?_⟩) hHeld ?_ ?_
      rotate_left
      ·rintro w' ⟨s0, s1, s2, s3, s4, s5, s6, s7, s8, s9⟩
       go_simp
       with_reducible rfl
      rotate_left
      ·simp only [Act.put, List.setIfInBounds_toArray, List.set_cons_zero, List.set_cons_succ, i64_w, i32_w]
       rfl
      refine take_ (i := 2) (N := some 41) (v := ?_) (a' := ?_) #[true, true, true, false, false, false, false, false, false, false, false, false, false, false, false] rfl rfl (take_ofW HT_.out HW_.out (by kernel_rfl)) (fun _ _ _ h => h) (Or.inl ⟨by rfl, ?_⟩) hHeld ?_ ?_
      rotate_left
      ·rintro w' ⟨s0, s1, s2, s3, s4, s5, s6, s7, s8, s9⟩
       go_simp
       with_reducible rfl
      rotate_left
      ·simp only [Act.put, List.setIfInBounds_toArray, List.set_cons_zero, List.set_cons_succ, i64_w, i32_w]
       rfl
      refine pure_ (i := 3) (N := some 42) (v := ?_) (a' := ?_) #[true, true, true, true, false, false, false, false, false, false, false, false, false, false, false] rfl rfl (any_of HT_.out (by kernel_rfl)) (fun _ _ _ h => h) (Or.inl ⟨by rfl, ?_⟩) ?_ ?_
      rotate_left
      ·intro w'
       go_simp
       with_reducible rfl
      rotate_left
      ·simp only [Act.put, List.setIfInBounds_toArray, List.set_cons_zero, List.set_cons_succ, i64_w, i32_w]
       rfl
      refine pure_ (i := 4) (N := some 43) (v := ?_) (a' := ?_) #[true, true, true, true, true, false, false, false, false, false, false, false, false, false, false] rfl rfl (any_of HT_.out (by kernel_rfl)) (fun _ _ _ h => h) (Or.inl ⟨by rfl, ?_⟩) ?_ ?_
      rotate_left
      ·intro w'
       go_simp
       with_reducible rfl
      rotate_left
      ·simp only [Act.put, List.setIfInBounds_toArray, List.set_cons_zero, List.set_cons_succ, i64_w, i32_w]
       rfl
      refine pure_ (i := 5) (N := some 44) (v := undef) (a' := ?_) #[true, true, true, true, true, true, false, false, false, false, false, false, false, false, false] rfl rfl (any_of HT_.out (by kernel_rfl)) (fun _ _ _ h => h) (Or.inr ⟨by rfl, rfl⟩) ?_ ?_
      rotate_left
      ·simp only [Act.put, List.setIfInBounds_toArray, List.set_cons_zero, List.set_cons_succ, i64_w, i32_w]
       rfl
      refine pure_ (i := 6) (N := some 45) (v := undef) (a' := ?_) #[true, true, true, true, true, true, true, false, false, false, false, false, false, false, false] rfl rfl (any_of HT_.out (by kernel_rfl)) (fun _ _ _ h => h) (Or.inr ⟨by rfl, rfl⟩) ?_ ?_
      rotate_left
      ·simp only [Act.put, List.setIfInBounds_toArray, List.set_cons_zero, List.set_cons_succ, i64_w, i32_w]
       rfl
      refine pure_ (i := 7) (N := some 46) (v := undef) (a' := ?_) #[true, true, true, true, true, true, true, true, false, false, false, false, false, false, false] rfl rfl (any_of HT_.out (by kernel_rfl)) (fun _ _ _ h => h) (Or.inr ⟨by rfl, rfl⟩) ?_ ?_
      rotate_left
      ·simp only [Act.put, List.setIfInBounds_toArray, List.set_cons_zero, List.set_cons_succ, i64_w, i32_w]
       rfl
      refine pure_ (i := 8) (N := some 47) (v := undef) (a' := ?_) #[true, true, true, true, true, true, true, true, true, false, false, false, false, false, false] rfl rfl (any_of HT_.out (by kernel_rfl)) (fun _ _ _ h => h) (Or.inr ⟨by rfl, rfl⟩) ?_ ?_
      rotate_left
      ·simp only [Act.put, List.setIfInBounds_toArray, List.set_cons_zero, List.set_cons_succ, i64_w, i32_w]
       rfl
      refine pure_ (i := 9) (N := some 48) (v := undef) (a' := ?_) #[true, true, true, true, true, true, true, true, true, true, false, false, false, false, false] rfl rfl (any_of HT_.out (by kernel_rfl)) (fun _ _ _ h => h) (Or.inr ⟨by rfl, rfl⟩) ?_ ?_
      rotate_left
      ·simp only [Act.put, List.setIfInBounds_toArray, List.set_cons_zero, List.set_cons_succ, i64_w, i32_w]
       rfl
      refine pure_ (i := 10) (N := some 49) (v := undef) (a' := ?_) #[true, true, true, true, true, true, true, true, true, true, true, false, false, false, false] rfl rfl (any_of HT_.out (by kernel_rfl)) (fun _ _ _ h => h) (Or.inr ⟨by rfl, rfl⟩) ?_ ?_
      rotate_left
      ·simp only [Act.put, List.setIfInBounds_toArray, List.set_cons_zero, List.set_cons_succ, i64_w, i32_w]
       rfl
      refine pure_ (i := 11) (N := some 50) (v := undef) (a' := ?_) #[true, true, true, true, true, true, true, true, true, true, true, true, false, false, false] rfl rfl (any_of HT_.out (by kernel_rfl)) (fun _ _ _ h => h) (Or.inr ⟨by rfl, rfl⟩) ?_ ?_
      rotate_left
      ·simp only [Act.put, List.setIfInBounds_toArray, List.set_cons_zero, List.set_cons_succ, i64_w, i32_w]
       rfl
      refine pure_ (i := 12) (N := some 51) (v := ?_) (a' := ?_) #[true, true, true, true, true, true, true, true, true, true, true, true, true, false, false] rfl rfl (any_of HT_.out (by kernel_rfl)) (fun _ _ _ h => h) (Or.inl ⟨by rfl, ?_⟩) ?_ ?_
      rotate_left
      ·intro w'
       go_simp
       with_reducible rfl
      rotate_left
      ·simp only [Act.put, List.setIfInBounds_toArray, List.set_cons_zero, List.set_cons_succ, i64_w, i32_w]
       rfl
      refine one_ (i := 13) (N := none) #[true, true, true, true, true, true, true, true, true, true, true, true, true, true, false] rfl rfl (one_of HT_.out (by kernel_rfl)) (by decide) (fun K hK => ?_)
      have hs28 : w27.cell? ⟨gb153, 0, none⟩ = some (.int .i64 0) := (blk_cell BK153.out 0).trans rfl
      have hfs28 := blk_frozen BK153.out 0
      have hns28_1 := NB155_153.out
      have hms28_1 := NB153_155.out
      have hs29 : w27.cell? ⟨gb153, 1, none⟩ = some (.int .i64 0) := (blk_cell BK153.out 1).trans rfl
      have hfs29 := blk_frozen BK153.out 1
      have hns29_1 := NB155_153.out
      have hms29_1 := NB153_155.out
      have hs30 : w27.cell? ⟨gb153, 2, none⟩ = some (.string (⟨#[]⟩ : ByteArray)) := (blk_cell BK153.out 2).trans rfl
      have hfs30 := blk_frozen BK153.out 2
      have hns30_1 := NB155_153.out
      have hms30_1 := NB153_155.out
      have hs31 : w27.cell? ⟨gb153, 3, none⟩ = some (.string (⟨#[]⟩ : ByteArray)) := (blk_cell BK153.out 3).trans rfl
      have hfs31 := blk_frozen BK153.out 3
      have hns31_1 := NB155_153.out
      have hms31_1 := NB153_155.out
      have hs32 : w27.cell? ⟨gb153, 4, none⟩ = some (.string (⟨#[]⟩ : ByteArray)) := (blk_cell BK153.out 4).trans rfl
      have hfs32 := blk_frozen BK153.out 4
      have hns32_1 := NB155_153.out
      have hms32_1 := NB153_155.out
      have hs33 : w27.cell? ⟨gb153, 5, none⟩ = some (.string (⟨#[]⟩ : ByteArray)) := (blk_cell BK153.out 5).trans rfl
      have hfs33 := blk_frozen BK153.out 5
      have hns33_1 := NB155_153.out
      have hms33_1 := NB153_155.out
      have hs34 : w27.cell? ⟨gb153, 6, none⟩ = some (.string (⟨#[]⟩ : ByteArray)) := (blk_cell BK153.out 6).trans rfl
      have hfs34 := blk_frozen BK153.out 6
      have hns34_1 := NB155_153.out
      have hms34_1 := NB153_155.out
      have hs35 : w27.cell? ⟨gb153, 7, none⟩ = some (.string (⟨#[]⟩ : ByteArray)) := (blk_cell BK153.out 7).trans rfl
      have hfs35 := blk_frozen BK153.out 7
      have hns35_1 := NB155_153.out
      have hms35_1 := NB153_155.out
      have hs36 : w27.cell? ⟨gb153, 8, none⟩ = some (.string (⟨#[]⟩ : ByteArray)) := (blk_cell BK153.out 8).trans rfl
      have hfs36 := blk_frozen BK153.out 8
      have hns36_1 := NB155_153.out
      have hms36_1 := NB153_155.out
      have hs37 : w27.cell? ⟨gb153, 9, none⟩ = some (.slice none 0 0) := (blk_cell BK153.out 9).trans rfl
      have hfs37 := blk_frozen BK153.out 9
      have hns37_1 := NB155_153.out
      have hms37_1 := NB153_155.out
      refine skip_ (w1 := ?_) (by rfl) rfl ?_ ?_
      rotate_left
      ·go_simp
       rfl
      refine hK.out _ _ ⟨((cell_far (p := ⟨gb153, _, none⟩) NB155_153.out _).trans (((cell_far (p := ⟨gb153, _, none⟩) NB155_153.out _).trans (((cell_far (p := ⟨gb153, _, none⟩) NB155_153.out _).trans (((cell_far (p := ⟨gb153, _, none⟩) NB155_153.out _).trans (((cell_far (p := ⟨gb153, _, none⟩) NB155_153.out _).trans (((cell_far (p := ⟨gb153, _, none⟩) NB155_153.out _).trans (((cell_far (p := ⟨gb153, _, none⟩) NB155_153.out _).trans (((cell_far (p := ⟨gb153, _, none⟩) NB155_153.out _).trans (((cell_far (p := ⟨gb153, _, none⟩) NB155_153.out _).trans (((cell_far (p := ⟨gb153, _, none⟩) NB155_153.out _).trans (hHeld.1)))))))))))))))))))), ((cell_far (p := ⟨gb153, _, none⟩) NB155_153.out _).trans (((cell_far (p := ⟨gb153, _, none⟩) NB155_153.out _).trans (((cell_far (p := ⟨gb153, _, none⟩) NB155_153.out _).trans (((cell_far (p := ⟨gb153, _, none⟩) NB155_153.out _).trans (((cell_far (p := ⟨gb153, _, none⟩) NB155_153.out _).trans (((cell_far (p := ⟨gb153, _, none⟩) NB155_153.out _).trans (((cell_far (p := ⟨gb153, _, none⟩) NB155_153.out _).trans (((cell_far (p := ⟨gb153, _, none⟩) NB155_153.out _).trans (((cell_far (p := ⟨gb153, _, none⟩) NB155_153.out _).trans (((cell_far (p := ⟨gb153, _, none⟩) NB155_153.out _).trans (hHeld.2.1)))))))))))))))))))), ((cell_far (p := ⟨gb153, _, none⟩) NB155_153.out _).trans (((cell_far (p := ⟨gb153, _, none⟩) NB155_153.out _).trans (((cell_far (p := ⟨gb153, _, none⟩) NB155_153.out _).trans (((cell_far (p := ⟨gb153, _, none⟩) NB155_153.out _).trans (((cell_far (p := ⟨gb153, _, none⟩) NB155_153.out _).trans (((cell_far (p := ⟨gb153, _, none⟩) NB155_153.out _).trans (((cell_far (p := ⟨gb153, _, none⟩) NB155_153.out _).trans (((cell_far (p := ⟨gb153, _, none⟩) NB155_153.out _).trans (((cell_far (p := ⟨gb153, _, none⟩) NB155_153.out _).trans (((cell_far (p := ⟨gb153, _, none⟩) NB155_153.out _).trans (hHeld.2.2.1)))))))))))))))))))), ((cell_far (p := ⟨gb153, _, none⟩) NB155_153.out _).trans (((cell_far (p := ⟨gb153, _, none⟩) NB155_153.out _).trans (((cell_far (p := ⟨gb153, _, none⟩) NB155_153.out _).trans (((cell_far (p := ⟨gb153, _, none⟩) NB155_153.out _).trans (((cell_far (p := ⟨gb153, _, none⟩) NB155_153.out _).trans (((cell_far (p := ⟨gb153, _, none⟩) NB155_153.out _).trans (((cell_far (p := ⟨gb153, _, none⟩) NB155_153.out _).trans (((cell_far (p := ⟨gb153, _, none⟩) NB155_153.out _).trans (((cell_far (p := ⟨gb153, _, none⟩) NB155_153.out _).trans (((cell_far (p := ⟨gb153, _, none⟩) NB155_153.out _).trans (hHeld.2.2.2.1)))))))))))))))))))), ((cell_far (p := ⟨gb153, _, none⟩) NB155_153.out _).trans (((cell_far (p := ⟨gb153, _, none⟩) NB155_153.out _).trans (((cell_far (p := ⟨gb153, _, none⟩) NB155_153.out _).trans (((cell_far (p := ⟨gb153, _, none⟩) NB155_153.out _).trans (((cell_far (p := ⟨gb153, _, none⟩) NB155_153.out _).trans (((cell_far (p := ⟨gb153, _, none⟩) NB155_153.out _).trans (((cell_far (p := ⟨gb153, _, none⟩) NB155_153.out _).trans (((cell_far (p := ⟨gb153, _, none⟩) NB155_153.out _).trans (((cell_far (p := ⟨gb153, _, none⟩) NB155_153.out _).trans (((cell_far (p := ⟨gb153, _, none⟩) NB155_153.out _).trans (hHeld.2.2.2.2.1)))))))))))))))))))), ((cell_far (p := ⟨gb153, _, none⟩) NB155_153.out _).trans (((cell_far (p := ⟨gb153, _, none⟩) NB155_153.out _).trans (((cell_far (p := ⟨gb153, _, none⟩) NB155_153.out _).trans (((cell_far (p := ⟨gb153, _, none⟩) NB155_153.out _).trans (((cell_far (p := ⟨gb153, _, none⟩) NB155_153.out _).trans (((cell_far (p := ⟨gb153, _, none⟩) NB155_153.out _).trans (((cell_far (p := ⟨gb153, _, none⟩) NB155_153.out _).trans (((cell_far (p := ⟨gb153, _, none⟩) NB155_153.out _).trans (((cell_far (p := ⟨gb153, _, none⟩) NB155_153.out _).trans (((cell_far (p := ⟨gb153, _, none⟩) NB155_153.out _).trans (hHeld.2.2.2.2.2.1)))))))))))))))))))), ((cell_far (p := ⟨gb153, _, none⟩) NB155_153.out _).trans (((cell_far (p := ⟨gb153, _, none⟩) NB155_153.out _).trans (((cell_far (p := ⟨gb153, _, none⟩) NB155_153.out _).trans (((cell_far (p := ⟨gb153, _, none⟩) NB155_153.out _).trans (((cell_far (p := ⟨gb153, _, none⟩) NB155_153.out _).trans (((cell_far (p := ⟨gb153, _, none⟩) NB155_153.out _).trans (((cell_far (p := ⟨gb153, _, none⟩) NB155_153.out _).trans (((cell_far (p := ⟨gb153, _, none⟩) NB155_153.out _).trans (((cell_far (p := ⟨gb153, _, none⟩) NB155_153.out _).trans (((cell_far (p := ⟨gb153, _, none⟩) NB155_153.out _).trans (hHeld.2.2.2.2.2.2.1)))))))))))))))))))), ((cell_far (p := ⟨gb153, _, none⟩) NB155_153.out _).trans (((cell_far (p := ⟨gb153, _, none⟩) NB155_153.out _).trans (((cell_far (p := ⟨gb153, _, none⟩) NB155_153.out _).trans (((cell_far (p := ⟨gb153, _, none⟩) NB155_153.out _).trans (((cell_far (p := ⟨gb153, _, none⟩) NB155_153.out _).trans (((cell_far (p := ⟨gb153, _, none⟩) NB155_153.out _).trans (((cell_far (p := ⟨gb153, _, none⟩) NB155_153.out _).trans (((cell_far (p := ⟨gb153, _, none⟩) NB155_153.out _).trans (((cell_far (p := ⟨gb153, _, none⟩) NB155_153.out _).trans (((cell_far (p := ⟨gb153, _, none⟩) NB155_153.out _).trans (hHeld.2.2.2.2.2.2.2.1)))))))))))))))))))), ((cell_far (p := ⟨gb153, _, none⟩) NB155_153.out _).trans (((cell_far (p := ⟨gb153, _, none⟩) NB155_153.out _).trans (((cell_far (p := ⟨gb153, _, none⟩) NB155_153.out _).trans (((cell_far (p := ⟨gb153, _, none⟩) NB155_153.out _).trans (((cell_far (p := ⟨gb153, _, none⟩) NB155_153.out _).trans (((cell_far (p := ⟨gb153, _, none⟩) NB155_153.out _).trans (((cell_far (p := ⟨gb153, _, none⟩) NB155_153.out _).trans (((cell_far (p := ⟨gb153, _, none⟩) NB155_153.out _).trans (((cell_far (p := ⟨gb153, _, none⟩) NB155_153.out _).trans (((cell_far (p := ⟨gb153, _, none⟩) NB155_153.out _).trans (hHeld.2.2.2.2.2.2.2.2.1)))))))))))))))))))), ((cell_far (p := ⟨gb153, _, none⟩) NB155_153.out _).trans (((cell_far (p := ⟨gb153, _, none⟩) NB155_153.out _).trans (((cell_far (p := ⟨gb153, _, none⟩) NB155_153.out _).trans (((cell_far (p := ⟨gb153, _, none⟩) NB155_153.out _).trans (((cell_far (p := ⟨gb153, _, none⟩) NB155_153.out _).trans (((cell_far (p := ⟨gb153, _, none⟩) NB155_153.out _).trans (((cell_far (p := ⟨gb153, _, none⟩) NB155_153.out _).trans (((cell_far (p := ⟨gb153, _, none⟩) NB155_153.out _).trans (((cell_far (p := ⟨gb153, _, none⟩) NB155_153.out _).trans (((cell_far (p := ⟨gb153, _, none⟩) NB155_153.out _).trans (hHeld.2.2.2.2.2.2.2.2.2))))))))))))))))))))⟩ (fun hHeld => ?_)
      clear hK K
      refine pure_ (i := 14) (N := some 5) (v := ?_) (a' := ?_) #[true, true, true, true, true, true, true, true, true, true, true, true, true, true, true] rfl rfl (any_of HT_.out (by kernel_rfl)) (fun _ _ _ h => h) (Or.inl ⟨by rfl, ?_⟩) ?_ ?_
      rotate_left
      ·intro w'
       go_simp
       with_reducible rfl
      rotate_left
      ·simp only [Act.put, List.setIfInBounds_toArray, List.set_cons_zero, List.set_cons_succ, i64_w, i32_w]
       rfl
      refine done_ (done_of HT_.out (by kernel_rfl)) ?_
      try go_wp2
      refine bodyPost_ret (results_ct rfl _ _ gb153 45 #[.int .i64 2, .int .i64 0, .string (⟨#[]⟩ : ByteArray), .string (⟨#[]⟩ : ByteArray), .string (⟨#[]⟩ : ByteArray), .string t154, .string t156, .string t160, .string t161, .slice none 0 0] (0, 0) _ rfl (zP10 BK153.out) Tryd.underlying45 rfl (by kernel_rfl)) rfl ?_
      exact ⟨_, zE, by first | exact Kd.R_nil _ _ _ _ _ | exact Kd.N_nil _ _ _ _ _ | exact Kd.V_nil _ _ _ _ _ | exact Kd.Q_nil _ _ _ _ _ | exact Kd.S_nil _ _ _ _ _, zL HB.out⟩
     ·rw [if_neg c22] at H
      have c22b0 : (t154.toList == ([] : List UInt8)) = false := beq_eq_false_iff_ne.mpr c22
      have c22b1 : (t154.toList != ([] : List UInt8)) = true := bne_iff_ne.mpr c22
      by_cases c38 : t162 = true
      ·subst c38
       have H1 : ((parse_has.f kj5 t161 (⟨#[124]⟩ : ByteArray)).bind fun t163 => (some (2, 0, (⟨#[]⟩ : ByteArray), (⟨#[]⟩ : ByteArray), (⟨#[]⟩ : ByteArray), t154, t156, t160, t161, ([] : List ByteArray), !t163))) = some (r1, r2, r3, r4, r5, r6, r7, r8, r9, r10, r11) := by rw [if_pos rfl] at H; exact H
       clear H
       have H := H1
       clear H1
       replace H := Option.bind_eq_some_iff.mp H
       obtain ⟨t163, A390, H⟩ := H
       replace H : (some (2, 0, (⟨#[]⟩ : ByteArray), (⟨#[]⟩ : ByteArray), (⟨#[]⟩ : ByteArray), t154, t156, t160, t161, ([] : List ByteArray), !t163)) = some (r1, r2, r3, r4, r5, r6, r7, r8, r9, r10, r11) := H
       have A39 := Aside0.mk A390
       clear A390
       simp only [Option.some.injEq, Prod.mk.injEq] at H
       obtain ⟨rfl, rfl, rfl, rfl, rfl, rfl, rfl, rfl, rfl, rfl, rfl⟩ := H
       try go_wp2_with (first | ((with_reducible refine gate_callee (f := 67) rfl ?_); refine goesL_ (some 33) rfl rfl Tryd.func67 (by kernel_rfl) rfl #[.string t157, .string (⟨#[124]⟩ : ByteArray)] rfl zA ?_; (with_reducible refine (parse_sides.calls kj5 t157 (⟨#[124]⟩ : ByteArray) t160 t161 true _ A21.out).mono ?_); rintro e w40 ⟨rfl, hb⟩; refine ⟨_, rfl, ?_⟩; have n0_ := Aside0.mk (blk_below (g := gb153) (o := .cells #[.int .i64 0, .int .i64 0, .string (⟨#[]⟩ : ByteArray), .string (⟨#[]⟩ : ByteArray), .string (⟨#[]⟩ : ByteArray), .string (⟨#[]⟩ : ByteArray), .string (⟨#[]⟩ : ByteArray), .string (⟨#[]⟩ : ByteArray), .string (⟨#[]⟩ : ByteArray), .slice none 0 0] 45 (0, 0)) (zK BK153.out) hb); have n1_ := Aside0.mk (blk_below (g := gb155) (o := .cells #[.int .i64 2, .int .i64 0, .string (⟨#[]⟩ : ByteArray), .string (⟨#[]⟩ : ByteArray), .string (⟨#[]⟩ : ByteArray), .string t154, .string t156, .string (⟨#[]⟩ : ByteArray), .string (⟨#[]⟩ : ByteArray), .slice none 0 0] 45 (0, 0)) (zK BK155.out) hb); have n2_ := Aside0.mk (below_step (zL HB.out) hb); revert n0_ n1_ n2_; clear BK153 BK155 HB; intro BK153 BK155 HB; (try clear hb); (try clear hb2); (try clear hk); (try clear hi); have hnb41 := NB155_153.out; have hnc41 := NB153_155.out; obtain ⟨hcz42_0, hcz42_1, hcz42_2, hcz42_3, hcz42_4, hcz42_5, hcz42_6, hcz42_7, hcz42_8, hcz42_9, hfz42_0, hfz42_1, hfz42_2, hfz42_3, hfz42_4, hfz42_5, hfz42_6, hfz42_7, hfz42_8, hfz42_9⟩ := zC10 BK155.out))
       have n0_ : Aside0 (((w40.setCell ⟨gb155, 7, none⟩ (.string t160)).setCell ⟨gb155, 8, none⟩ (.string t161)).heap[gb153]? = some (.cells #[.int .i64 0, .int .i64 0, .string (⟨#[]⟩ : ByteArray), .string (⟨#[]⟩ : ByteArray), .string (⟨#[]⟩ : ByteArray), .string (⟨#[]⟩ : ByteArray), .string (⟨#[]⟩ : ByteArray), .string (⟨#[]⟩ : ByteArray), .string (⟨#[]⟩ : ByteArray), .slice none 0 0] 45 (0, 0))) := ⟨zK BK153.out⟩
       have n1_ : Aside0 (((w40.setCell ⟨gb155, 7, none⟩ (.string t160)).setCell ⟨gb155, 8, none⟩ (.string t161)).heap[gb155]? = some (.cells #[.int .i64 2, .int .i64 0, .string (⟨#[]⟩ : ByteArray), .string (⟨#[]⟩ : ByteArray), .string (⟨#[]⟩ : ByteArray), .string t154, .string t156, .string t160, .string t161, .slice none 0 0] 45 (0, 0))) := ⟨by (with_reducible repeat (first | refine blk_drewN ?_ _ | refine blk_drew ?_ | refine blk_alloc ?_ _)); refine blk_put (cs := #[.int .i64 2, .int .i64 0, .string (⟨#[]⟩ : ByteArray), .string (⟨#[]⟩ : ByteArray), .string (⟨#[]⟩ : ByteArray), .string t154, .string t156, .string t160, .string (⟨#[]⟩ : ByteArray), .slice none 0 0]) ?_ 8 _ rfl; (with_reducible repeat (first | refine blk_drewN ?_ _ | refine blk_drew ?_ | refine blk_alloc ?_ _)); refine blk_put (cs := #[.int .i64 2, .int .i64 0, .string (⟨#[]⟩ : ByteArray), .string (⟨#[]⟩ : ByteArray), .string (⟨#[]⟩ : ByteArray), .string t154, .string t156, .string (⟨#[]⟩ : ByteArray), .string (⟨#[]⟩ : ByteArray), .slice none 0 0]) ?_ 7 _ rfl; (with_reducible repeat (first | refine blk_drewN ?_ _ | refine blk_drew ?_ | refine blk_alloc ?_ _)); exact BK155.out⟩
       have n2_ : Aside0 (Below w.heap.size w ((w40.setCell ⟨gb155, 7, none⟩ (.string t160)).setCell ⟨gb155, 8, none⟩ (.string t161))) := ⟨zL HB.out⟩
       (try clear BK153)
       (try clear BK155)
       (try clear HB)
       generalize ((w40.setCell ⟨gb155, 7, none⟩ (.string t160)).setCell ⟨gb155, 8, none⟩ (.string t161)) = w43 at n0_ n1_ n2_ ⊢
       have BK153 := n0_
       have BK155 := n1_
       have HB := n2_
       clear n0_ n1_ n2_
       have n0_ := Aside0.mk (blk_drew BK153.out)
       have n1_ := Aside0.mk (blk_drew BK155.out)
       have n2_ := Aside0.mk (below_drew1 HB.out)
       clear BK153
       clear BK155
       clear HB
       have BK153 := n0_
       have BK155 := n1_
       have HB := n2_
       clear n0_ n1_ n2_
       refine start_ (n := 15) (S := fun w' => w'.cell? ⟨gb155, 0, none⟩ = some (.int .i64 2) ∧ w'.cell? ⟨gb155, 1, none⟩ = some (.int .i64 0) ∧ w'.cell? ⟨gb155, 2, none⟩ = some (.string (⟨#[]⟩ : ByteArray)) ∧ w'.cell? ⟨gb155, 3, none⟩ = some (.string (⟨#[]⟩ : ByteArray)) ∧ w'.cell? ⟨gb155, 4, none⟩ = some (.string (⟨#[]⟩ : ByteArray)) ∧ w'.cell? ⟨gb155, 5, none⟩ = some (.string t154) ∧ w'.cell? ⟨gb155, 6, none⟩ = some (.string t156) ∧ w'.cell? ⟨gb155, 7, none⟩ = some (.string t160) ∧ w'.cell? ⟨gb155, 8, none⟩ = some (.string t161) ∧ w'.cell? ⟨gb155, 9, none⟩ = some (.slice none 0 0)) (ds := []) #[false, false, false, false, false, false, false, false, false, false, false, false, false, false, false] (by kernel_rfl) rfl rfl ⟨(blk_cell BK155.out 0).trans rfl, (blk_cell BK155.out 1).trans rfl, (blk_cell BK155.out 2).trans rfl, (blk_cell BK155.out 3).trans rfl, (blk_cell BK155.out 4).trans rfl, (blk_cell BK155.out 5).trans rfl, (blk_cell BK155.out 6).trans rfl, (blk_cell BK155.out 7).trans rfl, (blk_cell BK155.out 8).trans rfl, (blk_cell BK155.out 9).trans rfl⟩ (fun hHeld => ?_); refine with_tabW parse_rule.tab9 parse_rule.bits9 (fun HT_ HW_ => ?_)
       generalize w43.drew = w44 at BK153 BK155 HB hHeld ⊢
       refine pure_ (i := 1) (N := some 40) (v := ?_) (a' := ?_) #[false, true, false, false, false, false, false, false, false, false, false, false, false, false, false] rfl rfl (any_of HT_.out (by kernel_rfl)) (fun _ _ _ h => h) (Or.inl ⟨by rfl, ?_⟩) ?_ ?_
       rotate_left
       ·intro w'
        go_simp
        with_reducible rfl
       rotate_left
       ·simp only [Act.put, List.setIfInBounds_toArray, List.set_cons_zero, List.set_cons_succ, i64_w, i32_w]
        rfl
       refine take_ (i := 0) (N := some 39) (v := ?_) (a' := ?_) #[true, true, false, false, false, false, false, false, false, false, false, false, false, false, false] rfl rfl (take_ofW HT_.out HW_.out (by kernel_rfl)) (fun _ _ _ h => h) (Or.inl ⟨by rfl, ?_⟩) hHeld ?_ ?_
       rotate_left
       ·rintro w' ⟨s0, s1, s2, s3, s4, s5, s6, s7, s8, s9⟩
        go_simp
        with_reducible rfl
       rotate_left
       ·simp only [Act.put, List.setIfInBounds_toArray, List.set_cons_zero, List.set_cons_succ, i64_w, i32_w]
        rfl
       refine take_ (i := 2) (N := some 41) (v := ?_) (a' := ?_) #[true, true, true, false, false, false, false, false, false, false, false, false, false, false, false] rfl rfl (take_ofW HT_.out HW_.out (by kernel_rfl)) (fun _ _ _ h => h) (Or.inl ⟨by rfl, ?_⟩) hHeld ?_ ?_
       rotate_left
       ·rintro w' ⟨s0, s1, s2, s3, s4, s5, s6, s7, s8, s9⟩
        go_simp
        with_reducible rfl
       rotate_left
       ·simp only [Act.put, List.setIfInBounds_toArray, List.set_cons_zero, List.set_cons_succ, i64_w, i32_w]
        rfl
       refine pure_ (i := 3) (N := some 42) (v := ?_) (a' := ?_) #[true, true, true, true, false, false, false, false, false, false, false, false, false, false, false] rfl rfl (any_of HT_.out (by kernel_rfl)) (fun _ _ _ h => h) (Or.inl ⟨by rfl, ?_⟩) ?_ ?_
       rotate_left
       ·intro w'
        go_simp
        with_reducible rfl
       rotate_left
       ·simp only [Act.put, List.setIfInBounds_toArray, List.set_cons_zero, List.set_cons_succ, i64_w, i32_w]
        rfl
       refine pure_ (i := 4) (N := some 43) (v := ?_) (a' := ?_) #[true, true, true, true, true, false, false, false, false, false, false, false, false, false, false] rfl rfl (any_of HT_.out (by kernel_rfl)) (fun _ _ _ h => h) (Or.inl ⟨by rfl, ?_⟩) ?_ ?_
       rotate_left
       ·intro w'
        go_simp
        with_reducible rfl
       rotate_left
       ·simp only [Act.put, List.setIfInBounds_toArray, List.set_cons_zero, List.set_cons_succ, i64_w, i32_w]
        rfl
       refine pure_ (i := 5) (N := some 44) (v := ?_) (a' := ?_) #[true, true, true, true, true, true, false, false, false, false, false, false, false, false, false] rfl rfl (any_of HT_.out (by kernel_rfl)) (fun _ _ _ h => h) (Or.inl ⟨by rfl, ?_⟩) ?_ ?_
       rotate_left
       ·intro w'
        go_simp
        with_reducible rfl
       rotate_left
       ·simp only [Act.put, List.setIfInBounds_toArray, List.set_cons_zero, List.set_cons_succ, i64_w, i32_w]
        rfl
       refine pure_ (i := 6) (N := some 45) (v := ?_) (a' := ?_) #[true, true, true, true, true, true, true, false, false, false, false, false, false, false, false] rfl rfl (any_of HT_.out (by kernel_rfl)) (fun _ _ _ h => h) (Or.inl ⟨by rfl, ?_⟩) ?_ ?_
       rotate_left
       ·intro w'
        go_simp
        with_reducible rfl
       rotate_left
       ·simp only [Act.put, List.setIfInBounds_toArray, List.set_cons_zero, List.set_cons_succ, i64_w, i32_w]
        rfl
       refine pure_ (i := 7) (N := some 46) (v := ?_) (a' := ?_) #[true, true, true, true, true, true, true, true, false, false, false, false, false, false, false] rfl rfl (any_of HT_.out (by kernel_rfl)) (fun _ _ _ h => h) (Or.inl ⟨by rfl, ?_⟩) ?_ ?_
       rotate_left
       ·intro w'
        go_simp
        with_reducible rfl
       rotate_left
       ·simp only [Act.put, List.setIfInBounds_toArray, List.set_cons_zero, List.set_cons_succ, i64_w, i32_w]
        rfl
       refine take_ (i := 8) (N := some 47) (v := ?_) (a' := ?_) #[true, true, true, true, true, true, true, true, true, false, false, false, false, false, false] rfl rfl (take_ofW HT_.out HW_.out (by kernel_rfl)) (fun _ _ _ h => h) (Or.inl ⟨by rfl, ?_⟩) hHeld ?_ ?_
       rotate_left
       ·rintro w' ⟨s0, s1, s2, s3, s4, s5, s6, s7, s8, s9⟩
        go_simp
        with_reducible rfl
       rotate_left
       ·simp only [Act.put, List.setIfInBounds_toArray, List.set_cons_zero, List.set_cons_succ, i64_w, i32_w]
        rfl
       refine one_ (i := 9) (N := some 48) #[true, true, true, true, true, true, true, true, true, true, false, false, false, false, false] rfl rfl (one_of HT_.out (by kernel_rfl)) (by decide) (fun K hK => ?_)
       refine goes_ Tryd.func68 (by kernel_rfl) rfl #[.string t161, .string (⟨#[124]⟩ : ByteArray)] (by rfl) rfl rfl zA ?_
       with_reducible refine (parse_has.calls kj5 t161 (⟨#[124]⟩ : ByteArray) t163 _ A39.out).mono ?_
       rintro e w45 ⟨rfl, hb⟩
       refine ⟨_, rfl, ?_⟩
       have n0_ := Aside0.mk (blk_below (g := gb153) (o := .cells #[.int .i64 0, .int .i64 0, .string (⟨#[]⟩ : ByteArray), .string (⟨#[]⟩ : ByteArray), .string (⟨#[]⟩ : ByteArray), .string (⟨#[]⟩ : ByteArray), .string (⟨#[]⟩ : ByteArray), .string (⟨#[]⟩ : ByteArray), .string (⟨#[]⟩ : ByteArray), .slice none 0 0] 45 (0, 0)) (zK BK153.out) hb)
       have n1_ := Aside0.mk (blk_below (g := gb155) (o := .cells #[.int .i64 2, .int .i64 0, .string (⟨#[]⟩ : ByteArray), .string (⟨#[]⟩ : ByteArray), .string (⟨#[]⟩ : ByteArray), .string t154, .string t156, .string t160, .string t161, .slice none 0 0] 45 (0, 0)) (zK BK155.out) hb)
       have n2_ := Aside0.mk (below_step (zL HB.out) hb)
       clear BK153
       clear BK155
       clear HB
       have BK153 := n0_
       have BK155 := n1_
       have HB := n2_
       clear n0_ n1_ n2_
       (try clear hb)
       (try clear hb2)
       (try clear hk)
       (try clear hi)
       refine hK.out _ _ ⟨(blk_cell BK155.out 0).trans rfl, (blk_cell BK155.out 1).trans rfl, (blk_cell BK155.out 2).trans rfl, (blk_cell BK155.out 3).trans rfl, (blk_cell BK155.out 4).trans rfl, (blk_cell BK155.out 5).trans rfl, (blk_cell BK155.out 6).trans rfl, (blk_cell BK155.out 7).trans rfl, (blk_cell BK155.out 8).trans rfl, (blk_cell BK155.out 9).trans rfl⟩ (fun hHeld => ?_)
       clear hK K
       refine norm_ (a' := ?_) ?_ ?_
       rotate_left
       ·show Act.put _ (some 48) _ = _
        simp only [Act.put, List.setIfInBounds_toArray, List.set_cons_zero, List.set_cons_succ, i64_w, i32_w]
        rfl
       refine pure_ (i := 10) (N := some 49) (v := ?_) (a' := ?_) #[true, true, true, true, true, true, true, true, true, true, true, false, false, false, false] rfl rfl (any_of HT_.out (by kernel_rfl)) (fun _ _ _ h => h) (Or.inl ⟨by rfl, ?_⟩) ?_ ?_
       rotate_left
       ·intro w'
        go_simp
        with_reducible rfl
       rotate_left
       ·simp only [Act.put, List.setIfInBounds_toArray, List.set_cons_zero, List.set_cons_succ, i64_w, i32_w]
        rfl
       refine pure_ (i := 11) (N := some 50) (v := ?_) (a' := ?_) #[true, true, true, true, true, true, true, true, true, true, true, true, false, false, false] rfl rfl (any_of HT_.out (by kernel_rfl)) (fun _ _ _ h => h) (Or.inl ⟨by rfl, ?_⟩) ?_ ?_
       rotate_left
       ·intro w'
        go_simp
        with_reducible rfl
       rotate_left
       ·simp only [Act.put, List.setIfInBounds_toArray, List.set_cons_zero, List.set_cons_succ, i64_w, i32_w]
        rfl
       refine pure_ (i := 12) (N := some 51) (v := ?_) (a' := ?_) #[true, true, true, true, true, true, true, true, true, true, true, true, true, false, false] rfl rfl (any_of HT_.out (by kernel_rfl)) (fun _ _ _ h => h) (Or.inl ⟨by rfl, ?_⟩) ?_ ?_
       rotate_left
       ·intro w'
        go_simp
        with_reducible rfl
       rotate_left
       ·simp only [Act.put, List.setIfInBounds_toArray, List.set_cons_zero, List.set_cons_succ, i64_w, i32_w]
        rfl
       refine one_ (i := 13) (N := none) #[true, true, true, true, true, true, true, true, true, true, true, true, true, true, false] rfl rfl (one_of HT_.out (by kernel_rfl)) (by decide) (fun K hK => ?_)
       have hs46 : w45.cell? ⟨gb153, 0, none⟩ = some (.int .i64 0) := (blk_cell BK153.out 0).trans rfl
       have hfs46 := blk_frozen BK153.out 0
       have hns46_1 := NB155_153.out
       have hms46_1 := NB153_155.out
       have hs47 : w45.cell? ⟨gb153, 1, none⟩ = some (.int .i64 0) := (blk_cell BK153.out 1).trans rfl
       have hfs47 := blk_frozen BK153.out 1
       have hns47_1 := NB155_153.out
       have hms47_1 := NB153_155.out
       have hs48 : w45.cell? ⟨gb153, 2, none⟩ = some (.string (⟨#[]⟩ : ByteArray)) := (blk_cell BK153.out 2).trans rfl
       have hfs48 := blk_frozen BK153.out 2
       have hns48_1 := NB155_153.out
       have hms48_1 := NB153_155.out
       have hs49 : w45.cell? ⟨gb153, 3, none⟩ = some (.string (⟨#[]⟩ : ByteArray)) := (blk_cell BK153.out 3).trans rfl
       have hfs49 := blk_frozen BK153.out 3
       have hns49_1 := NB155_153.out
       have hms49_1 := NB153_155.out
       have hs50 : w45.cell? ⟨gb153, 4, none⟩ = some (.string (⟨#[]⟩ : ByteArray)) := (blk_cell BK153.out 4).trans rfl
       have hfs50 := blk_frozen BK153.out 4
       have hns50_1 := NB155_153.out
       have hms50_1 := NB153_155.out
       have hs51 : w45.cell? ⟨gb153, 5, none⟩ = some (.string (⟨#[]⟩ : ByteArray)) := (blk_cell BK153.out 5).trans rfl
       have hfs51 := blk_frozen BK153.out 5
       have hns51_1 := NB155_153.out
       have hms51_1 := NB153_155.out
       have hs52 : w45.cell? ⟨gb153, 6, none⟩ = some (.string (⟨#[]⟩ : ByteArray)) := (blk_cell BK153.out 6).trans rfl
       have hfs52 := blk_frozen BK153.out 6
       have hns52_1 := NB155_153.out
       have hms52_1 := NB153_155.out
       have hs53 : w45.cell? ⟨gb153, 7, none⟩ = some (.string (⟨#[]⟩ : ByteArray)) := (blk_cell BK153.out 7).trans rfl
       have hfs53 := blk_frozen BK153.out 7
       have hns53_1 := NB155_153.out
       have hms53_1 := NB153_155.out
       have hs54 : w45.cell? ⟨gb153, 8, none⟩ = some (.string (⟨#[]⟩ : ByteArray)) := (blk_cell BK153.out 8).trans rfl
       have hfs54 := blk_frozen BK153.out 8
       have hns54_1 := NB155_153.out
       have hms54_1 := NB153_155.out
       have hs55 : w45.cell? ⟨gb153, 9, none⟩ = some (.slice none 0 0) := (blk_cell BK153.out 9).trans rfl
       have hfs55 := blk_frozen BK153.out 9
       have hns55_1 := NB155_153.out
       have hms55_1 := NB153_155.out
       refine skip_ (w1 := ?_) (by rfl) rfl ?_ ?_
       rotate_left
       ·go_simp
        rfl
       refine hK.out _ _ ⟨((cell_far (p := ⟨gb153, _, none⟩) NB155_153.out _).trans (((cell_far (p := ⟨gb153, _, none⟩) NB155_153.out _).trans (((cell_far (p := ⟨gb153, _, none⟩) NB155_153.out _).trans (((cell_far (p := ⟨gb153, _, none⟩) NB155_153.out _).trans (((cell_far (p := ⟨gb153, _, none⟩) NB155_153.out _).trans (((cell_far (p := ⟨gb153, _, none⟩) NB155_153.out _).trans (((cell_far (p := ⟨gb153, _, none⟩) NB155_153.out _).trans (((cell_far (p := ⟨gb153, _, none⟩) NB155_153.out _).trans (((cell_far (p := ⟨gb153, _, none⟩) NB155_153.out _).trans (((cell_far (p := ⟨gb153, _, none⟩) NB155_153.out _).trans (hHeld.1)))))))))))))))))))), ((cell_far (p := ⟨gb153, _, none⟩) NB155_153.out _).trans (((cell_far (p := ⟨gb153, _, none⟩) NB155_153.out _).trans (((cell_far (p := ⟨gb153, _, none⟩) NB155_153.out _).trans (((cell_far (p := ⟨gb153, _, none⟩) NB155_153.out _).trans (((cell_far (p := ⟨gb153, _, none⟩) NB155_153.out _).trans (((cell_far (p := ⟨gb153, _, none⟩) NB155_153.out _).trans (((cell_far (p := ⟨gb153, _, none⟩) NB155_153.out _).trans (((cell_far (p := ⟨gb153, _, none⟩) NB155_153.out _).trans (((cell_far (p := ⟨gb153, _, none⟩) NB155_153.out _).trans (((cell_far (p := ⟨gb153, _, none⟩) NB155_153.out _).trans (hHeld.2.1)))))))))))))))))))), ((cell_far (p := ⟨gb153, _, none⟩) NB155_153.out _).trans (((cell_far (p := ⟨gb153, _, none⟩) NB155_153.out _).trans (((cell_far (p := ⟨gb153, _, none⟩) NB155_153.out _).trans (((cell_far (p := ⟨gb153, _, none⟩) NB155_153.out _).trans (((cell_far (p := ⟨gb153, _, none⟩) NB155_153.out _).trans (((cell_far (p := ⟨gb153, _, none⟩) NB155_153.out _).trans (((cell_far (p := ⟨gb153, _, none⟩) NB155_153.out _).trans (((cell_far (p := ⟨gb153, _, none⟩) NB155_153.out _).trans (((cell_far (p := ⟨gb153, _, none⟩) NB155_153.out _).trans (((cell_far (p := ⟨gb153, _, none⟩) NB155_153.out _).trans (hHeld.2.2.1)))))))))))))))))))), ((cell_far (p := ⟨gb153, _, none⟩) NB155_153.out _).trans (((cell_far (p := ⟨gb153, _, none⟩) NB155_153.out _).trans (((cell_far (p := ⟨gb153, _, none⟩) NB155_153.out _).trans (((cell_far (p := ⟨gb153, _, none⟩) NB155_153.out _).trans (((cell_far (p := ⟨gb153, _, none⟩) NB155_153.out _).trans (((cell_far (p := ⟨gb153, _, none⟩) NB155_153.out _).trans (((cell_far (p := ⟨gb153, _, none⟩) NB155_153.out _).trans (((cell_far (p := ⟨gb153, _, none⟩) NB155_153.out _).trans (((cell_far (p := ⟨gb153, _, none⟩) NB155_153.out _).trans (((cell_far (p := ⟨gb153, _, none⟩) NB155_153.out _).trans (hHeld.2.2.2.1)))))))))))))))))))), ((cell_far (p := ⟨gb153, _, none⟩) NB155_153.out _).trans (((cell_far (p := ⟨gb153, _, none⟩) NB155_153.out _).trans (((cell_far (p := ⟨gb153, _, none⟩) NB155_153.out _).trans (((cell_far (p := ⟨gb153, _, none⟩) NB155_153.out _).trans (((cell_far (p := ⟨gb153, _, none⟩) NB155_153.out _).trans (((cell_far (p := ⟨gb153, _, none⟩) NB155_153.out _).trans (((cell_far (p := ⟨gb153, _, none⟩) NB155_153.out _).trans (((cell_far (p := ⟨gb153, _, none⟩) NB155_153.out _).trans (((cell_far (p := ⟨gb153, _, none⟩) NB155_153.out _).trans (((cell_far (p := ⟨gb153, _, none⟩) NB155_153.out _).trans (hHeld.2.2.2.2.1)))))))))))))))))))), ((cell_far (p := ⟨gb153, _, none⟩) NB155_153.out _).trans (((cell_far (p := ⟨gb153, _, none⟩) NB155_153.out _).trans (((cell_far (p := ⟨gb153, _, none⟩) NB155_153.out _).trans (((cell_far (p := ⟨gb153, _, none⟩) NB155_153.out _).trans (((cell_far (p := ⟨gb153, _, none⟩) NB155_153.out _).trans (((cell_far (p := ⟨gb153, _, none⟩) NB155_153.out _).trans (((cell_far (p := ⟨gb153, _, none⟩) NB155_153.out _).trans (((cell_far (p := ⟨gb153, _, none⟩) NB155_153.out _).trans (((cell_far (p := ⟨gb153, _, none⟩) NB155_153.out _).trans (((cell_far (p := ⟨gb153, _, none⟩) NB155_153.out _).trans (hHeld.2.2.2.2.2.1)))))))))))))))))))), ((cell_far (p := ⟨gb153, _, none⟩) NB155_153.out _).trans (((cell_far (p := ⟨gb153, _, none⟩) NB155_153.out _).trans (((cell_far (p := ⟨gb153, _, none⟩) NB155_153.out _).trans (((cell_far (p := ⟨gb153, _, none⟩) NB155_153.out _).trans (((cell_far (p := ⟨gb153, _, none⟩) NB155_153.out _).trans (((cell_far (p := ⟨gb153, _, none⟩) NB155_153.out _).trans (((cell_far (p := ⟨gb153, _, none⟩) NB155_153.out _).trans (((cell_far (p := ⟨gb153, _, none⟩) NB155_153.out _).trans (((cell_far (p := ⟨gb153, _, none⟩) NB155_153.out _).trans (((cell_far (p := ⟨gb153, _, none⟩) NB155_153.out _).trans (hHeld.2.2.2.2.2.2.1)))))))))))))))))))), ((cell_far (p := ⟨gb153, _, none⟩) NB155_153.out _).trans (((cell_far (p := ⟨gb153, _, none⟩) NB155_153.out _).trans (((cell_far (p := ⟨gb153, _, none⟩) NB155_153.out _).trans (((cell_far (p := ⟨gb153, _, none⟩) NB155_153.out _).trans (((cell_far (p := ⟨gb153, _, none⟩) NB155_153.out _).trans (((cell_far (p := ⟨gb153, _, none⟩) NB155_153.out _).trans (((cell_far (p := ⟨gb153, _, none⟩) NB155_153.out _).trans (((cell_far (p := ⟨gb153, _, none⟩) NB155_153.out _).trans (((cell_far (p := ⟨gb153, _, none⟩) NB155_153.out _).trans (((cell_far (p := ⟨gb153, _, none⟩) NB155_153.out _).trans (hHeld.2.2.2.2.2.2.2.1)))))))))))))))))))), ((cell_far (p := ⟨gb153, _, none⟩) NB155_153.out _).trans (((cell_far (p := ⟨gb153, _, none⟩) NB155_153.out _).trans (((cell_far (p := ⟨gb153, _, none⟩) NB155_153.out _).trans (((cell_far (p := ⟨gb153, _, none⟩) NB155_153.out _).trans (((cell_far (p := ⟨gb153, _, none⟩) NB155_153.out _).trans (((cell_far (p := ⟨gb153, _, none⟩) NB155_153.out _).trans (((cell_far (p := ⟨gb153, _, none⟩) NB155_153.out _).trans (((cell_far (p := ⟨gb153, _, none⟩) NB155_153.out _).trans (((cell_far (p := ⟨gb153, _, none⟩) NB155_153.out _).trans (((cell_far (p := ⟨gb153, _, none⟩) NB155_153.out _).trans (hHeld.2.2.2.2.2.2.2.2.1)))))))))))))))))))), ((cell_far (p := ⟨gb153, _, none⟩) NB155_153.out _).trans (((cell_far (p := ⟨gb153, _, none⟩) NB155_153.out _).trans (((cell_far (p := ⟨gb153, _, none⟩) NB155_153.out _).trans (((cell_far (p := ⟨gb153, _, none⟩) NB155_153.out _).trans (((cell_far (p := ⟨gb153, _, none⟩) NB155_153.out _).trans (((cell_far (p := ⟨gb153, _, none⟩) NB155_153.out _).trans (((cell_far (p := ⟨gb153, _, none⟩) NB155_153.out _).trans (((cell_far (p := ⟨gb153, _, none⟩) NB155_153.out _).trans (((cell_far (p := ⟨gb153, _, none⟩) NB155_153.out _).trans (((cell_far (p := ⟨gb153, _, none⟩) NB155_153.out _).trans (hHeld.2.2.2.2.2.2.2.2.2))))))))))))))))))))⟩ (fun hHeld => ?_)
       clear hK K
       refine pure_ (i := 14) (N := some 5) (v := ?_) (a' := ?_) #[true, true, true, true, true, true, true, true, true, true, true, true, true, true, true] rfl rfl (any_of HT_.out (by kernel_rfl)) (fun _ _ _ h => h) (Or.inl ⟨by rfl, ?_⟩) ?_ ?_
       rotate_left
       ·intro w'
        go_simp
        with_reducible rfl
       rotate_left
       ·simp only [Act.put, List.setIfInBounds_toArray, List.set_cons_zero, List.set_cons_succ, i64_w, i32_w]
        rfl
       refine done_ (done_of HT_.out (by kernel_rfl)) ?_
       try go_wp2
       refine bodyPost_ret (results_ct rfl _ _ gb153 45 #[.int .i64 2, .int .i64 0, .string (⟨#[]⟩ : ByteArray), .string (⟨#[]⟩ : ByteArray), .string (⟨#[]⟩ : ByteArray), .string t154, .string t156, .string t160, .string t161, .slice none 0 0] (0, 0) _ rfl (zP10 BK153.out) Tryd.underlying45 rfl (by kernel_rfl)) rfl ?_
       exact ⟨_, zE, by first | exact Kd.R_nil _ _ _ _ _ | exact Kd.N_nil _ _ _ _ _ | exact Kd.V_nil _ _ _ _ _ | exact Kd.Q_nil _ _ _ _ _ | exact Kd.S_nil _ _ _ _ _, zL HB.out⟩
      ·replace c38 := Bool.eq_false_iff.mpr c38
       subst c38
       have H1 : (some (2, 0, (⟨#[]⟩ : ByteArray), (⟨#[]⟩ : ByteArray), (⟨#[]⟩ : ByteArray), t154, t156, t160, t161, ([] : List ByteArray), !false)) = some (r1, r2, r3, r4, r5, r6, r7, r8, r9, r10, r11) := by rw [if_neg (show ¬ (false = true) by decide)] at H; exact H
       clear H
       have H := H1
       clear H1
       simp only [Option.some.injEq, Prod.mk.injEq] at H
       obtain ⟨rfl, rfl, rfl, rfl, rfl, rfl, rfl, rfl, rfl, rfl, rfl⟩ := H
       try go_wp2_with (first | ((with_reducible refine gate_callee (f := 67) rfl ?_); refine goesL_ (some 33) rfl rfl Tryd.func67 (by kernel_rfl) rfl #[.string t157, .string (⟨#[124]⟩ : ByteArray)] rfl zA ?_; (with_reducible refine (parse_sides.calls kj5 t157 (⟨#[124]⟩ : ByteArray) t160 t161 false _ A21.out).mono ?_); rintro e w56 ⟨rfl, hb⟩; refine ⟨_, rfl, ?_⟩; have n0_ := Aside0.mk (blk_below (g := gb153) (o := .cells #[.int .i64 0, .int .i64 0, .string (⟨#[]⟩ : ByteArray), .string (⟨#[]⟩ : ByteArray), .string (⟨#[]⟩ : ByteArray), .string (⟨#[]⟩ : ByteArray), .string (⟨#[]⟩ : ByteArray), .string (⟨#[]⟩ : ByteArray), .string (⟨#[]⟩ : ByteArray), .slice none 0 0] 45 (0, 0)) (zK BK153.out) hb); have n1_ := Aside0.mk (blk_below (g := gb155) (o := .cells #[.int .i64 2, .int .i64 0, .string (⟨#[]⟩ : ByteArray), .string (⟨#[]⟩ : ByteArray), .string (⟨#[]⟩ : ByteArray), .string t154, .string t156, .string (⟨#[]⟩ : ByteArray), .string (⟨#[]⟩ : ByteArray), .slice none 0 0] 45 (0, 0)) (zK BK155.out) hb); have n2_ := Aside0.mk (below_step (zL HB.out) hb); revert n0_ n1_ n2_; clear BK153 BK155 HB; intro BK153 BK155 HB; (try clear hb); (try clear hb2); (try clear hk); (try clear hi); have hnb57 := NB155_153.out; have hnc57 := NB153_155.out; obtain ⟨hcz58_0, hcz58_1, hcz58_2, hcz58_3, hcz58_4, hcz58_5, hcz58_6, hcz58_7, hcz58_8, hcz58_9, hfz58_0, hfz58_1, hfz58_2, hfz58_3, hfz58_4, hfz58_5, hfz58_6, hfz58_7, hfz58_8, hfz58_9⟩ := zC10 BK155.out))
       have n0_ : Aside0 (((w56.setCell ⟨gb155, 7, none⟩ (.string t160)).setCell ⟨gb155, 8, none⟩ (.string t161)).heap[gb153]? = some (.cells #[.int .i64 0, .int .i64 0, .string (⟨#[]⟩ : ByteArray), .string (⟨#[]⟩ : ByteArray), .string (⟨#[]⟩ : ByteArray), .string (⟨#[]⟩ : ByteArray), .string (⟨#[]⟩ : ByteArray), .string (⟨#[]⟩ : ByteArray), .string (⟨#[]⟩ : ByteArray), .slice none 0 0] 45 (0, 0))) := ⟨zK BK153.out⟩
       have n1_ : Aside0 (((w56.setCell ⟨gb155, 7, none⟩ (.string t160)).setCell ⟨gb155, 8, none⟩ (.string t161)).heap[gb155]? = some (.cells #[.int .i64 2, .int .i64 0, .string (⟨#[]⟩ : ByteArray), .string (⟨#[]⟩ : ByteArray), .string (⟨#[]⟩ : ByteArray), .string t154, .string t156, .string t160, .string t161, .slice none 0 0] 45 (0, 0))) := ⟨by (with_reducible repeat (first | refine blk_drewN ?_ _ | refine blk_drew ?_ | refine blk_alloc ?_ _)); refine blk_put (cs := #[.int .i64 2, .int .i64 0, .string (⟨#[]⟩ : ByteArray), .string (⟨#[]⟩ : ByteArray), .string (⟨#[]⟩ : ByteArray), .string t154, .string t156, .string t160, .string (⟨#[]⟩ : ByteArray), .slice none 0 0]) ?_ 8 _ rfl; (with_reducible repeat (first | refine blk_drewN ?_ _ | refine blk_drew ?_ | refine blk_alloc ?_ _)); refine blk_put (cs := #[.int .i64 2, .int .i64 0, .string (⟨#[]⟩ : ByteArray), .string (⟨#[]⟩ : ByteArray), .string (⟨#[]⟩ : ByteArray), .string t154, .string t156, .string (⟨#[]⟩ : ByteArray), .string (⟨#[]⟩ : ByteArray), .slice none 0 0]) ?_ 7 _ rfl; (with_reducible repeat (first | refine blk_drewN ?_ _ | refine blk_drew ?_ | refine blk_alloc ?_ _)); exact BK155.out⟩
       have n2_ : Aside0 (Below w.heap.size w ((w56.setCell ⟨gb155, 7, none⟩ (.string t160)).setCell ⟨gb155, 8, none⟩ (.string t161))) := ⟨zL HB.out⟩
       (try clear BK153)
       (try clear BK155)
       (try clear HB)
       generalize ((w56.setCell ⟨gb155, 7, none⟩ (.string t160)).setCell ⟨gb155, 8, none⟩ (.string t161)) = w59 at n0_ n1_ n2_ ⊢
       have BK153 := n0_
       have BK155 := n1_
       have HB := n2_
       clear n0_ n1_ n2_
       have n0_ := Aside0.mk (blk_drew BK153.out)
       have n1_ := Aside0.mk (blk_drew BK155.out)
       have n2_ := Aside0.mk (below_drew1 HB.out)
       clear BK153
       clear BK155
       clear HB
       have BK153 := n0_
       have BK155 := n1_
       have HB := n2_
       clear n0_ n1_ n2_
       refine start_ (n := 15) (S := fun w' => w'.cell? ⟨gb155, 0, none⟩ = some (.int .i64 2) ∧ w'.cell? ⟨gb155, 1, none⟩ = some (.int .i64 0) ∧ w'.cell? ⟨gb155, 2, none⟩ = some (.string (⟨#[]⟩ : ByteArray)) ∧ w'.cell? ⟨gb155, 3, none⟩ = some (.string (⟨#[]⟩ : ByteArray)) ∧ w'.cell? ⟨gb155, 4, none⟩ = some (.string (⟨#[]⟩ : ByteArray)) ∧ w'.cell? ⟨gb155, 5, none⟩ = some (.string t154) ∧ w'.cell? ⟨gb155, 6, none⟩ = some (.string t156) ∧ w'.cell? ⟨gb155, 7, none⟩ = some (.string t160) ∧ w'.cell? ⟨gb155, 8, none⟩ = some (.string t161) ∧ w'.cell? ⟨gb155, 9, none⟩ = some (.slice none 0 0)) (ds := []) #[false, false, false, false, false, false, false, false, false, false, false, false, false, false, false] (by kernel_rfl) rfl rfl ⟨(blk_cell BK155.out 0).trans rfl, (blk_cell BK155.out 1).trans rfl, (blk_cell BK155.out 2).trans rfl, (blk_cell BK155.out 3).trans rfl, (blk_cell BK155.out 4).trans rfl, (blk_cell BK155.out 5).trans rfl, (blk_cell BK155.out 6).trans rfl, (blk_cell BK155.out 7).trans rfl, (blk_cell BK155.out 8).trans rfl, (blk_cell BK155.out 9).trans rfl⟩ (fun hHeld => ?_); refine with_tabW parse_rule.tab9 parse_rule.bits9 (fun HT_ HW_ => ?_)
       generalize w59.drew = w60 at BK153 BK155 HB hHeld ⊢
       refine pure_ (i := 1) (N := some 40) (v := ?_) (a' := ?_) #[false, true, false, false, false, false, false, false, false, false, false, false, false, false, false] rfl rfl (any_of HT_.out (by kernel_rfl)) (fun _ _ _ h => h) (Or.inl ⟨by rfl, ?_⟩) ?_ ?_
       rotate_left
       ·intro w'
        go_simp
        with_reducible rfl
       rotate_left
       ·simp only [Act.put, List.setIfInBounds_toArray, List.set_cons_zero, List.set_cons_succ, i64_w, i32_w]
        rfl
       refine take_ (i := 0) (N := some 39) (v := ?_) (a' := ?_) #[true, true, false, false, false, false, false, false, false, false, false, false, false, false, false] rfl rfl (take_ofW HT_.out HW_.out (by kernel_rfl)) (fun _ _ _ h => h) (Or.inl ⟨by rfl, ?_⟩) hHeld ?_ ?_
       rotate_left
       ·rintro w' ⟨s0, s1, s2, s3, s4, s5, s6, s7, s8, s9⟩
        go_simp
        with_reducible rfl
       rotate_left
       ·simp only [Act.put, List.setIfInBounds_toArray, List.set_cons_zero, List.set_cons_succ, i64_w, i32_w]
        rfl
       refine take_ (i := 2) (N := some 41) (v := ?_) (a' := ?_) #[true, true, true, false, false, false, false, false, false, false, false, false, false, false, false] rfl rfl (take_ofW HT_.out HW_.out (by kernel_rfl)) (fun _ _ _ h => h) (Or.inl ⟨by rfl, ?_⟩) hHeld ?_ ?_
       rotate_left
       ·rintro w' ⟨s0, s1, s2, s3, s4, s5, s6, s7, s8, s9⟩
        go_simp
        with_reducible rfl
       rotate_left
       ·simp only [Act.put, List.setIfInBounds_toArray, List.set_cons_zero, List.set_cons_succ, i64_w, i32_w]
        rfl
       refine pure_ (i := 3) (N := some 42) (v := ?_) (a' := ?_) #[true, true, true, true, false, false, false, false, false, false, false, false, false, false, false] rfl rfl (any_of HT_.out (by kernel_rfl)) (fun _ _ _ h => h) (Or.inl ⟨by rfl, ?_⟩) ?_ ?_
       rotate_left
       ·intro w'
        go_simp
        with_reducible rfl
       rotate_left
       ·simp only [Act.put, List.setIfInBounds_toArray, List.set_cons_zero, List.set_cons_succ, i64_w, i32_w]
        rfl
       refine pure_ (i := 4) (N := some 43) (v := ?_) (a' := ?_) #[true, true, true, true, true, false, false, false, false, false, false, false, false, false, false] rfl rfl (any_of HT_.out (by kernel_rfl)) (fun _ _ _ h => h) (Or.inl ⟨by rfl, ?_⟩) ?_ ?_
       rotate_left
       ·intro w'
        go_simp
        with_reducible rfl
       rotate_left
       ·simp only [Act.put, List.setIfInBounds_toArray, List.set_cons_zero, List.set_cons_succ, i64_w, i32_w]
        rfl
       refine pure_ (i := 5) (N := some 44) (v := ?_) (a' := ?_) #[true, true, true, true, true, true, false, false, false, false, false, false, false, false, false] rfl rfl (any_of HT_.out (by kernel_rfl)) (fun _ _ _ h => h) (Or.inl ⟨by rfl, ?_⟩) ?_ ?_
       rotate_left
       ·intro w'
        go_simp
        with_reducible rfl
       rotate_left
       ·simp only [Act.put, List.setIfInBounds_toArray, List.set_cons_zero, List.set_cons_succ, i64_w, i32_w]
        rfl
       refine pure_ (i := 6) (N := some 45) (v := ?_) (a' := ?_) #[true, true, true, true, true, true, true, false, false, false, false, false, false, false, false] rfl rfl (any_of HT_.out (by kernel_rfl)) (fun _ _ _ h => h) (Or.inl ⟨by rfl, ?_⟩) ?_ ?_
       rotate_left
       ·intro w'
        go_simp
        with_reducible rfl
       rotate_left
       ·simp only [Act.put, List.setIfInBounds_toArray, List.set_cons_zero, List.set_cons_succ, i64_w, i32_w]
        rfl
       refine pure_ (i := 7) (N := some 46) (v := undef) (a' := ?_) #[true, true, true, true, true, true, true, true, false, false, false, false, false, false, false] rfl rfl (any_of HT_.out (by kernel_rfl)) (fun _ _ _ h => h) (Or.inr ⟨by rfl, rfl⟩) ?_ ?_
       rotate_left
       ·simp only [Act.put, List.setIfInBounds_toArray, List.set_cons_zero, List.set_cons_succ, i64_w, i32_w]
        rfl
       refine pure_ (i := 8) (N := some 47) (v := undef) (a' := ?_) #[true, true, true, true, true, true, true, true, true, false, false, false, false, false, false] rfl rfl (any_of HT_.out (by kernel_rfl)) (fun _ _ _ h => h) (Or.inr ⟨by rfl, rfl⟩) ?_ ?_
       rotate_left
       ·simp only [Act.put, List.setIfInBounds_toArray, List.set_cons_zero, List.set_cons_succ, i64_w, i32_w]
        rfl
       refine pure_ (i := 9) (N := some 48) (v := undef) (a' := ?_) #[true, true, true, true, true, true, true, true, true, true, false, false, false, false, false] rfl rfl (any_of HT_.out (by kernel_rfl)) (fun _ _ _ h => h) (Or.inr ⟨by rfl, rfl⟩) ?_ ?_
       rotate_left
       ·simp only [Act.put, List.setIfInBounds_toArray, List.set_cons_zero, List.set_cons_succ, i64_w, i32_w]
        rfl
       refine pure_ (i := 10) (N := some 49) (v := ?_) (a' := ?_) #[true, true, true, true, true, true, true, true, true, true, true, false, false, false, false] rfl rfl (any_of HT_.out (by kernel_rfl)) (fun _ _ _ h => h) (Or.inl ⟨by rfl, ?_⟩) ?_ ?_
       rotate_left
       ·intro w'
        go_simp
        with_reducible rfl
       rotate_left
       ·simp only [Act.put, List.setIfInBounds_toArray, List.set_cons_zero, List.set_cons_succ, i64_w, i32_w]
        rfl
       refine pure_ (i := 11) (N := some 50) (v := ?_) (a' := ?_) #[true, true, true, true, true, true, true, true, true, true, true, true, false, false, false] rfl rfl (any_of HT_.out (by kernel_rfl)) (fun _ _ _ h => h) (Or.inl ⟨by rfl, ?_⟩) ?_ ?_
       rotate_left
       ·intro w'
        go_simp
        with_reducible rfl
       rotate_left
       ·simp only [Act.put, List.setIfInBounds_toArray, List.set_cons_zero, List.set_cons_succ, i64_w, i32_w]
        rfl
       refine pure_ (i := 12) (N := some 51) (v := ?_) (a' := ?_) #[true, true, true, true, true, true, true, true, true, true, true, true, true, false, false] rfl rfl (any_of HT_.out (by kernel_rfl)) (fun _ _ _ h => h) (Or.inl ⟨by rfl, ?_⟩) ?_ ?_
       rotate_left
       ·intro w'
        go_simp
        with_reducible rfl
       rotate_left
       ·simp only [Act.put, List.setIfInBounds_toArray, List.set_cons_zero, List.set_cons_succ, i64_w, i32_w]
        rfl
       refine one_ (i := 13) (N := none) #[true, true, true, true, true, true, true, true, true, true, true, true, true, true, false] rfl rfl (one_of HT_.out (by kernel_rfl)) (by decide) (fun K hK => ?_)
       have hs61 : w60.cell? ⟨gb153, 0, none⟩ = some (.int .i64 0) := (blk_cell BK153.out 0).trans rfl
       have hfs61 := blk_frozen BK153.out 0
       have hns61_1 := NB155_153.out
       have hms61_1 := NB153_155.out
       have hs62 : w60.cell? ⟨gb153, 1, none⟩ = some (.int .i64 0) := (blk_cell BK153.out 1).trans rfl
       have hfs62 := blk_frozen BK153.out 1
       have hns62_1 := NB155_153.out
       have hms62_1 := NB153_155.out
       have hs63 : w60.cell? ⟨gb153, 2, none⟩ = some (.string (⟨#[]⟩ : ByteArray)) := (blk_cell BK153.out 2).trans rfl
       have hfs63 := blk_frozen BK153.out 2
       have hns63_1 := NB155_153.out
       have hms63_1 := NB153_155.out
       have hs64 : w60.cell? ⟨gb153, 3, none⟩ = some (.string (⟨#[]⟩ : ByteArray)) := (blk_cell BK153.out 3).trans rfl
       have hfs64 := blk_frozen BK153.out 3
       have hns64_1 := NB155_153.out
       have hms64_1 := NB153_155.out
       have hs65 : w60.cell? ⟨gb153, 4, none⟩ = some (.string (⟨#[]⟩ : ByteArray)) := (blk_cell BK153.out 4).trans rfl
       have hfs65 := blk_frozen BK153.out 4
       have hns65_1 := NB155_153.out
       have hms65_1 := NB153_155.out
       have hs66 : w60.cell? ⟨gb153, 5, none⟩ = some (.string (⟨#[]⟩ : ByteArray)) := (blk_cell BK153.out 5).trans rfl
       have hfs66 := blk_frozen BK153.out 5
       have hns66_1 := NB155_153.out
       have hms66_1 := NB153_155.out
       have hs67 : w60.cell? ⟨gb153, 6, none⟩ = some (.string (⟨#[]⟩ : ByteArray)) := (blk_cell BK153.out 6).trans rfl
       have hfs67 := blk_frozen BK153.out 6
       have hns67_1 := NB155_153.out
       have hms67_1 := NB153_155.out
       have hs68 : w60.cell? ⟨gb153, 7, none⟩ = some (.string (⟨#[]⟩ : ByteArray)) := (blk_cell BK153.out 7).trans rfl
       have hfs68 := blk_frozen BK153.out 7
       have hns68_1 := NB155_153.out
       have hms68_1 := NB153_155.out
       have hs69 : w60.cell? ⟨gb153, 8, none⟩ = some (.string (⟨#[]⟩ : ByteArray)) := (blk_cell BK153.out 8).trans rfl
       have hfs69 := blk_frozen BK153.out 8
       have hns69_1 := NB155_153.out
       have hms69_1 := NB153_155.out
       have hs70 : w60.cell? ⟨gb153, 9, none⟩ = some (.slice none 0 0) := (blk_cell BK153.out 9).trans rfl
       have hfs70 := blk_frozen BK153.out 9
       have hns70_1 := NB155_153.out
       have hms70_1 := NB153_155.out
       refine skip_ (w1 := ?_) (by rfl) rfl ?_ ?_
       rotate_left
       ·go_simp
        rfl
       refine hK.out _ _ ⟨((cell_far (p := ⟨gb153, _, none⟩) NB155_153.out _).trans (((cell_far (p := ⟨gb153, _, none⟩) NB155_153.out _).trans (((cell_far (p := ⟨gb153, _, none⟩) NB155_153.out _).trans (((cell_far (p := ⟨gb153, _, none⟩) NB155_153.out _).trans (((cell_far (p := ⟨gb153, _, none⟩) NB155_153.out _).trans (((cell_far (p := ⟨gb153, _, none⟩) NB155_153.out _).trans (((cell_far (p := ⟨gb153, _, none⟩) NB155_153.out _).trans (((cell_far (p := ⟨gb153, _, none⟩) NB155_153.out _).trans (((cell_far (p := ⟨gb153, _, none⟩) NB155_153.out _).trans (((cell_far (p := ⟨gb153, _, none⟩) NB155_153.out _).trans (hHeld.1)))))))))))))))))))), ((cell_far (p := ⟨gb153, _, none⟩) NB155_153.out _).trans (((cell_far (p := ⟨gb153, _, none⟩) NB155_153.out _).trans (((cell_far (p := ⟨gb153, _, none⟩) NB155_153.out _).trans (((cell_far (p := ⟨gb153, _, none⟩) NB155_153.out _).trans (((cell_far (p := ⟨gb153, _, none⟩) NB155_153.out _).trans (((cell_far (p := ⟨gb153, _, none⟩) NB155_153.out _).trans (((cell_far (p := ⟨gb153, _, none⟩) NB155_153.out _).trans (((cell_far (p := ⟨gb153, _, none⟩) NB155_153.out _).trans (((cell_far (p := ⟨gb153, _, none⟩) NB155_153.out _).trans (((cell_far (p := ⟨gb153, _, none⟩) NB155_153.out _).trans (hHeld.2.1)))))))))))))))))))), ((cell_far (p := ⟨gb153, _, none⟩) NB155_153.out _).trans (((cell_far (p := ⟨gb153, _, none⟩) NB155_153.out _).trans (((cell_far (p := ⟨gb153, _, none⟩) NB155_153.out _).trans (((cell_far (p := ⟨gb153, _, none⟩) NB155_153.out _).trans (((cell_far (p := ⟨gb153, _, none⟩) NB155_153.out _).trans (((cell_far (p := ⟨gb153, _, none⟩) NB155_153.out _).trans (((cell_far (p := ⟨gb153, _, none⟩) NB155_153.out _).trans (((cell_far (p := ⟨gb153, _, none⟩) NB155_153.out _).trans (((cell_far (p := ⟨gb153, _, none⟩) NB155_153.out _).trans (((cell_far (p := ⟨gb153, _, none⟩) NB155_153.out _).trans (hHeld.2.2.1)))))))))))))))))))), ((cell_far (p := ⟨gb153, _, none⟩) NB155_153.out _).trans (((cell_far (p := ⟨gb153, _, none⟩) NB155_153.out _).trans (((cell_far (p := ⟨gb153, _, none⟩) NB155_153.out _).trans (((cell_far (p := ⟨gb153, _, none⟩) NB155_153.out _).trans (((cell_far (p := ⟨gb153, _, none⟩) NB155_153.out _).trans (((cell_far (p := ⟨gb153, _, none⟩) NB155_153.out _).trans (((cell_far (p := ⟨gb153, _, none⟩) NB155_153.out _).trans (((cell_far (p := ⟨gb153, _, none⟩) NB155_153.out _).trans (((cell_far (p := ⟨gb153, _, none⟩) NB155_153.out _).trans (((cell_far (p := ⟨gb153, _, none⟩) NB155_153.out _).trans (hHeld.2.2.2.1)))))))))))))))))))), ((cell_far (p := ⟨gb153, _, none⟩) NB155_153.out _).trans (((cell_far (p := ⟨gb153, _, none⟩) NB155_153.out _).trans (((cell_far (p := ⟨gb153, _, none⟩) NB155_153.out _).trans (((cell_far (p := ⟨gb153, _, none⟩) NB155_153.out _).trans (((cell_far (p := ⟨gb153, _, none⟩) NB155_153.out _).trans (((cell_far (p := ⟨gb153, _, none⟩) NB155_153.out _).trans (((cell_far (p := ⟨gb153, _, none⟩) NB155_153.out _).trans (((cell_far (p := ⟨gb153, _, none⟩) NB155_153.out _).trans (((cell_far (p := ⟨gb153, _, none⟩) NB155_153.out _).trans (((cell_far (p := ⟨gb153, _, none⟩) NB155_153.out _).trans (hHeld.2.2.2.2.1)))))))))))))))))))), ((cell_far (p := ⟨gb153, _, none⟩) NB155_153.out _).trans (((cell_far (p := ⟨gb153, _, none⟩) NB155_153.out _).trans (((cell_far (p := ⟨gb153, _, none⟩) NB155_153.out _).trans (((cell_far (p := ⟨gb153, _, none⟩) NB155_153.out _).trans (((cell_far (p := ⟨gb153, _, none⟩) NB155_153.out _).trans (((cell_far (p := ⟨gb153, _, none⟩) NB155_153.out _).trans (((cell_far (p := ⟨gb153, _, none⟩) NB155_153.out _).trans (((cell_far (p := ⟨gb153, _, none⟩) NB155_153.out _).trans (((cell_far (p := ⟨gb153, _, none⟩) NB155_153.out _).trans (((cell_far (p := ⟨gb153, _, none⟩) NB155_153.out _).trans (hHeld.2.2.2.2.2.1)))))))))))))))))))), ((cell_far (p := ⟨gb153, _, none⟩) NB155_153.out _).trans (((cell_far (p := ⟨gb153, _, none⟩) NB155_153.out _).trans (((cell_far (p := ⟨gb153, _, none⟩) NB155_153.out _).trans (((cell_far (p := ⟨gb153, _, none⟩) NB155_153.out _).trans (((cell_far (p := ⟨gb153, _, none⟩) NB155_153.out _).trans (((cell_far (p := ⟨gb153, _, none⟩) NB155_153.out _).trans (((cell_far (p := ⟨gb153, _, none⟩) NB155_153.out _).trans (((cell_far (p := ⟨gb153, _, none⟩) NB155_153.out _).trans (((cell_far (p := ⟨gb153, _, none⟩) NB155_153.out _).trans (((cell_far (p := ⟨gb153, _, none⟩) NB155_153.out _).trans (hHeld.2.2.2.2.2.2.1)))))))))))))))))))), ((cell_far (p := ⟨gb153, _, none⟩) NB155_153.out _).trans (((cell_far (p := ⟨gb153, _, none⟩) NB155_153.out _).trans (((cell_far (p := ⟨gb153, _, none⟩) NB155_153.out _).trans (((cell_far (p := ⟨gb153, _, none⟩) NB155_153.out _).trans (((cell_far (p := ⟨gb153, _, none⟩) NB155_153.out _).trans (((cell_far (p := ⟨gb153, _, none⟩) NB155_153.out _).trans (((cell_far (p := ⟨gb153, _, none⟩) NB155_153.out _).trans (((cell_far (p := ⟨gb153, _, none⟩) NB155_153.out _).trans (((cell_far (p := ⟨gb153, _, none⟩) NB155_153.out _).trans (((cell_far (p := ⟨gb153, _, none⟩) NB155_153.out _).trans (hHeld.2.2.2.2.2.2.2.1)))))))))))))))))))), ((cell_far (p := ⟨gb153, _, none⟩) NB155_153.out _).trans (((cell_far (p := ⟨gb153, _, none⟩) NB155_153.out _).trans (((cell_far (p := ⟨gb153, _, none⟩) NB155_153.out _).trans (((cell_far (p := ⟨gb153, _, none⟩) NB155_153.out _).trans (((cell_far (p := ⟨gb153, _, none⟩) NB155_153.out _).trans (((cell_far (p := ⟨gb153, _, none⟩) NB155_153.out _).trans (((cell_far (p := ⟨gb153, _, none⟩) NB155_153.out _).trans (((cell_far (p := ⟨gb153, _, none⟩) NB155_153.out _).trans (((cell_far (p := ⟨gb153, _, none⟩) NB155_153.out _).trans (((cell_far (p := ⟨gb153, _, none⟩) NB155_153.out _).trans (hHeld.2.2.2.2.2.2.2.2.1)))))))))))))))))))), ((cell_far (p := ⟨gb153, _, none⟩) NB155_153.out _).trans (((cell_far (p := ⟨gb153, _, none⟩) NB155_153.out _).trans (((cell_far (p := ⟨gb153, _, none⟩) NB155_153.out _).trans (((cell_far (p := ⟨gb153, _, none⟩) NB155_153.out _).trans (((cell_far (p := ⟨gb153, _, none⟩) NB155_153.out _).trans (((cell_far (p := ⟨gb153, _, none⟩) NB155_153.out _).trans (((cell_far (p := ⟨gb153, _, none⟩) NB155_153.out _).trans (((cell_far (p := ⟨gb153, _, none⟩) NB155_153.out _).trans (((cell_far (p := ⟨gb153, _, none⟩) NB155_153.out _).trans (((cell_far (p := ⟨gb153, _, none⟩) NB155_153.out _).trans (hHeld.2.2.2.2.2.2.2.2.2))))))))))))))))))))⟩ (fun hHeld => ?_)
       clear hK K
       refine pure_ (i := 14) (N := some 5) (v := ?_) (a' := ?_) #[true, true, true, true, true, true, true, true, true, true, true, true, true, true, true] rfl rfl (any_of HT_.out (by kernel_rfl)) (fun _ _ _ h => h) (Or.inl ⟨by rfl, ?_⟩) ?_ ?_
       rotate_left
       ·intro w'
        go_simp
        with_reducible rfl
       rotate_left
       ·simp only [Act.put, List.setIfInBounds_toArray, List.set_cons_zero, List.set_cons_succ, i64_w, i32_w]
        rfl
       refine done_ (done_of HT_.out (by kernel_rfl)) ?_
       try go_wp2
       refine bodyPost_ret (results_ct rfl _ _ gb153 45 #[.int .i64 2, .int .i64 0, .string (⟨#[]⟩ : ByteArray), .string (⟨#[]⟩ : ByteArray), .string (⟨#[]⟩ : ByteArray), .string t154, .string t156, .string t160, .string t161, .slice none 0 0] (0, 0) _ rfl (zP10 BK153.out) Tryd.underlying45 rfl (by kernel_rfl)) rfl ?_
       exact ⟨_, zE, by first | exact Kd.R_nil _ _ _ _ _ | exact Kd.N_nil _ _ _ _ _ | exact Kd.V_nil _ _ _ _ _ | exact Kd.Q_nil _ _ _ _ _ | exact Kd.S_nil _ _ _ _ _, zL HB.out⟩
 ·replace c5 := Bool.eq_false_iff.mpr c5
  subst c5
  have H1 : ((parse_sides.f k a1 (⟨#[124]⟩ : ByteArray)).bind fun bt164 => (if t154.toList = ([] : List UInt8) then (some (2, 0, (⟨#[]⟩ : ByteArray), (⟨#[]⟩ : ByteArray), (⟨#[]⟩ : ByteArray), t154, (⟨#[]⟩ : ByteArray), bt164.1, bt164.2.1, ([] : List ByteArray), false)) else (if bt164.2.2 = true then ((parse_has.f k bt164.2.1 (⟨#[124]⟩ : ByteArray)).bind fun t167 => (some (2, 0, (⟨#[]⟩ : ByteArray), (⟨#[]⟩ : ByteArray), (⟨#[]⟩ : ByteArray), t154, (⟨#[]⟩ : ByteArray), bt164.1, bt164.2.1, ([] : List ByteArray), !t167))) else (some (2, 0, (⟨#[]⟩ : ByteArray), (⟨#[]⟩ : ByteArray), (⟨#[]⟩ : ByteArray), t154, (⟨#[]⟩ : ByteArray), bt164.1, bt164.2.1, ([] : List ByteArray), !false))))) = some (r1, r2, r3, r4, r5, r6, r7, r8, r9, r10, r11) := by rw [if_neg (show ¬ (false = true) by decide)] at H; exact H
  clear H
  have H := H1
  clear H1
  replace H := Option.bind_eq_some_iff.mp H
  obtain ⟨⟨t164, t165, t166⟩, A710, H⟩ := H
  replace H : (if t154.toList = ([] : List UInt8) then (some (2, 0, (⟨#[]⟩ : ByteArray), (⟨#[]⟩ : ByteArray), (⟨#[]⟩ : ByteArray), t154, (⟨#[]⟩ : ByteArray), t164, t165, ([] : List ByteArray), false)) else (if t166 = true then ((parse_has.f k t165 (⟨#[124]⟩ : ByteArray)).bind fun t167 => (some (2, 0, (⟨#[]⟩ : ByteArray), (⟨#[]⟩ : ByteArray), (⟨#[]⟩ : ByteArray), t154, (⟨#[]⟩ : ByteArray), t164, t165, ([] : List ByteArray), !t167))) else (some (2, 0, (⟨#[]⟩ : ByteArray), (⟨#[]⟩ : ByteArray), (⟨#[]⟩ : ByteArray), t154, (⟨#[]⟩ : ByteArray), t164, t165, ([] : List ByteArray), !false)))) = some (r1, r2, r3, r4, r5, r6, r7, r8, r9, r10, r11) := H
  have A71 := Aside0.mk A710
  clear A710
  by_cases c72 : t154.toList = ([] : List UInt8)
  ·rw [if_pos c72] at H
   have c72b0 : (t154.toList == ([] : List UInt8)) = true := beq_iff_eq.mpr c72
   have c72b1 : (t154.toList != ([] : List UInt8)) = false := bne_eq_false_iff_eq.mpr c72
   clear c72
   simp only [Option.some.injEq, Prod.mk.injEq] at H
   obtain ⟨rfl, rfl, rfl, rfl, rfl, rfl, rfl, rfl, rfl, rfl, rfl⟩ := H
   go_enter Tryd.func45, Tryd.ntmps45
   try go_wp2_with (first | ((with_reducible refine gate_dst (N := 4) rfl ?_); refine box_event ?hg (N := 4) ?hd (cs := #[.int .i64 0, .int .i64 0, .string (⟨#[]⟩ : ByteArray), .string (⟨#[]⟩ : ByteArray), .string (⟨#[]⟩ : ByteArray), .string (⟨#[]⟩ : ByteArray), .string (⟨#[]⟩ : ByteArray), .string (⟨#[]⟩ : ByteArray), .string (⟨#[]⟩ : ByteArray), .slice none 0 0]) (t := 45) ?hr ?_; (case hd => rfl); (case hg => rfl); (case hr => first | (go_simp; done) | (go_simp; rfl)); intro gb153 hg w73 hbox hb; have n0_ := Aside0.mk (below_step (zL HB.out) hb); have n1_ := Aside0.mk (hbox); have n2_ := Aside0.mk (zG hg (zL HB.out)); have n3_ := Aside0.mk (zG hg (zL HB.out)); revert n0_ n1_ n2_ n3_; clear HB; intro HB BK153 GW153 GE153; clear hb hbox hg) | ((with_reducible refine gate_callee (f := 24) rfl ?_); refine goesL_ (some 12) rfl rfl Tryd.func24 (by kernel_rfl) rfl #[.string a0] rfl zA ?_; (with_reducible refine (text_Trim.calls a0 t154 _ A3.out).mono ?_); rintro e w74 ⟨rfl, hb⟩; refine ⟨_, rfl, ?_⟩; have n0_ := Aside0.mk (blk_below (g := gb153) (o := .cells #[.int .i64 0, .int .i64 0, .string (⟨#[]⟩ : ByteArray), .string (⟨#[]⟩ : ByteArray), .string (⟨#[]⟩ : ByteArray), .string (⟨#[]⟩ : ByteArray), .string (⟨#[]⟩ : ByteArray), .string (⟨#[]⟩ : ByteArray), .string (⟨#[]⟩ : ByteArray), .slice none 0 0] 45 (0, 0)) (zK BK153.out) hb); have n1_ := Aside0.mk (below_step (zL HB.out) hb); revert n0_ n1_; clear BK153 HB; intro BK153 HB; (try clear hb); (try clear hb2); (try clear hk); (try clear hi)) | ((with_reducible refine gate_dst (N := 6) rfl ?_); refine box_event ?hg (N := 6) ?hd (cs := #[.int .i64 0, .int .i64 0, .string (⟨#[]⟩ : ByteArray), .string (⟨#[]⟩ : ByteArray), .string (⟨#[]⟩ : ByteArray), .string (⟨#[]⟩ : ByteArray), .string (⟨#[]⟩ : ByteArray), .string (⟨#[]⟩ : ByteArray), .string (⟨#[]⟩ : ByteArray), .slice none 0 0]) (t := 45) ?hr ?_; (case hd => rfl); (case hg => rfl); (case hr => first | (go_simp; done) | (go_simp; rfl)); intro gb155 hg w75 hbox hb; have n0_ := Aside0.mk (blk_below (g := gb153) (o := .cells #[.int .i64 0, .int .i64 0, .string (⟨#[]⟩ : ByteArray), .string (⟨#[]⟩ : ByteArray), .string (⟨#[]⟩ : ByteArray), .string (⟨#[]⟩ : ByteArray), .string (⟨#[]⟩ : ByteArray), .string (⟨#[]⟩ : ByteArray), .string (⟨#[]⟩ : ByteArray), .slice none 0 0] 45 (0, 0)) (zK BK153.out) hb); have n1_ := Aside0.mk (below_step (zL HB.out) hb); have n2_ := Aside0.mk (hbox); have n3_ := Aside0.mk (zG hg (zL HB.out)); have n4_ := Aside0.mk (zG hg (zL HB.out)); have n5_ := Aside0.mk (zN (g := gb153) (o := .cells #[.int .i64 0, .int .i64 0, .string (⟨#[]⟩ : ByteArray), .string (⟨#[]⟩ : ByteArray), .string (⟨#[]⟩ : ByteArray), .string (⟨#[]⟩ : ByteArray), .string (⟨#[]⟩ : ByteArray), .string (⟨#[]⟩ : ByteArray), .string (⟨#[]⟩ : ByteArray), .slice none 0 0] 45 (0, 0)) hg (zK BK153.out)); have n6_ := Aside0.mk (zO (g := gb153) (o := .cells #[.int .i64 0, .int .i64 0, .string (⟨#[]⟩ : ByteArray), .string (⟨#[]⟩ : ByteArray), .string (⟨#[]⟩ : ByteArray), .string (⟨#[]⟩ : ByteArray), .string (⟨#[]⟩ : ByteArray), .string (⟨#[]⟩ : ByteArray), .string (⟨#[]⟩ : ByteArray), .slice none 0 0] 45 (0, 0)) hg (zK BK153.out)); revert n0_ n1_ n2_ n3_ n4_ n5_ n6_; clear BK153 HB; intro BK153 HB BK155 GW155 GE155 NB153_155 NB155_153; clear hb hbox hg; have hnb76 := NB155_153.out; have hnc76 := NB153_155.out; obtain ⟨hcz77_0, hcz77_1, hcz77_2, hcz77_3, hcz77_4, hcz77_5, hcz77_6, hcz77_7, hcz77_8, hcz77_9, hfz77_0, hfz77_1, hfz77_2, hfz77_3, hfz77_4, hfz77_5, hfz77_6, hfz77_7, hfz77_8, hfz77_9⟩ := zC10 BK155.out) | ((with_reducible refine gate_callee (f := 67) rfl ?_); refine goesL_ (some 16) rfl rfl Tryd.func67 (by kernel_rfl) rfl #[.string a1, .string (⟨#[58]⟩ : ByteArray)] rfl zA ?_; (with_reducible refine (parse_sides.calls k a1 (⟨#[58]⟩ : ByteArray) t156 t157 false _ A4.out).mono ?_); rintro e w78 ⟨rfl, hb⟩; refine ⟨_, rfl, ?_⟩; have n0_ := Aside0.mk (blk_below (g := gb153) (o := .cells #[.int .i64 0, .int .i64 0, .string (⟨#[]⟩ : ByteArray), .string (⟨#[]⟩ : ByteArray), .string (⟨#[]⟩ : ByteArray), .string (⟨#[]⟩ : ByteArray), .string (⟨#[]⟩ : ByteArray), .string (⟨#[]⟩ : ByteArray), .string (⟨#[]⟩ : ByteArray), .slice none 0 0] 45 (0, 0)) (zK BK153.out) hb); have n1_ := Aside0.mk (blk_below (g := gb155) (o := .cells #[.int .i64 2, .int .i64 0, .string (⟨#[]⟩ : ByteArray), .string (⟨#[]⟩ : ByteArray), .string (⟨#[]⟩ : ByteArray), .string t154, .string (⟨#[]⟩ : ByteArray), .string (⟨#[]⟩ : ByteArray), .string (⟨#[]⟩ : ByteArray), .slice none 0 0] 45 (0, 0)) (zP10 BK155.out) hb); have n2_ := Aside0.mk (below_step (zL HB.out) hb); revert n0_ n1_ n2_; clear BK153 BK155 HB; intro BK153 BK155 HB; (try clear hb); (try clear hb2); (try clear hk); (try clear hi)) | ((with_reducible refine gate_callee (f := 67) rfl ?_); refine goesL_ (some 33) rfl rfl Tryd.func67 (by kernel_rfl) rfl #[.string a1, .string (⟨#[124]⟩ : ByteArray)] rfl zA ?_; (with_reducible refine (parse_sides.calls k a1 (⟨#[124]⟩ : ByteArray) t164 t165 t166 _ A71.out).mono ?_); rintro e w79 ⟨rfl, hb⟩; refine ⟨_, rfl, ?_⟩; have n0_ := Aside0.mk (blk_below (g := gb153) (o := .cells #[.int .i64 0, .int .i64 0, .string (⟨#[]⟩ : ByteArray), .string (⟨#[]⟩ : ByteArray), .string (⟨#[]⟩ : ByteArray), .string (⟨#[]⟩ : ByteArray), .string (⟨#[]⟩ : ByteArray), .string (⟨#[]⟩ : ByteArray), .string (⟨#[]⟩ : ByteArray), .slice none 0 0] 45 (0, 0)) (zK BK153.out) hb); have n1_ := Aside0.mk (blk_below (g := gb155) (o := .cells #[.int .i64 2, .int .i64 0, .string (⟨#[]⟩ : ByteArray), .string (⟨#[]⟩ : ByteArray), .string (⟨#[]⟩ : ByteArray), .string t154, .string (⟨#[]⟩ : ByteArray), .string (⟨#[]⟩ : ByteArray), .string (⟨#[]⟩ : ByteArray), .slice none 0 0] 45 (0, 0)) (zK BK155.out) hb); have n2_ := Aside0.mk (below_step (zL HB.out) hb); revert n0_ n1_ n2_; clear BK153 BK155 HB; intro BK153 BK155 HB; (try clear hb); (try clear hb2); (try clear hk); (try clear hi); obtain ⟨hcz80_0, hcz80_1, hcz80_2, hcz80_3, hcz80_4, hcz80_5, hcz80_6, hcz80_7, hcz80_8, hcz80_9, hfz80_0, hfz80_1, hfz80_2, hfz80_3, hfz80_4, hfz80_5, hfz80_6, hfz80_7, hfz80_8, hfz80_9⟩ := zC10 BK155.out))
   have n0_ : Aside0 (((w79.setCell ⟨gb155, 7, none⟩ (.string t164)).setCell ⟨gb155, 8, none⟩ (.string t165)).heap[gb153]? = some (.cells #[.int .i64 0, .int .i64 0, .string (⟨#[]⟩ : ByteArray), .string (⟨#[]⟩ : ByteArray), .string (⟨#[]⟩ : ByteArray), .string (⟨#[]⟩ : ByteArray), .string (⟨#[]⟩ : ByteArray), .string (⟨#[]⟩ : ByteArray), .string (⟨#[]⟩ : ByteArray), .slice none 0 0] 45 (0, 0))) := ⟨zK BK153.out⟩
   have n1_ : Aside0 (((w79.setCell ⟨gb155, 7, none⟩ (.string t164)).setCell ⟨gb155, 8, none⟩ (.string t165)).heap[gb155]? = some (.cells #[.int .i64 2, .int .i64 0, .string (⟨#[]⟩ : ByteArray), .string (⟨#[]⟩ : ByteArray), .string (⟨#[]⟩ : ByteArray), .string t154, .string (⟨#[]⟩ : ByteArray), .string t164, .string t165, .slice none 0 0] 45 (0, 0))) := ⟨by (with_reducible repeat (first | refine blk_drewN ?_ _ | refine blk_drew ?_ | refine blk_alloc ?_ _)); refine blk_put (cs := #[.int .i64 2, .int .i64 0, .string (⟨#[]⟩ : ByteArray), .string (⟨#[]⟩ : ByteArray), .string (⟨#[]⟩ : ByteArray), .string t154, .string (⟨#[]⟩ : ByteArray), .string t164, .string (⟨#[]⟩ : ByteArray), .slice none 0 0]) ?_ 8 _ rfl; (with_reducible repeat (first | refine blk_drewN ?_ _ | refine blk_drew ?_ | refine blk_alloc ?_ _)); refine blk_put (cs := #[.int .i64 2, .int .i64 0, .string (⟨#[]⟩ : ByteArray), .string (⟨#[]⟩ : ByteArray), .string (⟨#[]⟩ : ByteArray), .string t154, .string (⟨#[]⟩ : ByteArray), .string (⟨#[]⟩ : ByteArray), .string (⟨#[]⟩ : ByteArray), .slice none 0 0]) ?_ 7 _ rfl; (with_reducible repeat (first | refine blk_drewN ?_ _ | refine blk_drew ?_ | refine blk_alloc ?_ _)); exact BK155.out⟩
   have n2_ : Aside0 (Below w.heap.size w ((w79.setCell ⟨gb155, 7, none⟩ (.string t164)).setCell ⟨gb155, 8, none⟩ (.string t165))) := ⟨zL HB.out⟩
   (try clear BK153)
   (try clear BK155)
   (try clear HB)
   generalize ((w79.setCell ⟨gb155, 7, none⟩ (.string t164)).setCell ⟨gb155, 8, none⟩ (.string t165)) = w81 at n0_ n1_ n2_ ⊢
   have BK153 := n0_
   have BK155 := n1_
   have HB := n2_
   clear n0_ n1_ n2_
   have n0_ := Aside0.mk (blk_drew BK153.out)
   have n1_ := Aside0.mk (blk_drew BK155.out)
   have n2_ := Aside0.mk (below_drew1 HB.out)
   clear BK153
   clear BK155
   clear HB
   have BK153 := n0_
   have BK155 := n1_
   have HB := n2_
   clear n0_ n1_ n2_
   refine start_ (n := 15) (S := fun w' => w'.cell? ⟨gb155, 0, none⟩ = some (.int .i64 2) ∧ w'.cell? ⟨gb155, 1, none⟩ = some (.int .i64 0) ∧ w'.cell? ⟨gb155, 2, none⟩ = some (.string (⟨#[]⟩ : ByteArray)) ∧ w'.cell? ⟨gb155, 3, none⟩ = some (.string (⟨#[]⟩ : ByteArray)) ∧ w'.cell? ⟨gb155, 4, none⟩ = some (.string (⟨#[]⟩ : ByteArray)) ∧ w'.cell? ⟨gb155, 5, none⟩ = some (.string t154) ∧ w'.cell? ⟨gb155, 6, none⟩ = some (.string (⟨#[]⟩ : ByteArray)) ∧ w'.cell? ⟨gb155, 7, none⟩ = some (.string t164) ∧ w'.cell? ⟨gb155, 8, none⟩ = some (.string t165) ∧ w'.cell? ⟨gb155, 9, none⟩ = some (.slice none 0 0)) (ds := []) #[false, false, false, false, false, false, false, false, false, false, false, false, false, false, false] (by kernel_rfl) rfl rfl ⟨(blk_cell BK155.out 0).trans rfl, (blk_cell BK155.out 1).trans rfl, (blk_cell BK155.out 2).trans rfl, (blk_cell BK155.out 3).trans rfl, (blk_cell BK155.out 4).trans rfl, (blk_cell BK155.out 5).trans rfl, (blk_cell BK155.out 6).trans rfl, (blk_cell BK155.out 7).trans rfl, (blk_cell BK155.out 8).trans rfl, (blk_cell BK155.out 9).trans rfl⟩ (fun hHeld => ?_); refine with_tabW parse_rule.tab9 parse_rule.bits9 (fun HT_ HW_ => ?_)
   generalize w81.drew = w82 at BK153 BK155 HB hHeld ⊢
   refine pure_ (i := 1) (N := some 40) (v := ?_) (a' := ?_) #[false, true, false, false, false, false, false, false, false, false, false, false, false, false, false] rfl rfl (any_of HT_.out (by kernel_rfl)) (fun _ _ _ h => h) (Or.inl ⟨by rfl, ?_⟩) ?_ ?_
   rotate_left
   ·intro w'
    go_simp
    with_reducible rfl
   rotate_left
   ·simp only [Act.put, List.setIfInBounds_toArray, List.set_cons_zero, List.set_cons_succ, i64_w, i32_w]
    rfl
   refine take_ (i := 0) (N := some 39) (v := ?_) (a' := ?_) #[true, true, false, false, false, false, false, false, false, false, false, false, false, false, false] rfl rfl (take_ofW HT_.out HW_.out (by kernel_rfl)) (fun _ _ _ h => h) (Or.inl ⟨by rfl, ?_⟩) hHeld ?_ ?_
   rotate_left
   ·rintro w' ⟨s0, s1, s2, s3, s4, s5, s6, s7, s8, s9⟩
    go_simp
    with_reducible rfl
   rotate_left
   ·simp only [Act.put, List.setIfInBounds_toArray, List.set_cons_zero, List.set_cons_succ, i64_w, i32_w]
    rfl
   refine take_ (i := 2) (N := some 41) (v := ?_) (a' := ?_) #[true, true, true, false, false, false, false, false, false, false, false, false, false, false, false] rfl rfl (take_ofW HT_.out HW_.out (by kernel_rfl)) (fun _ _ _ h => h) (Or.inl ⟨by rfl, ?_⟩) hHeld ?_ ?_
   rotate_left
   ·rintro w' ⟨s0, s1, s2, s3, s4, s5, s6, s7, s8, s9⟩
    go_simp
    with_reducible rfl
   rotate_left
   ·simp only [Act.put, List.setIfInBounds_toArray, List.set_cons_zero, List.set_cons_succ, i64_w, i32_w]
    rfl
   refine pure_ (i := 3) (N := some 42) (v := ?_) (a' := ?_) #[true, true, true, true, false, false, false, false, false, false, false, false, false, false, false] rfl rfl (any_of HT_.out (by kernel_rfl)) (fun _ _ _ h => h) (Or.inl ⟨by rfl, ?_⟩) ?_ ?_
   rotate_left
   ·intro w'
    go_simp
    with_reducible rfl
   rotate_left
   ·simp only [Act.put, List.setIfInBounds_toArray, List.set_cons_zero, List.set_cons_succ, i64_w, i32_w]
    rfl
   refine pure_ (i := 4) (N := some 43) (v := ?_) (a' := ?_) #[true, true, true, true, true, false, false, false, false, false, false, false, false, false, false] rfl rfl (any_of HT_.out (by kernel_rfl)) (fun _ _ _ h => h) (Or.inl ⟨by rfl, ?_⟩) ?_ ?_
   rotate_left
   ·intro w'
    go_simp
    with_reducible rfl
   rotate_left
   ·simp only [Act.put, List.setIfInBounds_toArray, List.set_cons_zero, List.set_cons_succ, i64_w, i32_w]
    rfl
   refine pure_ (i := 5) (N := some 44) (v := undef) (a' := ?_) #[true, true, true, true, true, true, false, false, false, false, false, false, false, false, false] rfl rfl (any_of HT_.out (by kernel_rfl)) (fun _ _ _ h => h) (Or.inr ⟨by rfl, rfl⟩) ?_ ?_
   rotate_left
   ·simp only [Act.put, List.setIfInBounds_toArray, List.set_cons_zero, List.set_cons_succ, i64_w, i32_w]
    rfl
   refine pure_ (i := 6) (N := some 45) (v := undef) (a' := ?_) #[true, true, true, true, true, true, true, false, false, false, false, false, false, false, false] rfl rfl (any_of HT_.out (by kernel_rfl)) (fun _ _ _ h => h) (Or.inr ⟨by rfl, rfl⟩) ?_ ?_
   rotate_left
   ·simp only [Act.put, List.setIfInBounds_toArray, List.set_cons_zero, List.set_cons_succ, i64_w, i32_w]
    rfl
   refine pure_ (i := 7) (N := some 46) (v := undef) (a' := ?_) #[true, true, true, true, true, true, true, true, false, false, false, false, false, false, false] rfl rfl (any_of HT_.out (by kernel_rfl)) (fun _ _ _ h => h) (Or.inr ⟨by rfl, rfl⟩) ?_ ?_
   rotate_left
   ·simp only [Act.put, List.setIfInBounds_toArray, List.set_cons_zero, List.set_cons_succ, i64_w, i32_w]
    rfl
   refine pure_ (i := 8) (N := some 47) (v := undef) (a' := ?_) #[true, true, true, true, true, true, true, true, true, false, false, false, false, false, false] rfl rfl (any_of HT_.out (by kernel_rfl)) (fun _ _ _ h => h) (Or.inr ⟨by rfl, rfl⟩) ?_ ?_
   rotate_left
   ·simp only [Act.put, List.setIfInBounds_toArray, List.set_cons_zero, List.set_cons_succ, i64_w, i32_w]
    rfl
   refine pure_ (i := 9) (N := some 48) (v := undef) (a' := ?_) #[true, true, true, true, true, true, true, true, true, true, false, false, false, false, false] rfl rfl (any_of HT_.out (by kernel_rfl)) (fun _ _ _ h => h) (Or.inr ⟨by rfl, rfl⟩) ?_ ?_
   rotate_left
   ·simp only [Act.put, List.setIfInBounds_toArray, List.set_cons_zero, List.set_cons_succ, i64_w, i32_w]
    rfl
   refine pure_ (i := 10) (N := some 49) (v := undef) (a' := ?_) #[true, true, true, true, true, true, true, true, true, true, true, false, false, false, false] rfl rfl (any_of HT_.out (by kernel_rfl)) (fun _ _ _ h => h) (Or.inr ⟨by rfl, rfl⟩) ?_ ?_
   rotate_left
   ·simp only [Act.put, List.setIfInBounds_toArray, List.set_cons_zero, List.set_cons_succ, i64_w, i32_w]
    rfl
   refine pure_ (i := 11) (N := some 50) (v := undef) (a' := ?_) #[true, true, true, true, true, true, true, true, true, true, true, true, false, false, false] rfl rfl (any_of HT_.out (by kernel_rfl)) (fun _ _ _ h => h) (Or.inr ⟨by rfl, rfl⟩) ?_ ?_
   rotate_left
   ·simp only [Act.put, List.setIfInBounds_toArray, List.set_cons_zero, List.set_cons_succ, i64_w, i32_w]
    rfl
   refine pure_ (i := 12) (N := some 51) (v := ?_) (a' := ?_) #[true, true, true, true, true, true, true, true, true, true, true, true, true, false, false] rfl rfl (any_of HT_.out (by kernel_rfl)) (fun _ _ _ h => h) (Or.inl ⟨by rfl, ?_⟩) ?_ ?_
   rotate_left
   ·intro w'
    go_simp
    with_reducible rfl
   rotate_left
   ·simp only [Act.put, List.setIfInBounds_toArray, List.set_cons_zero, List.set_cons_succ, i64_w, i32_w]
    rfl
   refine one_ (i := 13) (N := none) #[true, true, true, true, true, true, true, true, true, true, true, true, true, true, false] rfl rfl (one_of HT_.out (by kernel_rfl)) (by decide) (fun K hK => ?_)
   have hs83 : w82.cell? ⟨gb153, 0, none⟩ = some (.int .i64 0) := (blk_cell BK153.out 0).trans rfl
   have hfs83 := blk_frozen BK153.out 0
   have hns83_1 := NB155_153.out
   have hms83_1 := NB153_155.out
   have hs84 : w82.cell? ⟨gb153, 1, none⟩ = some (.int .i64 0) := (blk_cell BK153.out 1).trans rfl
   have hfs84 := blk_frozen BK153.out 1
   have hns84_1 := NB155_153.out
   have hms84_1 := NB153_155.out
   have hs85 : w82.cell? ⟨gb153, 2, none⟩ = some (.string (⟨#[]⟩ : ByteArray)) := (blk_cell BK153.out 2).trans rfl
   have hfs85 := blk_frozen BK153.out 2
   have hns85_1 := NB155_153.out
   have hms85_1 := NB153_155.out
   have hs86 : w82.cell? ⟨gb153, 3, none⟩ = some (.string (⟨#[]⟩ : ByteArray)) := (blk_cell BK153.out 3).trans rfl
   have hfs86 := blk_frozen BK153.out 3
   have hns86_1 := NB155_153.out
   have hms86_1 := NB153_155.out
   have hs87 : w82.cell? ⟨gb153, 4, none⟩ = some (.string (⟨#[]⟩ : ByteArray)) := (blk_cell BK153.out 4).trans rfl
   have hfs87 := blk_frozen BK153.out 4
   have hns87_1 := NB155_153.out
   have hms87_1 := NB153_155.out
   have hs88 : w82.cell? ⟨gb153, 5, none⟩ = some (.string (⟨#[]⟩ : ByteArray)) := (blk_cell BK153.out 5).trans rfl
   have hfs88 := blk_frozen BK153.out 5
   have hns88_1 := NB155_153.out
   have hms88_1 := NB153_155.out
   have hs89 : w82.cell? ⟨gb153, 6, none⟩ = some (.string (⟨#[]⟩ : ByteArray)) := (blk_cell BK153.out 6).trans rfl
   have hfs89 := blk_frozen BK153.out 6
   have hns89_1 := NB155_153.out
   have hms89_1 := NB153_155.out
   have hs90 : w82.cell? ⟨gb153, 7, none⟩ = some (.string (⟨#[]⟩ : ByteArray)) := (blk_cell BK153.out 7).trans rfl
   have hfs90 := blk_frozen BK153.out 7
   have hns90_1 := NB155_153.out
   have hms90_1 := NB153_155.out
   have hs91 : w82.cell? ⟨gb153, 8, none⟩ = some (.string (⟨#[]⟩ : ByteArray)) := (blk_cell BK153.out 8).trans rfl
   have hfs91 := blk_frozen BK153.out 8
   have hns91_1 := NB155_153.out
   have hms91_1 := NB153_155.out
   have hs92 : w82.cell? ⟨gb153, 9, none⟩ = some (.slice none 0 0) := (blk_cell BK153.out 9).trans rfl
   have hfs92 := blk_frozen BK153.out 9
   have hns92_1 := NB155_153.out
   have hms92_1 := NB153_155.out
   refine skip_ (w1 := ?_) (by rfl) rfl ?_ ?_
   rotate_left
   ·go_simp
    rfl
   refine hK.out _ _ ⟨((cell_far (p := ⟨gb153, _, none⟩) NB155_153.out _).trans (((cell_far (p := ⟨gb153, _, none⟩) NB155_153.out _).trans (((cell_far (p := ⟨gb153, _, none⟩) NB155_153.out _).trans (((cell_far (p := ⟨gb153, _, none⟩) NB155_153.out _).trans (((cell_far (p := ⟨gb153, _, none⟩) NB155_153.out _).trans (((cell_far (p := ⟨gb153, _, none⟩) NB155_153.out _).trans (((cell_far (p := ⟨gb153, _, none⟩) NB155_153.out _).trans (((cell_far (p := ⟨gb153, _, none⟩) NB155_153.out _).trans (((cell_far (p := ⟨gb153, _, none⟩) NB155_153.out _).trans (((cell_far (p := ⟨gb153, _, none⟩) NB155_153.out _).trans (hHeld.1)))))))))))))))))))), ((cell_far (p := ⟨gb153, _, none⟩) NB155_153.out _).trans (((cell_far (p := ⟨gb153, _, none⟩) NB155_153.out _).trans (((cell_far (p := ⟨gb153, _, none⟩) NB155_153.out _).trans (((cell_far (p := ⟨gb153, _, none⟩) NB155_153.out _).trans (((cell_far (p := ⟨gb153, _, none⟩) NB155_153.out _).trans (((cell_far (p := ⟨gb153, _, none⟩) NB155_153.out _).trans (((cell_far (p := ⟨gb153, _, none⟩) NB155_153.out _).trans (((cell_far (p := ⟨gb153, _, none⟩) NB155_153.out _).trans (((cell_far (p := ⟨gb153, _, none⟩) NB155_153.out _).trans (((cell_far (p := ⟨gb153, _, none⟩) NB155_153.out _).trans (hHeld.2.1)))))))))))))))))))), ((cell_far (p := ⟨gb153, _, none⟩) NB155_153.out _).trans (((cell_far (p := ⟨gb153, _, none⟩) NB155_153.out _).trans (((cell_far (p := ⟨gb153, _, none⟩) NB155_153.out _).trans (((cell_far (p := ⟨gb153, _, none⟩) NB155_153.out _).trans (((cell_far (p := ⟨gb153, _, none⟩) NB155_153.out _).trans (((cell_far (p := ⟨gb153, _, none⟩) NB155_153.out _).trans (((cell_far (p := ⟨gb153, _, none⟩) NB155_153.out _).trans (((cell_far (p := ⟨gb153, _, none⟩) NB155_153.out _).trans (((cell_far (p := ⟨gb153, _, none⟩) NB155_153.out _).trans (((cell_far (p := ⟨gb153, _, none⟩) NB155_153.out _).trans (hHeld.2.2.1)))))))))))))))))))), ((cell_far (p := ⟨gb153, _, none⟩) NB155_153.out _).trans (((cell_far (p := ⟨gb153, _, none⟩) NB155_153.out _).trans (((cell_far (p := ⟨gb153, _, none⟩) NB155_153.out _).trans (((cell_far (p := ⟨gb153, _, none⟩) NB155_153.out _).trans (((cell_far (p := ⟨gb153, _, none⟩) NB155_153.out _).trans (((cell_far (p := ⟨gb153, _, none⟩) NB155_153.out _).trans (((cell_far (p := ⟨gb153, _, none⟩) NB155_153.out _).trans (((cell_far (p := ⟨gb153, _, none⟩) NB155_153.out _).trans (((cell_far (p := ⟨gb153, _, none⟩) NB155_153.out _).trans (((cell_far (p := ⟨gb153, _, none⟩) NB155_153.out _).trans (hHeld.2.2.2.1)))))))))))))))))))), ((cell_far (p := ⟨gb153, _, none⟩) NB155_153.out _).trans (((cell_far (p := ⟨gb153, _, none⟩) NB155_153.out _).trans (((cell_far (p := ⟨gb153, _, none⟩) NB155_153.out _).trans (((cell_far (p := ⟨gb153, _, none⟩) NB155_153.out _).trans (((cell_far (p := ⟨gb153, _, none⟩) NB155_153.out _).trans (((cell_far (p := ⟨gb153, _, none⟩) NB155_153.out _).trans (((cell_far (p := ⟨gb153, _, none⟩) NB155_153.out _).trans (((cell_far (p := ⟨gb153, _, none⟩) NB155_153.out _).trans (((cell_far (p := ⟨gb153, _, none⟩) NB155_153.out _).trans (((cell_far (p := ⟨gb153, _, none⟩) NB155_153.out _).trans (hHeld.2.2.2.2.1)))))))))))))))))))), ((cell_far (p := ⟨gb153, _, none⟩) NB155_153.out _).trans (((cell_far (p := ⟨gb153, _, none⟩) NB155_153.out _).trans (((cell_far (p := ⟨gb153, _, none⟩) NB155_153.out _).trans (((cell_far (p := ⟨gb153, _, none⟩) NB155_153.out _).trans (((cell_far (p := ⟨gb153, _, none⟩) NB155_153.out _).trans (((cell_far (p := ⟨gb153, _, none⟩) NB155_153.out _).trans (((cell_far (p := ⟨gb153, _, none⟩) NB155_153.out _).trans (((cell_far (p := ⟨gb153, _, none⟩) NB155_153.out _).trans (((cell_far (p := ⟨gb153, _, none⟩) NB155_153.out _).trans (((cell_far (p := ⟨gb153, _, none⟩) NB155_153.out _).trans (hHeld.2.2.2.2.2.1)))))))))))))))))))), ((cell_far (p := ⟨gb153, _, none⟩) NB155_153.out _).trans (((cell_far (p := ⟨gb153, _, none⟩) NB155_153.out _).trans (((cell_far (p := ⟨gb153, _, none⟩) NB155_153.out _).trans (((cell_far (p := ⟨gb153, _, none⟩) NB155_153.out _).trans (((cell_far (p := ⟨gb153, _, none⟩) NB155_153.out _).trans (((cell_far (p := ⟨gb153, _, none⟩) NB155_153.out _).trans (((cell_far (p := ⟨gb153, _, none⟩) NB155_153.out _).trans (((cell_far (p := ⟨gb153, _, none⟩) NB155_153.out _).trans (((cell_far (p := ⟨gb153, _, none⟩) NB155_153.out _).trans (((cell_far (p := ⟨gb153, _, none⟩) NB155_153.out _).trans (hHeld.2.2.2.2.2.2.1)))))))))))))))))))), ((cell_far (p := ⟨gb153, _, none⟩) NB155_153.out _).trans (((cell_far (p := ⟨gb153, _, none⟩) NB155_153.out _).trans (((cell_far (p := ⟨gb153, _, none⟩) NB155_153.out _).trans (((cell_far (p := ⟨gb153, _, none⟩) NB155_153.out _).trans (((cell_far (p := ⟨gb153, _, none⟩) NB155_153.out _).trans (((cell_far (p := ⟨gb153, _, none⟩) NB155_153.out _).trans (((cell_far (p := ⟨gb153, _, none⟩) NB155_153.out _).trans (((cell_far (p := ⟨gb153, _, none⟩) NB155_153.out _).trans (((cell_far (p := ⟨gb153, _, none⟩) NB155_153.out _).trans (((cell_far (p := ⟨gb153, _, none⟩) NB155_153.out _).trans (hHeld.2.2.2.2.2.2.2.1)))))))))))))))))))), ((cell_far (p := ⟨gb153, _, none⟩) NB155_153.out _).trans (((cell_far (p := ⟨gb153, _, none⟩) NB155_153.out _).trans (((cell_far (p := ⟨gb153, _, none⟩) NB155_153.out _).trans (((cell_far (p := ⟨gb153, _, none⟩) NB155_153.out _).trans (((cell_far (p := ⟨gb153, _, none⟩) NB155_153.out _).trans (((cell_far (p := ⟨gb153, _, none⟩) NB155_153.out _).trans (((cell_far (p := ⟨gb153, _, none⟩) NB155_153.out _).trans (((cell_far (p := ⟨gb153, _, none⟩) NB155_153.out _).trans (((cell_far (p := ⟨gb153, _, none⟩) NB155_153.out _).trans (((cell_far (p := ⟨gb153, _, none⟩) NB155_153.out _).trans (hHeld.2.2.2.2.2.2.2.2.1)))))))))))))))))))), ((cell_far (p := ⟨gb153, _, none⟩) NB155_153.out _).trans (((cell_far (p := ⟨gb153, _, none⟩) NB155_153.out _).trans (((cell_far (p := ⟨gb153, _, none⟩) NB155_153.out _).trans (((cell_far (p := ⟨gb153, _, none⟩) NB155_153.out _).trans (((cell_far (p := ⟨gb153, _, none⟩) NB155_153.out _).trans (((cell_far (p := ⟨gb153, _, none⟩) NB155_153.out _).trans (((cell_far (p := ⟨gb153, _, none⟩) NB155_153.out _).trans (((cell_far (p := ⟨gb153, _, none⟩) NB155_153.out _).trans (((cell_far (p := ⟨gb153, _, none⟩) NB155_153.out _).trans (((cell_far (p := ⟨gb153, _, none⟩) NB155_153.out _).trans (hHeld.2.2.2.2.2.2.2.2.2))))))))))))))))))))⟩ (fun hHeld => ?_)
   clear hK K
   refine pure_ (i := 14) (N := some 5) (v := ?_) (a' := ?_) #[true, true, true, true, true, true, true, true, true, true, true, true, true, true, true] rfl rfl (any_of HT_.out (by kernel_rfl)) (fun _ _ _ h => h) (Or.inl ⟨by rfl, ?_⟩) ?_ ?_
   rotate_left
   ·intro w'
    go_simp
    with_reducible rfl
   rotate_left
   ·simp only [Act.put, List.setIfInBounds_toArray, List.set_cons_zero, List.set_cons_succ, i64_w, i32_w]
    rfl
   refine done_ (done_of HT_.out (by kernel_rfl)) ?_
   try go_wp2
   refine bodyPost_ret (results_ct rfl _ _ gb153 45 #[.int .i64 2, .int .i64 0, .string (⟨#[]⟩ : ByteArray), .string (⟨#[]⟩ : ByteArray), .string (⟨#[]⟩ : ByteArray), .string t154, .string (⟨#[]⟩ : ByteArray), .string t164, .string t165, .slice none 0 0] (0, 0) _ rfl (zP10 BK153.out) Tryd.underlying45 rfl (by kernel_rfl)) rfl ?_
   exact ⟨_, zE, by first | exact Kd.R_nil _ _ _ _ _ | exact Kd.N_nil _ _ _ _ _ | exact Kd.V_nil _ _ _ _ _ | exact Kd.Q_nil _ _ _ _ _ | exact Kd.S_nil _ _ _ _ _, zL HB.out⟩
  ·rw [if_neg c72] at H
   have c72b0 : (t154.toList == ([] : List UInt8)) = false := beq_eq_false_iff_ne.mpr c72
   have c72b1 : (t154.toList != ([] : List UInt8)) = true := bne_iff_ne.mpr c72
   by_cases c93 : t166 = true
   ·subst c93
    have H1 : ((parse_has.f k t165 (⟨#[124]⟩ : ByteArray)).bind fun t167 => (some (2, 0, (⟨#[]⟩ : ByteArray), (⟨#[]⟩ : ByteArray), (⟨#[]⟩ : ByteArray), t154, (⟨#[]⟩ : ByteArray), t164, t165, ([] : List ByteArray), !t167))) = some (r1, r2, r3, r4, r5, r6, r7, r8, r9, r10, r11) := by rw [if_pos rfl] at H; exact H
    clear H
    have H := H1
    clear H1
    replace H := Option.bind_eq_some_iff.mp H
    obtain ⟨t167, A940, H⟩ := H
    replace H : (some (2, 0, (⟨#[]⟩ : ByteArray), (⟨#[]⟩ : ByteArray), (⟨#[]⟩ : ByteArray), t154, (⟨#[]⟩ : ByteArray), t164, t165, ([] : List ByteArray), !t167)) = some (r1, r2, r3, r4, r5, r6, r7, r8, r9, r10, r11) := H
    have A94 := Aside0.mk A940
    clear A940
    simp only [Option.some.injEq, Prod.mk.injEq] at H
    obtain ⟨rfl, rfl, rfl, rfl, rfl, rfl, rfl, rfl, rfl, rfl, rfl⟩ := H
    go_enter Tryd.func45, Tryd.ntmps45
    try go_wp2_with (first | ((with_reducible refine gate_dst (N := 4) rfl ?_); refine box_event ?hg (N := 4) ?hd (cs := #[.int .i64 0, .int .i64 0, .string (⟨#[]⟩ : ByteArray), .string (⟨#[]⟩ : ByteArray), .string (⟨#[]⟩ : ByteArray), .string (⟨#[]⟩ : ByteArray), .string (⟨#[]⟩ : ByteArray), .string (⟨#[]⟩ : ByteArray), .string (⟨#[]⟩ : ByteArray), .slice none 0 0]) (t := 45) ?hr ?_; (case hd => rfl); (case hg => rfl); (case hr => first | (go_simp; done) | (go_simp; rfl)); intro gb153 hg w95 hbox hb; have n0_ := Aside0.mk (below_step (zL HB.out) hb); have n1_ := Aside0.mk (hbox); have n2_ := Aside0.mk (zG hg (zL HB.out)); have n3_ := Aside0.mk (zG hg (zL HB.out)); revert n0_ n1_ n2_ n3_; clear HB; intro HB BK153 GW153 GE153; clear hb hbox hg) | ((with_reducible refine gate_callee (f := 24) rfl ?_); refine goesL_ (some 12) rfl rfl Tryd.func24 (by kernel_rfl) rfl #[.string a0] rfl zA ?_; (with_reducible refine (text_Trim.calls a0 t154 _ A3.out).mono ?_); rintro e w96 ⟨rfl, hb⟩; refine ⟨_, rfl, ?_⟩; have n0_ := Aside0.mk (blk_below (g := gb153) (o := .cells #[.int .i64 0, .int .i64 0, .string (⟨#[]⟩ : ByteArray), .string (⟨#[]⟩ : ByteArray), .string (⟨#[]⟩ : ByteArray), .string (⟨#[]⟩ : ByteArray), .string (⟨#[]⟩ : ByteArray), .string (⟨#[]⟩ : ByteArray), .string (⟨#[]⟩ : ByteArray), .slice none 0 0] 45 (0, 0)) (zK BK153.out) hb); have n1_ := Aside0.mk (below_step (zL HB.out) hb); revert n0_ n1_; clear BK153 HB; intro BK153 HB; (try clear hb); (try clear hb2); (try clear hk); (try clear hi)) | ((with_reducible refine gate_dst (N := 6) rfl ?_); refine box_event ?hg (N := 6) ?hd (cs := #[.int .i64 0, .int .i64 0, .string (⟨#[]⟩ : ByteArray), .string (⟨#[]⟩ : ByteArray), .string (⟨#[]⟩ : ByteArray), .string (⟨#[]⟩ : ByteArray), .string (⟨#[]⟩ : ByteArray), .string (⟨#[]⟩ : ByteArray), .string (⟨#[]⟩ : ByteArray), .slice none 0 0]) (t := 45) ?hr ?_; (case hd => rfl); (case hg => rfl); (case hr => first | (go_simp; done) | (go_simp; rfl)); intro gb155 hg w97 hbox hb; have n0_ := Aside0.mk (blk_below (g := gb153) (o := .cells #[.int .i64 0, .int .i64 0, .string (⟨#[]⟩ : ByteArray), .string (⟨#[]⟩ : ByteArray), .string (⟨#[]⟩ : ByteArray), .string (⟨#[]⟩ : ByteArray), .string (⟨#[]⟩ : ByteArray), .string (⟨#[]⟩ : ByteArray), .string (⟨#[]⟩ : ByteArray), .slice none 0 0] 45 (0, 0)) (zK BK153.out) hb); have n1_ := Aside0.mk (below_step (zL HB.out) hb); have n2_ := Aside0.mk (hbox); have n3_ := Aside0.mk (zG hg (zL HB.out)); have n4_ := Aside0.mk (zG hg (zL HB.out)); have n5_ := Aside0.mk (zN (g := gb153) (o := .cells #[.int .i64 0, .int .i64 0, .string (⟨#[]⟩ : ByteArray), .string (⟨#[]⟩ : ByteArray), .string (⟨#[]⟩ : ByteArray), .string (⟨#[]⟩ : ByteArray), .string (⟨#[]⟩ : ByteArray), .string (⟨#[]⟩ : ByteArray), .string (⟨#[]⟩ : ByteArray), .slice none 0 0] 45 (0, 0)) hg (zK BK153.out)); have n6_ := Aside0.mk (zO (g := gb153) (o := .cells #[.int .i64 0, .int .i64 0, .string (⟨#[]⟩ : ByteArray), .string (⟨#[]⟩ : ByteArray), .string (⟨#[]⟩ : ByteArray), .string (⟨#[]⟩ : ByteArray), .string (⟨#[]⟩ : ByteArray), .string (⟨#[]⟩ : ByteArray), .string (⟨#[]⟩ : ByteArray), .slice none 0 0] 45 (0, 0)) hg (zK BK153.out)); revert n0_ n1_ n2_ n3_ n4_ n5_ n6_; clear BK153 HB; intro BK153 HB BK155 GW155 GE155 NB153_155 NB155_153; clear hb hbox hg; have hnb98 := NB155_153.out; have hnc98 := NB153_155.out; obtain ⟨hcz99_0, hcz99_1, hcz99_2, hcz99_3, hcz99_4, hcz99_5, hcz99_6, hcz99_7, hcz99_8, hcz99_9, hfz99_0, hfz99_1, hfz99_2, hfz99_3, hfz99_4, hfz99_5, hfz99_6, hfz99_7, hfz99_8, hfz99_9⟩ := zC10 BK155.out) | ((with_reducible refine gate_callee (f := 67) rfl ?_); refine goesL_ (some 16) rfl rfl Tryd.func67 (by kernel_rfl) rfl #[.string a1, .string (⟨#[58]⟩ : ByteArray)] rfl zA ?_; (with_reducible refine (parse_sides.calls k a1 (⟨#[58]⟩ : ByteArray) t156 t157 false _ A4.out).mono ?_); rintro e w100 ⟨rfl, hb⟩; refine ⟨_, rfl, ?_⟩; have n0_ := Aside0.mk (blk_below (g := gb153) (o := .cells #[.int .i64 0, .int .i64 0, .string (⟨#[]⟩ : ByteArray), .string (⟨#[]⟩ : ByteArray), .string (⟨#[]⟩ : ByteArray), .string (⟨#[]⟩ : ByteArray), .string (⟨#[]⟩ : ByteArray), .string (⟨#[]⟩ : ByteArray), .string (⟨#[]⟩ : ByteArray), .slice none 0 0] 45 (0, 0)) (zK BK153.out) hb); have n1_ := Aside0.mk (blk_below (g := gb155) (o := .cells #[.int .i64 2, .int .i64 0, .string (⟨#[]⟩ : ByteArray), .string (⟨#[]⟩ : ByteArray), .string (⟨#[]⟩ : ByteArray), .string t154, .string (⟨#[]⟩ : ByteArray), .string (⟨#[]⟩ : ByteArray), .string (⟨#[]⟩ : ByteArray), .slice none 0 0] 45 (0, 0)) (zP10 BK155.out) hb); have n2_ := Aside0.mk (below_step (zL HB.out) hb); revert n0_ n1_ n2_; clear BK153 BK155 HB; intro BK153 BK155 HB; (try clear hb); (try clear hb2); (try clear hk); (try clear hi)) | ((with_reducible refine gate_callee (f := 67) rfl ?_); refine goesL_ (some 33) rfl rfl Tryd.func67 (by kernel_rfl) rfl #[.string a1, .string (⟨#[124]⟩ : ByteArray)] rfl zA ?_; (with_reducible refine (parse_sides.calls k a1 (⟨#[124]⟩ : ByteArray) t164 t165 true _ A71.out).mono ?_); rintro e w101 ⟨rfl, hb⟩; refine ⟨_, rfl, ?_⟩; have n0_ := Aside0.mk (blk_below (g := gb153) (o := .cells #[.int .i64 0, .int .i64 0, .string (⟨#[]⟩ : ByteArray), .string (⟨#[]⟩ : ByteArray), .string (⟨#[]⟩ : ByteArray), .string (⟨#[]⟩ : ByteArray), .string (⟨#[]⟩ : ByteArray), .string (⟨#[]⟩ : ByteArray), .string (⟨#[]⟩ : ByteArray), .slice none 0 0] 45 (0, 0)) (zK BK153.out) hb); have n1_ := Aside0.mk (blk_below (g := gb155) (o := .cells #[.int .i64 2, .int .i64 0, .string (⟨#[]⟩ : ByteArray), .string (⟨#[]⟩ : ByteArray), .string (⟨#[]⟩ : ByteArray), .string t154, .string (⟨#[]⟩ : ByteArray), .string (⟨#[]⟩ : ByteArray), .string (⟨#[]⟩ : ByteArray), .slice none 0 0] 45 (0, 0)) (zK BK155.out) hb); have n2_ := Aside0.mk (below_step (zL HB.out) hb); revert n0_ n1_ n2_; clear BK153 BK155 HB; intro BK153 BK155 HB; (try clear hb); (try clear hb2); (try clear hk); (try clear hi); obtain ⟨hcz102_0, hcz102_1, hcz102_2, hcz102_3, hcz102_4, hcz102_5, hcz102_6, hcz102_7, hcz102_8, hcz102_9, hfz102_0, hfz102_1, hfz102_2, hfz102_3, hfz102_4, hfz102_5, hfz102_6, hfz102_7, hfz102_8, hfz102_9⟩ := zC10 BK155.out))
    have n0_ : Aside0 (((w101.setCell ⟨gb155, 7, none⟩ (.string t164)).setCell ⟨gb155, 8, none⟩ (.string t165)).heap[gb153]? = some (.cells #[.int .i64 0, .int .i64 0, .string (⟨#[]⟩ : ByteArray), .string (⟨#[]⟩ : ByteArray), .string (⟨#[]⟩ : ByteArray), .string (⟨#[]⟩ : ByteArray), .string (⟨#[]⟩ : ByteArray), .string (⟨#[]⟩ : ByteArray), .string (⟨#[]⟩ : ByteArray), .slice none 0 0] 45 (0, 0))) := ⟨zK BK153.out⟩
    have n1_ : Aside0 (((w101.setCell ⟨gb155, 7, none⟩ (.string t164)).setCell ⟨gb155, 8, none⟩ (.string t165)).heap[gb155]? = some (.cells #[.int .i64 2, .int .i64 0, .string (⟨#[]⟩ : ByteArray), .string (⟨#[]⟩ : ByteArray), .string (⟨#[]⟩ : ByteArray), .string t154, .string (⟨#[]⟩ : ByteArray), .string t164, .string t165, .slice none 0 0] 45 (0, 0))) := ⟨by (with_reducible repeat (first | refine blk_drewN ?_ _ | refine blk_drew ?_ | refine blk_alloc ?_ _)); refine blk_put (cs := #[.int .i64 2, .int .i64 0, .string (⟨#[]⟩ : ByteArray), .string (⟨#[]⟩ : ByteArray), .string (⟨#[]⟩ : ByteArray), .string t154, .string (⟨#[]⟩ : ByteArray), .string t164, .string (⟨#[]⟩ : ByteArray), .slice none 0 0]) ?_ 8 _ rfl; (with_reducible repeat (first | refine blk_drewN ?_ _ | refine blk_drew ?_ | refine blk_alloc ?_ _)); refine blk_put (cs := #[.int .i64 2, .int .i64 0, .string (⟨#[]⟩ : ByteArray), .string (⟨#[]⟩ : ByteArray), .string (⟨#[]⟩ : ByteArray), .string t154, .string (⟨#[]⟩ : ByteArray), .string (⟨#[]⟩ : ByteArray), .string (⟨#[]⟩ : ByteArray), .slice none 0 0]) ?_ 7 _ rfl; (with_reducible repeat (first | refine blk_drewN ?_ _ | refine blk_drew ?_ | refine blk_alloc ?_ _)); exact BK155.out⟩
    have n2_ : Aside0 (Below w.heap.size w ((w101.setCell ⟨gb155, 7, none⟩ (.string t164)).setCell ⟨gb155, 8, none⟩ (.string t165))) := ⟨zL HB.out⟩
    (try clear BK153)
    (try clear BK155)
    (try clear HB)
    generalize ((w101.setCell ⟨gb155, 7, none⟩ (.string t164)).setCell ⟨gb155, 8, none⟩ (.string t165)) = w103 at n0_ n1_ n2_ ⊢
    have BK153 := n0_
    have BK155 := n1_
    have HB := n2_
    clear n0_ n1_ n2_
    have n0_ := Aside0.mk (blk_drew BK153.out)
    have n1_ := Aside0.mk (blk_drew BK155.out)
    have n2_ := Aside0.mk (below_drew1 HB.out)
    clear BK153
    clear BK155
    clear HB
    have BK153 := n0_
    have BK155 := n1_
    have HB := n2_
    clear n0_ n1_ n2_
    refine start_ (n := 15) (S := fun w' => w'.cell? ⟨gb155, 0, none⟩ = some (.int .i64 2) ∧ w'.cell? ⟨gb155, 1, none⟩ = some (.int .i64 0) ∧ w'.cell? ⟨gb155, 2, none⟩ = some (.string (⟨#[]⟩ : ByteArray)) ∧ w'.cell? ⟨gb155, 3, none⟩ = some (.string (⟨#[]⟩ : ByteArray)) ∧ w'.cell? ⟨gb155, 4, none⟩ = some (.string (⟨#[]⟩ : ByteArray)) ∧ w'.cell? ⟨gb155, 5, none⟩ = some (.string t154) ∧ w'.cell? ⟨gb155, 6, none⟩ = some (.string (⟨#[]⟩ : ByteArray)) ∧ w'.cell? ⟨gb155, 7, none⟩ = some (.string t164) ∧ w'.cell? ⟨gb155, 8, none⟩ = some (.string t165) ∧ w'.cell? ⟨gb155, 9, none⟩ = some (.slice none 0 0)) (ds := []) #[false, false, false, false, false, false, false, false, false, false, false, false, false, false, false] (by kernel_rfl) rfl rfl ⟨(blk_cell BK155.out 0).trans rfl, (blk_cell BK155.out 1).trans rfl, (blk_cell BK155.out 2).trans rfl, (blk_cell BK155.out 3).trans rfl, (blk_cell BK155.out 4).trans rfl, (blk_cell BK155.out 5).trans rfl, (blk_cell BK155.out 6).trans rfl, (blk_cell BK155.out 7).trans rfl, (blk_cell BK155.out 8).trans rfl, (blk_cell BK155.out 9).trans rfl⟩ (fun hHeld => ?_); refine with_tabW parse_rule.tab9 parse_rule.bits9 (fun HT_ HW_ => ?_)
    generalize w103.drew = w104 at BK153 BK155 HB hHeld ⊢
    refine pure_ (i := 1) (N := some 40) (v := ?_) (a' := ?_) #[false, true, false, false, false, false, false, false, false, false, false, false, false, false, false] rfl rfl (any_of HT_.out (by kernel_rfl)) (fun _ _ _ h => h) (Or.inl ⟨by rfl, ?_⟩) ?_ ?_
    rotate_left
    ·intro w'
     go_simp
     with_reducible rfl
    rotate_left
    ·simp only [Act.put, List.setIfInBounds_toArray, List.set_cons_zero, List.set_cons_succ, i64_w, i32_w]
     rfl
    refine take_ (i := 0) (N := some 39) (v := ?_) (a' := ?_) #[true, true, false, false, false, false, false, false, false, false, false, false, false, false, false] rfl rfl (take_ofW HT_.out HW_.out (by kernel_rfl)) (fun _ _ _ h => h) (Or.inl ⟨by rfl, ?_⟩) hHeld ?_ ?_
    rotate_left
    ·rintro w' ⟨s0, s1, s2, s3, s4, s5, s6, s7, s8, s9⟩
     go_simp
     with_reducible rfl
    rotate_left
    ·simp only [Act.put, List.setIfInBounds_toArray, List.set_cons_zero, List.set_cons_succ, i64_w, i32_w]
     rfl
    refine take_ (i := 2) (N := some 41) (v := ?_) (a' := ?_) #[true, true, true, false, false, false, false, false, false, false, false, false, false, false, false] rfl rfl (take_ofW HT_.out HW_.out (by kernel_rfl)) (fun _ _ _ h => h) (Or.inl ⟨by rfl, ?_⟩) hHeld ?_ ?_
    rotate_left
    ·rintro w' ⟨s0, s1, s2, s3, s4, s5, s6, s7, s8, s9⟩
     go_simp
     with_reducible rfl
    rotate_left
    ·simp only [Act.put, List.setIfInBounds_toArray, List.set_cons_zero, List.set_cons_succ, i64_w, i32_w]
     rfl
    refine pure_ (i := 3) (N := some 42) (v := ?_) (a' := ?_) #[true, true, true, true, false, false, false, false, false, false, false, false, false, false, false] rfl rfl (any_of HT_.out (by kernel_rfl)) (fun _ _ _ h => h) (Or.inl ⟨by rfl, ?_⟩) ?_ ?_
    rotate_left
    ·intro w'
     go_simp
     with_reducible rfl
    rotate_left
    ·simp only [Act.put, List.setIfInBounds_toArray, List.set_cons_zero, List.set_cons_succ, i64_w, i32_w]
     rfl
    refine pure_ (i := 4) (N := some 43) (v := ?_) (a' := ?_) #[true, true, true, true, true, false, false, false, false, false, false, false, false, false, false] rfl rfl (any_of HT_.out (by kernel_rfl)) (fun _ _ _ h => h) (Or.inl ⟨by rfl, ?_⟩) ?_ ?_
    rotate_left
    ·intro w'
     go_simp
     with_reducible rfl
    rotate_left
    ·simp only [Act.put, List.setIfInBounds_toArray, List.set_cons_zero, List.set_cons_succ, i64_w, i32_w]
     rfl
    refine pure_ (i := 5) (N := some 44) (v := ?_) (a' := ?_) #[true, true, true, true, true, true, false, false, false, false, false, false, false, false, false] rfl rfl (any_of HT_.out (by kernel_rfl)) (fun _ _ _ h => h) (Or.inl ⟨by rfl, ?_⟩) ?_ ?_
    rotate_left
    ·intro w'
     go_simp
     with_reducible rfl
    rotate_left
    ·simp only [Act.put, List.setIfInBounds_toArray, List.set_cons_zero, List.set_cons_succ, i64_w, i32_w]
     rfl
    refine pure_ (i := 6) (N := some 45) (v := ?_) (a' := ?_) #[true, true, true, true, true, true, true, false, false, false, false, false, false, false, false] rfl rfl (any_of HT_.out (by kernel_rfl)) (fun _ _ _ h => h) (Or.inl ⟨by rfl, ?_⟩) ?_ ?_
    rotate_left
    ·intro w'
     go_simp
     with_reducible rfl
    rotate_left
    ·simp only [Act.put, List.setIfInBounds_toArray, List.set_cons_zero, List.set_cons_succ, i64_w, i32_w]
     rfl
    refine pure_ (i := 7) (N := some 46) (v := ?_) (a' := ?_) #[true, true, true, true, true, true, true, true, false, false, false, false, false, false, false] rfl rfl (any_of HT_.out (by kernel_rfl)) (fun _ _ _ h => h) (Or.inl ⟨by rfl, ?_⟩) ?_ ?_
    rotate_left
    ·intro w'
     go_simp
     with_reducible rfl
    rotate_left
    ·simp only [Act.put, List.setIfInBounds_toArray, List.set_cons_zero, List.set_cons_succ, i64_w, i32_w]
     rfl
    refine take_ (i := 8) (N := some 47) (v := ?_) (a' := ?_) #[true, true, true, true, true, true, true, true, true, false, false, false, false, false, false] rfl rfl (take_ofW HT_.out HW_.out (by kernel_rfl)) (fun _ _ _ h => h) (Or.inl ⟨by rfl, ?_⟩) hHeld ?_ ?_
    rotate_left
    ·rintro w' ⟨s0, s1, s2, s3, s4, s5, s6, s7, s8, s9⟩
     go_simp
     with_reducible rfl
    rotate_left
    ·simp only [Act.put, List.setIfInBounds_toArray, List.set_cons_zero, List.set_cons_succ, i64_w, i32_w]
     rfl
    refine one_ (i := 9) (N := some 48) #[true, true, true, true, true, true, true, true, true, true, false, false, false, false, false] rfl rfl (one_of HT_.out (by kernel_rfl)) (by decide) (fun K hK => ?_)
    refine goes_ Tryd.func68 (by kernel_rfl) rfl #[.string t165, .string (⟨#[124]⟩ : ByteArray)] (by rfl) rfl rfl zA ?_
    with_reducible refine (parse_has.calls k t165 (⟨#[124]⟩ : ByteArray) t167 _ A94.out).mono ?_
    rintro e w105 ⟨rfl, hb⟩
    refine ⟨_, rfl, ?_⟩
    have n0_ := Aside0.mk (blk_below (g := gb153) (o := .cells #[.int .i64 0, .int .i64 0, .string (⟨#[]⟩ : ByteArray), .string (⟨#[]⟩ : ByteArray), .string (⟨#[]⟩ : ByteArray), .string (⟨#[]⟩ : ByteArray), .string (⟨#[]⟩ : ByteArray), .string (⟨#[]⟩ : ByteArray), .string (⟨#[]⟩ : ByteArray), .slice none 0 0] 45 (0, 0)) (zK BK153.out) hb)
    have n1_ := Aside0.mk (blk_below (g := gb155) (o := .cells #[.int .i64 2, .int .i64 0, .string (⟨#[]⟩ : ByteArray), .string (⟨#[]⟩ : ByteArray), .string (⟨#[]⟩ : ByteArray), .string t154, .string (⟨#[]⟩ : ByteArray), .string t164, .string t165, .slice none 0 0] 45 (0, 0)) (zK BK155.out) hb)
    have n2_ := Aside0.mk (below_step (zL HB.out) hb)
    clear BK153
    clear BK155
    clear HB
    have BK153 := n0_
    have BK155 := n1_
    have HB := n2_
    clear n0_ n1_ n2_
    (try clear hb)
    (try clear hb2)
    (try clear hk)
    (try clear hi)
    refine hK.out _ _ ⟨(blk_cell BK155.out 0).trans rfl, (blk_cell BK155.out 1).trans rfl, (blk_cell BK155.out 2).trans rfl, (blk_cell BK155.out 3).trans rfl, (blk_cell BK155.out 4).trans rfl, (blk_cell BK155.out 5).trans rfl, (blk_cell BK155.out 6).trans rfl, (blk_cell BK155.out 7).trans rfl, (blk_cell BK155.out 8).trans rfl, (blk_cell BK155.out 9).trans rfl⟩ (fun hHeld => ?_)
    clear hK K
    refine norm_ (a' := ?_) ?_ ?_
    rotate_left
    ·show Act.put _ (some 48) _ = _
     simp only [Act.put, List.setIfInBounds_toArray, List.set_cons_zero, List.set_cons_succ, i64_w, i32_w]
     rfl
    refine pure_ (i := 10) (N := some 49) (v := ?_) (a' := ?_) #[true, true, true, true, true, true, true, true, true, true, true, false, false, false, false] rfl rfl (any_of HT_.out (by kernel_rfl)) (fun _ _ _ h => h) (Or.inl ⟨by rfl, ?_⟩) ?_ ?_
    rotate_left
    ·intro w'
     go_simp
     with_reducible rfl
    rotate_left
    ·simp only [Act.put, List.setIfInBounds_toArray, List.set_cons_zero, List.set_cons_succ, i64_w, i32_w]
     rfl
    refine pure_ (i := 11) (N := some 50) (v := ?_) (a' := ?_) #[true, true, true, true, true, true, true, true, true, true, true, true, false, false, false] rfl rfl (any_of HT_.out (by kernel_rfl)) (fun _ _ _ h => h) (Or.inl ⟨by rfl, ?_⟩) ?_ ?_
    rotate_left
    ·intro w'
     go_simp
     with_reducible rfl
    rotate_left
    ·simp only [Act.put, List.setIfInBounds_toArray, List.set_cons_zero, List.set_cons_succ, i64_w, i32_w]
     rfl
    refine pure_ (i := 12) (N := some 51) (v := ?_) (a' := ?_) #[true, true, true, true, true, true, true, true, true, true, true, true, true, false, false] rfl rfl (any_of HT_.out (by kernel_rfl)) (fun _ _ _ h => h) (Or.inl ⟨by rfl, ?_⟩) ?_ ?_
    rotate_left
    ·intro w'
     go_simp
     with_reducible rfl
    rotate_left
    ·simp only [Act.put, List.setIfInBounds_toArray, List.set_cons_zero, List.set_cons_succ, i64_w, i32_w]
     rfl
    refine one_ (i := 13) (N := none) #[true, true, true, true, true, true, true, true, true, true, true, true, true, true, false] rfl rfl (one_of HT_.out (by kernel_rfl)) (by decide) (fun K hK => ?_)
    have hs106 : w105.cell? ⟨gb153, 0, none⟩ = some (.int .i64 0) := (blk_cell BK153.out 0).trans rfl
    have hfs106 := blk_frozen BK153.out 0
    have hns106_1 := NB155_153.out
    have hms106_1 := NB153_155.out
    have hs107 : w105.cell? ⟨gb153, 1, none⟩ = some (.int .i64 0) := (blk_cell BK153.out 1).trans rfl
    have hfs107 := blk_frozen BK153.out 1
    have hns107_1 := NB155_153.out
    have hms107_1 := NB153_155.out
    have hs108 : w105.cell? ⟨gb153, 2, none⟩ = some (.string (⟨#[]⟩ : ByteArray)) := (blk_cell BK153.out 2).trans rfl
    have hfs108 := blk_frozen BK153.out 2
    have hns108_1 := NB155_153.out
    have hms108_1 := NB153_155.out
    have hs109 : w105.cell? ⟨gb153, 3, none⟩ = some (.string (⟨#[]⟩ : ByteArray)) := (blk_cell BK153.out 3).trans rfl
    have hfs109 := blk_frozen BK153.out 3
    have hns109_1 := NB155_153.out
    have hms109_1 := NB153_155.out
    have hs110 : w105.cell? ⟨gb153, 4, none⟩ = some (.string (⟨#[]⟩ : ByteArray)) := (blk_cell BK153.out 4).trans rfl
    have hfs110 := blk_frozen BK153.out 4
    have hns110_1 := NB155_153.out
    have hms110_1 := NB153_155.out
    have hs111 : w105.cell? ⟨gb153, 5, none⟩ = some (.string (⟨#[]⟩ : ByteArray)) := (blk_cell BK153.out 5).trans rfl
    have hfs111 := blk_frozen BK153.out 5
    have hns111_1 := NB155_153.out
    have hms111_1 := NB153_155.out
    have hs112 : w105.cell? ⟨gb153, 6, none⟩ = some (.string (⟨#[]⟩ : ByteArray)) := (blk_cell BK153.out 6).trans rfl
    have hfs112 := blk_frozen BK153.out 6
    have hns112_1 := NB155_153.out
    have hms112_1 := NB153_155.out
    have hs113 : w105.cell? ⟨gb153, 7, none⟩ = some (.string (⟨#[]⟩ : ByteArray)) := (blk_cell BK153.out 7).trans rfl
    have hfs113 := blk_frozen BK153.out 7
    have hns113_1 := NB155_153.out
    have hms113_1 := NB153_155.out
    have hs114 : w105.cell? ⟨gb153, 8, none⟩ = some (.string (⟨#[]⟩ : ByteArray)) := (blk_cell BK153.out 8).trans rfl
    have hfs114 := blk_frozen BK153.out 8
    have hns114_1 := NB155_153.out
    have hms114_1 := NB153_155.out
    have hs115 : w105.cell? ⟨gb153, 9, none⟩ = some (.slice none 0 0) := (blk_cell BK153.out 9).trans rfl
    have hfs115 := blk_frozen BK153.out 9
    have hns115_1 := NB155_153.out
    have hms115_1 := NB153_155.out
    refine skip_ (w1 := ?_) (by rfl) rfl ?_ ?_
    rotate_left
    ·go_simp
     rfl
    refine hK.out _ _ ⟨((cell_far (p := ⟨gb153, _, none⟩) NB155_153.out _).trans (((cell_far (p := ⟨gb153, _, none⟩) NB155_153.out _).trans (((cell_far (p := ⟨gb153, _, none⟩) NB155_153.out _).trans (((cell_far (p := ⟨gb153, _, none⟩) NB155_153.out _).trans (((cell_far (p := ⟨gb153, _, none⟩) NB155_153.out _).trans (((cell_far (p := ⟨gb153, _, none⟩) NB155_153.out _).trans (((cell_far (p := ⟨gb153, _, none⟩) NB155_153.out _).trans (((cell_far (p := ⟨gb153, _, none⟩) NB155_153.out _).trans (((cell_far (p := ⟨gb153, _, none⟩) NB155_153.out _).trans (((cell_far (p := ⟨gb153, _, none⟩) NB155_153.out _).trans (hHeld.1)))))))))))))))))))), ((cell_far (p := ⟨gb153, _, none⟩) NB155_153.out _).trans (((cell_far (p := ⟨gb153, _, none⟩) NB155_153.out _).trans (((cell_far (p := ⟨gb153, _, none⟩) NB155_153.out _).trans (((cell_far (p := ⟨gb153, _, none⟩) NB155_153.out _).trans (((cell_far (p := ⟨gb153, _, none⟩) NB155_153.out _).trans (((cell_far (p := ⟨gb153, _, none⟩) NB155_153.out _).trans (((cell_far (p := ⟨gb153, _, none⟩) NB155_153.out _).trans (((cell_far (p := ⟨gb153, _, none⟩) NB155_153.out _).trans (((cell_far (p := ⟨gb153, _, none⟩) NB155_153.out _).trans (((cell_far (p := ⟨gb153, _, none⟩) NB155_153.out _).trans (hHeld.2.1)))))))))))))))))))), ((cell_far (p := ⟨gb153, _, none⟩) NB155_153.out _).trans (((cell_far (p := ⟨gb153, _, none⟩) NB155_153.out _).trans (((cell_far (p := ⟨gb153, _, none⟩) NB155_153.out _).trans (((cell_far (p := ⟨gb153, _, none⟩) NB155_153.out _).trans (((cell_far (p := ⟨gb153, _, none⟩) NB155_153.out _).trans (((cell_far (p := ⟨gb153, _, none⟩) NB155_153.out _).trans (((cell_far (p := ⟨gb153, _, none⟩) NB155_153.out _).trans (((cell_far (p := ⟨gb153, _, none⟩) NB155_153.out _).trans (((cell_far (p := ⟨gb153, _, none⟩) NB155_153.out _).trans (((cell_far (p := ⟨gb153, _, none⟩) NB155_153.out _).trans (hHeld.2.2.1)))))))))))))))))))), ((cell_far (p := ⟨gb153, _, none⟩) NB155_153.out _).trans (((cell_far (p := ⟨gb153, _, none⟩) NB155_153.out _).trans (((cell_far (p := ⟨gb153, _, none⟩) NB155_153.out _).trans (((cell_far (p := ⟨gb153, _, none⟩) NB155_153.out _).trans (((cell_far (p := ⟨gb153, _, none⟩) NB155_153.out _).trans (((cell_far (p := ⟨gb153, _, none⟩) NB155_153.out _).trans (((cell_far (p := ⟨gb153, _, none⟩) NB155_153.out _).trans (((cell_far (p := ⟨gb153, _, none⟩) NB155_153.out _).trans (((cell_far (p := ⟨gb153, _, none⟩) NB155_153.out _).trans (((cell_far (p := ⟨gb153, _, none⟩) NB155_153.out _).trans (hHeld.2.2.2.1)))))))))))))))))))), ((cell_far (p := ⟨gb153, _, none⟩) NB155_153.out _).trans (((cell_far (p := ⟨gb153, _, none⟩) NB155_153.out _).trans (((cell_far (p := ⟨gb153, _, none⟩) NB155_153.out _).trans (((cell_far (p := ⟨gb153, _, none⟩) NB155_153.out _).trans (((cell_far (p := ⟨gb153, _, none⟩) NB155_153.out _).trans (((cell_far (p := ⟨gb153, _, none⟩) NB155_153.out _).trans (((cell_far (p := ⟨gb153, _, none⟩) NB155_153.out _).trans (((cell_far (p := ⟨gb153, _, none⟩) NB155_153.out _).trans (((cell_far (p := ⟨gb153, _, none⟩) NB155_153.out _).trans (((cell_far (p := ⟨gb153, _, none⟩) NB155_153.out _).trans (hHeld.2.2.2.2.1)))))))))))))))))))), ((cell_far (p := ⟨gb153, _, none⟩) NB155_153.out _).trans (((cell_far (p := ⟨gb153, _, none⟩) NB155_153.out _).trans (((cell_far (p := ⟨gb153, _, none⟩) NB155_153.out _).trans (((cell_far (p := ⟨gb153, _, none⟩) NB155_153.out _).trans (((cell_far (p := ⟨gb153, _, none⟩) NB155_153.out _).trans (((cell_far (p := ⟨gb153, _, none⟩) NB155_153.out _).trans (((cell_far (p := ⟨gb153, _, none⟩) NB155_153.out _).trans (((cell_far (p := ⟨gb153, _, none⟩) NB155_153.out _).trans (((cell_far (p := ⟨gb153, _, none⟩) NB155_153.out _).trans (((cell_far (p := ⟨gb153, _, none⟩) NB155_153.out _).trans (hHeld.2.2.2.2.2.1)))))))))))))))))))), ((cell_far (p := ⟨gb153, _, none⟩) NB155_153.out _).trans (((cell_far (p := ⟨gb153, _, none⟩) NB155_153.out _).trans (((cell_far (p := ⟨gb153, _, none⟩) NB155_153.out _).trans (((cell_far (p := ⟨gb153, _, none⟩) NB155_153.out _).trans (((cell_far (p := ⟨gb153, _, none⟩) NB155_153.out _).trans (((cell_far (p := ⟨gb153, _, none⟩) NB155_153.out _).trans (((cell_far (p := ⟨gb153, _, none⟩) NB155_153.out _).trans (((cell_far (p := ⟨gb153, _, none⟩) NB155_153.out _).trans (((cell_far (p := ⟨gb153, _, none⟩) NB155_153.out _).trans (((cell_far (p := ⟨gb153, _, none⟩) NB155_153.out _).trans (hHeld.2.2.2.2.2.2.1)))))))))))))))))))), ((cell_far (p := ⟨gb153, _, none⟩) NB155_153.out _).trans (((cell_far (p := ⟨gb153, _, none⟩) NB155_153.out _).trans (((cell_far (p := ⟨gb153, _, none⟩) NB155_153.out _).trans (((cell_far (p := ⟨gb153, _, none⟩) NB155_153.out _).trans (((cell_far (p := ⟨gb153, _, none⟩) NB155_153.out _).trans (((cell_far (p := ⟨gb153, _, none⟩) NB155_153.out _).trans (((cell_far (p := ⟨gb153, _, none⟩) NB155_153.out _).trans (((cell_far (p := ⟨gb153, _, none⟩) NB155_153.out _).trans (((cell_far (p := ⟨gb153, _, none⟩) NB155_153.out _).trans (((cell_far (p := ⟨gb153, _, none⟩) NB155_153.out _).trans (hHeld.2.2.2.2.2.2.2.1)))))))))))))))))))), ((cell_far (p := ⟨gb153, _, none⟩) NB155_153.out _).trans (((cell_far (p := ⟨gb153, _, none⟩) NB155_153.out _).trans (((cell_far (p := ⟨gb153, _, none⟩) NB155_153.out _).trans (((cell_far (p := ⟨gb153, _, none⟩) NB155_153.out _).trans (((cell_far (p := ⟨gb153, _, none⟩) NB155_153.out _).trans (((cell_far (p := ⟨gb153, _, none⟩) NB155_153.out _).trans (((cell_far (p := ⟨gb153, _, none⟩) NB155_153.out _).trans (((cell_far (p := ⟨gb153, _, none⟩) NB155_153.out _).trans (((cell_far (p := ⟨gb153, _, none⟩) NB155_153.out _).trans (((cell_far (p := ⟨gb153, _, none⟩) NB155_153.out _).trans (hHeld.2.2.2.2.2.2.2.2.1)))))))))))))))))))), ((cell_far (p := ⟨gb153, _, none⟩) NB155_153.out _).trans (((cell_far (p := ⟨gb153, _, none⟩) NB155_153.out _).trans (((cell_far (p := ⟨gb153, _, none⟩) NB155_153.out _).trans (((cell_far (p := ⟨gb153, _, none⟩) NB155_153.out _).trans (((cell_far (p := ⟨gb153, _, none⟩) NB155_153.out _).trans (((cell_far (p := ⟨gb153, _, none⟩) NB155_153.out _).trans (((cell_far (p := ⟨gb153, _, none⟩) NB155_153.out _).trans (((cell_far (p := ⟨gb153, _, none⟩) NB155_153.out _).trans (((cell_far (p := ⟨gb153, _, none⟩) NB155_153.out _).trans (((cell_far (p := ⟨gb153, _, none⟩) NB155_153.out _).trans (hHeld.2.2.2.2.2.2.2.2.2))))))))))))))))))))⟩ (fun hHeld => ?_)
    clear hK K
    refine pure_ (i := 14) (N := some 5) (v := ?_) (a' := ?_) #[true, true, true, true, true, true, true, true, true, true, true, true, true, true, true] rfl rfl (any_of HT_.out (by kernel_rfl)) (fun _ _ _ h => h) (Or.inl ⟨by rfl, ?_⟩) ?_ ?_
    rotate_left
    ·intro w'
     go_simp
     with_reducible rfl
    rotate_left
    ·simp only [Act.put, List.setIfInBounds_toArray, List.set_cons_zero, List.set_cons_succ, i64_w, i32_w]
     rfl
    refine done_ (done_of HT_.out (by kernel_rfl)) ?_
    try go_wp2
    refine bodyPost_ret (results_ct rfl _ _ gb153 45 #[.int .i64 2, .int .i64 0, .string (⟨#[]⟩ : ByteArray), .string (⟨#[]⟩ : ByteArray), .string (⟨#[]⟩ : ByteArray), .string t154, .string (⟨#[]⟩ : ByteArray), .string t164, .string t165, .slice none 0 0] (0, 0) _ rfl (zP10 BK153.out) Tryd.underlying45 rfl (by kernel_rfl)) rfl ?_
    exact ⟨_, zE, by first | exact Kd.R_nil _ _ _ _ _ | exact Kd.N_nil _ _ _ _ _ | exact Kd.V_nil _ _ _ _ _ | exact Kd.Q_nil _ _ _ _ _ | exact Kd.S_nil _ _ _ _ _, zL HB.out⟩
   ·replace c93 := Bool.eq_false_iff.mpr c93
    subst c93
    have H1 : (some (2, 0, (⟨#[]⟩ : ByteArray), (⟨#[]⟩ : ByteArray), (⟨#[]⟩ : ByteArray), t154, (⟨#[]⟩ : ByteArray), t164, t165, ([] : List ByteArray), !false)) = some (r1, r2, r3, r4, r5, r6, r7, r8, r9, r10, r11) := by rw [if_neg (show ¬ (false = true) by decide)] at H; exact H
    clear H
    have H := H1
    clear H1
    simp only [Option.some.injEq, Prod.mk.injEq] at H
    obtain ⟨rfl, rfl, rfl, rfl, rfl, rfl, rfl, rfl, rfl, rfl, rfl⟩ := H
    go_enter Tryd.func45, Tryd.ntmps45
    try go_wp2_with (first | ((with_reducible refine gate_dst (N := 4) rfl ?_); refine box_event ?hg (N := 4) ?hd (cs := #[.int .i64 0, .int .i64 0, .string (⟨#[]⟩ : ByteArray), .string (⟨#[]⟩ : ByteArray), .string (⟨#[]⟩ : ByteArray), .string (⟨#[]⟩ : ByteArray), .string (⟨#[]⟩ : ByteArray), .string (⟨#[]⟩ : ByteArray), .string (⟨#[]⟩ : ByteArray), .slice none 0 0]) (t := 45) ?hr ?_; (case hd => rfl); (case hg => rfl); (case hr => first | (go_simp; done) | (go_simp; rfl)); intro gb153 hg w116 hbox hb; have n0_ := Aside0.mk (below_step (zL HB.out) hb); have n1_ := Aside0.mk (hbox); have n2_ := Aside0.mk (zG hg (zL HB.out)); have n3_ := Aside0.mk (zG hg (zL HB.out)); revert n0_ n1_ n2_ n3_; clear HB; intro HB BK153 GW153 GE153; clear hb hbox hg) | ((with_reducible refine gate_callee (f := 24) rfl ?_); refine goesL_ (some 12) rfl rfl Tryd.func24 (by kernel_rfl) rfl #[.string a0] rfl zA ?_; (with_reducible refine (text_Trim.calls a0 t154 _ A3.out).mono ?_); rintro e w117 ⟨rfl, hb⟩; refine ⟨_, rfl, ?_⟩; have n0_ := Aside0.mk (blk_below (g := gb153) (o := .cells #[.int .i64 0, .int .i64 0, .string (⟨#[]⟩ : ByteArray), .string (⟨#[]⟩ : ByteArray), .string (⟨#[]⟩ : ByteArray), .string (⟨#[]⟩ : ByteArray), .string (⟨#[]⟩ : ByteArray), .string (⟨#[]⟩ : ByteArray), .string (⟨#[]⟩ : ByteArray), .slice none 0 0] 45 (0, 0)) (zK BK153.out) hb); have n1_ := Aside0.mk (below_step (zL HB.out) hb); revert n0_ n1_; clear BK153 HB; intro BK153 HB; (try clear hb); (try clear hb2); (try clear hk); (try clear hi)) | ((with_reducible refine gate_dst (N := 6) rfl ?_); refine box_event ?hg (N := 6) ?hd (cs := #[.int .i64 0, .int .i64 0, .string (⟨#[]⟩ : ByteArray), .string (⟨#[]⟩ : ByteArray), .string (⟨#[]⟩ : ByteArray), .string (⟨#[]⟩ : ByteArray), .string (⟨#[]⟩ : ByteArray), .string (⟨#[]⟩ : ByteArray), .string (⟨#[]⟩ : ByteArray), .slice none 0 0]) (t := 45) ?hr ?_; (case hd => rfl); (case hg => rfl); (case hr => first | (go_simp; done) | (go_simp; rfl)); intro gb155 hg w118 hbox hb; have n0_ := Aside0.mk (blk_below (g := gb153) (o := .cells #[.int .i64 0, .int .i64 0, .string (⟨#[]⟩ : ByteArray), .string (⟨#[]⟩ : ByteArray), .string (⟨#[]⟩ : ByteArray), .string (⟨#[]⟩ : ByteArray), .string (⟨#[]⟩ : ByteArray), .string (⟨#[]⟩ : ByteArray), .string (⟨#[]⟩ : ByteArray), .slice none 0 0] 45 (0, 0)) (zK BK153.out) hb); have n1_ := Aside0.mk (below_step (zL HB.out) hb); have n2_ := Aside0.mk (hbox); have n3_ := Aside0.mk (zG hg (zL HB.out)); have n4_ := Aside0.mk (zG hg (zL HB.out)); have n5_ := Aside0.mk (zN (g := gb153) (o := .cells #[.int .i64 0, .int .i64 0, .string (⟨#[]⟩ : ByteArray), .string (⟨#[]⟩ : ByteArray), .string (⟨#[]⟩ : ByteArray), .string (⟨#[]⟩ : ByteArray), .string (⟨#[]⟩ : ByteArray), .string (⟨#[]⟩ : ByteArray), .string (⟨#[]⟩ : ByteArray), .slice none 0 0] 45 (0, 0)) hg (zK BK153.out)); have n6_ := Aside0.mk (zO (g := gb153) (o := .cells #[.int .i64 0, .int .i64 0, .string (⟨#[]⟩ : ByteArray), .string (⟨#[]⟩ : ByteArray), .string (⟨#[]⟩ : ByteArray), .string (⟨#[]⟩ : ByteArray), .string (⟨#[]⟩ : ByteArray), .string (⟨#[]⟩ : ByteArray), .string (⟨#[]⟩ : ByteArray), .slice none 0 0] 45 (0, 0)) hg (zK BK153.out)); revert n0_ n1_ n2_ n3_ n4_ n5_ n6_; clear BK153 HB; intro BK153 HB BK155 GW155 GE155 NB153_155 NB155_153; clear hb hbox hg; have hnb119 := NB155_153.out; have hnc119 := NB153_155.out; obtain ⟨hcz120_0, hcz120_1, hcz120_2, hcz120_3, hcz120_4, hcz120_5, hcz120_6, hcz120_7, hcz120_8, hcz120_9, hfz120_0, hfz120_1, hfz120_2, hfz120_3, hfz120_4, hfz120_5, hfz120_6, hfz120_7, hfz120_8, hfz120_9⟩ := zC10 BK155.out) | ((with_reducible refine gate_callee (f := 67) rfl ?_); refine goesL_ (some 16) rfl rfl Tryd.func67 (by kernel_rfl) rfl #[.string a1, .string (⟨#[58]⟩ : ByteArray)] rfl zA ?_; (with_reducible refine (parse_sides.calls k a1 (⟨#[58]⟩ : ByteArray) t156 t157 false _ A4.out).mono ?_); rintro e w121 ⟨rfl, hb⟩; refine ⟨_, rfl, ?_⟩; have n0_ := Aside0.mk (blk_below (g := gb153) (o := .cells #[.int .i64 0, .int .i64 0, .string (⟨#[]⟩ : ByteArray), .string (⟨#[]⟩ : ByteArray), .string (⟨#[]⟩ : ByteArray), .string (⟨#[]⟩ : ByteArray), .string (⟨#[]⟩ : ByteArray), .string (⟨#[]⟩ : ByteArray), .string (⟨#[]⟩ : ByteArray), .slice none 0 0] 45 (0, 0)) (zK BK153.out) hb); have n1_ := Aside0.mk (blk_below (g := gb155) (o := .cells #[.int .i64 2, .int .i64 0, .string (⟨#[]⟩ : ByteArray), .string (⟨#[]⟩ : ByteArray), .string (⟨#[]⟩ : ByteArray), .string t154, .string (⟨#[]⟩ : ByteArray), .string (⟨#[]⟩ : ByteArray), .string (⟨#[]⟩ : ByteArray), .slice none 0 0] 45 (0, 0)) (zP10 BK155.out) hb); have n2_ := Aside0.mk (below_step (zL HB.out) hb); revert n0_ n1_ n2_; clear BK153 BK155 HB; intro BK153 BK155 HB; (try clear hb); (try clear hb2); (try clear hk); (try clear hi)) | ((with_reducible refine gate_callee (f := 67) rfl ?_); refine goesL_ (some 33) rfl rfl Tryd.func67 (by kernel_rfl) rfl #[.string a1, .string (⟨#[124]⟩ : ByteArray)] rfl zA ?_; (with_reducible refine (parse_sides.calls k a1 (⟨#[124]⟩ : ByteArray) t164 t165 false _ A71.out).mono ?_); rintro e w122 ⟨rfl, hb⟩; refine ⟨_, rfl, ?_⟩; have n0_ := Aside0.mk (blk_below (g := gb153) (o := .cells #[.int .i64 0, .int .i64 0, .string (⟨#[]⟩ : ByteArray), .string (⟨#[]⟩ : ByteArray), .string (⟨#[]⟩ : ByteArray), .string (⟨#[]⟩ : ByteArray), .string (⟨#[]⟩ : ByteArray), .string (⟨#[]⟩ : ByteArray), .string (⟨#[]⟩ : ByteArray), .slice none 0 0] 45 (0, 0)) (zK BK153.out) hb); have n1_ := Aside0.mk (blk_below (g := gb155) (o := .cells #[.int .i64 2, .int .i64 0, .string (⟨#[]⟩ : ByteArray), .string (⟨#[]⟩ : ByteArray), .string (⟨#[]⟩ : ByteArray), .string t154, .string (⟨#[]⟩ : ByteArray), .string (⟨#[]⟩ : ByteArray), .string (⟨#[]⟩ : ByteArray), .slice none 0 0] 45 (0, 0)) (zK BK155.out) hb); have n2_ := Aside0.mk (below_step (zL HB.out) hb); revert n0_ n1_ n2_; clear BK153 BK155 HB; intro BK153 BK155 HB; (try clear hb); (try clear hb2); (try clear hk); (try clear hi); obtain ⟨hcz123_0, hcz123_1, hcz123_2, hcz123_3, hcz123_4, hcz123_5, hcz123_6, hcz123_7, hcz123_8, hcz123_9, hfz123_0, hfz123_1, hfz123_2, hfz123_3, hfz123_4, hfz123_5, hfz123_6, hfz123_7, hfz123_8, hfz123_9⟩ := zC10 BK155.out))
    have n0_ : Aside0 (((w122.setCell ⟨gb155, 7, none⟩ (.string t164)).setCell ⟨gb155, 8, none⟩ (.string t165)).heap[gb153]? = some (.cells #[.int .i64 0, .int .i64 0, .string (⟨#[]⟩ : ByteArray), .string (⟨#[]⟩ : ByteArray), .string (⟨#[]⟩ : ByteArray), .string (⟨#[]⟩ : ByteArray), .string (⟨#[]⟩ : ByteArray), .string (⟨#[]⟩ : ByteArray), .string (⟨#[]⟩ : ByteArray), .slice none 0 0] 45 (0, 0))) := ⟨zK BK153.out⟩
    have n1_ : Aside0 (((w122.setCell ⟨gb155, 7, none⟩ (.string t164)).setCell ⟨gb155, 8, none⟩ (.string t165)).heap[gb155]? = some (.cells #[.int .i64 2, .int .i64 0, .string (⟨#[]⟩ : ByteArray), .string (⟨#[]⟩ : ByteArray), .string (⟨#[]⟩ : ByteArray), .string t154, .string (⟨#[]⟩ : ByteArray), .string t164, .string t165, .slice none 0 0] 45 (0, 0))) := ⟨by (with_reducible repeat (first | refine blk_drewN ?_ _ | refine blk_drew ?_ | refine blk_alloc ?_ _)); refine blk_put (cs := #[.int .i64 2, .int .i64 0, .string (⟨#[]⟩ : ByteArray), .string (⟨#[]⟩ : ByteArray), .string (⟨#[]⟩ : ByteArray), .string t154, .string (⟨#[]⟩ : ByteArray), .string t164, .string (⟨#[]⟩ : ByteArray), .slice none 0 0]) ?_ 8 _ rfl; (with_reducible repeat (first | refine blk_drewN ?_ _ | refine blk_drew ?_ | refine blk_alloc ?_ _)); refine blk_put (cs := #[.int .i64 2, .int .i64 0, .string (⟨#[]⟩ : ByteArray), .string (⟨#[]⟩ : ByteArray), .string (⟨#[]⟩ : ByteArray), .string t154, .string (⟨#[]⟩ : ByteArray), .string (⟨#[]⟩ : ByteArray), .string (⟨#[]⟩ : ByteArray), .slice none 0 0]) ?_ 7 _ rfl; (with_reducible repeat (first | refine blk_drewN ?_ _ | refine blk_drew ?_ | refine blk_alloc ?_ _)); exact BK155.out⟩
    have n2_ : Aside0 (Below w.heap.size w ((w122.setCell ⟨gb155, 7, none⟩ (.string t164)).setCell ⟨gb155, 8, none⟩ (.string t165))) := ⟨zL HB.out⟩
    (try clear BK153)
    (try clear BK155)
    (try clear HB)
    generalize ((w122.setCell ⟨gb155, 7, none⟩ (.string t164)).setCell ⟨gb155, 8, none⟩ (.string t165)) = w124 at n0_ n1_ n2_ ⊢
    have BK153 := n0_
    have BK155 := n1_
    have HB := n2_
    clear n0_ n1_ n2_
    have n0_ := Aside0.mk (blk_drew BK153.out)
    have n1_ := Aside0.mk (blk_drew BK155.out)
    have n2_ := Aside0.mk (below_drew1 HB.out)
    clear BK153
    clear BK155
    clear HB
    have BK153 := n0_
    have BK155 := n1_
    have HB := n2_
    clear n0_ n1_ n2_
    refine start_ (n := 15) (S := fun w' => w'.cell? ⟨gb155, 0, none⟩ = some (.int .i64 2) ∧ w'.cell? ⟨gb155, 1, none⟩ = some (.int .i64 0) ∧ w'.cell? ⟨gb155, 2, none⟩ = some (.string (⟨#[]⟩ : ByteArray)) ∧ w'.cell? ⟨gb155, 3, none⟩ = some (.string (⟨#[]⟩ : ByteArray)) ∧ w'.cell? ⟨gb155, 4, none⟩ = some (.string (⟨#[]⟩ : ByteArray)) ∧ w'.cell? ⟨gb155, 5, none⟩ = some (.string t154) ∧ w'.cell? ⟨gb155, 6, none⟩ = some (.string (⟨#[]⟩ : ByteArray)) ∧ w'.cell? ⟨gb155, 7, none⟩ = some (.string t164) ∧ w'.cell? ⟨gb155, 8, none⟩ = some (.string t165) ∧ w'.cell? ⟨gb155, 9, none⟩ = some (.slice none 0 0)) (ds := []) #[false, false, false, false, false, false, false, false, false, false, false, false, false, false, false] (by kernel_rfl) rfl rfl ⟨(blk_cell BK155.out 0).trans rfl, (blk_cell BK155.out 1).trans rfl, (blk_cell BK155.out 2).trans rfl, (blk_cell BK155.out 3).trans rfl, (blk_cell BK155.out 4).trans rfl, (blk_cell BK155.out 5).trans rfl, (blk_cell BK155.out 6).trans rfl, (blk_cell BK155.out 7).trans rfl, (blk_cell BK155.out 8).trans rfl, (blk_cell BK155.out 9).trans rfl⟩ (fun hHeld => ?_); refine with_tabW parse_rule.tab9 parse_rule.bits9 (fun HT_ HW_ => ?_)
    generalize w124.drew = w125 at BK153 BK155 HB hHeld ⊢
    refine pure_ (i := 1) (N := some 40) (v := ?_) (a' := ?_) #[false, true, false, false, false, false, false, false, false, false, false, false, false, false, false] rfl rfl (any_of HT_.out (by kernel_rfl)) (fun _ _ _ h => h) (Or.inl ⟨by rfl, ?_⟩) ?_ ?_
    rotate_left
    ·intro w'
     go_simp
     with_reducible rfl
    rotate_left
    ·simp only [Act.put, List.setIfInBounds_toArray, List.set_cons_zero, List.set_cons_succ, i64_w, i32_w]
     rfl
    refine take_ (i := 0) (N := some 39) (v := ?_) (a' := ?_) #[true, true, false, false, false, false, false, false, false, false, false, false, false, false, false] rfl rfl (take_ofW HT_.out HW_.out (by kernel_rfl)) (fun _ _ _ h => h) (Or.inl ⟨by rfl, ?_⟩) hHeld ?_ ?_
    rotate_left
    ·rintro w' ⟨s0, s1, s2, s3, s4, s5, s6, s7, s8, s9⟩
     go_simp
     with_reducible rfl
    rotate_left
    ·simp only [Act.put, List.setIfInBounds_toArray, List.set_cons_zero, List.set_cons_succ, i64_w, i32_w]
     rfl
    refine take_ (i := 2) (N := some 41) (v := ?_) (a' := ?_) #[true, true, true, false, false, false, false, false, false, false, false, false, false, false, false] rfl rfl (take_ofW HT_.out HW_.out (by kernel_rfl)) (fun _ _ _ h => h) (Or.inl ⟨by rfl, ?_⟩) hHeld ?_ ?_
    rotate_left
    ·rintro w' ⟨s0, s1, s2, s3, s4, s5, s6, s7, s8, s9⟩
     go_simp
     with_reducible rfl
    rotate_left
    ·simp only [Act.put, List.setIfInBounds_toArray, List.set_cons_zero, List.set_cons_succ, i64_w, i32_w]
     rfl
    refine pure_ (i := 3) (N := some 42) (v := ?_) (a' := ?_) #[true, true, true, true, false, false, false, false, false, false, false, false, false, false, false] rfl rfl (any_of HT_.out (by kernel_rfl)) (fun _ _ _ h => h) (Or.inl ⟨by rfl, ?_⟩) ?_ ?_
    rotate_left
    ·intro w'
     go_simp
     with_reducible rfl
    rotate_left
    ·simp only [Act.put, List.setIfInBounds_toArray, List.set_cons_zero, List.set_cons_succ, i64_w, i32_w]
     rfl
    refine pure_ (i := 4) (N := some 43) (v := ?_) (a' := ?_) #[true, true, true, true, true, false, false, false, false, false, false, false, false, false, false] rfl rfl (any_of HT_.out (by kernel_rfl)) (fun _ _ _ h => h) (Or.inl ⟨by rfl, ?_⟩) ?_ ?_
    rotate_left
    ·intro w'
     go_simp
     with_reducible rfl
    rotate_left
    ·simp only [Act.put, List.setIfInBounds_toArray, List.set_cons_zero, List.set_cons_succ, i64_w, i32_w]
     rfl
    refine pure_ (i := 5) (N := some 44) (v := ?_) (a' := ?_) #[true, true, true, true, true, true, false, false, false, false, false, false, false, false, false] rfl rfl (any_of HT_.out (by kernel_rfl)) (fun _ _ _ h => h) (Or.inl ⟨by rfl, ?_⟩) ?_ ?_
    rotate_left
    ·intro w'
     go_simp
     with_reducible rfl
    rotate_left
    ·simp only [Act.put, List.setIfInBounds_toArray, List.set_cons_zero, List.set_cons_succ, i64_w, i32_w]
     rfl
    refine pure_ (i := 6) (N := some 45) (v := ?_) (a' := ?_) #[true, true, true, true, true, true, true, false, false, false, false, false, false, false, false] rfl rfl (any_of HT_.out (by kernel_rfl)) (fun _ _ _ h => h) (Or.inl ⟨by rfl, ?_⟩) ?_ ?_
    rotate_left
    ·intro w'
     go_simp
     with_reducible rfl
    rotate_left
    ·simp only [Act.put, List.setIfInBounds_toArray, List.set_cons_zero, List.set_cons_succ, i64_w, i32_w]
     rfl
    refine pure_ (i := 7) (N := some 46) (v := undef) (a' := ?_) #[true, true, true, true, true, true, true, true, false, false, false, false, false, false, false] rfl rfl (any_of HT_.out (by kernel_rfl)) (fun _ _ _ h => h) (Or.inr ⟨by rfl, rfl⟩) ?_ ?_
    rotate_left
    ·simp only [Act.put, List.setIfInBounds_toArray, List.set_cons_zero, List.set_cons_succ, i64_w, i32_w]
     rfl
    refine pure_ (i := 8) (N := some 47) (v := undef) (a' := ?_) #[true, true, true, true, true, true, true, true, true, false, false, false, false, false, false] rfl rfl (any_of HT_.out (by kernel_rfl)) (fun _ _ _ h => h) (Or.inr ⟨by rfl, rfl⟩) ?_ ?_
    rotate_left
    ·simp only [Act.put, List.setIfInBounds_toArray, List.set_cons_zero, List.set_cons_succ, i64_w, i32_w]
     rfl
    refine pure_ (i := 9) (N := some 48) (v := undef) (a' := ?_) #[true, true, true, true, true, true, true, true, true, true, false, false, false, false, false] rfl rfl (any_of HT_.out (by kernel_rfl)) (fun _ _ _ h => h) (Or.inr ⟨by rfl, rfl⟩) ?_ ?_
    rotate_left
    ·simp only [Act.put, List.setIfInBounds_toArray, List.set_cons_zero, List.set_cons_succ, i64_w, i32_w]
     rfl
    refine pure_ (i := 10) (N := some 49) (v := ?_) (a' := ?_) #[true, true, true, true, true, true, true, true, true, true, true, false, false, false, false] rfl rfl (any_of HT_.out (by kernel_rfl)) (fun _ _ _ h => h) (Or.inl ⟨by rfl, ?_⟩) ?_ ?_
    rotate_left
    ·intro w'
     go_simp
     with_reducible rfl
    rotate_left
    ·simp only [Act.put, List.setIfInBounds_toArray, List.set_cons_zero, List.set_cons_succ, i64_w, i32_w]
     rfl
    refine pure_ (i := 11) (N := some 50) (v := ?_) (a' := ?_) #[true, true, true, true, true, true, true, true, true, true, true, true, false, false, false] rfl rfl (any_of HT_.out (by kernel_rfl)) (fun _ _ _ h => h) (Or.inl ⟨by rfl, ?_⟩) ?_ ?_
    rotate_left
    ·intro w'
     go_simp
     with_reducible rfl
    rotate_left
    ·simp only [Act.put, List.setIfInBounds_toArray, List.set_cons_zero, List.set_cons_succ, i64_w, i32_w]
     rfl
    refine pure_ (i := 12) (N := some 51) (v := ?_) (a' := ?_) #[true, true, true, true, true, true, true, true, true, true, true, true, true, false, false] rfl rfl (any_of HT_.out (by kernel_rfl)) (fun _ _ _ h => h) (Or.inl ⟨by rfl, ?_⟩) ?_ ?_
    rotate_left
    ·intro w'
     go_simp
     with_reducible rfl
    rotate_left
    ·simp only [Act.put, List.setIfInBounds_toArray, List.set_cons_zero, List.set_cons_succ, i64_w, i32_w]
     rfl
    refine one_ (i := 13) (N := none) #[true, true, true, true, true, true, true, true, true, true, true, true, true, true, false] rfl rfl (one_of HT_.out (by kernel_rfl)) (by decide) (fun K hK => ?_)
    have hs126 : w125.cell? ⟨gb153, 0, none⟩ = some (.int .i64 0) := (blk_cell BK153.out 0).trans rfl
    have hfs126 := blk_frozen BK153.out 0
    have hns126_1 := NB155_153.out
    have hms126_1 := NB153_155.out
    have hs127 : w125.cell? ⟨gb153, 1, none⟩ = some (.int .i64 0) := (blk_cell BK153.out 1).trans rfl
    have hfs127 := blk_frozen BK153.out 1
    have hns127_1 := NB155_153.out
    have hms127_1 := NB153_155.out
    have hs128 : w125.cell? ⟨gb153, 2, none⟩ = some (.string (⟨#[]⟩ : ByteArray)) := (blk_cell BK153.out 2).trans rfl
    have hfs128 := blk_frozen BK153.out 2
    have hns128_1 := NB155_153.out
    have hms128_1 := NB153_155.out
    have hs129 : w125.cell? ⟨gb153, 3, none⟩ = some (.string (⟨#[]⟩ : ByteArray)) := (blk_cell BK153.out 3).trans rfl
    have hfs129 := blk_frozen BK153.out 3
    have hns129_1 := NB155_153.out
    have hms129_1 := NB153_155.out
    have hs130 : w125.cell? ⟨gb153, 4, none⟩ = some (.string (⟨#[]⟩ : ByteArray)) := (blk_cell BK153.out 4).trans rfl
    have hfs130 := blk_frozen BK153.out 4
    have hns130_1 := NB155_153.out
    have hms130_1 := NB153_155.out
    have hs131 : w125.cell? ⟨gb153, 5, none⟩ = some (.string (⟨#[]⟩ : ByteArray)) := (blk_cell BK153.out 5).trans rfl
    have hfs131 := blk_frozen BK153.out 5
    have hns131_1 := NB155_153.out
    have hms131_1 := NB153_155.out
    have hs132 : w125.cell? ⟨gb153, 6, none⟩ = some (.string (⟨#[]⟩ : ByteArray)) := (blk_cell BK153.out 6).trans rfl
    have hfs132 := blk_frozen BK153.out 6
    have hns132_1 := NB155_153.out
    have hms132_1 := NB153_155.out
    have hs133 : w125.cell? ⟨gb153, 7, none⟩ = some (.string (⟨#[]⟩ : ByteArray)) := (blk_cell BK153.out 7).trans rfl
    have hfs133 := blk_frozen BK153.out 7
    have hns133_1 := NB155_153.out
    have hms133_1 := NB153_155.out
    have hs134 : w125.cell? ⟨gb153, 8, none⟩ = some (.string (⟨#[]⟩ : ByteArray)) := (blk_cell BK153.out 8).trans rfl
    have hfs134 := blk_frozen BK153.out 8
    have hns134_1 := NB155_153.out
    have hms134_1 := NB153_155.out
    have hs135 : w125.cell? ⟨gb153, 9, none⟩ = some (.slice none 0 0) := (blk_cell BK153.out 9).trans rfl
    have hfs135 := blk_frozen BK153.out 9
    have hns135_1 := NB155_153.out
    have hms135_1 := NB153_155.out
    refine skip_ (w1 := ?_) (by rfl) rfl ?_ ?_
    rotate_left
    ·go_simp
     rfl
    refine hK.out _ _ ⟨((cell_far (p := ⟨gb153, _, none⟩) NB155_153.out _).trans (((cell_far (p := ⟨gb153, _, none⟩) NB155_153.out _).trans (((cell_far (p := ⟨gb153, _, none⟩) NB155_153.out _).trans (((cell_far (p := ⟨gb153, _, none⟩) NB155_153.out _).trans (((cell_far (p := ⟨gb153, _, none⟩) NB155_153.out _).trans (((cell_far (p := ⟨gb153, _, none⟩) NB155_153.out _).trans (((cell_far (p := ⟨gb153, _, none⟩) NB155_153.out _).trans (((cell_far (p := ⟨gb153, _, none⟩) NB155_153.out _).trans (((cell_far (p := ⟨gb153, _, none⟩) NB155_153.out _).trans (((cell_far (p := ⟨gb153, _, none⟩) NB155_153.out _).trans (hHeld.1)))))))))))))))))))), ((cell_far (p := ⟨gb153, _, none⟩) NB155_153.out _).trans (((cell_far (p := ⟨gb153, _, none⟩) NB155_153.out _).trans (((cell_far (p := ⟨gb153, _, none⟩) NB155_153.out _).trans (((cell_far (p := ⟨gb153, _, none⟩) NB155_153.out _).trans (((cell_far (p := ⟨gb153, _, none⟩) NB155_153.out _).trans (((cell_far (p := ⟨gb153, _, none⟩) NB155_153.out _).trans (((cell_far (p := ⟨gb153, _, none⟩) NB155_153.out _).trans (((cell_far (p := ⟨gb153, _, none⟩) NB155_153.out _).trans (((cell_far (p := ⟨gb153, _, none⟩) NB155_153.out _).trans (((cell_far (p := ⟨gb153, _, none⟩) NB155_153.out _).trans (hHeld.2.1)))))))))))))))))))), ((cell_far (p := ⟨gb153, _, none⟩) NB155_153.out _).trans (((cell_far (p := ⟨gb153, _, none⟩) NB155_153.out _).trans (((cell_far (p := ⟨gb153, _, none⟩) NB155_153.out _).trans (((cell_far (p := ⟨gb153, _, none⟩) NB155_153.out _).trans (((cell_far (p := ⟨gb153, _, none⟩) NB155_153.out _).trans (((cell_far (p := ⟨gb153, _, none⟩) NB155_153.out _).trans (((cell_far (p := ⟨gb153, _, none⟩) NB155_153.out _).trans (((cell_far (p := ⟨gb153, _, none⟩) NB155_153.out _).trans (((cell_far (p := ⟨gb153, _, none⟩) NB155_153.out _).trans (((cell_far (p := ⟨gb153, _, none⟩) NB155_153.out _).trans (hHeld.2.2.1)))))))))))))))))))), ((cell_far (p := ⟨gb153, _, none⟩) NB155_153.out _).trans (((cell_far (p := ⟨gb153, _, none⟩) NB155_153.out _).trans (((cell_far (p := ⟨gb153, _, none⟩) NB155_153.out _).trans (((cell_far (p := ⟨gb153, _, none⟩) NB155_153.out _).trans (((cell_far (p := ⟨gb153, _, none⟩) NB155_153.out _).trans (((cell_far (p := ⟨gb153, _, none⟩) NB155_153.out _).trans (((cell_far (p := ⟨gb153, _, none⟩) NB155_153.out _).trans (((cell_far (p := ⟨gb153, _, none⟩) NB155_153.out _).trans (((cell_far (p := ⟨gb153, _, none⟩) NB155_153.out _).trans (((cell_far (p := ⟨gb153, _, none⟩) NB155_153.out _).trans (hHeld.2.2.2.1)))))))))))))))))))), ((cell_far (p := ⟨gb153, _, none⟩) NB155_153.out _).trans (((cell_far (p := ⟨gb153, _, none⟩) NB155_153.out _).trans (((cell_far (p := ⟨gb153, _, none⟩) NB155_153.out _).trans (((cell_far (p := ⟨gb153, _, none⟩) NB155_153.out _).trans (((cell_far (p := ⟨gb153, _, none⟩) NB155_153.out _).trans (((cell_far (p := ⟨gb153, _, none⟩) NB155_153.out _).trans (((cell_far (p := ⟨gb153, _, none⟩) NB155_153.out _).trans (((cell_far (p := ⟨gb153, _, none⟩) NB155_153.out _).trans (((cell_far (p := ⟨gb153, _, none⟩) NB155_153.out _).trans (((cell_far (p := ⟨gb153, _, none⟩) NB155_153.out _).trans (hHeld.2.2.2.2.1)))))))))))))))))))), ((cell_far (p := ⟨gb153, _, none⟩) NB155_153.out _).trans (((cell_far (p := ⟨gb153, _, none⟩) NB155_153.out _).trans (((cell_far (p := ⟨gb153, _, none⟩) NB155_153.out _).trans (((cell_far (p := ⟨gb153, _, none⟩) NB155_153.out _).trans (((cell_far (p := ⟨gb153, _, none⟩) NB155_153.out _).trans (((cell_far (p := ⟨gb153, _, none⟩) NB155_153.out _).trans (((cell_far (p := ⟨gb153, _, none⟩) NB155_153.out _).trans (((cell_far (p := ⟨gb153, _, none⟩) NB155_153.out _).trans (((cell_far (p := ⟨gb153, _, none⟩) NB155_153.out _).trans (((cell_far (p := ⟨gb153, _, none⟩) NB155_153.out _).trans (hHeld.2.2.2.2.2.1)))))))))))))))))))), ((cell_far (p := ⟨gb153, _, none⟩) NB155_153.out _).trans (((cell_far (p := ⟨gb153, _, none⟩) NB155_153.out _).trans (((cell_far (p := ⟨gb153, _, none⟩) NB155_153.out _).trans (((cell_far (p := ⟨gb153, _, none⟩) NB155_153.out _).trans (((cell_far (p := ⟨gb153, _, none⟩) NB155_153.out _).trans (((cell_far (p := ⟨gb153, _, none⟩) NB155_153.out _).trans (((cell_far (p := ⟨gb153, _, none⟩) NB155_153.out _).trans (((cell_far (p := ⟨gb153, _, none⟩) NB155_153.out _).trans (((cell_far (p := ⟨gb153, _, none⟩) NB155_153.out _).trans (((cell_far (p := ⟨gb153, _, none⟩) NB155_153.out _).trans (hHeld.2.2.2.2.2.2.1)))))))))))))))))))), ((cell_far (p := ⟨gb153, _, none⟩) NB155_153.out _).trans (((cell_far (p := ⟨gb153, _, none⟩) NB155_153.out _).trans (((cell_far (p := ⟨gb153, _, none⟩) NB155_153.out _).trans (((cell_far (p := ⟨gb153, _, none⟩) NB155_153.out _).trans (((cell_far (p := ⟨gb153, _, none⟩) NB155_153.out _).trans (((cell_far (p := ⟨gb153, _, none⟩) NB155_153.out _).trans (((cell_far (p := ⟨gb153, _, none⟩) NB155_153.out _).trans (((cell_far (p := ⟨gb153, _, none⟩) NB155_153.out _).trans (((cell_far (p := ⟨gb153, _, none⟩) NB155_153.out _).trans (((cell_far (p := ⟨gb153, _, none⟩) NB155_153.out _).trans (hHeld.2.2.2.2.2.2.2.1)))))))))))))))))))), ((cell_far (p := ⟨gb153, _, none⟩) NB155_153.out _).trans (((cell_far (p := ⟨gb153, _, none⟩) NB155_153.out _).trans (((cell_far (p := ⟨gb153, _, none⟩) NB155_153.out _).trans (((cell_far (p := ⟨gb153, _, none⟩) NB155_153.out _).trans (((cell_far (p := ⟨gb153, _, none⟩) NB155_153.out _).trans (((cell_far (p := ⟨gb153, _, none⟩) NB155_153.out _).trans (((cell_far (p := ⟨gb153, _, none⟩) NB155_153.out _).trans (((cell_far (p := ⟨gb153, _, none⟩) NB155_153.out _).trans (((cell_far (p := ⟨gb153, _, none⟩) NB155_153.out _).trans (((cell_far (p := ⟨gb153, _, none⟩) NB155_153.out _).trans (hHeld.2.2.2.2.2.2.2.2.1)))))))))))))))))))), ((cell_far (p := ⟨gb153, _, none⟩) NB155_153.out _).trans (((cell_far (p := ⟨gb153, _, none⟩) NB155_153.out _).trans (((cell_far (p := ⟨gb153, _, none⟩) NB155_153.out _).trans (((cell_far (p := ⟨gb153, _, none⟩) NB155_153.out _).trans (((cell_far (p := ⟨gb153, _, none⟩) NB155_153.out _).trans (((cell_far (p := ⟨gb153, _, none⟩) NB155_153.out _).trans (((cell_far (p := ⟨gb153, _, none⟩) NB155_153.out _).trans (((cell_far (p := ⟨gb153, _, none⟩) NB155_153.out _).trans (((cell_far (p := ⟨gb153, _, none⟩) NB155_153.out _).trans (((cell_far (p := ⟨gb153, _, none⟩) NB155_153.out _).trans (hHeld.2.2.2.2.2.2.2.2.2))))))))))))))))))))⟩ (fun hHeld => ?_)
    clear hK K
    refine pure_ (i := 14) (N := some 5) (v := ?_) (a' := ?_) #[true, true, true, true, true, true, true, true, true, true, true, true, true, true, true] rfl rfl (any_of HT_.out (by kernel_rfl)) (fun _ _ _ h => h) (Or.inl ⟨by rfl, ?_⟩) ?_ ?_
    rotate_left
    ·intro w'
     go_simp
     with_reducible rfl
    rotate_left
    ·simp only [Act.put, List.setIfInBounds_toArray, List.set_cons_zero, List.set_cons_succ, i64_w, i32_w]
     rfl
    refine done_ (done_of HT_.out (by kernel_rfl)) ?_
    try go_wp2
    refine bodyPost_ret (results_ct rfl _ _ gb153 45 #[.int .i64 2, .int .i64 0, .string (⟨#[]⟩ : ByteArray), .string (⟨#[]⟩ : ByteArray), .string (⟨#[]⟩ : ByteArray), .string t154, .string (⟨#[]⟩ : ByteArray), .string t164, .string t165, .slice none 0 0] (0, 0) _ rfl (zP10 BK153.out) Tryd.underlying45 rfl (by kernel_rfl)) rfl ?_
    exact ⟨_, zE, by first | exact Kd.R_nil _ _ _ _ _ | exact Kd.N_nil _ _ _ _ _ | exact Kd.V_nil _ _ _ _ _ | exact Kd.Q_nil _ _ _ _ _ | exact Kd.S_nil _ _ _ _ _, zL HB.out⟩

end Go.Proofs.YthnholondnfjoaaDoor.PParse
