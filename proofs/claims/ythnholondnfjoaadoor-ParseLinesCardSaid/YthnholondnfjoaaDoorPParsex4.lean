-- Written by a program of this session (wip/tools/ext.py, over the kit's printer); not trusted: Lean checks it.
import Derived.Test.YthnholondnfjoaaDoorPParsex0
import Derived.Test.YthnholondnfjoaaDoorPParsex2
import Derived.Test.YthnholondnfjoaaDoorPParsex3
namespace Go.Proofs.YthnholondnfjoaaDoor.PParse
open Go.RowKit Go.Proofs.YthnholondnfjoaaDoorW.PrintWords Go.Proofs.YthnholondnfjoaaDoorW.PrintLast Go.Proofs.YthnholondnfjoaaDoorW.PrintMore
attribute [local go_sem] max2_int min2_int max_two min_two max_three min_three max_four min_four   -- for this text's walks alone
set_option linter.unusedVariables false
set_option linter.unusedSimpArgs false

/-! ### parse_conditional: function 44 -/
def parse_conditional.j0 : Nat → ByteArray → Bool → Int → Int → ByteArray → ByteArray → ByteArray → ByteArray → ByteArray → ByteArray → ByteArray → Option (Int × Int × ByteArray × ByteArray × ByteArray × ByteArray × ByteArray × ByteArray × ByteArray × List ByteArray × Bool)
 | 0, _, _, _, _, _, _, _, _, _, _, _ => none
 | k + 1, x1, x20, x142000, x142001, x142002, x142003, x142004, x142005, x142006, x142007, x142008 => if x20 = true then ((parse_Name.f k x1).bind fun t142 => (some (x142000, x142001, x142002, x1, x142004, x142005, x142006, x142007, x142008, ([] : List ByteArray), t142))) else ((strings_CutPrefix.f x1 (⟨#[40]⟩ : ByteArray)).bind fun bt143 => ((strings_CutSuffix.f bt143.1 (⟨#[41]⟩ : ByteArray)).bind fun bt145 => ((parse_sides.f k bt145.1 (⟨#[44]⟩ : ByteArray)).bind fun bt147 => (if bt143.2 = true then (if bt145.2 = true then (some (x142000, x142001, x142002, bt147.1, bt147.2.1, x142005, x142006, x142007, x142008, ([] : List ByteArray), bt147.2.2)) else (some (x142000, x142001, x142002, bt147.1, bt147.2.1, x142005, x142006, x142007, x142008, ([] : List ByteArray), false))) else (some (x142000, x142001, x142002, bt147.1, bt147.2.1, x142005, x142006, x142007, x142008, ([] : List ByteArray), false))))))
def parse_conditional.f (k : Nat) (a0 : ByteArray) (a1 : ByteArray) : Option (Int × Int × ByteArray × ByteArray × ByteArray × ByteArray × ByteArray × ByteArray × ByteArray × List ByteArray × Bool) := if a0.toList = ([105, 102, 100, 101, 102] : List UInt8) then (parse_conditional.j0 k a1 true 3 0 a0 (⟨#[]⟩ : ByteArray) (⟨#[]⟩ : ByteArray) (⟨#[]⟩ : ByteArray) (⟨#[]⟩ : ByteArray) (⟨#[]⟩ : ByteArray) (⟨#[]⟩ : ByteArray)) else (parse_conditional.j0 k a1 (a0.toList == ([105, 102, 110, 100, 101, 102] : List UInt8)) 3 0 a0 (⟨#[]⟩ : ByteArray) (⟨#[]⟩ : ByteArray) (⟨#[]⟩ : ByteArray) (⟨#[]⟩ : ByteArray) (⟨#[]⟩ : ByteArray) (⟨#[]⟩ : ByteArray))
theorem parse_conditional.mono_l : ∀ k, (∀ y0 y1 y2 y3 y4 y5 y6 y7 y8 y9 y10, LeO (parse_conditional.j0 k y0 y1 y2 y3 y4 y5 y6 y7 y8 y9 y10) (parse_conditional.j0 (k + 1) y0 y1 y2 y3 y4 y5 y6 y7 y8 y9 y10))
 | 0 => fun _ _ _ _ _ _ _ _ _ _ _ r h => by simp [parse_conditional.j0] at h
 | k + 1 => by
  have ih0 := parse_conditional.mono_l k
  ·intro y0 y1 y2 y3 y4 y5 y6 y7 y8 y9 y10
   unfold parse_conditional.j0
   repeat' first
   | (with_reducible exact ih0 _ _ _ _ _ _ _ _ _ _ _)
   | (with_reducible exact parse_Name.mono _ _)
   | (with_reducible exact parse_sides.mono _ _ _)
   | (with_reducible exact LeO.refl _)
   | (with_reducible exact LeO.none _)
   | (with_reducible refine LeO.ite ?_ ?_)
   | (with_reducible refine LeO.bind ?_ (fun _ => ?_))
   | exact ih0 _ _ _ _ _ _ _ _ _ _ _
   | exact parse_Name.mono _ _
   | exact parse_sides.mono _ _ _
   | exact LeO.none _
   | refine LeO.ite ?_ ?_
   | refine LeO.bind ?_ (fun _ => ?_)
theorem parse_conditional.mono : ∀ a0 a1 k, LeO (parse_conditional.f k a0 a1) (parse_conditional.f (k + 1) a0 a1) := by
 intro a0 a1 k
 have ih0 := parse_conditional.mono_l k
 unfold parse_conditional.f
 repeat' first
   | (with_reducible exact ih0 _ _ _ _ _ _ _ _ _ _ _)
   | (with_reducible exact parse_Name.mono _ _)
   | (with_reducible exact parse_sides.mono _ _ _)
   | (with_reducible exact LeO.refl _)
   | (with_reducible exact LeO.none _)
   | (with_reducible refine LeO.ite ?_ ?_)
   | (with_reducible refine LeO.bind ?_ (fun _ => ?_))
   | exact ih0 _ _ _ _ _ _ _ _ _ _ _
   | exact parse_Name.mono _ _
   | exact parse_sides.mono _ _ _
   | exact LeO.none _
   | refine LeO.ite ?_ ?_
   | refine LeO.bind ?_ (fun _ => ?_)
set_option maxHeartbeats 8000000 in
set_option maxRecDepth 100000 in
theorem parse_conditional.calls (k : Nat) (a0 : ByteArray) (a1 : ByteArray) (r1 : Int) (r2 : Int) (r3 : ByteArray) (r4 : ByteArray) (r5 : ByteArray) (r6 : ByteArray) (r7 : ByteArray) (r8 : ByteArray) (r9 : ByteArray) (r10 : List ByteArray) (r11 : Bool) (w : World) (h : parse_conditional.f k a0 a1 = some (r1, r2, r3, r4, r5, r6, r7, r8, r9, r10, r11)) :
  Calls Tryd.prog 44 #[.string a0, .string a1] w fun e w' => ∃ v9_ : Value, e = .returned (.tuple #[.agg #[.int .i64 r1, .int .i64 r2, .string r3, .string r4, .string r5, .string r6, .string r7, .string r8, .string r9, v9_], .bool r11]) ∧ Kd.R Kd.string 9 w' w.heap.size (fun _ => True) v9_ r10 ∧ Below w.heap.size w w' := by
 have hu45 := Tryd.underlying45
 have HB := Aside0.mk (Below.refl w.heap.size w)
 have H : (if a0.toList = ([105, 102, 100, 101, 102] : List UInt8) then (parse_conditional.j0 k a1 true 3 0 a0 (⟨#[]⟩ : ByteArray) (⟨#[]⟩ : ByteArray) (⟨#[]⟩ : ByteArray) (⟨#[]⟩ : ByteArray) (⟨#[]⟩ : ByteArray) (⟨#[]⟩ : ByteArray)) else (parse_conditional.j0 k a1 (a0.toList == ([105, 102, 110, 100, 101, 102] : List UInt8)) 3 0 a0 (⟨#[]⟩ : ByteArray) (⟨#[]⟩ : ByteArray) (⟨#[]⟩ : ByteArray) (⟨#[]⟩ : ByteArray) (⟨#[]⟩ : ByteArray) (⟨#[]⟩ : ByteArray))) = some (r1, r2, r3, r4, r5, r6, r7, r8, r9, r10, r11) := h
 clear h
 have HC3 := Aside0.mk H
 clear H
 go_enter Tryd.func44, Tryd.ntmps44
 go_upto_region 2 with (first | ((with_reducible refine gate_dst (N := 4) rfl ?_); refine box_event ?hg (N := 4) ?hd (cs := #[.int .i64 0, .int .i64 0, .string ⟨#[]⟩, .string ⟨#[]⟩, .string ⟨#[]⟩, .string ⟨#[]⟩, .string ⟨#[]⟩, .string ⟨#[]⟩, .string ⟨#[]⟩, .slice none 0 0]) (t := 45) ?hr ?_; (case hd => rfl); (case hg => rfl); (case hr => (go_simp; try rfl)); intro gb140 hg w4 hbox hb; have BK140 := Aside0.mk (hbox); have GW140 := Aside0.mk (zG hg (zL HB.out)); have GE140 := Aside0.mk (zG hg (zL HB.out)); replace HB := Aside0.mk (below_step (zL HB.out) hb); clear hb hbox hg) | ((with_reducible refine gate_dst (N := 6) rfl ?_); refine box_event ?hg (N := 6) ?hd (cs := #[.int .i64 0, .int .i64 0, .string ⟨#[]⟩, .string ⟨#[]⟩, .string ⟨#[]⟩, .string ⟨#[]⟩, .string ⟨#[]⟩, .string ⟨#[]⟩, .string ⟨#[]⟩, .slice none 0 0]) (t := 45) ?hr ?_; (case hd => rfl); (case hg => rfl); (case hr => (go_simp; try rfl)); intro gb141 hg w5 hbox hb; have BK141 := Aside0.mk (hbox); have GW141 := Aside0.mk (zG hg (zL HB.out)); have GE141 := Aside0.mk (zG hg (zL HB.out)); replace HB := Aside0.mk (below_step (zL HB.out) hb); have NB140_141 := Aside0.mk (zNK hg BK140.out); have NB141_140 := Aside0.mk (zOK hg BK140.out); replace BK140 := Aside0.mk (zB BK140.out hb); clear hb hbox hg; have hnb6 := NB141_140.out; have hnc6 := NB140_141.out; obtain ⟨hcz7_0, hcz7_1, hcz7_2, hcz7_3, hcz7_4, hcz7_5, hcz7_6, hcz7_7, hcz7_8, hcz7_9, hfz7_0, hfz7_1, hfz7_2, hfz7_3, hfz7_4, hfz7_5, hfz7_6, hfz7_7, hfz7_8, hfz7_9⟩ := zC10 BK141.out))
 (try simp only [Act.put, List.setIfInBounds_toArray, List.set_cons_zero, List.set_cons_succ])
 go_cut [20] (fun v20 wc => ∃ (kq : Nat) (x20_2 : Bool), v20 = .bool x20_2 ∧ Aside0 (parse_conditional.j0 kq a1 x20_2 3 0 a0 (⟨#[]⟩ : ByteArray) (⟨#[]⟩ : ByteArray) (⟨#[]⟩ : ByteArray) (⟨#[]⟩ : ByteArray) (⟨#[]⟩ : ByteArray) (⟨#[]⟩ : ByteArray) = some (r1, r2, r3, r4, r5, r6, r7, r8, r9, r10, r11)) ∧ Aside0 (kq ≤ k) ∧ Aside0 (wc.heap[gb140]? = some (.cells #[.int .i64 0, .int .i64 0, .string ⟨#[]⟩, .string ⟨#[]⟩, .string ⟨#[]⟩, .string ⟨#[]⟩, .string ⟨#[]⟩, .string ⟨#[]⟩, .string ⟨#[]⟩, (.slice none 0 0)] 45 (0, 0))) ∧ Aside0 (wc.heap[gb141]? = some (.cells #[.int .i64 3, .int .i64 0, .string a0, .string ⟨#[]⟩, .string ⟨#[]⟩, .string ⟨#[]⟩, .string ⟨#[]⟩, .string ⟨#[]⟩, .string ⟨#[]⟩, (.slice none 0 0)] 45 (0, 0))) ∧ Aside0 (Below w.heap.size w wc))
 case first =>
  have H := HC3.out
  clear HC3
  by_cases c8 : a0.toList = ([105, 102, 100, 101, 102] : List UInt8)
  ·rw [if_pos c8] at H
   have c8b0 := beq_iff_eq.mpr c8
   have c8b1 := bne_eq_false_iff_eq.mpr c8
   clear c8
   (first | rw [c8b0] | (simp only [i64_w, i32_w]; rw [c8b0]) | rw [isE_ c8b0] | skip)
   have H' := Aside0.mk H
   clear H
   go_wp2
   go_meet
   case rel => exact ⟨_, (true), zS, H', ⟨by first | omega | exact Nat.le_refl _⟩, ⟨zK BK140.out⟩, ⟨zP10 BK141.out⟩, ⟨zL HB.out⟩⟩
  rw [if_neg c8] at H
  have c8b0 := beq_eq_false_iff_ne.mpr c8
  have c8b1 := bne_iff_ne.mpr c8
  (first | rw [c8b0] | (simp only [i64_w, i32_w]; rw [c8b0]) | rw [isE_ c8b0] | skip)
  have H' := Aside0.mk H
  clear H
  go_wp2
  go_meet
  case rel => exact ⟨_, ((a0.toList == ([105, 102, 110, 100, 101, 102] : List UInt8))), zS, H', ⟨by first | omega | exact Nat.le_refl _⟩, ⟨zK BK140.out⟩, ⟨zP10 BK141.out⟩, ⟨zL HB.out⟩⟩
 case rest =>
  clear HC3
  try clear hcz7_0 hcz7_1 hcz7_2 hcz7_3 hcz7_4 hcz7_5 hcz7_6 hcz7_7 hcz7_8 hcz7_9
  try clear hfz7_0 hfz7_1 hfz7_2 hfz7_3 hfz7_4 hfz7_5 hfz7_6 hfz7_7 hfz7_8 hfz7_9
  obtain ⟨kq, x20_2, rfl, HA, HJ2, BK140, BK141, HB⟩ := hcut
  cases kq with
  | zero => exact absurd HA.out (by simp [parse_conditional.j0])
  | succ kj2 =>
   have H := HA.out
   clear HA
   simp only [parse_conditional.j0] at H
   by_cases c9 : x20_2 = true
   ·subst c9
    rw [if_pos rfl] at H
    replace H := Option.bind_eq_some_iff.mp H
    obtain ⟨t142, A100, H⟩ := H
    try dsimp only at H
    have A10 := Aside0.mk A100
    clear A100
    simp only [Option.some.injEq, Prod.mk.injEq] at H
    obtain ⟨rfl, rfl, rfl, rfl, rfl, rfl, rfl, rfl, rfl, rfl, rfl⟩ := H
    have hnb11 := NB141_140.out
    have hnc11 := NB140_141.out
    obtain ⟨hcz12_0, hcz12_1, hcz12_2, hcz12_3, hcz12_4, hcz12_5, hcz12_6, hcz12_7, hcz12_8, hcz12_9, hfz12_0, hfz12_1, hfz12_2, hfz12_3, hfz12_4, hfz12_5, hfz12_6, hfz12_7, hfz12_8, hfz12_9⟩ := zC10 BK141.out
    try go_wp2
    have n0_ : Aside0 ((wc.setCell ⟨gb141, 3, none⟩ (.string a1)).heap[gb140]? = some (.cells #[.int .i64 0, .int .i64 0, .string ⟨#[]⟩, .string ⟨#[]⟩, .string ⟨#[]⟩, .string ⟨#[]⟩, .string ⟨#[]⟩, .string ⟨#[]⟩, .string ⟨#[]⟩, .slice none 0 0] 45 (0, 0))) := ⟨zK BK140.out⟩
    have n1_ : Aside0 ((wc.setCell ⟨gb141, 3, none⟩ (.string a1)).heap[gb141]? = some (.cells #[.int .i64 3, .int .i64 0, .string a0, .string a1, .string ⟨#[]⟩, .string ⟨#[]⟩, .string ⟨#[]⟩, .string ⟨#[]⟩, .string ⟨#[]⟩, .slice none 0 0] 45 (0, 0))) := ⟨by (with_reducible repeat (first | refine blk_drewN ?_ _ | refine blk_drew ?_ | refine blk_alloc ?_ _)); refine blk_put (cs := #[.int .i64 3, .int .i64 0, .string a0, .string ⟨#[]⟩, .string ⟨#[]⟩, .string ⟨#[]⟩, .string ⟨#[]⟩, .string ⟨#[]⟩, .string ⟨#[]⟩, .slice none 0 0]) ?_ 3 _ rfl; (with_reducible repeat (first | refine blk_drewN ?_ _ | refine blk_drew ?_ | refine blk_alloc ?_ _)); exact BK141.out⟩
    have n2_ : Aside0 (Below w.heap.size w (wc.setCell ⟨gb141, 3, none⟩ (.string a1))) := ⟨zL HB.out⟩
    (try clear BK140)
    (try clear BK141)
    (try clear HB)
    generalize (wc.setCell ⟨gb141, 3, none⟩ (.string a1)) = w13 at n0_ n1_ n2_ ⊢
    have BK140 := n0_
    have BK141 := n1_
    have HB := n2_
    clear n0_ n1_ n2_
    have n0_ := Aside0.mk (blk_drew BK140.out)
    have n1_ := Aside0.mk (blk_drew BK141.out)
    have n2_ := Aside0.mk (below_drew1 HB.out)
    clear BK140
    clear BK141
    clear HB
    have BK140 := n0_
    have BK141 := n1_
    have HB := n2_
    clear n0_ n1_ n2_
    refine start_ (n := 5) (S := fun w' => w'.cell? ⟨gb141, 0, none⟩ = some (.int .i64 3) ∧ w'.cell? ⟨gb141, 1, none⟩ = some (.int .i64 0) ∧ w'.cell? ⟨gb141, 2, none⟩ = some (.string a0) ∧ w'.cell? ⟨gb141, 3, none⟩ = some (.string a1) ∧ w'.cell? ⟨gb141, 4, none⟩ = some (.string ⟨#[]⟩) ∧ w'.cell? ⟨gb141, 5, none⟩ = some (.string ⟨#[]⟩) ∧ w'.cell? ⟨gb141, 6, none⟩ = some (.string ⟨#[]⟩) ∧ w'.cell? ⟨gb141, 7, none⟩ = some (.string ⟨#[]⟩) ∧ w'.cell? ⟨gb141, 8, none⟩ = some (.string ⟨#[]⟩) ∧ w'.cell? ⟨gb141, 9, none⟩ = some (.slice none 0 0)) (ds := []) #[false, false, false, false, false] (by kernel_rfl) rfl rfl ⟨(blk_cell BK141.out 0).trans rfl, (blk_cell BK141.out 1).trans rfl, (blk_cell BK141.out 2).trans rfl, (blk_cell BK141.out 3).trans rfl, (blk_cell BK141.out 4).trans rfl, (blk_cell BK141.out 5).trans rfl, (blk_cell BK141.out 6).trans rfl, (blk_cell BK141.out 7).trans rfl, (blk_cell BK141.out 8).trans rfl, (blk_cell BK141.out 9).trans rfl⟩ (fun hHeld => ?_)
    generalize w13.drew = w14 at BK140 BK141 HB hHeld ⊢
    refine pure_ (i := 1) (N := some 24) (v := ?_) (a' := ?_) #[false, true, false, false, false] rfl rfl (by kernel_rfl) (fun _ _ _ h => h) (Or.inl ⟨by rfl, ?_⟩) ?_ ?_
    rotate_left
    ·intro w'
     go_simp
     with_reducible rfl
    rotate_left
    ·simp only [Act.put, List.setIfInBounds_toArray, List.set_cons_zero, List.set_cons_succ, i64_w, i32_w]
     rfl
    refine take_ (i := 0) (N := some 23) (v := ?_) (a' := ?_) #[true, true, false, false, false] rfl rfl (by kernel_rfl) (fun _ _ _ h => h) (Or.inl ⟨by rfl, ?_⟩) hHeld ?_ ?_
    rotate_left
    ·rintro w' ⟨s0, s1, s2, s3, s4, s5, s6, s7, s8, s9⟩
     go_simp
     with_reducible rfl
    rotate_left
    ·simp only [Act.put, List.setIfInBounds_toArray, List.set_cons_zero, List.set_cons_succ, i64_w, i32_w]
     rfl
    refine one_ (i := 2) (N := some 25) #[true, true, true, false, false] rfl rfl (by kernel_rfl) (by decide) (fun K hK => ?_)
    refine goes_ Tryd.func15 (by kernel_rfl) rfl #[.string a1] (by rfl) rfl rfl zA ?_
    with_reducible refine (parse_Name.calls kj2 a1 t142 _ A10.out).mono ?_
    rintro e w15 ⟨rfl, hb⟩
    refine ⟨_, rfl, ?_⟩
    have n0_ := Aside0.mk (zB BK140.out hb)
    have n1_ := Aside0.mk (zB BK141.out hb)
    have n2_ := Aside0.mk (below_step (zL HB.out) hb)
    clear BK140
    clear BK141
    clear HB
    have BK140 := n0_
    have BK141 := n1_
    have HB := n2_
    clear n0_ n1_ n2_
    (try clear hb)
    (try clear hb2)
    (try clear hk)
    (try clear hi)
    refine hK.out _ _ ⟨(blk_cell BK141.out 0).trans rfl, (blk_cell BK141.out 1).trans rfl, (blk_cell BK141.out 2).trans rfl, (blk_cell BK141.out 3).trans rfl, (blk_cell BK141.out 4).trans rfl, (blk_cell BK141.out 5).trans rfl, (blk_cell BK141.out 6).trans rfl, (blk_cell BK141.out 7).trans rfl, (blk_cell BK141.out 8).trans rfl, (blk_cell BK141.out 9).trans rfl⟩ (fun hHeld => ?_)
    clear hK K
    refine norm_ (a' := ?_) ?_ ?_
    rotate_left
    ·show Act.put _ (some 25) _ = _
     simp only [Act.put, List.setIfInBounds_toArray, List.set_cons_zero, List.set_cons_succ, i64_w, i32_w]
     rfl
    refine one_ (i := 3) (N := none) #[true, true, true, true, false] rfl rfl (by kernel_rfl) (by decide) (fun K hK => ?_)
    have hs16 : w15.cell? ⟨gb140, 0, none⟩ = some (.int .i64 0) := (blk_cell BK140.out 0).trans rfl
    have hfs16 := blk_frozen BK140.out 0
    have hns16_1 := NB141_140.out
    have hms16_1 := NB140_141.out
    have hs17 : w15.cell? ⟨gb140, 1, none⟩ = some (.int .i64 0) := (blk_cell BK140.out 1).trans rfl
    have hfs17 := blk_frozen BK140.out 1
    have hns17_1 := NB141_140.out
    have hms17_1 := NB140_141.out
    have hs18 : w15.cell? ⟨gb140, 2, none⟩ = some (.string ⟨#[]⟩) := (blk_cell BK140.out 2).trans rfl
    have hfs18 := blk_frozen BK140.out 2
    have hns18_1 := NB141_140.out
    have hms18_1 := NB140_141.out
    have hs19 : w15.cell? ⟨gb140, 3, none⟩ = some (.string ⟨#[]⟩) := (blk_cell BK140.out 3).trans rfl
    have hfs19 := blk_frozen BK140.out 3
    have hns19_1 := NB141_140.out
    have hms19_1 := NB140_141.out
    have hs20 : w15.cell? ⟨gb140, 4, none⟩ = some (.string ⟨#[]⟩) := (blk_cell BK140.out 4).trans rfl
    have hfs20 := blk_frozen BK140.out 4
    have hns20_1 := NB141_140.out
    have hms20_1 := NB140_141.out
    have hs21 : w15.cell? ⟨gb140, 5, none⟩ = some (.string ⟨#[]⟩) := (blk_cell BK140.out 5).trans rfl
    have hfs21 := blk_frozen BK140.out 5
    have hns21_1 := NB141_140.out
    have hms21_1 := NB140_141.out
    have hs22 : w15.cell? ⟨gb140, 6, none⟩ = some (.string ⟨#[]⟩) := (blk_cell BK140.out 6).trans rfl
    have hfs22 := blk_frozen BK140.out 6
    have hns22_1 := NB141_140.out
    have hms22_1 := NB140_141.out
    have hs23 : w15.cell? ⟨gb140, 7, none⟩ = some (.string ⟨#[]⟩) := (blk_cell BK140.out 7).trans rfl
    have hfs23 := blk_frozen BK140.out 7
    have hns23_1 := NB141_140.out
    have hms23_1 := NB140_141.out
    have hs24 : w15.cell? ⟨gb140, 8, none⟩ = some (.string ⟨#[]⟩) := (blk_cell BK140.out 8).trans rfl
    have hfs24 := blk_frozen BK140.out 8
    have hns24_1 := NB141_140.out
    have hms24_1 := NB140_141.out
    have hs25 : w15.cell? ⟨gb140, 9, none⟩ = some (.slice none 0 0) := (blk_cell BK140.out 9).trans rfl
    have hfs25 := blk_frozen BK140.out 9
    have hns25_1 := NB141_140.out
    have hms25_1 := NB140_141.out
    refine skip_ (w1 := ?_) (by rfl) rfl ?_ ?_
    rotate_left
    ·go_simp
     rfl
    refine hK.out _ _ ⟨(zW NB141_140.out hHeld.1), (zW NB141_140.out hHeld.2.1), (zW NB141_140.out hHeld.2.2.1), (zW NB141_140.out hHeld.2.2.2.1), (zW NB141_140.out hHeld.2.2.2.2.1), (zW NB141_140.out hHeld.2.2.2.2.2.1), (zW NB141_140.out hHeld.2.2.2.2.2.2.1), (zW NB141_140.out hHeld.2.2.2.2.2.2.2.1), (zW NB141_140.out hHeld.2.2.2.2.2.2.2.2.1), (zW NB141_140.out hHeld.2.2.2.2.2.2.2.2.2)⟩ (fun hHeld => ?_)
    clear hK K
    refine pure_ (i := 4) (N := some 5) (v := ?_) (a' := ?_) #[true, true, true, true, true] rfl rfl (by kernel_rfl) (fun _ _ _ h => h) (Or.inl ⟨by rfl, ?_⟩) ?_ ?_
    rotate_left
    ·intro w'
     go_simp
     with_reducible rfl
    rotate_left
    ·simp only [Act.put, List.setIfInBounds_toArray, List.set_cons_zero, List.set_cons_succ, i64_w, i32_w]
     rfl
    refine done_ (by kernel_rfl) ?_
    try go_wp2
    refine bodyPost_ret (results_ct rfl _ _ gb140 45 #[.int .i64 3, .int .i64 0, .string a0, .string a1, .string ⟨#[]⟩, .string ⟨#[]⟩, .string ⟨#[]⟩, .string ⟨#[]⟩, .string ⟨#[]⟩, .slice none 0 0] (0, 0) _ rfl (zP10 BK140.out) Tryd.underlying45 rfl (by kernel_rfl)) rfl ?_
    exact ⟨_, zE, by first | exact Kd.R_nil _ _ _ _ _ | exact Kd.N_nil _ _ _ _ _ | exact Kd.V_nil _ _ _ _ _ | exact Kd.Q_nil _ _ _ _ _ | exact Kd.S_nil _ _ _ _ _, zL HB.out⟩
   replace c9 := Bool.eq_false_iff.mpr c9
   subst c9
   rw [if_neg (show ¬ (false = true) by decide)] at H
   replace H := Option.bind_eq_some_iff.mp H
   obtain ⟨⟨t143, t144⟩, A260, H⟩ := H
   try dsimp only at H
   have A26 := Aside0.mk A260
   clear A260
   replace H := Option.bind_eq_some_iff.mp H
   obtain ⟨⟨t145, t146⟩, A270, H⟩ := H
   try dsimp only at H
   have A27 := Aside0.mk A270
   clear A270
   replace H := Option.bind_eq_some_iff.mp H
   obtain ⟨⟨t147, t148, t149⟩, A280, H⟩ := H
   try dsimp only at H
   have A28 := Aside0.mk A280
   clear A280
   by_cases c29 : t144 = true
   ·subst c29
    rw [if_pos rfl] at H
    by_cases c30 : t146 = true
    ·subst c30
     rw [if_pos rfl] at H
     simp only [Option.some.injEq, Prod.mk.injEq] at H
     obtain ⟨rfl, rfl, rfl, rfl, rfl, rfl, rfl, rfl, rfl, rfl, rfl⟩ := H
     go_wp2_with (first | ((with_reducible refine gate_callee (f := 65) rfl ?_); refine goesL_ (some 28) rfl rfl Tryd.func65 (by kernel_rfl) rfl #[.string a1, .string ⟨#[40]⟩] rfl zA ?_; (with_reducible refine (strings_CutPrefix.calls a1 (⟨#[40]⟩ : ByteArray) t143 true _ A26.out).mono ?_); rintro e w' ⟨rfl, ⟨nd, rfl⟩⟩; refine ⟨_, rfl, ?_⟩; (try (rw [drewN_self wc]; generalize hq_ : World.drewN wc _ = wc; have n0_ : Aside0 (wc.heap[gb140]? = some (.cells #[.int .i64 0, .int .i64 0, .string ⟨#[]⟩, .string ⟨#[]⟩, .string ⟨#[]⟩, .string ⟨#[]⟩, .string ⟨#[]⟩, .string ⟨#[]⟩, .string ⟨#[]⟩, .slice none 0 0] 45 (0, 0))) := ⟨by rw [← hq_]; exact (zK BK140.out)⟩; have n1_ : Aside0 (wc.heap[gb141]? = some (.cells #[.int .i64 3, .int .i64 0, .string a0, .string ⟨#[]⟩, .string ⟨#[]⟩, .string ⟨#[]⟩, .string ⟨#[]⟩, .string ⟨#[]⟩, .string ⟨#[]⟩, .slice none 0 0] 45 (0, 0))) := ⟨by rw [← hq_]; exact (zK BK141.out)⟩; have n2_ : Aside0 (Below w.heap.size w wc) := ⟨by rw [← hq_]; exact (zL HB.out)⟩; clear BK140 BK141 HB hq_; have BK140 := n0_; have BK141 := n1_; have HB := n2_; clear n0_ n1_ n2_; (try (obtain ⟨hcz12_0, hcz12_1, hcz12_2, hcz12_3, hcz12_4, hcz12_5, hcz12_6, hcz12_7, hcz12_8, hcz12_9, hfz12_0, hfz12_1, hfz12_2, hfz12_3, hfz12_4, hfz12_5, hfz12_6, hfz12_7, hfz12_8, hfz12_9⟩ := zC10 BK141.out))))) | ((with_reducible refine gate_callee (f := 66) rfl ?_); refine goesL_ (some 33) rfl rfl Tryd.func66 (by kernel_rfl) rfl #[.string t143, .string ⟨#[41]⟩] rfl zA ?_; (with_reducible refine (strings_CutSuffix.calls t143 (⟨#[41]⟩ : ByteArray) t145 true _ A27.out).mono ?_); rintro e w' ⟨rfl, ⟨nd, rfl⟩⟩; refine ⟨_, rfl, ?_⟩; (try (rw [drewN_self wc]; generalize hq_ : World.drewN wc _ = wc; have n0_ : Aside0 (wc.heap[gb140]? = some (.cells #[.int .i64 0, .int .i64 0, .string ⟨#[]⟩, .string ⟨#[]⟩, .string ⟨#[]⟩, .string ⟨#[]⟩, .string ⟨#[]⟩, .string ⟨#[]⟩, .string ⟨#[]⟩, .slice none 0 0] 45 (0, 0))) := ⟨by rw [← hq_]; exact (zK BK140.out)⟩; have n1_ : Aside0 (wc.heap[gb141]? = some (.cells #[.int .i64 3, .int .i64 0, .string a0, .string ⟨#[]⟩, .string ⟨#[]⟩, .string ⟨#[]⟩, .string ⟨#[]⟩, .string ⟨#[]⟩, .string ⟨#[]⟩, .slice none 0 0] 45 (0, 0))) := ⟨by rw [← hq_]; exact (zK BK141.out)⟩; have n2_ : Aside0 (Below w.heap.size w wc) := ⟨by rw [← hq_]; exact (zL HB.out)⟩; clear BK140 BK141 HB hq_; have BK140 := n0_; have BK141 := n1_; have HB := n2_; clear n0_ n1_ n2_; (try (obtain ⟨hcz12_0, hcz12_1, hcz12_2, hcz12_3, hcz12_4, hcz12_5, hcz12_6, hcz12_7, hcz12_8, hcz12_9, hfz12_0, hfz12_1, hfz12_2, hfz12_3, hfz12_4, hfz12_5, hfz12_6, hfz12_7, hfz12_8, hfz12_9⟩ := zC10 BK141.out))))) | ((with_reducible refine gate_callee (f := 67) rfl ?_); refine goesL_ (some 38) rfl rfl Tryd.func67 (by kernel_rfl) rfl #[.string t145, .string ⟨#[44]⟩] rfl zA ?_; (with_reducible refine (parse_sides.calls kj2 t145 (⟨#[44]⟩ : ByteArray) t147 t148 t149 _ A28.out).mono ?_); rintro e w31 ⟨rfl, hb⟩; refine ⟨_, rfl, ?_⟩; replace BK140 := Aside0.mk (zB BK140.out hb); replace BK141 := Aside0.mk (zB BK141.out hb); replace HB := Aside0.mk (below_step (zL HB.out) hb); (try clear hb); (try clear hb2); (try clear hk); (try clear hi); have hnb32 := NB141_140.out; have hnc32 := NB140_141.out; obtain ⟨hcz33_0, hcz33_1, hcz33_2, hcz33_3, hcz33_4, hcz33_5, hcz33_6, hcz33_7, hcz33_8, hcz33_9, hfz33_0, hfz33_1, hfz33_2, hfz33_3, hfz33_4, hfz33_5, hfz33_6, hfz33_7, hfz33_8, hfz33_9⟩ := zC10 BK141.out; obtain ⟨hcz34_0, hcz34_1, hcz34_2, hcz34_3, hcz34_4, hcz34_5, hcz34_6, hcz34_7, hcz34_8, hcz34_9, hfz34_0, hfz34_1, hfz34_2, hfz34_3, hfz34_4, hfz34_5, hfz34_6, hfz34_7, hfz34_8, hfz34_9⟩ := zC10 BK140.out))
     refine bodyPost_ret (results_ct rfl _ _ gb140 45 #[.int .i64 3, .int .i64 0, .string a0, .string t147, .string t148, .string ⟨#[]⟩, .string ⟨#[]⟩, .string ⟨#[]⟩, .string ⟨#[]⟩, .slice none 0 0] (0, 0) _ rfl (zP10 BK140.out) Tryd.underlying45 rfl (by kernel_rfl)) rfl ?_
     exact ⟨_, zE, by first | exact Kd.R_nil _ _ _ _ _ | exact Kd.N_nil _ _ _ _ _ | exact Kd.V_nil _ _ _ _ _ | exact Kd.Q_nil _ _ _ _ _ | exact Kd.S_nil _ _ _ _ _, zL HB.out⟩
    replace c30 := Bool.eq_false_iff.mpr c30
    subst c30
    rw [if_neg (show ¬ (false = true) by decide)] at H
    simp only [Option.some.injEq, Prod.mk.injEq] at H
    obtain ⟨rfl, rfl, rfl, rfl, rfl, rfl, rfl, rfl, rfl, rfl, rfl⟩ := H
    go_wp2_with (first | ((with_reducible refine gate_callee (f := 65) rfl ?_); refine goesL_ (some 28) rfl rfl Tryd.func65 (by kernel_rfl) rfl #[.string a1, .string ⟨#[40]⟩] rfl zA ?_; (with_reducible refine (strings_CutPrefix.calls a1 (⟨#[40]⟩ : ByteArray) t143 true _ A26.out).mono ?_); rintro e w' ⟨rfl, ⟨nd, rfl⟩⟩; refine ⟨_, rfl, ?_⟩; (try (rw [drewN_self wc]; generalize hq_ : World.drewN wc _ = wc; have n0_ : Aside0 (wc.heap[gb140]? = some (.cells #[.int .i64 0, .int .i64 0, .string ⟨#[]⟩, .string ⟨#[]⟩, .string ⟨#[]⟩, .string ⟨#[]⟩, .string ⟨#[]⟩, .string ⟨#[]⟩, .string ⟨#[]⟩, .slice none 0 0] 45 (0, 0))) := ⟨by rw [← hq_]; exact (zK BK140.out)⟩; have n1_ : Aside0 (wc.heap[gb141]? = some (.cells #[.int .i64 3, .int .i64 0, .string a0, .string ⟨#[]⟩, .string ⟨#[]⟩, .string ⟨#[]⟩, .string ⟨#[]⟩, .string ⟨#[]⟩, .string ⟨#[]⟩, .slice none 0 0] 45 (0, 0))) := ⟨by rw [← hq_]; exact (zK BK141.out)⟩; have n2_ : Aside0 (Below w.heap.size w wc) := ⟨by rw [← hq_]; exact (zL HB.out)⟩; clear BK140 BK141 HB hq_; have BK140 := n0_; have BK141 := n1_; have HB := n2_; clear n0_ n1_ n2_; (try (obtain ⟨hcz34_0, hcz34_1, hcz34_2, hcz34_3, hcz34_4, hcz34_5, hcz34_6, hcz34_7, hcz34_8, hcz34_9, hfz34_0, hfz34_1, hfz34_2, hfz34_3, hfz34_4, hfz34_5, hfz34_6, hfz34_7, hfz34_8, hfz34_9⟩ := zC10 BK140.out)); (try (obtain ⟨hcz33_0, hcz33_1, hcz33_2, hcz33_3, hcz33_4, hcz33_5, hcz33_6, hcz33_7, hcz33_8, hcz33_9, hfz33_0, hfz33_1, hfz33_2, hfz33_3, hfz33_4, hfz33_5, hfz33_6, hfz33_7, hfz33_8, hfz33_9⟩ := zC10 BK141.out))))) | ((with_reducible refine gate_callee (f := 66) rfl ?_); refine goesL_ (some 33) rfl rfl Tryd.func66 (by kernel_rfl) rfl #[.string t143, .string ⟨#[41]⟩] rfl zA ?_; (with_reducible refine (strings_CutSuffix.calls t143 (⟨#[41]⟩ : ByteArray) t145 false _ A27.out).mono ?_); rintro e w' ⟨rfl, ⟨nd, rfl⟩⟩; refine ⟨_, rfl, ?_⟩; (try (rw [drewN_self wc]; generalize hq_ : World.drewN wc _ = wc; have n0_ : Aside0 (wc.heap[gb140]? = some (.cells #[.int .i64 0, .int .i64 0, .string ⟨#[]⟩, .string ⟨#[]⟩, .string ⟨#[]⟩, .string ⟨#[]⟩, .string ⟨#[]⟩, .string ⟨#[]⟩, .string ⟨#[]⟩, .slice none 0 0] 45 (0, 0))) := ⟨by rw [← hq_]; exact (zK BK140.out)⟩; have n1_ : Aside0 (wc.heap[gb141]? = some (.cells #[.int .i64 3, .int .i64 0, .string a0, .string ⟨#[]⟩, .string ⟨#[]⟩, .string ⟨#[]⟩, .string ⟨#[]⟩, .string ⟨#[]⟩, .string ⟨#[]⟩, .slice none 0 0] 45 (0, 0))) := ⟨by rw [← hq_]; exact (zK BK141.out)⟩; have n2_ : Aside0 (Below w.heap.size w wc) := ⟨by rw [← hq_]; exact (zL HB.out)⟩; clear BK140 BK141 HB hq_; have BK140 := n0_; have BK141 := n1_; have HB := n2_; clear n0_ n1_ n2_; (try (obtain ⟨hcz34_0, hcz34_1, hcz34_2, hcz34_3, hcz34_4, hcz34_5, hcz34_6, hcz34_7, hcz34_8, hcz34_9, hfz34_0, hfz34_1, hfz34_2, hfz34_3, hfz34_4, hfz34_5, hfz34_6, hfz34_7, hfz34_8, hfz34_9⟩ := zC10 BK140.out)); (try (obtain ⟨hcz33_0, hcz33_1, hcz33_2, hcz33_3, hcz33_4, hcz33_5, hcz33_6, hcz33_7, hcz33_8, hcz33_9, hfz33_0, hfz33_1, hfz33_2, hfz33_3, hfz33_4, hfz33_5, hfz33_6, hfz33_7, hfz33_8, hfz33_9⟩ := zC10 BK141.out))))) | ((with_reducible refine gate_callee (f := 67) rfl ?_); refine goesL_ (some 38) rfl rfl Tryd.func67 (by kernel_rfl) rfl #[.string t145, .string ⟨#[44]⟩] rfl zA ?_; (with_reducible refine (parse_sides.calls kj2 t145 (⟨#[44]⟩ : ByteArray) t147 t148 t149 _ A28.out).mono ?_); rintro e w35 ⟨rfl, hb⟩; refine ⟨_, rfl, ?_⟩; replace BK140 := Aside0.mk (zB BK140.out hb); replace BK141 := Aside0.mk (zB BK141.out hb); replace HB := Aside0.mk (below_step (zL HB.out) hb); (try clear hb); (try clear hb2); (try clear hk); (try clear hi); have hnb36 := NB141_140.out; have hnc36 := NB140_141.out; obtain ⟨hcz37_0, hcz37_1, hcz37_2, hcz37_3, hcz37_4, hcz37_5, hcz37_6, hcz37_7, hcz37_8, hcz37_9, hfz37_0, hfz37_1, hfz37_2, hfz37_3, hfz37_4, hfz37_5, hfz37_6, hfz37_7, hfz37_8, hfz37_9⟩ := zC10 BK141.out; obtain ⟨hcz38_0, hcz38_1, hcz38_2, hcz38_3, hcz38_4, hcz38_5, hcz38_6, hcz38_7, hcz38_8, hcz38_9, hfz38_0, hfz38_1, hfz38_2, hfz38_3, hfz38_4, hfz38_5, hfz38_6, hfz38_7, hfz38_8, hfz38_9⟩ := zC10 BK140.out))
    refine bodyPost_ret (results_ct rfl _ _ gb140 45 #[.int .i64 3, .int .i64 0, .string a0, .string t147, .string t148, .string ⟨#[]⟩, .string ⟨#[]⟩, .string ⟨#[]⟩, .string ⟨#[]⟩, .slice none 0 0] (0, 0) _ rfl (zP10 BK140.out) Tryd.underlying45 rfl (by kernel_rfl)) rfl ?_
    exact ⟨_, zE, by first | exact Kd.R_nil _ _ _ _ _ | exact Kd.N_nil _ _ _ _ _ | exact Kd.V_nil _ _ _ _ _ | exact Kd.Q_nil _ _ _ _ _ | exact Kd.S_nil _ _ _ _ _, zL HB.out⟩
   replace c29 := Bool.eq_false_iff.mpr c29
   subst c29
   rw [if_neg (show ¬ (false = true) by decide)] at H
   simp only [Option.some.injEq, Prod.mk.injEq] at H
   obtain ⟨rfl, rfl, rfl, rfl, rfl, rfl, rfl, rfl, rfl, rfl, rfl⟩ := H
   go_wp2_with (first | ((with_reducible refine gate_callee (f := 65) rfl ?_); refine goesL_ (some 28) rfl rfl Tryd.func65 (by kernel_rfl) rfl #[.string a1, .string ⟨#[40]⟩] rfl zA ?_; (with_reducible refine (strings_CutPrefix.calls a1 (⟨#[40]⟩ : ByteArray) t143 false _ A26.out).mono ?_); rintro e w' ⟨rfl, ⟨nd, rfl⟩⟩; refine ⟨_, rfl, ?_⟩; (try (rw [drewN_self wc]; generalize hq_ : World.drewN wc _ = wc; have n0_ : Aside0 (wc.heap[gb140]? = some (.cells #[.int .i64 0, .int .i64 0, .string ⟨#[]⟩, .string ⟨#[]⟩, .string ⟨#[]⟩, .string ⟨#[]⟩, .string ⟨#[]⟩, .string ⟨#[]⟩, .string ⟨#[]⟩, .slice none 0 0] 45 (0, 0))) := ⟨by rw [← hq_]; exact (zK BK140.out)⟩; have n1_ : Aside0 (wc.heap[gb141]? = some (.cells #[.int .i64 3, .int .i64 0, .string a0, .string ⟨#[]⟩, .string ⟨#[]⟩, .string ⟨#[]⟩, .string ⟨#[]⟩, .string ⟨#[]⟩, .string ⟨#[]⟩, .slice none 0 0] 45 (0, 0))) := ⟨by rw [← hq_]; exact (zK BK141.out)⟩; have n2_ : Aside0 (Below w.heap.size w wc) := ⟨by rw [← hq_]; exact (zL HB.out)⟩; clear BK140 BK141 HB hq_; have BK140 := n0_; have BK141 := n1_; have HB := n2_; clear n0_ n1_ n2_; (try (obtain ⟨hcz38_0, hcz38_1, hcz38_2, hcz38_3, hcz38_4, hcz38_5, hcz38_6, hcz38_7, hcz38_8, hcz38_9, hfz38_0, hfz38_1, hfz38_2, hfz38_3, hfz38_4, hfz38_5, hfz38_6, hfz38_7, hfz38_8, hfz38_9⟩ := zC10 BK140.out)); (try (obtain ⟨hcz37_0, hcz37_1, hcz37_2, hcz37_3, hcz37_4, hcz37_5, hcz37_6, hcz37_7, hcz37_8, hcz37_9, hfz37_0, hfz37_1, hfz37_2, hfz37_3, hfz37_4, hfz37_5, hfz37_6, hfz37_7, hfz37_8, hfz37_9⟩ := zC10 BK141.out))))) | ((with_reducible refine gate_callee (f := 66) rfl ?_); refine goesL_ (some 33) rfl rfl Tryd.func66 (by kernel_rfl) rfl #[.string t143, .string ⟨#[41]⟩] rfl zA ?_; (with_reducible refine (strings_CutSuffix.calls t143 (⟨#[41]⟩ : ByteArray) t145 t146 _ A27.out).mono ?_); rintro e w' ⟨rfl, ⟨nd, rfl⟩⟩; refine ⟨_, rfl, ?_⟩; (try (rw [drewN_self wc]; generalize hq_ : World.drewN wc _ = wc; have n0_ : Aside0 (wc.heap[gb140]? = some (.cells #[.int .i64 0, .int .i64 0, .string ⟨#[]⟩, .string ⟨#[]⟩, .string ⟨#[]⟩, .string ⟨#[]⟩, .string ⟨#[]⟩, .string ⟨#[]⟩, .string ⟨#[]⟩, .slice none 0 0] 45 (0, 0))) := ⟨by rw [← hq_]; exact (zK BK140.out)⟩; have n1_ : Aside0 (wc.heap[gb141]? = some (.cells #[.int .i64 3, .int .i64 0, .string a0, .string ⟨#[]⟩, .string ⟨#[]⟩, .string ⟨#[]⟩, .string ⟨#[]⟩, .string ⟨#[]⟩, .string ⟨#[]⟩, .slice none 0 0] 45 (0, 0))) := ⟨by rw [← hq_]; exact (zK BK141.out)⟩; have n2_ : Aside0 (Below w.heap.size w wc) := ⟨by rw [← hq_]; exact (zL HB.out)⟩; clear BK140 BK141 HB hq_; have BK140 := n0_; have BK141 := n1_; have HB := n2_; clear n0_ n1_ n2_; (try (obtain ⟨hcz38_0, hcz38_1, hcz38_2, hcz38_3, hcz38_4, hcz38_5, hcz38_6, hcz38_7, hcz38_8, hcz38_9, hfz38_0, hfz38_1, hfz38_2, hfz38_3, hfz38_4, hfz38_5, hfz38_6, hfz38_7, hfz38_8, hfz38_9⟩ := zC10 BK140.out)); (try (obtain ⟨hcz37_0, hcz37_1, hcz37_2, hcz37_3, hcz37_4, hcz37_5, hcz37_6, hcz37_7, hcz37_8, hcz37_9, hfz37_0, hfz37_1, hfz37_2, hfz37_3, hfz37_4, hfz37_5, hfz37_6, hfz37_7, hfz37_8, hfz37_9⟩ := zC10 BK141.out))))) | ((with_reducible refine gate_callee (f := 67) rfl ?_); refine goesL_ (some 38) rfl rfl Tryd.func67 (by kernel_rfl) rfl #[.string t145, .string ⟨#[44]⟩] rfl zA ?_; (with_reducible refine (parse_sides.calls kj2 t145 (⟨#[44]⟩ : ByteArray) t147 t148 t149 _ A28.out).mono ?_); rintro e w39 ⟨rfl, hb⟩; refine ⟨_, rfl, ?_⟩; replace BK140 := Aside0.mk (zB BK140.out hb); replace BK141 := Aside0.mk (zB BK141.out hb); replace HB := Aside0.mk (below_step (zL HB.out) hb); (try clear hb); (try clear hb2); (try clear hk); (try clear hi); have hnb40 := NB141_140.out; have hnc40 := NB140_141.out; obtain ⟨hcz41_0, hcz41_1, hcz41_2, hcz41_3, hcz41_4, hcz41_5, hcz41_6, hcz41_7, hcz41_8, hcz41_9, hfz41_0, hfz41_1, hfz41_2, hfz41_3, hfz41_4, hfz41_5, hfz41_6, hfz41_7, hfz41_8, hfz41_9⟩ := zC10 BK141.out; obtain ⟨hcz42_0, hcz42_1, hcz42_2, hcz42_3, hcz42_4, hcz42_5, hcz42_6, hcz42_7, hcz42_8, hcz42_9, hfz42_0, hfz42_1, hfz42_2, hfz42_3, hfz42_4, hfz42_5, hfz42_6, hfz42_7, hfz42_8, hfz42_9⟩ := zC10 BK140.out))
   refine bodyPost_ret (results_ct rfl _ _ gb140 45 #[.int .i64 3, .int .i64 0, .string a0, .string t147, .string t148, .string ⟨#[]⟩, .string ⟨#[]⟩, .string ⟨#[]⟩, .string ⟨#[]⟩, .slice none 0 0] (0, 0) _ rfl (zP10 BK140.out) Tryd.underlying45 rfl (by kernel_rfl)) rfl ?_
   exact ⟨_, zE, by first | exact Kd.R_nil _ _ _ _ _ | exact Kd.N_nil _ _ _ _ _ | exact Kd.V_nil _ _ _ _ _ | exact Kd.Q_nil _ _ _ _ _ | exact Kd.S_nil _ _ _ _ _, zL HB.out⟩

/-! ### parse_has: function 68 -/
def parse_has.f (k : Nat) (a0 : ByteArray) (a1 : ByteArray) : Option (Bool) := (parse_sides.f k a0 a1).bind fun bt150 => (some bt150.2.2)
theorem parse_has.mono : ∀ a0 a1 k, LeO (parse_has.f k a0 a1) (parse_has.f (k + 1) a0 a1) := by
 intro a0 a1 k
 unfold parse_has.f
 repeat' first
   | (with_reducible exact parse_sides.mono _ _ _)
   | (with_reducible exact LeO.refl _)
   | (with_reducible exact LeO.none _)
   | (with_reducible refine LeO.ite ?_ ?_)
   | (with_reducible refine LeO.bind ?_ (fun _ => ?_))
   | exact parse_sides.mono _ _ _
   | exact LeO.none _
   | refine LeO.ite ?_ ?_
   | refine LeO.bind ?_ (fun _ => ?_)
set_option maxHeartbeats 8000000 in
set_option maxRecDepth 100000 in
theorem parse_has.calls (k : Nat) (a0 : ByteArray) (a1 : ByteArray) (r : Bool) (w : World) (h : parse_has.f k a0 a1 = some r) :
  Calls Tryd.prog 68 #[.string a0, .string a1] w fun e w' => e = .returned (.bool r) ∧ Below w.heap.size w w' := by
 have HB := Aside0.mk (Below.refl w.heap.size w)
 have H : ((parse_sides.f k a0 a1).bind fun bt150 => (some bt150.2.2)) = some r := h
 clear h
 replace H := Option.bind_eq_some_iff.mp H
 obtain ⟨⟨t150, t151, t152⟩, A30, H⟩ := H
 try dsimp only at H
 have A3 := Aside0.mk A30
 clear A30
 obtain rfl := Option.some.inj H
 go_enter Tryd.func68, Tryd.ntmps68
 go_wp2_with (first | ((with_reducible refine gate_callee (f := 67) rfl ?_); refine goesL_ (some 11) rfl rfl Tryd.func67 (by kernel_rfl) rfl #[.string a0, .string a1] rfl zA ?_; (with_reducible refine (parse_sides.calls k a0 a1 t150 t151 t152 _ A3.out).mono ?_); rintro e w4 ⟨rfl, hb⟩; refine ⟨_, rfl, ?_⟩; replace HB := Aside0.mk (below_step (zL HB.out) hb); (try clear hb); (try clear hb2); (try clear hk); (try clear hi)))
 go_ret
 exact ⟨zE, zL HB.out⟩

end Go.Proofs.YthnholondnfjoaaDoor.PParse
