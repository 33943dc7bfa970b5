-- Written by a program of this session (wip/tools/ext.py, over the kit's printer); not trusted: Lean checks it.
import Derived.Test.YthnholondnfjoaaDoorPParsex0
import Derived.Test.YthnholondnfjoaaDoorPParsex9
import Derived.Test.YthnholondnfjoaaDoorPParsex10
import Derived.Test.YthnholondnfjoaaDoorPParsex11
namespace Go.Proofs.YthnholondnfjoaaDoor.PParse
open Go.RowKit Go.Proofs.YthnholondnfjoaaDoorW.PrintWords Go.Proofs.YthnholondnfjoaaDoorW.PrintLast Go.Proofs.YthnholondnfjoaaDoorW.PrintMore
attribute [local go_sem] max2_int min2_int max_two min_two max_three min_three max_four min_four
set_option linter.unusedVariables false
set_option linter.unusedSimpArgs false
set_option maxHeartbeats 8000000
set_option maxRecDepth 100000

/-! ### cooperageref9_one: function 26 -/
mutual
def cooperageref9_one.j0 : Nat → List ByteArray → ByteArray → ByteArray → Bool → Int → Bool → ByteArray → Int → Int → ByteArray → ByteArray → ByteArray → ByteArray → ByteArray → ByteArray → ByteArray → Option (Int × Int × ByteArray × ByteArray × ByteArray × ByteArray × ByteArray × ByteArray × ByteArray × List ByteArray × Bool)
 | 0, _, _, _, _, _, _, _, _, _, _, _, _, _, _, _, _ => none
 | k + 1, x4, x6, x38, x39, x329000, x329001, x329002, x336000, x336001, x336002, x336003, x336004, x336005, x336006, x336007, x336008 => if x39 = true then (if (x6.size : Int) < 2 then (cooperageref9_one.j1 k x6 true 3 x336001 x336002 x336003 x336004 x336005 x336006 x336007 x336008) else (if 0 < (x6.size : Int) then (if (bt x6 0) = 40 then (if 0 ≤ (wrap64 ((x6.size : Int) - 1)) then (if (wrap64 ((x6.size : Int) - 1)) < (x6.size : Int) then (cooperageref9_one.j1 k x6 ((bt x6 (wrap64 ((x6.size : Int) - 1))) != 41) 3 x336001 x336002 x336003 x336004 x336005 x336006 x336007 x336008) else (none)) else (none)) else (cooperageref9_one.j1 k x6 true 3 x336001 x336002 x336003 x336004 x336005 x336006 x336007 x336008)) else (none))) else (if x38.toList = ([105, 102, 100, 101, 102] : List UInt8) then (cooperageref9_one.j2 k x4 x6 x38 (x38.toList == ([105, 102, 100, 101, 102] : List UInt8)) x329000 x329001 x329002 x336000 x336001 x336002 x336003 x336004 x336005 x336006 x336007 x336008) else (cooperageref9_one.j2 k x4 x6 x38 (x38.toList == ([105, 102, 110, 100, 101, 102] : List UInt8)) x329000 x329001 x329002 x336000 x336001 x336002 x336003 x336004 x336005 x336006 x336007 x336008))
def cooperageref9_one.j1 : Nat → ByteArray → Bool → Int → Int → ByteArray → ByteArray → ByteArray → ByteArray → ByteArray → ByteArray → ByteArray → Option (Int × Int × ByteArray × ByteArray × ByteArray × ByteArray × ByteArray × ByteArray × ByteArray × List ByteArray × Bool)
 | 0, _, _, _, _, _, _, _, _, _, _, _ => none
 | k + 1, x6, x58, x336000, x336001, x336002, x336003, x336004, x336005, x336006, x336007, x336008 => if x58 = true then (some (x336000, x336001, x336002, x336003, x336004, x336005, x336006, x336007, x336008, ([] : List ByteArray), false)) else (if 1 ≤ (wrap64 ((x6.size : Int) - 1)) then (if (wrap64 ((x6.size : Int) - 1)) ≤ (x6.size : Int) then ((cooperageref9_Cut.f k (x6.extract 1 ((wrap64 ((x6.size : Int) - 1)) : Int).toNat) (([(⟨#[44]⟩ : ByteArray)] : List ByteArray))).bind fun bt342 => ((cooperageref1_Trim.f k bt342.1).bind fun t345 => ((cooperageref1_Trim.f k bt342.2.2).bind fun t346 => (some (x336000, x336001, x336002, t345, t346, x336005, x336006, x336007, x336008, ([] : List ByteArray), (bt342.2.1.toList != ([] : List UInt8))))))) else (none)) else (none))
def cooperageref9_one.j2 : Nat → List ByteArray → ByteArray → ByteArray → Bool → Int → Bool → ByteArray → Int → Int → ByteArray → ByteArray → ByteArray → ByteArray → ByteArray → ByteArray → ByteArray → Option (Int × Int × ByteArray × ByteArray × ByteArray × ByteArray × ByteArray × ByteArray × ByteArray × List ByteArray × Bool)
 | 0, _, _, _, _, _, _, _, _, _, _, _, _, _, _, _, _ => none
 | k + 1, x4, x6, x38, x80, x329000, x329001, x329002, x336000, x336001, x336002, x336003, x336004, x336005, x336006, x336007, x336008 => if x80 = true then ((cooperageref9_Name.f k x6).bind fun t347 => (some (3, x336001, x336002, x6, x336004, x336005, x336006, x336007, x336008, ([] : List ByteArray), t347))) else (if x38.toList = ([101, 108, 115, 101] : List UInt8) then (some (4, x329000, (⟨#[]⟩ : ByteArray), (⟨#[]⟩ : ByteArray), (⟨#[]⟩ : ByteArray), (⟨#[]⟩ : ByteArray), (⟨#[]⟩ : ByteArray), (⟨#[]⟩ : ByteArray), (⟨#[]⟩ : ByteArray), ([] : List ByteArray), ((x4.length : Int) == 1))) else (if x38.toList = ([101, 110, 100, 105, 102] : List UInt8) then (some (5, x329000, (⟨#[]⟩ : ByteArray), (⟨#[]⟩ : ByteArray), (⟨#[]⟩ : ByteArray), (⟨#[]⟩ : ByteArray), (⟨#[]⟩ : ByteArray), (⟨#[]⟩ : ByteArray), (⟨#[]⟩ : ByteArray), ([] : List ByteArray), ((x4.length : Int) == 1))) else (if x38.toList = ([105, 110, 99, 108, 117, 100, 101] : List UInt8) then (some (6, x336001, x336002, x336003, x6, x336005, x336006, x336007, x336008, ([] : List ByteArray), (x6.toList != ([] : List UInt8)))) else (if x38.toList = ([45, 105, 110, 99, 108, 117, 100, 101] : List UInt8) then (some (6, x336001, x336002, x336003, x6, x336005, x336006, x336007, x336008, ([] : List ByteArray), (x6.toList != ([] : List UInt8)))) else ((cooperageref9_Cut.f k x329002 (([(⟨#[58, 61]⟩ : ByteArray), (⟨#[63, 61]⟩ : ByteArray), (⟨#[43, 61]⟩ : ByteArray), (⟨#[61]⟩ : ByteArray), (⟨#[58]⟩ : ByteArray)] : List ByteArray))).bind fun bt351 => (if bt351.2.1.toList = ([] : List UInt8) then (some (x336000, x336001, bt351.2.1, x336003, x336004, x336005, x336006, x336007, x336008, ([] : List ByteArray), false)) else (if bt351.2.1.toList = ([58] : List UInt8) then ((cooperageref9_rule.f k bt351.1 bt351.2.2 x329000).bind fun bt354 => (some (bt354.1, bt354.2.1, bt354.2.2.1, bt354.2.2.2.1, bt354.2.2.2.2.1, bt354.2.2.2.2.2.1, bt354.2.2.2.2.2.2.1, bt354.2.2.2.2.2.2.2.1, bt354.2.2.2.2.2.2.2.2.1, bt354.2.2.2.2.2.2.2.2.2.1, bt354.2.2.2.2.2.2.2.2.2.2))) else ((cooperageref1_Trim.f k bt351.1).bind fun t367 => ((cooperageref1_Trim.f k bt351.2.2).bind fun t368 => ((cooperageref9_Name.f k t367).bind fun t369 => (some (1, x336001, bt351.2.1, t367, t368, x336005, x336006, x336007, x336008, ([] : List ByteArray), t369))))))))))))
end
def cooperageref9_one.f (k : Nat) (a0_0 : Int) (a0_1 : Bool) (a0_2 : ByteArray) : Option (Int × Int × ByteArray × ByteArray × ByteArray × ByteArray × ByteArray × ByteArray × ByteArray × List ByteArray × Bool) := (cooperageref1_Trim.f k a0_2).bind fun t330 => ((cooperageref1_Words.f k t330).bind fun t331 => (if (t331.length : Int) = 0 then (some (0, 0, (⟨#[]⟩ : ByteArray), (⟨#[]⟩ : ByteArray), (⟨#[]⟩ : ByteArray), (⟨#[]⟩ : ByteArray), (⟨#[]⟩ : ByteArray), (⟨#[]⟩ : ByteArray), (⟨#[]⟩ : ByteArray), ([] : List ByteArray), false)) else (if 0 < (t331.length : Int) then ((cooperageref9_behind.f k t330 (rdOf ByteArray.empty t331 0)).bind fun t337 => (if (rdOf ByteArray.empty t331 0).toList = ([105, 102, 101, 113] : List UInt8) then (cooperageref9_one.j0 k t331 t337 (rdOf ByteArray.empty t331 0) ((rdOf ByteArray.empty t331 0).toList == ([105, 102, 101, 113] : List UInt8)) a0_0 a0_1 t330 0 a0_0 (rdOf ByteArray.empty t331 0) (⟨#[]⟩ : ByteArray) (⟨#[]⟩ : ByteArray) (⟨#[]⟩ : ByteArray) (⟨#[]⟩ : ByteArray) (⟨#[]⟩ : ByteArray) (⟨#[]⟩ : ByteArray)) else (cooperageref9_one.j0 k t331 t337 (rdOf ByteArray.empty t331 0) ((rdOf ByteArray.empty t331 0).toList == ([105, 102, 110, 101, 113] : List UInt8)) a0_0 a0_1 t330 0 a0_0 (rdOf ByteArray.empty t331 0) (⟨#[]⟩ : ByteArray) (⟨#[]⟩ : ByteArray) (⟨#[]⟩ : ByteArray) (⟨#[]⟩ : ByteArray) (⟨#[]⟩ : ByteArray) (⟨#[]⟩ : ByteArray)))) else (none))))
theorem cooperageref9_one.mono_l : ∀ k, (∀ y0 y1 y2 y3 y4 y5 y6 y7 y8 y9 y10 y11 y12 y13 y14 y15, LeO (cooperageref9_one.j0 k y0 y1 y2 y3 y4 y5 y6 y7 y8 y9 y10 y11 y12 y13 y14 y15) (cooperageref9_one.j0 (k + 1) y0 y1 y2 y3 y4 y5 y6 y7 y8 y9 y10 y11 y12 y13 y14 y15)) ∧ (∀ y0 y1 y2 y3 y4 y5 y6 y7 y8 y9 y10, LeO (cooperageref9_one.j1 k y0 y1 y2 y3 y4 y5 y6 y7 y8 y9 y10) (cooperageref9_one.j1 (k + 1) y0 y1 y2 y3 y4 y5 y6 y7 y8 y9 y10)) ∧ (∀ y0 y1 y2 y3 y4 y5 y6 y7 y8 y9 y10 y11 y12 y13 y14 y15, LeO (cooperageref9_one.j2 k y0 y1 y2 y3 y4 y5 y6 y7 y8 y9 y10 y11 y12 y13 y14 y15) (cooperageref9_one.j2 (k + 1) y0 y1 y2 y3 y4 y5 y6 y7 y8 y9 y10 y11 y12 y13 y14 y15))
 | 0 => ⟨fun _ _ _ _ _ _ _ _ _ _ _ _ _ _ _ _ r h => by simp [cooperageref9_one.j0] at h, fun _ _ _ _ _ _ _ _ _ _ _ r h => by simp [cooperageref9_one.j1] at h, fun _ _ _ _ _ _ _ _ _ _ _ _ _ _ _ _ r h => by simp [cooperageref9_one.j2] at h⟩
 | k + 1 => by
  obtain ⟨ih0, ih1, ih2⟩ := cooperageref9_one.mono_l k
  have m0 := @cooperageref1_Trim.mono
  have m1 := @cooperageref1_Words.mono
  have m2 := @cooperageref9_Cut.mono
  have m3 := @cooperageref9_Name.mono
  have m4 := @cooperageref9_behind.mono
  have m5 := @cooperageref9_rule.mono
  refine ⟨?_, ?_, ?_⟩
  ·intros
   unfold cooperageref9_one.j0
   exact zLe
  ·intros
   unfold cooperageref9_one.j1
   exact zLe
  ·intros
   unfold cooperageref9_one.j2
   exact zLe
theorem cooperageref9_one.mono : ∀ a0 a1 a2 k, LeO (cooperageref9_one.f k a0 a1 a2) (cooperageref9_one.f (k + 1) a0 a1 a2) := by
 intro a0 a1 a2 k
 obtain ⟨ih0, ih1, ih2⟩ := cooperageref9_one.mono_l k
 unfold cooperageref9_one.f
 have m0 := @cooperageref1_Trim.mono
 have m1 := @cooperageref1_Words.mono
 have m2 := @cooperageref9_Cut.mono
 have m3 := @cooperageref9_Name.mono
 have m4 := @cooperageref9_behind.mono
 have m5 := @cooperageref9_rule.mono
 exact zLe
def cooperageref9_one.T5 : Bool × List (List Nat × List Nat) := (true, [([], []), ([0], [0]), ([], []), ([2], [2]), ([3], [3]), ([1, 4], [1, 4]), ([], []), ([6, 5, 0, 1, 2, 3, 4, 5, 6], [5, 6])])
def cooperageref9_one.B5 : List Nat := [0, 1, 0, 4, 12, 31, 0, 127]
theorem cooperageref9_one.tab5 : rtab .any (opsOf Tryd.f26 5) = cooperageref9_one.T5 := by kernel_rfl
theorem cooperageref9_one.bits5 : waitsOk cooperageref9_one.T5.2 cooperageref9_one.B5 = true := by kernel_rfl
theorem cooperageref9_one.calls (k : Nat) (a0_0 : Int) (a0_1 : Bool) (a0_2 : ByteArray) (r1 : Int) (r2 : Int) (r3 : ByteArray) (r4 : ByteArray) (r5 : ByteArray) (r6 : ByteArray) (r7 : ByteArray) (r8 : ByteArray) (r9 : ByteArray) (r10 : List ByteArray) (r11 : Bool) (w : World) (h : cooperageref9_one.f k a0_0 a0_1 a0_2 = some (r1, r2, r3, r4, r5, r6, r7, r8, r9, r10, r11)) :
  Calls Tryd.prog 26 #[.agg #[.int .i64 a0_0, .bool a0_1, .string a0_2]] w fun e w' => ∃ v9_ : Value, e = .returned (.tuple #[.agg #[.int .i64 r1, .int .i64 r2, .string r3, .string r4, .string r5, .string r6, .string r7, .string r8, .string r9, v9_], .bool r11]) ∧ Kd.R Kd.string 9 w' w.heap.size (fun _ => True) v9_ r10 ∧ Below w.heap.size w w' := by
 have hu53 := Tryd.underlying53
 have hu64 := Tryd.underlying64
 have HB := ka (Below.refl w.heap.size w)
 have H : ((cooperageref1_Trim.f k a0_2).bind fun t330 => ((cooperageref1_Words.f k t330).bind fun t331 => (if (t331.length : Int) = 0 then (some (0, 0, (⟨#[]⟩ : ByteArray), (⟨#[]⟩ : ByteArray), (⟨#[]⟩ : ByteArray), (⟨#[]⟩ : ByteArray), (⟨#[]⟩ : ByteArray), (⟨#[]⟩ : ByteArray), (⟨#[]⟩ : ByteArray), ([] : List ByteArray), false)) else (if 0 < (t331.length : Int) then ((cooperageref9_behind.f k t330 (rdOf ByteArray.empty t331 0)).bind fun t337 => (if (rdOf ByteArray.empty t331 0).toList = ([105, 102, 101, 113] : List UInt8) then (cooperageref9_one.j0 k t331 t337 (rdOf ByteArray.empty t331 0) ((rdOf ByteArray.empty t331 0).toList == ([105, 102, 101, 113] : List UInt8)) a0_0 a0_1 t330 0 a0_0 (rdOf ByteArray.empty t331 0) (⟨#[]⟩ : ByteArray) (⟨#[]⟩ : ByteArray) (⟨#[]⟩ : ByteArray) (⟨#[]⟩ : ByteArray) (⟨#[]⟩ : ByteArray) (⟨#[]⟩ : ByteArray)) else (cooperageref9_one.j0 k t331 t337 (rdOf ByteArray.empty t331 0) ((rdOf ByteArray.empty t331 0).toList == ([105, 102, 110, 101, 113] : List UInt8)) a0_0 a0_1 t330 0 a0_0 (rdOf ByteArray.empty t331 0) (⟨#[]⟩ : ByteArray) (⟨#[]⟩ : ByteArray) (⟨#[]⟩ : ByteArray) (⟨#[]⟩ : ByteArray) (⟨#[]⟩ : ByteArray) (⟨#[]⟩ : ByteArray)))) else (none))))) = some (r1, r2, r3, r4, r5, r6, r7, r8, r9, r10, r11) := h
 clear h
 replace H := Option.bind_eq_some_iff.mp H
 obtain ⟨t330, A20, H⟩ := H
 try dsimp only at H
 have A2 := ka A20
 clear A20
 replace H := Option.bind_eq_some_iff.mp H
 obtain ⟨t331, A30, H⟩ := H
 try dsimp only at H
 have A3 := ka A30
 clear A30
 by_cases c4 : (t331.length : Int) = 0
 ·rw [if_pos c4] at H
  have c4b0 := zb0 c4
  have c4b1 := zb1 c4
  clear c4
  replace H := zs11 H
  obtain ⟨rfl, rfl, rfl, rfl, rfl, rfl, rfl, rfl, rfl, rfl, rfl⟩ := H
  go_enter Tryd.func26, Tryd.ntmps26
  go_wp2_with (first | ((with_reducible refine gate_dst (N := 1) rfl ?_); (try (refine gate_guard (by rfl) ?_; dsimp only)); refine box_event ?hg (N := 1) ?hd (cs := #[.int .i64 a0_0, .bool a0_1, .string a0_2]) (t := 53) ?hr ?_; (case hd => rfl); (case hg => rfl); (case hr => (go_simp; try rfl)); intro gb328 hg w5 hbox hb; have BK328 := ka (hbox); have GW328 := ka (zG hg (zL HB.out)); have GE328 := ka (zG hg (zL HB.out)); replace HB := ka (below_step (zL HB.out) hb); clear hb hbox hg) | ((with_reducible refine gate_dst (N := 2) rfl ?_); (try (refine gate_guard (by rfl) ?_; dsimp only)); refine box_event ?hg (N := 2) ?hd (cs := #[.int .i64 0, .int .i64 0, .string ⟨#[]⟩, .string ⟨#[]⟩, .string ⟨#[]⟩, .string ⟨#[]⟩, .string ⟨#[]⟩, .string ⟨#[]⟩, .string ⟨#[]⟩, .slice none 0 0]) (t := 64) ?hr ?_; (case hd => rfl); (case hg => rfl); (case hr => (go_simp; try rfl)); intro gb329 hg w6 hbox hb; have BK329 := ka (hbox); have GW329 := ka (zG hg (zL HB.out)); have GE329 := ka (zG hg (zL HB.out)); replace HB := ka (below_step (zL HB.out) hb); have NB328_329 := ka (zNK hg BK328.out); have NB329_328 := ka (zOK hg BK328.out); replace BK328 := ka (zB BK328.out hb); clear hb hbox hg; have hnb7 := NB328_329.out; have hnc7 := NB329_328.out; obtain ⟨z8_0, z8_1, z8_2, y8_0, y8_1, y8_2⟩ := zC3 BK328.out) | ((with_reducible refine gate_callee (f := 40) rfl ?_); refine goesL_ (some 15) rfl rfl Tryd.func40 (by kernel_rfl) rfl #[.string a0_2] rfl zA ?_; (with_reducible refine (cooperageref1_Trim.calls k a0_2 t330 _ A2.out).mono ?_); rintro e w' ⟨rfl, ⟨nd, rfl⟩⟩; refine ⟨_, rfl, ?_⟩; (try (rw [drewN_self w6]; generalize hq_ : World.drewN w6 _ = w6; have n0_ : Aside0 (w6.heap[gb328]? = some (.cells #[.int .i64 a0_0, .bool a0_1, .string a0_2] 53 (0, 0))) := ⟨by rw [← hq_]; exact (zK BK328.out)⟩; have n1_ : Aside0 (w6.heap[gb329]? = some (.cells #[.int .i64 0, .int .i64 0, .string ⟨#[]⟩, .string ⟨#[]⟩, .string ⟨#[]⟩, .string ⟨#[]⟩, .string ⟨#[]⟩, .string ⟨#[]⟩, .string ⟨#[]⟩, .slice none 0 0] 64 (0, 0))) := ⟨by rw [← hq_]; exact (zK BK329.out)⟩; have n2_ : Aside0 (Below w.heap.size w w6) := ⟨by rw [← hq_]; exact (zL HB.out)⟩; clear BK328 BK329 HB hq_; have BK328 := n0_; have BK329 := n1_; have HB := n2_; clear n0_ n1_ n2_; (try (obtain ⟨z8_0, z8_1, z8_2, y8_0, y8_1, y8_2⟩ := zC3 BK328.out))))) | ((with_reducible refine gate_callee (f := 47) rfl ?_); refine goesL_ (some 19) rfl rfl Tryd.func47 (by kernel_rfl) rfl #[.string t330] rfl zA ?_; (with_reducible refine (cooperageref1_Words.calls k t330 t331 _ A3.out).mono ?_); rintro e w9 ⟨v332, rfl, ho0, hb⟩; refine ⟨_, rfl, ?_⟩; have HO333 := ka (Kd.R_lower ho0 (below_size (zL HB.out))); replace BK328 := ka (blk_below (g := gb328) (o := .cells #[.int .i64 a0_0, .bool a0_1, .string t330] 53 (0, 0)) (by (with_reducible repeat (first | refine blk_drewN ?_ _ | refine blk_drew ?_ | refine blk_alloc ?_ _)); refine blk_put (cs := #[.int .i64 a0_0, .bool a0_1, .string a0_2]) ?_ 2 _ rfl; (with_reducible repeat (first | refine blk_drewN ?_ _ | refine blk_drew ?_ | refine blk_alloc ?_ _)); exact BK328.out) hb); replace BK329 := ka (zB BK329.out hb); replace HB := ka (below_step (zL HB.out) hb); (try clear hb); (try clear hb2); (try clear hk); (try clear hi); (try clear ho0); obtain ⟨Ao10, co10, eo10⟩ := Kd.R_slice HO333.out; subst eo10; obtain ⟨z11_0, z11_1, z11_2, z11_3, z11_4, z11_5, z11_6, z11_7, z11_8, z11_9, y11_0, y11_1, y11_2, y11_3, y11_4, y11_5, y11_6, y11_7, y11_8, y11_9⟩ := zC10 BK329.out))
  refine bodyPost_ret (results_ct rfl _ _ gb329 64 #[.int .i64 0, .int .i64 0, .string ⟨#[]⟩, .string ⟨#[]⟩, .string ⟨#[]⟩, .string ⟨#[]⟩, .string ⟨#[]⟩, .string ⟨#[]⟩, .string ⟨#[]⟩, .slice none 0 0] (0, 0) _ rfl (zP10 BK329.out) Tryd.underlying64 rfl (by kernel_rfl)) rfl ?_
  exact ⟨_, zE, zNl, zL HB.out⟩
 rw [if_neg c4] at H
 have c4b0 := zn0 c4
 have c4b1 := zn1 c4
 have c4b2 : ¬ (t331 = []) := fun h_ => c4 (by rw [h_]; rfl)
 replace H := zif H
 obtain ⟨c12, H⟩ := H
 have c12b0 := zdt c12
 have c12b1 : decide (0 < t331.length) = true := decide_eq_true (by omega)
 clear c12
 replace H := Option.bind_eq_some_iff.mp H
 obtain ⟨t337, A130, H⟩ := H
 try dsimp only at H
 have A13 := ka A130
 clear A130
 have HC14 := ka H
 clear H
 go_enter Tryd.func26, Tryd.ntmps26
 try go_wp2_with (first | ((with_reducible refine gate_dst (N := 1) rfl ?_); (try (refine gate_guard (by rfl) ?_; dsimp only)); refine box_event ?hg (N := 1) ?hd (cs := #[.int .i64 a0_0, .bool a0_1, .string a0_2]) (t := 53) ?hr ?_; (case hd => rfl); (case hg => rfl); (case hr => (go_simp; try rfl)); intro gb328 hg w15 hbox hb; have BK328 := ka (hbox); have GW328 := ka (zG hg (zL HB.out)); have GE328 := ka (zG hg (zL HB.out)); replace HB := ka (below_step (zL HB.out) hb); clear hb hbox hg) | ((with_reducible refine gate_dst (N := 2) rfl ?_); (try (refine gate_guard (by rfl) ?_; dsimp only)); refine box_event ?hg (N := 2) ?hd (cs := #[.int .i64 0, .int .i64 0, .string ⟨#[]⟩, .string ⟨#[]⟩, .string ⟨#[]⟩, .string ⟨#[]⟩, .string ⟨#[]⟩, .string ⟨#[]⟩, .string ⟨#[]⟩, .slice none 0 0]) (t := 64) ?hr ?_; (case hd => rfl); (case hg => rfl); (case hr => (go_simp; try rfl)); intro gb329 hg w16 hbox hb; have BK329 := ka (hbox); have GW329 := ka (zG hg (zL HB.out)); have GE329 := ka (zG hg (zL HB.out)); replace HB := ka (below_step (zL HB.out) hb); have NB328_329 := ka (zNK hg BK328.out); have NB329_328 := ka (zOK hg BK328.out); replace BK328 := ka (zB BK328.out hb); clear hb hbox hg; have hnb17 := NB328_329.out; have hnc17 := NB329_328.out; obtain ⟨z18_0, z18_1, z18_2, y18_0, y18_1, y18_2⟩ := zC3 BK328.out) | ((with_reducible refine gate_callee (f := 40) rfl ?_); refine goesL_ (some 15) rfl rfl Tryd.func40 (by kernel_rfl) rfl #[.string a0_2] rfl zA ?_; (with_reducible refine (cooperageref1_Trim.calls k a0_2 t330 _ A2.out).mono ?_); rintro e w' ⟨rfl, ⟨nd, rfl⟩⟩; refine ⟨_, rfl, ?_⟩; (try (rw [drewN_self w16]; generalize hq_ : World.drewN w16 _ = w16; have n0_ : Aside0 (w16.heap[gb328]? = some (.cells #[.int .i64 a0_0, .bool a0_1, .string a0_2] 53 (0, 0))) := ⟨by rw [← hq_]; exact (zK BK328.out)⟩; have n1_ : Aside0 (w16.heap[gb329]? = some (.cells #[.int .i64 0, .int .i64 0, .string ⟨#[]⟩, .string ⟨#[]⟩, .string ⟨#[]⟩, .string ⟨#[]⟩, .string ⟨#[]⟩, .string ⟨#[]⟩, .string ⟨#[]⟩, .slice none 0 0] 64 (0, 0))) := ⟨by rw [← hq_]; exact (zK BK329.out)⟩; have n2_ : Aside0 (Below w.heap.size w w16) := ⟨by rw [← hq_]; exact (zL HB.out)⟩; clear BK328 BK329 HB hq_; have BK328 := n0_; have BK329 := n1_; have HB := n2_; clear n0_ n1_ n2_; (try (obtain ⟨z18_0, z18_1, z18_2, y18_0, y18_1, y18_2⟩ := zC3 BK328.out)); (try (obtain ⟨z11_0, z11_1, z11_2, z11_3, z11_4, z11_5, z11_6, z11_7, z11_8, z11_9, y11_0, y11_1, y11_2, y11_3, y11_4, y11_5, y11_6, y11_7, y11_8, y11_9⟩ := zC10 BK329.out))))) | ((with_reducible refine gate_callee (f := 47) rfl ?_); refine goesL_ (some 19) rfl rfl Tryd.func47 (by kernel_rfl) rfl #[.string t330] rfl zA ?_; (with_reducible refine (cooperageref1_Words.calls k t330 t331 _ A3.out).mono ?_); rintro e w19 ⟨v332, rfl, ho0, hb⟩; refine ⟨_, rfl, ?_⟩; have HO333 := ka (Kd.R_lower ho0 (below_size (zL HB.out))); replace BK328 := ka (blk_below (g := gb328) (o := .cells #[.int .i64 a0_0, .bool a0_1, .string t330] 53 (0, 0)) (by (with_reducible repeat (first | refine blk_drewN ?_ _ | refine blk_drew ?_ | refine blk_alloc ?_ _)); refine blk_put (cs := #[.int .i64 a0_0, .bool a0_1, .string a0_2]) ?_ 2 _ rfl; (with_reducible repeat (first | refine blk_drewN ?_ _ | refine blk_drew ?_ | refine blk_alloc ?_ _)); exact BK328.out) hb); replace BK329 := ka (zB BK329.out hb); replace HB := ka (below_step (zL HB.out) hb); (try clear hb); (try clear hb2); (try clear hk); (try clear hi); (try clear ho0); obtain ⟨Ao20, co20, eo20⟩ := Kd.R_slice HO333.out; subst eo20))
 replace HO333 := ka (Kd.R_drew HO333.out)
 replace BK328 := ka (blk_drew BK328.out)
 replace BK329 := ka (blk_drew BK329.out)
 replace HB := ka (below_drew1 HB.out)
 have p334 : 0 ≤ (0 : Int) := (by omega)
 have q334 : 0 < (t331.length : Int) := zD
 obtain ⟨ad334, e334, hx334_0⟩ := Kd.at_string (Kd.R_reads' HO333.out).2.2 0 p334 q334
 cases e334
 have qi334 : (0 < t331.length) = True := eq_true (by omega)
 (try rw [show ((0 : Int)).toNat = 0 from rfl] at hx334_0)
 (try rw [Addr.add_zero'] at hx334_0)
 replace p334 := eq_true p334
 replace q334 := eq_true q334
 refine start_ (n := 8) (S := fun w' => w'.cell? ⟨gb328, 0, none⟩ = some (.int .i64 a0_0) ∧ w'.cell? ⟨gb328, 1, none⟩ = some (.bool a0_1) ∧ w'.cell? ⟨gb328, 2, none⟩ = some (.string t330) ∧ w'.cell? ad334 = some (.string (rdOf ByteArray.empty t331 0))) (ds := []) #[false, false, false, false, false, false, false, false] (by kernel_rfl) rfl rfl ⟨zc BK328.out 0, zc BK328.out 1, zc BK328.out 2, hx334_0⟩ (fun hHeld => ?_); refine with_tabW cooperageref9_one.tab5 cooperageref9_one.bits5 (fun HT_ HW_ => ?_)
 generalize w19.drew = w21 at HO333 BK328 BK329 HB hx334_0 hHeld ⊢
 refine zpp 0 (N := some 24) HT_ (h := ?_)
 refine zpp 2 (N := some 26) HT_ (h := ?_)
 refine zpp 3 (N := some 27) HT_ (h := ?_)
 refine zpt 1 (N := some 25) HT_ HW_ hHeld (h := ?_)
 refine zpt 4 (N := some 28) HT_ HW_ hHeld (h := ?_)
 refine zpp 5 (N := some 29) HT_ (h := ?_)
 refine one_ (i := 6) (N := some 5) #[true, true, true, true, true, true, true, false] rfl rfl (one_of HT_.out (by kernel_rfl)) (by decide) (fun K hK => ?_)
 refine box_step ?hg (N := 5) ?hd (cs := #[.int .i64 0, .int .i64 0, .string ⟨#[]⟩, .string ⟨#[]⟩, .string ⟨#[]⟩, .string ⟨#[]⟩, .string ⟨#[]⟩, .string ⟨#[]⟩, .string ⟨#[]⟩, .slice none 0 0]) (t := 64) ?hr ?_; (case hd => rfl); (case hg => rfl); (case hr => (go_simp; try rfl))
 intro gb335 hg w22 hbox hb
 have HS3_ := (hb.cell (World.block_lt_of_cell? _ _ (hHeld.2.2.2))).trans (hHeld.2.2.2)
 replace HO333 := ka (Kd.R_below (zR HO333.out) hb)
 have BK335 := ka (hbox)
 have GW335 := ka (zG hg (zL HB.out))
 have GE335 := ka (zG hg (zL HB.out))
 replace HB := ka (below_step (zL HB.out) hb)
 have NB328_335 := ka (zNK hg BK328.out)
 have NB335_328 := ka (zOK hg BK328.out)
 replace BK328 := ka (zB BK328.out hb)
 have NB329_335 := ka (zNK hg BK329.out)
 have NB335_329 := ka (zOK hg BK329.out)
 replace BK329 := ka (zB BK329.out hb)
 clear hb hbox hg
 refine hK.out _ _ ⟨zc BK328.out 0, zc BK328.out 1, zc BK328.out 2, HS3_⟩ (fun hHeld => ?_)
 clear hK K
 refine znm (N := some 5) (h := ?_)
 refine one_ (i := 7) (N := none) #[true, true, true, true, true, true, true, true] rfl rfl (one_of HT_.out (by kernel_rfl)) (by decide) (fun K hK => ?_)
 have hs23 : w22.cell? ⟨gb335, 0, none⟩ = some (.int .i64 0) := zc BK335.out 0
 have hfs23 := blk_frozen BK335.out 0
 have hns23_0 := NB328_335.out
 have hns23_1 := NB329_335.out
 have hms23_0 := NB335_328.out
 have hms23_1 := NB335_329.out
 have hs24 : w22.cell? ⟨gb335, 1, none⟩ = some (.int .i64 0) := zc BK335.out 1
 have hfs24 := blk_frozen BK335.out 1
 have hns24_0 := NB328_335.out
 have hns24_1 := NB329_335.out
 have hms24_0 := NB335_328.out
 have hms24_1 := NB335_329.out
 have hs25 : w22.cell? ⟨gb335, 2, none⟩ = some (.string ⟨#[]⟩) := zc BK335.out 2
 have hfs25 := blk_frozen BK335.out 2
 have hns25_0 := NB328_335.out
 have hns25_1 := NB329_335.out
 have hms25_0 := NB335_328.out
 have hms25_1 := NB335_329.out
 have hs26 : w22.cell? ⟨gb335, 3, none⟩ = some (.string ⟨#[]⟩) := zc BK335.out 3
 have hfs26 := blk_frozen BK335.out 3
 have hns26_0 := NB328_335.out
 have hns26_1 := NB329_335.out
 have hms26_0 := NB335_328.out
 have hms26_1 := NB335_329.out
 have hs27 : w22.cell? ⟨gb335, 4, none⟩ = some (.string ⟨#[]⟩) := zc BK335.out 4
 have hfs27 := blk_frozen BK335.out 4
 have hns27_0 := NB328_335.out
 have hns27_1 := NB329_335.out
 have hms27_0 := NB335_328.out
 have hms27_1 := NB335_329.out
 have hs28 : w22.cell? ⟨gb335, 5, none⟩ = some (.string ⟨#[]⟩) := zc BK335.out 5
 have hfs28 := blk_frozen BK335.out 5
 have hns28_0 := NB328_335.out
 have hns28_1 := NB329_335.out
 have hms28_0 := NB335_328.out
 have hms28_1 := NB335_329.out
 have hs29 : w22.cell? ⟨gb335, 6, none⟩ = some (.string ⟨#[]⟩) := zc BK335.out 6
 have hfs29 := blk_frozen BK335.out 6
 have hns29_0 := NB328_335.out
 have hns29_1 := NB329_335.out
 have hms29_0 := NB335_328.out
 have hms29_1 := NB335_329.out
 have hs30 : w22.cell? ⟨gb335, 7, none⟩ = some (.string ⟨#[]⟩) := zc BK335.out 7
 have hfs30 := blk_frozen BK335.out 7
 have hns30_0 := NB328_335.out
 have hns30_1 := NB329_335.out
 have hms30_0 := NB335_328.out
 have hms30_1 := NB335_329.out
 have hs31 : w22.cell? ⟨gb335, 8, none⟩ = some (.string ⟨#[]⟩) := zc BK335.out 8
 have hfs31 := blk_frozen BK335.out 8
 have hns31_0 := NB328_335.out
 have hns31_1 := NB329_335.out
 have hms31_0 := NB335_328.out
 have hms31_1 := NB335_329.out
 have hs32 : w22.cell? ⟨gb335, 9, none⟩ = some (.slice none 0 0) := zc BK335.out 9
 have hfs32 := blk_frozen BK335.out 9
 have hns32_0 := NB328_335.out
 have hns32_1 := NB329_335.out
 have hms32_0 := NB335_328.out
 have hms32_1 := NB335_329.out
 refine skip_ (w1 := ?_) (by rfl) rfl ?_ ?_
 rotate_left
 ·go_simp
  rfl
 refine hK.out _ _ ⟨(zW NB328_335.out hHeld.1), (zW NB328_335.out hHeld.2.1), (zW NB328_335.out hHeld.2.2.1), ((cell_far (p := ⟨gb335, _, none⟩) (by first | exact Kd.own_blk (Kd.R_ne HO333.out BK335.out (by decide)) | (rw [add_block]; exact Kd.own_blk (Kd.R_ne HO333.out BK335.out (by decide))) | (show (Addr.add _ _).block ≠ _; rw [add_block]; exact Kd.own_blk (Kd.R_ne HO333.out BK335.out (by decide))) | (dsimp only; exact Kd.own_blk (Kd.R_ne HO333.out BK335.out (by decide)))) _).trans (((cell_far (p := ⟨gb335, _, none⟩) (by first | exact Kd.own_blk (Kd.R_ne HO333.out BK335.out (by decide)) | (rw [add_block]; exact Kd.own_blk (Kd.R_ne HO333.out BK335.out (by decide))) | (show (Addr.add _ _).block ≠ _; rw [add_block]; exact Kd.own_blk (Kd.R_ne HO333.out BK335.out (by decide))) | (dsimp only; exact Kd.own_blk (Kd.R_ne HO333.out BK335.out (by decide)))) _).trans (((cell_far (p := ⟨gb335, _, none⟩) (by first | exact Kd.own_blk (Kd.R_ne HO333.out BK335.out (by decide)) | (rw [add_block]; exact Kd.own_blk (Kd.R_ne HO333.out BK335.out (by decide))) | (show (Addr.add _ _).block ≠ _; rw [add_block]; exact Kd.own_blk (Kd.R_ne HO333.out BK335.out (by decide))) | (dsimp only; exact Kd.own_blk (Kd.R_ne HO333.out BK335.out (by decide)))) _).trans (((cell_far (p := ⟨gb335, _, none⟩) (by first | exact Kd.own_blk (Kd.R_ne HO333.out BK335.out (by decide)) | (rw [add_block]; exact Kd.own_blk (Kd.R_ne HO333.out BK335.out (by decide))) | (show (Addr.add _ _).block ≠ _; rw [add_block]; exact Kd.own_blk (Kd.R_ne HO333.out BK335.out (by decide))) | (dsimp only; exact Kd.own_blk (Kd.R_ne HO333.out BK335.out (by decide)))) _).trans (((cell_far (p := ⟨gb335, _, none⟩) (by first | exact Kd.own_blk (Kd.R_ne HO333.out BK335.out (by decide)) | (rw [add_block]; exact Kd.own_blk (Kd.R_ne HO333.out BK335.out (by decide))) | (show (Addr.add _ _).block ≠ _; rw [add_block]; exact Kd.own_blk (Kd.R_ne HO333.out BK335.out (by decide))) | (dsimp only; exact Kd.own_blk (Kd.R_ne HO333.out BK335.out (by decide)))) _).trans (((cell_far (p := ⟨gb335, _, none⟩) (by first | exact Kd.own_blk (Kd.R_ne HO333.out BK335.out (by decide)) | (rw [add_block]; exact Kd.own_blk (Kd.R_ne HO333.out BK335.out (by decide))) | (show (Addr.add _ _).block ≠ _; rw [add_block]; exact Kd.own_blk (Kd.R_ne HO333.out BK335.out (by decide))) | (dsimp only; exact Kd.own_blk (Kd.R_ne HO333.out BK335.out (by decide)))) _).trans (((cell_far (p := ⟨gb335, _, none⟩) (by first | exact Kd.own_blk (Kd.R_ne HO333.out BK335.out (by decide)) | (rw [add_block]; exact Kd.own_blk (Kd.R_ne HO333.out BK335.out (by decide))) | (show (Addr.add _ _).block ≠ _; rw [add_block]; exact Kd.own_blk (Kd.R_ne HO333.out BK335.out (by decide))) | (dsimp only; exact Kd.own_blk (Kd.R_ne HO333.out BK335.out (by decide)))) _).trans (((cell_far (p := ⟨gb335, _, none⟩) (by first | exact Kd.own_blk (Kd.R_ne HO333.out BK335.out (by decide)) | (rw [add_block]; exact Kd.own_blk (Kd.R_ne HO333.out BK335.out (by decide))) | (show (Addr.add _ _).block ≠ _; rw [add_block]; exact Kd.own_blk (Kd.R_ne HO333.out BK335.out (by decide))) | (dsimp only; exact Kd.own_blk (Kd.R_ne HO333.out BK335.out (by decide)))) _).trans (((cell_far (p := ⟨gb335, _, none⟩) (by first | exact Kd.own_blk (Kd.R_ne HO333.out BK335.out (by decide)) | (rw [add_block]; exact Kd.own_blk (Kd.R_ne HO333.out BK335.out (by decide))) | (show (Addr.add _ _).block ≠ _; rw [add_block]; exact Kd.own_blk (Kd.R_ne HO333.out BK335.out (by decide))) | (dsimp only; exact Kd.own_blk (Kd.R_ne HO333.out BK335.out (by decide)))) _).trans (((cell_far (p := ⟨gb335, _, none⟩) (by first | exact Kd.own_blk (Kd.R_ne HO333.out BK335.out (by decide)) | (rw [add_block]; exact Kd.own_blk (Kd.R_ne HO333.out BK335.out (by decide))) | (show (Addr.add _ _).block ≠ _; rw [add_block]; exact Kd.own_blk (Kd.R_ne HO333.out BK335.out (by decide))) | (dsimp only; exact Kd.own_blk (Kd.R_ne HO333.out BK335.out (by decide)))) _).trans (hHeld.2.2.2))))))))))))))))))))⟩ (fun hHeld => ?_)
 clear hK K
 refine done_ (done_of HT_.out (by kernel_rfl)) ?_
 try go_wp2
 replace HO333 : Aside0 (Kd.R Kd.string 9 ((((((((((w22.setCell ⟨gb335, 0, none⟩ (.int .i64 0)).setCell ⟨gb335, 1, none⟩ (.int .i64 a0_0)).setCell ⟨gb335, 2, none⟩ (.string (rdOf ByteArray.empty t331 0))).setCell ⟨gb335, 3, none⟩ (.string ⟨#[]⟩)).setCell ⟨gb335, 4, none⟩ (.string ⟨#[]⟩)).setCell ⟨gb335, 5, none⟩ (.string ⟨#[]⟩)).setCell ⟨gb335, 6, none⟩ (.string ⟨#[]⟩)).setCell ⟨gb335, 7, none⟩ (.string ⟨#[]⟩)).setCell ⟨gb335, 8, none⟩ (.string ⟨#[]⟩)).setCell ⟨gb335, 9, none⟩ (.slice none 0 0)) w.heap.size (fun _ => True) (.slice (some ad334) t331.length co20) t331) := ⟨by (with_reducible repeat (first | apply Kd.R_alloc | apply Kd.R_drewN | apply Kd.R_drew)); exact Kd.R_mono (zNT HO333.out BK335.out) (fun _ hk => trivial)⟩
 replace BK328 : Aside0 (((((((((((w22.setCell ⟨gb335, 0, none⟩ (.int .i64 0)).setCell ⟨gb335, 1, none⟩ (.int .i64 a0_0)).setCell ⟨gb335, 2, none⟩ (.string (rdOf ByteArray.empty t331 0))).setCell ⟨gb335, 3, none⟩ (.string ⟨#[]⟩)).setCell ⟨gb335, 4, none⟩ (.string ⟨#[]⟩)).setCell ⟨gb335, 5, none⟩ (.string ⟨#[]⟩)).setCell ⟨gb335, 6, none⟩ (.string ⟨#[]⟩)).setCell ⟨gb335, 7, none⟩ (.string ⟨#[]⟩)).setCell ⟨gb335, 8, none⟩ (.string ⟨#[]⟩)).setCell ⟨gb335, 9, none⟩ (.slice none 0 0)).heap[gb328]? = some (.cells #[.int .i64 a0_0, .bool a0_1, .string t330] 53 (0, 0))) := ⟨zK BK328.out⟩
 replace BK329 : Aside0 (((((((((((w22.setCell ⟨gb335, 0, none⟩ (.int .i64 0)).setCell ⟨gb335, 1, none⟩ (.int .i64 a0_0)).setCell ⟨gb335, 2, none⟩ (.string (rdOf ByteArray.empty t331 0))).setCell ⟨gb335, 3, none⟩ (.string ⟨#[]⟩)).setCell ⟨gb335, 4, none⟩ (.string ⟨#[]⟩)).setCell ⟨gb335, 5, none⟩ (.string ⟨#[]⟩)).setCell ⟨gb335, 6, none⟩ (.string ⟨#[]⟩)).setCell ⟨gb335, 7, none⟩ (.string ⟨#[]⟩)).setCell ⟨gb335, 8, none⟩ (.string ⟨#[]⟩)).setCell ⟨gb335, 9, none⟩ (.slice none 0 0)).heap[gb329]? = some (.cells #[.int .i64 0, .int .i64 0, .string ⟨#[]⟩, .string ⟨#[]⟩, .string ⟨#[]⟩, .string ⟨#[]⟩, .string ⟨#[]⟩, .string ⟨#[]⟩, .string ⟨#[]⟩, .slice none 0 0] 64 (0, 0))) := ⟨zK BK329.out⟩
 replace BK335 : Aside0 (((((((((((w22.setCell ⟨gb335, 0, none⟩ (.int .i64 0)).setCell ⟨gb335, 1, none⟩ (.int .i64 a0_0)).setCell ⟨gb335, 2, none⟩ (.string (rdOf ByteArray.empty t331 0))).setCell ⟨gb335, 3, none⟩ (.string ⟨#[]⟩)).setCell ⟨gb335, 4, none⟩ (.string ⟨#[]⟩)).setCell ⟨gb335, 5, none⟩ (.string ⟨#[]⟩)).setCell ⟨gb335, 6, none⟩ (.string ⟨#[]⟩)).setCell ⟨gb335, 7, none⟩ (.string ⟨#[]⟩)).setCell ⟨gb335, 8, none⟩ (.string ⟨#[]⟩)).setCell ⟨gb335, 9, none⟩ (.slice none 0 0)).heap[gb335]? = some (.cells #[.int .i64 0, .int .i64 a0_0, .string (rdOf ByteArray.empty t331 0), .string ⟨#[]⟩, .string ⟨#[]⟩, .string ⟨#[]⟩, .string ⟨#[]⟩, .string ⟨#[]⟩, .string ⟨#[]⟩, .slice none 0 0] 64 (0, 0))) := ⟨zP10 BK335.out⟩
 replace HB : Aside0 (Below w.heap.size w ((((((((((w22.setCell ⟨gb335, 0, none⟩ (.int .i64 0)).setCell ⟨gb335, 1, none⟩ (.int .i64 a0_0)).setCell ⟨gb335, 2, none⟩ (.string (rdOf ByteArray.empty t331 0))).setCell ⟨gb335, 3, none⟩ (.string ⟨#[]⟩)).setCell ⟨gb335, 4, none⟩ (.string ⟨#[]⟩)).setCell ⟨gb335, 5, none⟩ (.string ⟨#[]⟩)).setCell ⟨gb335, 6, none⟩ (.string ⟨#[]⟩)).setCell ⟨gb335, 7, none⟩ (.string ⟨#[]⟩)).setCell ⟨gb335, 8, none⟩ (.string ⟨#[]⟩)).setCell ⟨gb335, 9, none⟩ (.slice none 0 0))) := ⟨zL HB.out⟩
 repeat rw [zDC]
 repeat rw [zDD]
 generalize ((((((((((w22.setCell ⟨gb335, 0, none⟩ (.int .i64 0)).setCell ⟨gb335, 1, none⟩ (.int .i64 a0_0)).setCell ⟨gb335, 2, none⟩ (.string (rdOf ByteArray.empty t331 0))).setCell ⟨gb335, 3, none⟩ (.string ⟨#[]⟩)).setCell ⟨gb335, 4, none⟩ (.string ⟨#[]⟩)).setCell ⟨gb335, 5, none⟩ (.string ⟨#[]⟩)).setCell ⟨gb335, 6, none⟩ (.string ⟨#[]⟩)).setCell ⟨gb335, 7, none⟩ (.string ⟨#[]⟩)).setCell ⟨gb335, 8, none⟩ (.string ⟨#[]⟩)).setCell ⟨gb335, 9, none⟩ (.slice none 0 0)) = w33 at HO333 BK328 BK329 BK335 HB ⊢
 replace HO333 := ka (Kd.R_drew HO333.out)
 replace BK328 := ka (blk_drew BK328.out)
 replace BK329 := ka (blk_drew BK329.out)
 replace BK335 := ka (blk_drew BK335.out)
 replace HB := ka (below_drew1 HB.out)
 have p336 : 0 ≤ (0 : Int) := (by omega)
 have q336 : 0 < (t331.length : Int) := zD
 obtain ⟨ad336, e336, hx336_0⟩ := Kd.at_string (Kd.R_reads' HO333.out).2.2 0 p336 q336
 obtain rfl : ad334 = ad336 := (by injection e336)
 have qi336 : (0 < t331.length) = True := eq_true (by omega)
 (try rw [show ((0 : Int)).toNat = 0 from rfl] at hx336_0)
 (try rw [Addr.add_zero'] at hx336_0)
 replace p336 := eq_true p336
 replace q336 := eq_true q336
 refine start_ (n := 7) (S := fun w' => w'.cell? ⟨gb328, 0, none⟩ = some (.int .i64 a0_0) ∧ w'.cell? ⟨gb328, 1, none⟩ = some (.bool a0_1) ∧ w'.cell? ⟨gb328, 2, none⟩ = some (.string t330) ∧ w'.cell? ad334 = some (.string (rdOf ByteArray.empty t331 0))) (ds := []) #[false, false, false, false, false, false, false] (by kernel_rfl) rfl rfl ⟨zc BK328.out 0, zc BK328.out 1, zc BK328.out 2, hx336_0⟩ (fun hHeld => ?_)
 generalize w33.drew = w34 at HO333 BK328 BK329 BK335 HB hx336_0 hHeld ⊢
 refine zkp 0 (N := some 30) (h := ?_)
 refine zkp 2 (N := some 32) (h := ?_)
 refine zkp 3 (N := some 33) (h := ?_)
 refine zkt 1 (N := some 31) hHeld (h := ?_)
 refine zkt 4 (N := some 34) hHeld (h := ?_)
 refine one_ (i := 5) (N := some 35) #[true, true, true, true, true, true, false] rfl rfl (by kernel_rfl) (by decide) (fun K hK => ?_)
 refine goes_ Tryd.func48 (by kernel_rfl) rfl #[.string t330, .string (rdOf ByteArray.empty t331 0)] (by rfl) rfl rfl zA ?_
 with_reducible refine (cooperageref9_behind.calls k t330 (rdOf ByteArray.empty t331 0) t337 _ A13.out).mono ?_
 rintro e w' ⟨rfl, ⟨nd, rfl⟩⟩
 refine ⟨_, rfl, ?_⟩
 refine hK.out _ _ ⟨zc BK328.out 0, zc BK328.out 1, zc BK328.out 2, hHeld.2.2.2⟩ (fun hHeld => ?_)
 clear hK K
 refine znm (N := some 35) (h := ?_)
 refine zkp 6 (N := some 6) (h := ?_)
 refine done_ (by kernel_rfl) ?_
 have p338 : 0 ≤ (0 : Int) := (by omega)
 have q338 : 0 < (t331.length : Int) := zD
 obtain ⟨ad338, e338, hx338_0⟩ := Kd.at_string (Kd.R_reads' HO333.out).2.2 0 p338 q338
 obtain rfl : ad334 = ad338 := (by injection e338)
 have qi338 : (0 < t331.length) = True := eq_true (by omega)
 (try rw [show ((0 : Int)).toNat = 0 from rfl] at hx338_0)
 (try rw [Addr.add_zero'] at hx338_0)
 replace p338 := eq_true p338
 replace q338 := eq_true q338
 go_upto_if 39 with (fail)
 go_cut [39] (fun v39 wc => ∃ (kq : Nat) (x39_13 : Bool), v39 = .bool x39_13 ∧ Aside0 (cooperageref9_one.j0 kq t331 t337 (rdOf ByteArray.empty t331 0) x39_13 a0_0 a0_1 t330 0 a0_0 (rdOf ByteArray.empty t331 0) (⟨#[]⟩ : ByteArray) (⟨#[]⟩ : ByteArray) (⟨#[]⟩ : ByteArray) (⟨#[]⟩ : ByteArray) (⟨#[]⟩ : ByteArray) (⟨#[]⟩ : ByteArray) = some (r1, r2, r3, r4, r5, r6, r7, r8, r9, r10, r11)) ∧ Aside0 (kq ≤ k) ∧ Aside0 (Kd.R Kd.string 9 wc w.heap.size (fun _ => True) (.slice (some ad334) t331.length co20) t331) ∧ Aside0 (wc.heap[gb328]? = some (.cells #[.int .i64 a0_0, .bool a0_1, .string t330] 53 (0, 0))) ∧ Aside0 (wc.heap[gb329]? = some (.cells #[.int .i64 0, .int .i64 0, .string ⟨#[]⟩, .string ⟨#[]⟩, .string ⟨#[]⟩, .string ⟨#[]⟩, .string ⟨#[]⟩, .string ⟨#[]⟩, .string ⟨#[]⟩, (.slice none 0 0)] 64 (0, 0))) ∧ Aside0 (wc.heap[gb335]? = some (.cells #[.int .i64 0, .int .i64 a0_0, .string (rdOf ByteArray.empty t331 0), .string ⟨#[]⟩, .string ⟨#[]⟩, .string ⟨#[]⟩, .string ⟨#[]⟩, .string ⟨#[]⟩, .string ⟨#[]⟩, (.slice none 0 0)] 64 (0, 0))) ∧ Aside0 (Below w.heap.size w wc))
 case first =>
  have H := HC14.out
  clear HC14
  by_cases c35 : (rdOf ByteArray.empty t331 0).toList = ([105, 102, 101, 113] : List UInt8)
  ·rw [if_pos c35] at H
   have c35b0 := zb0 c35
   have c35b1 := zb1 c35
   clear c35
   (first | rw [c35b0] | (simp only [i64_w, i32_w]; rw [c35b0]) | rw [isE_ c35b0] | skip)
   have H' := ka H
   clear H
   go_wp2
   go_meet
   case rel => exact ⟨_, (((rdOf ByteArray.empty t331 0).toList == ([105, 102, 101, 113] : List UInt8))), zS, H', ⟨by first | omega | exact Nat.le_refl _⟩, ⟨zR HO333.out⟩, ⟨zK BK328.out⟩, ⟨zK BK329.out⟩, ⟨zK BK335.out⟩, ⟨zL HB.out⟩⟩
  rw [if_neg c35] at H
  have c35b0 := zn0 c35
  have c35b1 := zn1 c35
  (first | rw [c35b0] | (simp only [i64_w, i32_w]; rw [c35b0]) | rw [isE_ c35b0] | skip)
  have H' := ka H
  clear H
  go_wp2
  go_meet
  case rel => exact ⟨_, (((rdOf ByteArray.empty t331 0).toList == ([105, 102, 110, 101, 113] : List UInt8))), zS, H', ⟨by first | omega | exact Nat.le_refl _⟩, ⟨zR HO333.out⟩, ⟨zK BK328.out⟩, ⟨zK BK329.out⟩, ⟨zK BK335.out⟩, ⟨zL HB.out⟩⟩
 case rest =>
  clear HC14
  try clear c4
  try clear c4b0
  try clear c4b1
  try clear c4b2
  try clear c12
  try clear c12b0
  try clear c12b1
  try clear z11_0 z11_1 z11_2 z11_3 z11_4 z11_5 z11_6 z11_7 z11_8 z11_9
  try clear z18_0 z18_1 z18_2
  try clear y11_0 y11_1 y11_2 y11_3 y11_4 y11_5 y11_6 y11_7 y11_8 y11_9
  try clear y18_0 y18_1 y18_2
  try clear hx334_0
  try clear hx336_0
  try clear hx338_0
  try clear p334
  try clear p336
  try clear p338
  try clear q334
  try clear q336
  try clear q338
  obtain ⟨kq, x39_13, rfl, HA, HJ13, HO_4, BK328, BK329, BK335, HB⟩ := hcut
  cases kq with
  | zero => exact absurd HA.out (by simp [cooperageref9_one.j0])
  | succ kj13 =>
   have H := HA.out
   clear HA
   simp only [cooperageref9_one.j0] at H
   by_cases c36 : x39_13 = true
   ·subst c36
    rw [if_pos rfl] at H
    have HC37 := ka H
    clear H
    have hnb38 := NB335_328.out
    have hnc38 := NB328_335.out
    have hnb39 := NB335_329.out
    have hnc39 := NB329_335.out
    obtain ⟨z40_0, z40_1, z40_2, z40_3, z40_4, z40_5, z40_6, z40_7, z40_8, z40_9, y40_0, y40_1, y40_2, y40_3, y40_4, y40_5, y40_6, y40_7, y40_8, y40_9⟩ := zC10 BK335.out
    go_upto_region 11 with (fail)
    go_cut [58] (fun v58 wc => ∃ (kq : Nat) (x58_36 : Bool), v58 = .bool x58_36 ∧ Aside0 (cooperageref9_one.j1 kq t337 x58_36 3 a0_0 (rdOf ByteArray.empty t331 0) (⟨#[]⟩ : ByteArray) (⟨#[]⟩ : ByteArray) (⟨#[]⟩ : ByteArray) (⟨#[]⟩ : ByteArray) (⟨#[]⟩ : ByteArray) (⟨#[]⟩ : ByteArray) = some (r1, r2, r3, r4, r5, r6, r7, r8, r9, r10, r11)) ∧ Aside0 (kq ≤ kj13) ∧ Aside0 (wc.heap[gb328]? = some (.cells #[.int .i64 a0_0, .bool a0_1, .string t330] 53 (0, 0))) ∧ Aside0 (wc.heap[gb329]? = some (.cells #[.int .i64 0, .int .i64 0, .string ⟨#[]⟩, .string ⟨#[]⟩, .string ⟨#[]⟩, .string ⟨#[]⟩, .string ⟨#[]⟩, .string ⟨#[]⟩, .string ⟨#[]⟩, (.slice none 0 0)] 64 (0, 0))) ∧ Aside0 (wc.heap[gb335]? = some (.cells #[.int .i64 3, .int .i64 a0_0, .string (rdOf ByteArray.empty t331 0), .string ⟨#[]⟩, .string ⟨#[]⟩, .string ⟨#[]⟩, .string ⟨#[]⟩, .string ⟨#[]⟩, .string ⟨#[]⟩, (.slice none 0 0)] 64 (0, 0))) ∧ Aside0 (Below w.heap.size w wc))
    case first =>
     have H := HC37.out
     clear HC37
     by_cases c41 : (t337.size : Int) < 2
     ·rw [if_pos c41] at H
      have c41b0 := zdt c41
      have c41b1 : decide (t337.size < 2) = true := decide_eq_true (by omega)
      clear c41
      (first | rw [c41b0] | (simp only [i64_w, i32_w]; rw [c41b0]) | rw [isE_ c41b0] | skip)
      have H' := ka H
      clear H
      go_wp2
      go_meet
      case rel => exact ⟨_, (true), zS, H', ⟨by have := HJ13.out; first | omega | exact Nat.le_refl _⟩, ⟨zK BK328.out⟩, ⟨zK BK329.out⟩, ⟨by (with_reducible repeat (first | refine blk_drewN ?_ _ | refine blk_drew ?_ | refine blk_alloc ?_ _)); refine blk_put (cs := #[.int .i64 0, .int .i64 a0_0, .string (rdOf ByteArray.empty t331 0), .string ⟨#[]⟩, .string ⟨#[]⟩, .string ⟨#[]⟩, .string ⟨#[]⟩, .string ⟨#[]⟩, .string ⟨#[]⟩, .slice none 0 0]) ?_ 0 _ rfl; (with_reducible repeat (first | refine blk_drewN ?_ _ | refine blk_drew ?_ | refine blk_alloc ?_ _)); exact BK335.out⟩, ⟨zL HB.out⟩⟩
     rw [if_neg c41] at H
     have c41b0 := zdf c41
     have c41b1 : decide (t337.size < 2) = false := decide_eq_false (by omega)
     clear c41
     (first | rw [c41b0] | (simp only [i64_w, i32_w]; rw [c41b0]) | rw [isE_ c41b0] | skip)
     replace H := zif H
     obtain ⟨c42, H⟩ := H
     have c42b0 := zdt c42
     have c42b1 : decide (0 < t337.size) = true := decide_eq_true (by omega)
     clear c42
     by_cases c44 : (bt t337 0) = 40
     ·rw [if_pos c44] at H
      have c44b0 := zb0 c44
      have c44b1 := zb1 c44
      clear c44
      obtain ⟨ji45, hji45⟩ : ∃ j_ : Int, (wrap64 ((t337.size : Int) - 1)) = j_ := ⟨_, rfl⟩
      replace H : (if 0 ≤ (ji45) then (if (ji45) < (t337.size : Int) then (cooperageref9_one.j1 kj13 t337 ((bt t337 (ji45)) != 41) 3 a0_0 (rdOf ByteArray.empty t331 0) (⟨#[]⟩ : ByteArray) (⟨#[]⟩ : ByteArray) (⟨#[]⟩ : ByteArray) (⟨#[]⟩ : ByteArray) (⟨#[]⟩ : ByteArray) (⟨#[]⟩ : ByteArray)) else (none)) else (none)) = some (r1, r2, r3, r4, r5, r6, r7, r8, r9, r10, r11) := by first | (rw [hji45] at H; exact H) | (simp only [hji45] at H ⊢; exact H)
      have hji45w : (IntKind.i64.wrap ((t337.size : Int) - 1)) = ji45 := (i64_w _).trans hji45
      replace H := zif H
      obtain ⟨c46, H⟩ := H
      have c46b0 := zdt c46
      clear c46
      replace H := zif H
      obtain ⟨c47, H⟩ := H
      have c47b0 := zdt c47
      clear c47
      have H' := ka H
      clear H
      have p43 : 0 ≤ (0 : Int) := (by omega)
      have q43 : 0 < t337.size := (by have : (0 : Int) < (t337.size : Int) := zD; omega)
      have hx43 : ∀ h : 0 < t337.size, ((t337[0]'h).toNat : Int) = bt t337 0 := bt_at t337 0
      clear p43
      have qi43 : (0 < (t337.size : Int)) = True := eq_true zD
      replace q43 := eq_true q43
      have p48 : 0 ≤ ((ji45) : Int) := zD
      have q48 : (ji45) < (t337.size : Int) := zD
      have hx48 := bt_at t337 (ji45)
      replace p48 := eq_true p48
      replace q48 := eq_true q48
      go_wp2
      go_meet
      case rel => exact ⟨_, (((bt t337 (ji45)) != 41)), (by first | rfl | (simp; done) | (simp only [← hji45] <;> (first | rfl | simp)) | (simp [*]; done)), H', ⟨by have := HJ13.out; first | omega | exact Nat.le_refl _⟩, ⟨zK BK328.out⟩, ⟨zK BK329.out⟩, ⟨by (with_reducible repeat (first | refine blk_drewN ?_ _ | refine blk_drew ?_ | refine blk_alloc ?_ _)); refine blk_put (cs := #[.int .i64 0, .int .i64 a0_0, .string (rdOf ByteArray.empty t331 0), .string ⟨#[]⟩, .string ⟨#[]⟩, .string ⟨#[]⟩, .string ⟨#[]⟩, .string ⟨#[]⟩, .string ⟨#[]⟩, .slice none 0 0]) ?_ 0 _ rfl; (with_reducible repeat (first | refine blk_drewN ?_ _ | refine blk_drew ?_ | refine blk_alloc ?_ _)); exact BK335.out⟩, ⟨zL HB.out⟩⟩
     rw [if_neg c44] at H
     have c44b0 := zn0 c44
     have c44b1 := zn1 c44
     have H' := ka H
     clear H
     have p43 : 0 ≤ (0 : Int) := (by omega)
     have q43 : 0 < t337.size := (by have : (0 : Int) < (t337.size : Int) := zD; omega)
     have hx43 : ∀ h : 0 < t337.size, ((t337[0]'h).toNat : Int) = bt t337 0 := bt_at t337 0
     clear p43
     have qi43 : (0 < (t337.size : Int)) = True := eq_true zD
     replace q43 := eq_true q43
     go_wp2
     go_meet
     case rel => exact ⟨_, (true), zS, H', ⟨by have := HJ13.out; first | omega | exact Nat.le_refl _⟩, ⟨zK BK328.out⟩, ⟨zK BK329.out⟩, ⟨by (with_reducible repeat (first | refine blk_drewN ?_ _ | refine blk_drew ?_ | refine blk_alloc ?_ _)); refine blk_put (cs := #[.int .i64 0, .int .i64 a0_0, .string (rdOf ByteArray.empty t331 0), .string ⟨#[]⟩, .string ⟨#[]⟩, .string ⟨#[]⟩, .string ⟨#[]⟩, .string ⟨#[]⟩, .string ⟨#[]⟩, .slice none 0 0]) ?_ 0 _ rfl; (with_reducible repeat (first | refine blk_drewN ?_ _ | refine blk_drew ?_ | refine blk_alloc ?_ _)); exact BK335.out⟩, ⟨zL HB.out⟩⟩
    case rest =>
     clear HC37
     try clear c4
     try clear c4b0
     try clear c4b1
     try clear c4b2
     try clear c12
     try clear c12b0
     try clear c12b1
     try clear c36
     try clear z11_0 z11_1 z11_2 z11_3 z11_4 z11_5 z11_6 z11_7 z11_8 z11_9
     try clear z18_0 z18_1 z18_2
     try clear z40_0 z40_1 z40_2 z40_3 z40_4 z40_5 z40_6 z40_7 z40_8 z40_9
     try clear y11_0 y11_1 y11_2 y11_3 y11_4 y11_5 y11_6 y11_7 y11_8 y11_9
     try clear y18_0 y18_1 y18_2
     try clear y40_0 y40_1 y40_2 y40_3 y40_4 y40_5 y40_6 y40_7 y40_8 y40_9
     try clear hx334_0
     try clear hx336_0
     try clear hx338_0
     try clear p334
     try clear p336
     try clear p338
     try clear q334
     try clear q336
     try clear q338
     obtain ⟨kq, x58_36, rfl, HA, HJ36, BK328, BK329, BK335, HB⟩ := hcut
     cases kq with
     | zero => exact absurd HA.out (by simp [cooperageref9_one.j1])
     | succ kj36 =>
      have H := HA.out
      clear HA
      simp only [cooperageref9_one.j1] at H
      by_cases c49 : x58_36 = true
      ·subst c49
       rw [if_pos rfl] at H
       replace H := zs11 H
       obtain ⟨rfl, rfl, rfl, rfl, rfl, rfl, rfl, rfl, rfl, rfl, rfl⟩ := H
       have hnb50 := NB335_328.out
       have hnc50 := NB328_335.out
       have hnb51 := NB335_329.out
       have hnc51 := NB329_335.out
       obtain ⟨z52_0, z52_1, z52_2, z52_3, z52_4, z52_5, z52_6, z52_7, z52_8, z52_9, y52_0, y52_1, y52_2, y52_3, y52_4, y52_5, y52_6, y52_7, y52_8, y52_9⟩ := zC10 BK335.out
       have hnb53 := NB329_328.out
       have hnc53 := NB328_329.out
       obtain ⟨z54_0, z54_1, z54_2, z54_3, z54_4, z54_5, z54_6, z54_7, z54_8, z54_9, y54_0, y54_1, y54_2, y54_3, y54_4, y54_5, y54_6, y54_7, y54_8, y54_9⟩ := zC10 BK329.out
       go_wp2
       refine bodyPost_ret (results_ct rfl _ _ gb329 64 #[.int .i64 3, .int .i64 a0_0, .string (rdOf ByteArray.empty t331 0), .string ⟨#[]⟩, .string ⟨#[]⟩, .string ⟨#[]⟩, .string ⟨#[]⟩, .string ⟨#[]⟩, .string ⟨#[]⟩, .slice none 0 0] (0, 0) _ rfl (zP10 BK329.out) Tryd.underlying64 rfl (by kernel_rfl)) rfl ?_
       exact ⟨_, zE, zNl, zL HB.out⟩
      replace c49 := Bool.eq_false_iff.mpr c49
      subst c49
      rw [if_neg (show ¬ (false = true) by decide)] at H
      replace H := zif H
      obtain ⟨c55, H⟩ := H
      have c55b0 := eq_true c55
      have c55b1 := zdt c55
      clear c55
      replace H := zif H
      obtain ⟨c56, H⟩ := H
      have c56b0 := eq_true c56
      have c56b1 := zdt c56
      clear c56
      obtain ⟨y339, hy339⟩ : ∃ y_ : List ByteArray, y_ = (([(⟨#[44]⟩ : ByteArray)] : List ByteArray)) := ⟨_, rfl⟩
      replace H : ((cooperageref9_Cut.f kj36 (t337.extract 1 ((wrap64 ((t337.size : Int) - 1)) : Int).toNat) y339).bind fun bt342 => ((cooperageref1_Trim.f kj36 bt342.1).bind fun t345 => ((cooperageref1_Trim.f kj36 bt342.2.2).bind fun t346 => (some (3, a0_0, (rdOf ByteArray.empty t331 0), t345, t346, (⟨#[]⟩ : ByteArray), (⟨#[]⟩ : ByteArray), (⟨#[]⟩ : ByteArray), (⟨#[]⟩ : ByteArray), ([] : List ByteArray), (bt342.2.1.toList != ([] : List UInt8))))))) = some (r1, r2, r3, r4, r5, r6, r7, r8, r9, r10, r11) := zH hy339 H
      have Ny339 := ka hy339
      clear hy339
      replace H := Option.bind_eq_some_iff.mp H
      obtain ⟨⟨t342, t343, t344⟩, A570, H⟩ := H
      try dsimp only at H
      have A57 := ka A570
      clear A570
      replace H := Option.bind_eq_some_iff.mp H
      obtain ⟨t345, A580, H⟩ := H
      try dsimp only at H
      have A58 := ka A580
      clear A580
      replace H := Option.bind_eq_some_iff.mp H
      obtain ⟨t346, A590, H⟩ := H
      try dsimp only at H
      have A59 := ka A590
      clear A590
      replace H := zs11 H
      obtain ⟨rfl, rfl, rfl, rfl, rfl, rfl, rfl, rfl, rfl, rfl, rfl⟩ := H
      go_wp2_with (first | ((with_reducible refine gate_dst (N := 66) rfl ?_); (try (refine gate_guard (by rfl) ?_; dsimp only)); refine Kd.R_lit Kd.string _ 9 ?hg (N := 66) ?hd (xs := ([(⟨#[44]⟩ : ByteArray)] : List ByteArray)) (inner := [.string ⟨#[44]⟩]) (ok := fun _ => True) (okp := fun _ => True) ?hr ?hp (fun _ hk => hk) trivial (Below.refl _ _) (Nat.le_refl _) (by simp) ?_; (case hd => rfl); (case hg => rfl); (case hr => (go_simp; try rfl)); (case hp => exact (Reps.one (show Kd.M Kd.string _ _ _ (⟨#[44]⟩ : ByteArray) [.string ⟨#[44]⟩] from rfl) (Reps.none _ _))); intro v340 w60 ho61 hb hg_ hnew_; clear hg_ hnew_; (first | rw [← Ny339.out] at ho61 | (simp only [Int.reduceToNat] at ho61; rw [← Ny339.out] at ho61)); have HO341 := ka (Kd.R_lower ho61 (below_size (zL HB.out))); replace BK328 := ka (zB BK328.out hb); replace BK329 := ka (zB BK329.out hb); replace BK335 := ka (zB BK335.out hb); replace HB := ka (below_step (zL HB.out) hb); clear hb ho61; obtain ⟨Ao62, co62, eo62⟩ := Kd.R_slice HO341.out; subst eo62) | ((with_reducible refine gate_callee (f := 18) rfl ?_); refine goesL_ (some 67) rfl rfl Tryd.func18 (by kernel_rfl) rfl #[.string (t337.extract 1 ((wrap64 ((t337.size : Int) - 1)) : Int).toNat), .slice Ao62 y339.length co62] rfl zA ?_; (with_reducible refine (cooperageref9_Cut.calls kj36 (t337.extract 1 ((wrap64 ((t337.size : Int) - 1)) : Int).toNat) _ _ y339 t342 t343 t344 _ ?side1 ?side2 A57.out).mono ?_); (case side1 => exact zCS (Kd.R_reads' HO341.out).2.2); (case side2 => exact (Kd.R_reads' HO341.out).2.1); rintro e w63 ⟨rfl, hb⟩; refine ⟨_, rfl, ?_⟩; replace HO341 := ka (Kd.R_below (zR HO341.out) hb); replace BK328 := ka (zB BK328.out hb); replace BK329 := ka (zB BK329.out hb); replace BK335 := ka (zB BK335.out hb); replace HB := ka (below_step (zL HB.out) hb); (try clear hb); (try clear hb2); (try clear hk); (try clear hi)) | ((with_reducible refine gate_callee (f := 40) rfl ?_); refine goesL_ (some 72) rfl rfl Tryd.func40 (by kernel_rfl) rfl #[.string t342] rfl zA ?_; (with_reducible refine (cooperageref1_Trim.calls kj36 t342 t345 _ A58.out).mono ?_); rintro e w' ⟨rfl, ⟨nd, rfl⟩⟩; refine ⟨_, rfl, ?_⟩; (try (rw [drewN_self w63]; generalize hq_ : World.drewN w63 _ = w63; have n0_ : Aside0 (Kd.R Kd.string 9 w63 w.heap.size (fun _ => True) (.slice Ao62 y339.length co62) y339) := ⟨by rw [← hq_]; exact (zR HO341.out)⟩; have n1_ : Aside0 (w63.heap[gb328]? = some (.cells #[.int .i64 a0_0, .bool a0_1, .string t330] 53 (0, 0))) := ⟨by rw [← hq_]; exact (zK BK328.out)⟩; have n2_ : Aside0 (w63.heap[gb329]? = some (.cells #[.int .i64 0, .int .i64 0, .string ⟨#[]⟩, .string ⟨#[]⟩, .string ⟨#[]⟩, .string ⟨#[]⟩, .string ⟨#[]⟩, .string ⟨#[]⟩, .string ⟨#[]⟩, .slice none 0 0] 64 (0, 0))) := ⟨by rw [← hq_]; exact (zK BK329.out)⟩; have n3_ : Aside0 (w63.heap[gb335]? = some (.cells #[.int .i64 3, .int .i64 a0_0, .string (rdOf ByteArray.empty t331 0), .string ⟨#[]⟩, .string ⟨#[]⟩, .string ⟨#[]⟩, .string ⟨#[]⟩, .string ⟨#[]⟩, .string ⟨#[]⟩, .slice none 0 0] 64 (0, 0))) := ⟨by rw [← hq_]; exact (zK BK335.out)⟩; have n4_ : Aside0 (Below w.heap.size w w63) := ⟨by rw [← hq_]; exact (zL HB.out)⟩; clear HO341 BK328 BK329 BK335 HB hq_; have HO341 := n0_; have BK328 := n1_; have BK329 := n2_; have BK335 := n3_; have HB := n4_; clear n0_ n1_ n2_ n3_ n4_; (try (obtain ⟨z18_0, z18_1, z18_2, y18_0, y18_1, y18_2⟩ := zC3 BK328.out)); (try (obtain ⟨z54_0, z54_1, z54_2, z54_3, z54_4, z54_5, z54_6, z54_7, z54_8, z54_9, y54_0, y54_1, y54_2, y54_3, y54_4, y54_5, y54_6, y54_7, y54_8, y54_9⟩ := zC10 BK329.out)); (try (obtain ⟨z52_0, z52_1, z52_2, z52_3, z52_4, z52_5, z52_6, z52_7, z52_8, z52_9, y52_0, y52_1, y52_2, y52_3, y52_4, y52_5, y52_6, y52_7, y52_8, y52_9⟩ := zC10 BK335.out)))); have hnb64 := NB335_328.out; have hnc64 := NB328_335.out; have hnb65 := NB335_329.out; have hnc65 := NB329_335.out; obtain ⟨z66_0, z66_1, z66_2, z66_3, z66_4, z66_5, z66_6, z66_7, z66_8, z66_9, y66_0, y66_1, y66_2, y66_3, y66_4, y66_5, y66_6, y66_7, y66_8, y66_9⟩ := zC10 BK335.out) | ((with_reducible refine gate_callee (f := 40) rfl ?_); refine goesL_ (some 75) rfl rfl Tryd.func40 (by kernel_rfl) rfl #[.string t344] rfl zA ?_; (with_reducible refine (cooperageref1_Trim.calls kj36 t344 t346 _ A59.out).mono ?_); rintro e w' ⟨rfl, ⟨nd, rfl⟩⟩; refine ⟨_, rfl, ?_⟩; have hnb67 := NB329_328.out; have hnc67 := NB328_329.out; obtain ⟨z68_0, z68_1, z68_2, z68_3, z68_4, z68_5, z68_6, z68_7, z68_8, z68_9, y68_0, y68_1, y68_2, y68_3, y68_4, y68_5, y68_6, y68_7, y68_8, y68_9⟩ := zC10 BK329.out))
      refine bodyPost_ret (results_ct rfl _ _ gb329 64 #[.int .i64 3, .int .i64 a0_0, .string (rdOf ByteArray.empty t331 0), .string t345, .string t346, .string ⟨#[]⟩, .string ⟨#[]⟩, .string ⟨#[]⟩, .string ⟨#[]⟩, .slice none 0 0] (0, 0) _ rfl (zP10 BK329.out) Tryd.underlying64 rfl (by kernel_rfl)) rfl ?_
      exact ⟨_, zE, zNl, zL HB.out⟩
   replace c36 := Bool.eq_false_iff.mpr c36
   subst c36
   rw [if_neg (show ¬ (false = true) by decide)] at H
   have HC69 := ka H
   clear H
   go_upto_if 80 with (fail)
   go_cut [80] (fun v80 wc => ∃ (kq : Nat) (x80_68 : Bool), v80 = .bool x80_68 ∧ Aside0 (cooperageref9_one.j2 kq t331 t337 (rdOf ByteArray.empty t331 0) x80_68 a0_0 a0_1 t330 0 a0_0 (rdOf ByteArray.empty t331 0) (⟨#[]⟩ : ByteArray) (⟨#[]⟩ : ByteArray) (⟨#[]⟩ : ByteArray) (⟨#[]⟩ : ByteArray) (⟨#[]⟩ : ByteArray) (⟨#[]⟩ : ByteArray) = some (r1, r2, r3, r4, r5, r6, r7, r8, r9, r10, r11)) ∧ Aside0 (kq ≤ kj13) ∧ Aside0 (Kd.R Kd.string 9 wc w.heap.size (fun _ => True) (.slice (some ad334) t331.length co20) t331) ∧ Aside0 (wc.heap[gb328]? = some (.cells #[.int .i64 a0_0, .bool a0_1, .string t330] 53 (0, 0))) ∧ Aside0 (wc.heap[gb329]? = some (.cells #[.int .i64 0, .int .i64 0, .string ⟨#[]⟩, .string ⟨#[]⟩, .string ⟨#[]⟩, .string ⟨#[]⟩, .string ⟨#[]⟩, .string ⟨#[]⟩, .string ⟨#[]⟩, (.slice none 0 0)] 64 (0, 0))) ∧ Aside0 (wc.heap[gb335]? = some (.cells #[.int .i64 0, .int .i64 a0_0, .string (rdOf ByteArray.empty t331 0), .string ⟨#[]⟩, .string ⟨#[]⟩, .string ⟨#[]⟩, .string ⟨#[]⟩, .string ⟨#[]⟩, .string ⟨#[]⟩, (.slice none 0 0)] 64 (0, 0))) ∧ Aside0 (Below w.heap.size w wc))
   case first =>
    have H := HC69.out
    clear HC69
    by_cases c70 : (rdOf ByteArray.empty t331 0).toList = ([105, 102, 100, 101, 102] : List UInt8)
    ·rw [if_pos c70] at H
     have c70b0 := zb0 c70
     have c70b1 := zb1 c70
     clear c70
     (first | rw [c70b0] | (simp only [i64_w, i32_w]; rw [c70b0]) | rw [isE_ c70b0] | skip)
     have H' := ka H
     clear H
     go_wp2
     go_meet
     case rel => exact ⟨_, (((rdOf ByteArray.empty t331 0).toList == ([105, 102, 100, 101, 102] : List UInt8))), zS, H', ⟨by have := HJ13.out; first | omega | exact Nat.le_refl _⟩, ⟨zR HO_4.out⟩, ⟨zK BK328.out⟩, ⟨zK BK329.out⟩, ⟨zK BK335.out⟩, ⟨zL HB.out⟩⟩
    rw [if_neg c70] at H
    have c70b0 := zn0 c70
    have c70b1 := zn1 c70
    (first | rw [c70b0] | (simp only [i64_w, i32_w]; rw [c70b0]) | rw [isE_ c70b0] | skip)
    have H' := ka H
    clear H
    go_wp2
    go_meet
    case rel => exact ⟨_, (((rdOf ByteArray.empty t331 0).toList == ([105, 102, 110, 100, 101, 102] : List UInt8))), zS, H', ⟨by have := HJ13.out; first | omega | exact Nat.le_refl _⟩, ⟨zR HO_4.out⟩, ⟨zK BK328.out⟩, ⟨zK BK329.out⟩, ⟨zK BK335.out⟩, ⟨zL HB.out⟩⟩
   case rest =>
    clear HC69
    try clear c4
    try clear c4b0
    try clear c4b1
    try clear c4b2
    try clear c12
    try clear c12b0
    try clear c12b1
    try clear c36
    try clear z11_0 z11_1 z11_2 z11_3 z11_4 z11_5 z11_6 z11_7 z11_8 z11_9
    try clear z18_0 z18_1 z18_2
    try clear y11_0 y11_1 y11_2 y11_3 y11_4 y11_5 y11_6 y11_7 y11_8 y11_9
    try clear y18_0 y18_1 y18_2
    try clear hx334_0
    try clear hx336_0
    try clear hx338_0
    try clear p334
    try clear p336
    try clear p338
    try clear q334
    try clear q336
    try clear q338
    obtain ⟨kq, x80_68, rfl, HA, HJ68, HO_4, BK328, BK329, BK335, HB⟩ := hcut
    cases kq with
    | zero => exact absurd HA.out (by simp [cooperageref9_one.j2])
    | succ kj68 =>
     have H := HA.out
     clear HA
     simp only [cooperageref9_one.j2] at H
     by_cases c71 : x80_68 = true
     case pos =>
      subst c71
      rw [if_pos rfl] at H
      replace H := Option.bind_eq_some_iff.mp H
      obtain ⟨t347, A720, H⟩ := H
      try dsimp only at H
      have A72 := ka A720
      clear A720
      replace H := zs11 H
      obtain ⟨rfl, rfl, rfl, rfl, rfl, rfl, rfl, rfl, rfl, rfl, rfl⟩ := H
      have hnb73 := NB335_328.out
      have hnc73 := NB328_335.out
      have hnb74 := NB335_329.out
      have hnc74 := NB329_335.out
      obtain ⟨z75_0, z75_1, z75_2, z75_3, z75_4, z75_5, z75_6, z75_7, z75_8, z75_9, y75_0, y75_1, y75_2, y75_3, y75_4, y75_5, y75_6, y75_7, y75_8, y75_9⟩ := zC10 BK335.out
      try go_wp2
      replace HO_4 : Aside0 (Kd.R Kd.string 9 ((wc.setCell ⟨gb335, 0, none⟩ (.int .i64 3)).setCell ⟨gb335, 3, none⟩ (.string t337)) w.heap.size (fun _ => True) (.slice (some ad334) t331.length co20) t331) := ⟨by (with_reducible repeat (first | apply Kd.R_alloc | apply Kd.R_drewN | apply Kd.R_drew)); exact Kd.R_mono (zNT HO_4.out BK335.out) (fun _ hk => trivial)⟩
      replace BK328 : Aside0 (((wc.setCell ⟨gb335, 0, none⟩ (.int .i64 3)).setCell ⟨gb335, 3, none⟩ (.string t337)).heap[gb328]? = some (.cells #[.int .i64 a0_0, .bool a0_1, .string t330] 53 (0, 0))) := ⟨zK BK328.out⟩
      replace BK329 : Aside0 (((wc.setCell ⟨gb335, 0, none⟩ (.int .i64 3)).setCell ⟨gb335, 3, none⟩ (.string t337)).heap[gb329]? = some (.cells #[.int .i64 0, .int .i64 0, .string ⟨#[]⟩, .string ⟨#[]⟩, .string ⟨#[]⟩, .string ⟨#[]⟩, .string ⟨#[]⟩, .string ⟨#[]⟩, .string ⟨#[]⟩, .slice none 0 0] 64 (0, 0))) := ⟨zK BK329.out⟩
      replace BK335 : Aside0 (((wc.setCell ⟨gb335, 0, none⟩ (.int .i64 3)).setCell ⟨gb335, 3, none⟩ (.string t337)).heap[gb335]? = some (.cells #[.int .i64 3, .int .i64 a0_0, .string (rdOf ByteArray.empty t331 0), .string t337, .string ⟨#[]⟩, .string ⟨#[]⟩, .string ⟨#[]⟩, .string ⟨#[]⟩, .string ⟨#[]⟩, .slice none 0 0] 64 (0, 0))) := ⟨by (with_reducible repeat (first | refine blk_drewN ?_ _ | refine blk_drew ?_ | refine blk_alloc ?_ _)); refine blk_put (cs := #[.int .i64 3, .int .i64 a0_0, .string (rdOf ByteArray.empty t331 0), .string ⟨#[]⟩, .string ⟨#[]⟩, .string ⟨#[]⟩, .string ⟨#[]⟩, .string ⟨#[]⟩, .string ⟨#[]⟩, .slice none 0 0]) ?_ 3 _ rfl; (with_reducible repeat (first | refine blk_drewN ?_ _ | refine blk_drew ?_ | refine blk_alloc ?_ _)); refine blk_put (cs := #[.int .i64 0, .int .i64 a0_0, .string (rdOf ByteArray.empty t331 0), .string ⟨#[]⟩, .string ⟨#[]⟩, .string ⟨#[]⟩, .string ⟨#[]⟩, .string ⟨#[]⟩, .string ⟨#[]⟩, .slice none 0 0]) ?_ 0 _ rfl; (with_reducible repeat (first | refine blk_drewN ?_ _ | refine blk_drew ?_ | refine blk_alloc ?_ _)); exact BK335.out⟩
      replace HB : Aside0 (Below w.heap.size w ((wc.setCell ⟨gb335, 0, none⟩ (.int .i64 3)).setCell ⟨gb335, 3, none⟩ (.string t337))) := ⟨zL HB.out⟩
      repeat rw [zDC]
      repeat rw [zDD]
      generalize ((wc.setCell ⟨gb335, 0, none⟩ (.int .i64 3)).setCell ⟨gb335, 3, none⟩ (.string t337)) = w76 at HO_4 BK328 BK329 BK335 HB ⊢
      replace HO_4 := ka (Kd.R_drew HO_4.out)
      replace BK328 := ka (blk_drew BK328.out)
      replace BK329 := ka (blk_drew BK329.out)
      replace BK335 := ka (blk_drew BK335.out)
      replace HB := ka (below_drew1 HB.out)
      refine start_ (n := 5) (S := fun w' => w'.cell? ⟨gb335, 0, none⟩ = some (.int .i64 3) ∧ w'.cell? ⟨gb335, 1, none⟩ = some (.int .i64 a0_0) ∧ w'.cell? ⟨gb335, 2, none⟩ = some (.string (rdOf ByteArray.empty t331 0)) ∧ w'.cell? ⟨gb335, 3, none⟩ = some (.string t337) ∧ w'.cell? ⟨gb335, 4, none⟩ = some (.string ⟨#[]⟩) ∧ w'.cell? ⟨gb335, 5, none⟩ = some (.string ⟨#[]⟩) ∧ w'.cell? ⟨gb335, 6, none⟩ = some (.string ⟨#[]⟩) ∧ w'.cell? ⟨gb335, 7, none⟩ = some (.string ⟨#[]⟩) ∧ w'.cell? ⟨gb335, 8, none⟩ = some (.string ⟨#[]⟩) ∧ w'.cell? ⟨gb335, 9, none⟩ = some (.slice none 0 0)) (ds := []) #[false, false, false, false, false] (by kernel_rfl) rfl rfl ⟨zc BK335.out 0, zc BK335.out 1, zc BK335.out 2, zc BK335.out 3, zc BK335.out 4, zc BK335.out 5, zc BK335.out 6, zc BK335.out 7, zc BK335.out 8, zc BK335.out 9⟩ (fun hHeld => ?_)
      generalize w76.drew = w77 at HO_4 BK328 BK329 BK335 HB hHeld ⊢
      refine zkp 1 (N := some 87) (h := ?_)
      refine zkt 0 (N := some 86) hHeld (h := ?_)
      refine one_ (i := 2) (N := some 88) #[true, true, true, false, false] rfl rfl (by kernel_rfl) (by decide) (fun K hK => ?_)
      refine goes_ Tryd.func16 (by kernel_rfl) rfl #[.string t337] (by rfl) rfl rfl zA ?_
      with_reducible refine (cooperageref9_Name.calls kj68 t337 t347 _ A72.out).mono ?_
      rintro e w' ⟨rfl, ⟨nd, rfl⟩⟩
      refine ⟨_, rfl, ?_⟩
      refine hK.out _ _ ⟨zc BK335.out 0, zc BK335.out 1, zc BK335.out 2, zc BK335.out 3, zc BK335.out 4, zc BK335.out 5, zc BK335.out 6, zc BK335.out 7, zc BK335.out 8, zc BK335.out 9⟩ (fun hHeld => ?_)
      clear hK K
      refine znm (N := some 88) (h := ?_)
      refine one_ (i := 3) (N := none) #[true, true, true, true, false] rfl rfl (by kernel_rfl) (by decide) (fun K hK => ?_)
      have hs78 : w77.cell? ⟨gb329, 0, none⟩ = some (.int .i64 0) := zc BK329.out 0
      have hfs78 := blk_frozen BK329.out 0
      have hns78_0 := NB328_329.out
      have hns78_2 := NB335_329.out
      have hms78_0 := NB329_328.out
      have hms78_2 := NB329_335.out
      have hs79 : w77.cell? ⟨gb329, 1, none⟩ = some (.int .i64 0) := zc BK329.out 1
      have hfs79 := blk_frozen BK329.out 1
      have hns79_0 := NB328_329.out
      have hns79_2 := NB335_329.out
      have hms79_0 := NB329_328.out
      have hms79_2 := NB329_335.out
      have hs80 : w77.cell? ⟨gb329, 2, none⟩ = some (.string ⟨#[]⟩) := zc BK329.out 2
      have hfs80 := blk_frozen BK329.out 2
      have hns80_0 := NB328_329.out
      have hns80_2 := NB335_329.out
      have hms80_0 := NB329_328.out
      have hms80_2 := NB329_335.out
      have hs81 : w77.cell? ⟨gb329, 3, none⟩ = some (.string ⟨#[]⟩) := zc BK329.out 3
      have hfs81 := blk_frozen BK329.out 3
      have hns81_0 := NB328_329.out
      have hns81_2 := NB335_329.out
      have hms81_0 := NB329_328.out
      have hms81_2 := NB329_335.out
      have hs82 : w77.cell? ⟨gb329, 4, none⟩ = some (.string ⟨#[]⟩) := zc BK329.out 4
      have hfs82 := blk_frozen BK329.out 4
      have hns82_0 := NB328_329.out
      have hns82_2 := NB335_329.out
      have hms82_0 := NB329_328.out
      have hms82_2 := NB329_335.out
      have hs83 : w77.cell? ⟨gb329, 5, none⟩ = some (.string ⟨#[]⟩) := zc BK329.out 5
      have hfs83 := blk_frozen BK329.out 5
      have hns83_0 := NB328_329.out
      have hns83_2 := NB335_329.out
      have hms83_0 := NB329_328.out
      have hms83_2 := NB329_335.out
      have hs84 : w77.cell? ⟨gb329, 6, none⟩ = some (.string ⟨#[]⟩) := zc BK329.out 6
      have hfs84 := blk_frozen BK329.out 6
      have hns84_0 := NB328_329.out
      have hns84_2 := NB335_329.out
      have hms84_0 := NB329_328.out
      have hms84_2 := NB329_335.out
      have hs85 : w77.cell? ⟨gb329, 7, none⟩ = some (.string ⟨#[]⟩) := zc BK329.out 7
      have hfs85 := blk_frozen BK329.out 7
      have hns85_0 := NB328_329.out
      have hns85_2 := NB335_329.out
      have hms85_0 := NB329_328.out
      have hms85_2 := NB329_335.out
      have hs86 : w77.cell? ⟨gb329, 8, none⟩ = some (.string ⟨#[]⟩) := zc BK329.out 8
      have hfs86 := blk_frozen BK329.out 8
      have hns86_0 := NB328_329.out
      have hns86_2 := NB335_329.out
      have hms86_0 := NB329_328.out
      have hms86_2 := NB329_335.out
      have hs87 : w77.cell? ⟨gb329, 9, none⟩ = some (.slice none 0 0) := zc BK329.out 9
      have hfs87 := blk_frozen BK329.out 9
      have hns87_0 := NB328_329.out
      have hns87_2 := NB335_329.out
      have hms87_0 := NB329_328.out
      have hms87_2 := NB329_335.out
      refine skip_ (w1 := ?_) (by rfl) rfl ?_ ?_
      rotate_left
      ·go_simp
       rfl
      refine hK.out _ _ ⟨(zW NB335_329.out hHeld.1), (zW NB335_329.out hHeld.2.1), (zW NB335_329.out hHeld.2.2.1), (zW NB335_329.out hHeld.2.2.2.1), (zW NB335_329.out hHeld.2.2.2.2.1), (zW NB335_329.out hHeld.2.2.2.2.2.1), (zW NB335_329.out hHeld.2.2.2.2.2.2.1), (zW NB335_329.out hHeld.2.2.2.2.2.2.2.1), (zW NB335_329.out hHeld.2.2.2.2.2.2.2.2.1), (zW NB335_329.out hHeld.2.2.2.2.2.2.2.2.2)⟩ (fun hHeld => ?_)
      clear hK K
      refine zkp 4 (N := some 3) (h := ?_)
      refine done_ (by kernel_rfl) ?_
      try go_wp2
      refine bodyPost_ret (results_ct rfl _ _ gb329 64 #[.int .i64 3, .int .i64 a0_0, .string (rdOf ByteArray.empty t331 0), .string t337, .string ⟨#[]⟩, .string ⟨#[]⟩, .string ⟨#[]⟩, .string ⟨#[]⟩, .string ⟨#[]⟩, .slice none 0 0] (0, 0) _ rfl (zP10 BK329.out) Tryd.underlying64 rfl (by kernel_rfl)) rfl ?_
      exact ⟨_, zE, zNl, zL HB.out⟩
     case' neg =>
      replace c71 := Bool.eq_false_iff.mpr c71
      subst c71
      rw [if_neg (show ¬ (false = true) by decide)] at H
      by_cases c88 : (rdOf ByteArray.empty t331 0).toList = ([101, 108, 115, 101] : List UInt8)
      case pos =>
       rw [if_pos c88] at H
       have c88b0 := zb0 c88
       have c88b1 := zb1 c88
       clear c88
       replace H := zs11 H
       obtain ⟨rfl, rfl, rfl, rfl, rfl, rfl, rfl, rfl, rfl, rfl, rfl⟩ := H
       have hnb89 := NB335_328.out
       have hnc89 := NB328_335.out
       have hnb90 := NB335_329.out
       have hnc90 := NB329_335.out
       obtain ⟨z91_0, z91_1, z91_2, z91_3, z91_4, z91_5, z91_6, z91_7, z91_8, z91_9, y91_0, y91_1, y91_2, y91_3, y91_4, y91_5, y91_6, y91_7, y91_8, y91_9⟩ := zC10 BK335.out
       have hnb92 := NB328_329.out
       have hnc92 := NB329_328.out
       obtain ⟨z93_0, z93_1, z93_2, y93_0, y93_1, y93_2⟩ := zC3 BK328.out
       obtain ⟨z94_0, z94_1, z94_2, z94_3, z94_4, z94_5, z94_6, z94_7, z94_8, z94_9, y94_0, y94_1, y94_2, y94_3, y94_4, y94_5, y94_6, y94_7, y94_8, y94_9⟩ := zC10 BK329.out
       go_wp2
       refine bodyPost_ret (results_ct rfl _ _ gb329 64 #[.int .i64 4, .int .i64 a0_0, .string ⟨#[]⟩, .string ⟨#[]⟩, .string ⟨#[]⟩, .string ⟨#[]⟩, .string ⟨#[]⟩, .string ⟨#[]⟩, .string ⟨#[]⟩, .slice none 0 0] (0, 0) _ rfl (zP10 BK329.out) Tryd.underlying64 rfl (by kernel_rfl)) rfl ?_
       exact ⟨_, zE, zNl, zL HB.out⟩
      case' neg =>
       rw [if_neg c88] at H
       have c88b0 := zn0 c88
       have c88b1 := zn1 c88
       by_cases c95 : (rdOf ByteArray.empty t331 0).toList = ([101, 110, 100, 105, 102] : List UInt8)
       case pos =>
        rw [if_pos c95] at H
        have c95b0 := zb0 c95
        have c95b1 := zb1 c95
        clear c95
        replace H := zs11 H
        obtain ⟨rfl, rfl, rfl, rfl, rfl, rfl, rfl, rfl, rfl, rfl, rfl⟩ := H
        have hnb96 := NB328_329.out
        have hnc96 := NB329_328.out
        have hnb97 := NB328_335.out
        have hnc97 := NB335_328.out
        obtain ⟨z98_0, z98_1, z98_2, y98_0, y98_1, y98_2⟩ := zC3 BK328.out
        have hnb99 := NB329_335.out
        have hnc99 := NB335_329.out
        obtain ⟨z100_0, z100_1, z100_2, z100_3, z100_4, z100_5, z100_6, z100_7, z100_8, z100_9, y100_0, y100_1, y100_2, y100_3, y100_4, y100_5, y100_6, y100_7, y100_8, y100_9⟩ := zC10 BK329.out
        go_wp2
        refine bodyPost_ret (results_ct rfl _ _ gb329 64 #[.int .i64 5, .int .i64 a0_0, .string ⟨#[]⟩, .string ⟨#[]⟩, .string ⟨#[]⟩, .string ⟨#[]⟩, .string ⟨#[]⟩, .string ⟨#[]⟩, .string ⟨#[]⟩, .slice none 0 0] (0, 0) _ rfl (zP10 BK329.out) Tryd.underlying64 rfl (by kernel_rfl)) rfl ?_
        exact ⟨_, zE, zNl, zL HB.out⟩
       case' neg =>
        rw [if_neg c95] at H
        have c95b0 := zn0 c95
        have c95b1 := zn1 c95
        by_cases c101 : (rdOf ByteArray.empty t331 0).toList = ([105, 110, 99, 108, 117, 100, 101] : List UInt8)
        case' pos =>
         rw [if_pos c101] at H
         have c101b0 := zb0 c101
         have c101b1 := zb1 c101
         clear c101
        case' neg =>
         rw [if_neg c101] at H
         have c101b0 := zn0 c101
         have c101b1 := zn1 c101
         by_cases c107 : (rdOf ByteArray.empty t331 0).toList = ([45, 105, 110, 99, 108, 117, 100, 101] : List UInt8)
         case neg =>
          rw [if_neg c107] at H
          have c107b0 := zn0 c107
          have c107b1 := zn1 c107
          obtain ⟨y348, hy348⟩ : ∃ y_ : List ByteArray, y_ = (([(⟨#[58, 61]⟩ : ByteArray), (⟨#[63, 61]⟩ : ByteArray), (⟨#[43, 61]⟩ : ByteArray), (⟨#[61]⟩ : ByteArray), (⟨#[58]⟩ : ByteArray)] : List ByteArray)) := ⟨_, rfl⟩
          replace H : ((cooperageref9_Cut.f kj68 t330 y348).bind fun bt351 => (if bt351.2.1.toList = ([] : List UInt8) then (some (0, a0_0, bt351.2.1, (⟨#[]⟩ : ByteArray), (⟨#[]⟩ : ByteArray), (⟨#[]⟩ : ByteArray), (⟨#[]⟩ : ByteArray), (⟨#[]⟩ : ByteArray), (⟨#[]⟩ : ByteArray), ([] : List ByteArray), false)) else (if bt351.2.1.toList = ([58] : List UInt8) then ((cooperageref9_rule.f kj68 bt351.1 bt351.2.2 a0_0).bind fun bt354 => (some (bt354.1, bt354.2.1, bt354.2.2.1, bt354.2.2.2.1, bt354.2.2.2.2.1, bt354.2.2.2.2.2.1, bt354.2.2.2.2.2.2.1, bt354.2.2.2.2.2.2.2.1, bt354.2.2.2.2.2.2.2.2.1, bt354.2.2.2.2.2.2.2.2.2.1, bt354.2.2.2.2.2.2.2.2.2.2))) else ((cooperageref1_Trim.f kj68 bt351.1).bind fun t367 => ((cooperageref1_Trim.f kj68 bt351.2.2).bind fun t368 => ((cooperageref9_Name.f kj68 t367).bind fun t369 => (some (1, a0_0, bt351.2.1, t367, t368, (⟨#[]⟩ : ByteArray), (⟨#[]⟩ : ByteArray), (⟨#[]⟩ : ByteArray), (⟨#[]⟩ : ByteArray), ([] : List ByteArray), t369)))))))) = some (r1, r2, r3, r4, r5, r6, r7, r8, r9, r10, r11) := zH hy348 H
          have Ny348 := ka hy348
          clear hy348
          replace H := Option.bind_eq_some_iff.mp H
          obtain ⟨⟨t351, t352, t353⟩, A1130, H⟩ := H
          try dsimp only at H
          have A113 := ka A1130
          clear A1130
          by_cases c114 : t352.toList = ([] : List UInt8)
          ·rw [if_pos c114] at H
           have c114b0 := zb0 c114
           have c114b1 := zb1 c114
           clear c114
           replace H := zs11 H
           obtain ⟨rfl, rfl, rfl, rfl, rfl, rfl, rfl, rfl, rfl, rfl, rfl⟩ := H
           have hnb115 := NB328_329.out
           have hnc115 := NB329_328.out
           have hnb116 := NB328_335.out
           have hnc116 := NB335_328.out
           obtain ⟨z117_0, z117_1, z117_2, y117_0, y117_1, y117_2⟩ := zC3 BK328.out
           go_wp2_with (first | ((with_reducible refine gate_dst (N := 118) rfl ?_); (try (refine gate_guard (by rfl) ?_; dsimp only)); refine Kd.R_lit Kd.string _ 9 ?hg (N := 118) ?hd (xs := ([(⟨#[58, 61]⟩ : ByteArray), (⟨#[63, 61]⟩ : ByteArray), (⟨#[43, 61]⟩ : ByteArray), (⟨#[61]⟩ : ByteArray), (⟨#[58]⟩ : ByteArray)] : List ByteArray)) (inner := [.string ⟨#[58, 61]⟩, .string ⟨#[63, 61]⟩, .string ⟨#[43, 61]⟩, .string ⟨#[61]⟩, .string ⟨#[58]⟩]) (ok := fun _ => True) (okp := fun _ => True) ?hr ?hp (fun _ hk => hk) trivial (Below.refl _ _) (Nat.le_refl _) (by simp) ?_; (case hd => rfl); (case hg => rfl); (case hr => (go_simp; try rfl)); (case hp => exact (Reps.one (show Kd.M Kd.string _ _ _ (⟨#[58, 61]⟩ : ByteArray) [.string ⟨#[58, 61]⟩] from rfl) (Reps.one (show Kd.M Kd.string _ _ _ (⟨#[63, 61]⟩ : ByteArray) [.string ⟨#[63, 61]⟩] from rfl) (Reps.one (show Kd.M Kd.string _ _ _ (⟨#[43, 61]⟩ : ByteArray) [.string ⟨#[43, 61]⟩] from rfl) (Reps.one (show Kd.M Kd.string _ _ _ (⟨#[61]⟩ : ByteArray) [.string ⟨#[61]⟩] from rfl) (Reps.one (show Kd.M Kd.string _ _ _ (⟨#[58]⟩ : ByteArray) [.string ⟨#[58]⟩] from rfl) (Reps.none _ _))))))); intro v349 w118 ho119 hb hg_ hnew_; clear hg_ hnew_; (first | rw [← Ny348.out] at ho119 | (simp only [Int.reduceToNat] at ho119; rw [← Ny348.out] at ho119)); have HO350 := ka (Kd.R_lower (Kd.R_new' ho119 (Kd.R_lt (zR HO_4.out))) (below_size (zL HB.out))); replace HO_4 := ka (Kd.R_elder' (zR HO_4.out) (Kd.R_base ho119) hb); replace BK328 := ka (zB BK328.out hb); replace BK329 := ka (zB BK329.out hb); replace BK335 := ka (zB BK335.out hb); replace HB := ka (below_step (zL HB.out) hb); clear hb ho119; obtain ⟨Ao120, co120, eo120⟩ := Kd.R_slice HO350.out; subst eo120) | ((with_reducible refine gate_callee (f := 18) rfl ?_); refine goesL_ (some 119) rfl rfl Tryd.func18 (by kernel_rfl) rfl #[.string t330, .slice Ao120 y348.length co120] rfl zA ?_; (with_reducible refine (cooperageref9_Cut.calls kj68 t330 _ _ y348 t351 t352 t353 _ ?side1 ?side2 A113.out).mono ?_); (case side1 => exact zCS (Kd.R_reads' HO350.out).2.2); (case side2 => exact (Kd.R_reads' HO350.out).2.1); rintro e w121 ⟨rfl, hb⟩; refine ⟨_, rfl, ?_⟩; replace HO_4 := ka (Kd.R_below (zR HO_4.out) hb); replace HO350 := ka (Kd.R_below (zR HO350.out) hb); replace BK328 := ka (zB BK328.out hb); replace BK329 := ka (zB BK329.out hb); replace BK335 := ka (zB BK335.out hb); replace HB := ka (below_step (zL HB.out) hb); (try clear hb); (try clear hb2); (try clear hk); (try clear hi); have hnb122 := NB335_329.out; have hnc122 := NB329_335.out; obtain ⟨z123_0, z123_1, z123_2, z123_3, z123_4, z123_5, z123_6, z123_7, z123_8, z123_9, y123_0, y123_1, y123_2, y123_3, y123_4, y123_5, y123_6, y123_7, y123_8, y123_9⟩ := zC10 BK335.out; obtain ⟨z124_0, z124_1, z124_2, z124_3, z124_4, z124_5, z124_6, z124_7, z124_8, z124_9, y124_0, y124_1, y124_2, y124_3, y124_4, y124_5, y124_6, y124_7, y124_8, y124_9⟩ := zC10 BK329.out))
           refine bodyPost_ret (results_ct rfl _ _ gb329 64 #[.int .i64 0, .int .i64 a0_0, .string t352, .string ⟨#[]⟩, .string ⟨#[]⟩, .string ⟨#[]⟩, .string ⟨#[]⟩, .string ⟨#[]⟩, .string ⟨#[]⟩, .slice none 0 0] (0, 0) _ rfl (zP10 BK329.out) Tryd.underlying64 rfl (by kernel_rfl)) rfl ?_
           exact ⟨_, zE, zNl, zL HB.out⟩
          ·rw [if_neg c114] at H
           have c114b0 := zn0 c114
           have c114b1 := zn1 c114
           by_cases c125 : t352.toList = ([58] : List UInt8)
           ·rw [if_pos c125] at H
            have c125b0 := zb0 c125
            have c125b1 := zb1 c125
            clear c125
            replace H := Option.bind_eq_some_iff.mp H
            obtain ⟨⟨t354, t355, t356, t357, t358, t359, t360, t361, t362, t363, t366⟩, A1260, H⟩ := H
            try dsimp only at H
            have A126 := ka A1260
            clear A1260
            replace H := zs11 H
            obtain ⟨rfl, rfl, rfl, rfl, rfl, rfl, rfl, rfl, rfl, rfl, rfl⟩ := H
            have hnb127 := NB328_329.out
            have hnc127 := NB329_328.out
            have hnb128 := NB328_335.out
            have hnc128 := NB335_328.out
            obtain ⟨z129_0, z129_1, z129_2, y129_0, y129_1, y129_2⟩ := zC3 BK328.out
            go_wp2_with (first | ((with_reducible refine gate_dst (N := 118) rfl ?_); (try (refine gate_guard (by rfl) ?_; dsimp only)); refine Kd.R_lit Kd.string _ 9 ?hg (N := 118) ?hd (xs := ([(⟨#[58, 61]⟩ : ByteArray), (⟨#[63, 61]⟩ : ByteArray), (⟨#[43, 61]⟩ : ByteArray), (⟨#[61]⟩ : ByteArray), (⟨#[58]⟩ : ByteArray)] : List ByteArray)) (inner := [.string ⟨#[58, 61]⟩, .string ⟨#[63, 61]⟩, .string ⟨#[43, 61]⟩, .string ⟨#[61]⟩, .string ⟨#[58]⟩]) (ok := fun _ => True) (okp := fun _ => True) ?hr ?hp (fun _ hk => hk) trivial (Below.refl _ _) (Nat.le_refl _) (by simp) ?_; (case hd => rfl); (case hg => rfl); (case hr => (go_simp; try rfl)); (case hp => exact (Reps.one (show Kd.M Kd.string _ _ _ (⟨#[58, 61]⟩ : ByteArray) [.string ⟨#[58, 61]⟩] from rfl) (Reps.one (show Kd.M Kd.string _ _ _ (⟨#[63, 61]⟩ : ByteArray) [.string ⟨#[63, 61]⟩] from rfl) (Reps.one (show Kd.M Kd.string _ _ _ (⟨#[43, 61]⟩ : ByteArray) [.string ⟨#[43, 61]⟩] from rfl) (Reps.one (show Kd.M Kd.string _ _ _ (⟨#[61]⟩ : ByteArray) [.string ⟨#[61]⟩] from rfl) (Reps.one (show Kd.M Kd.string _ _ _ (⟨#[58]⟩ : ByteArray) [.string ⟨#[58]⟩] from rfl) (Reps.none _ _))))))); intro v349 w130 ho131 hb hg_ hnew_; clear hg_ hnew_; (first | rw [← Ny348.out] at ho131 | (simp only [Int.reduceToNat] at ho131; rw [← Ny348.out] at ho131)); have HO350 := ka (Kd.R_lower (Kd.R_new' ho131 (Kd.R_lt (zR HO_4.out))) (below_size (zL HB.out))); replace HO_4 := ka (Kd.R_elder' (zR HO_4.out) (Kd.R_base ho131) hb); replace BK328 := ka (zB BK328.out hb); replace BK329 := ka (zB BK329.out hb); replace BK335 := ka (zB BK335.out hb); replace HB := ka (below_step (zL HB.out) hb); clear hb ho131; obtain ⟨Ao132, co132, eo132⟩ := Kd.R_slice HO350.out; subst eo132) | ((with_reducible refine gate_callee (f := 18) rfl ?_); refine goesL_ (some 119) rfl rfl Tryd.func18 (by kernel_rfl) rfl #[.string t330, .slice Ao132 y348.length co132] rfl zA ?_; (with_reducible refine (cooperageref9_Cut.calls kj68 t330 _ _ y348 t351 t352 t353 _ ?side1 ?side2 A113.out).mono ?_); (case side1 => exact zCS (Kd.R_reads' HO350.out).2.2); (case side2 => exact (Kd.R_reads' HO350.out).2.1); rintro e w133 ⟨rfl, hb⟩; refine ⟨_, rfl, ?_⟩; replace HO_4 := ka (Kd.R_below (zR HO_4.out) hb); replace HO350 := ka (Kd.R_below (zR HO350.out) hb); replace BK328 := ka (zB BK328.out hb); replace BK329 := ka (zB BK329.out hb); replace BK335 := ka (zB BK335.out hb); replace HB := ka (below_step (zL HB.out) hb); (try clear hb); (try clear hb2); (try clear hk); (try clear hi); have hnb134 := NB335_329.out; have hnc134 := NB329_335.out; obtain ⟨z135_0, z135_1, z135_2, z135_3, z135_4, z135_5, z135_6, z135_7, z135_8, z135_9, y135_0, y135_1, y135_2, y135_3, y135_4, y135_5, y135_6, y135_7, y135_8, y135_9⟩ := zC10 BK335.out; obtain ⟨z136_0, z136_1, z136_2, y136_0, y136_1, y136_2⟩ := zC3 BK328.out) | ((with_reducible refine gate_callee (f := 49) rfl ?_); refine goesL_ (some 145) rfl rfl Tryd.func49 (by kernel_rfl) rfl #[.string t351, .string t353, .int .i64 a0_0] rfl zA ?_; (with_reducible refine (cooperageref9_rule.calls kj68 t351 t353 a0_0 t354 t355 t356 t357 t358 t359 t360 t361 t362 t363 t366 _ A126.out).mono ?_); rintro e w137 ⟨v364, rfl, ho0, hb⟩; refine ⟨_, rfl, ?_⟩; have HO365 := ka (Kd.R_lower (Kd.R_new' (Kd.R_new' ho0 (Kd.R_lt (zT HO_4.out BK335.out))) (Kd.R_lt (zT HO350.out BK335.out))) (below_size (zL HB.out))); replace HO_4 := ka (Kd.R_elder' (zT HO_4.out BK335.out) (Kd.R_base ho0) hb); replace HO350 := ka (Kd.R_elder' (zT HO350.out BK335.out) (Kd.R_base ho0) hb); replace BK328 := ka (zB BK328.out hb); replace BK329 := ka (zB BK329.out hb); replace BK335 := ka (blk_below (g := gb335) (o := .cells #[.int .i64 0, .int .i64 a0_0, .string t352, .string ⟨#[]⟩, .string ⟨#[]⟩, .string ⟨#[]⟩, .string ⟨#[]⟩, .string ⟨#[]⟩, .string ⟨#[]⟩, .slice none 0 0] 64 (0, 0)) (by (with_reducible repeat (first | refine blk_drewN ?_ _ | refine blk_drew ?_ | refine blk_alloc ?_ _)); refine blk_put (cs := #[.int .i64 0, .int .i64 a0_0, .string (rdOf ByteArray.empty t331 0), .string ⟨#[]⟩, .string ⟨#[]⟩, .string ⟨#[]⟩, .string ⟨#[]⟩, .string ⟨#[]⟩, .string ⟨#[]⟩, .slice none 0 0]) ?_ 2 _ rfl; (with_reducible repeat (first | refine blk_drewN ?_ _ | refine blk_drew ?_ | refine blk_alloc ?_ _)); exact BK335.out) hb); replace HB := ka (below_step (zL HB.out) hb); (try clear hb); (try clear hb2); (try clear hk); (try clear hi); (try clear ho0); obtain ⟨z138_0, z138_1, z138_2, z138_3, z138_4, z138_5, z138_6, z138_7, z138_8, z138_9, y138_0, y138_1, y138_2, y138_3, y138_4, y138_5, y138_6, y138_7, y138_8, y138_9⟩ := zC10 BK329.out; obtain ⟨Ao139, co139, eo139⟩ := Kd.R_slice HO365.out; subst eo139))
            refine bodyPost_ret (results_ct rfl _ _ gb329 64 #[.int .i64 t354, .int .i64 t355, .string t356, .string t357, .string t358, .string t359, .string t360, .string t361, .string t362, .slice Ao139 t363.length co139] (0, 0) _ rfl (zP10 BK329.out) Tryd.underlying64 rfl (by kernel_rfl)) rfl ?_
            exact ⟨_, zE, by (with_reducible repeat (first | apply Kd.R_alloc | apply Kd.R_drewN | apply Kd.R_drew)); exact Kd.R_mono (zNT HO365.out BK329.out) (fun _ hk => trivial), zL HB.out⟩
           ·rw [if_neg c125] at H
            have c125b0 := zn0 c125
            have c125b1 := zn1 c125
            replace H := Option.bind_eq_some_iff.mp H
            obtain ⟨t367, A1400, H⟩ := H
            try dsimp only at H
            have A140 := ka A1400
            clear A1400
            replace H := Option.bind_eq_some_iff.mp H
            obtain ⟨t368, A1410, H⟩ := H
            try dsimp only at H
            have A141 := ka A1410
            clear A1410
            replace H := Option.bind_eq_some_iff.mp H
            obtain ⟨t369, A1420, H⟩ := H
            try dsimp only at H
            have A142 := ka A1420
            clear A1420
            replace H := zs11 H
            obtain ⟨rfl, rfl, rfl, rfl, rfl, rfl, rfl, rfl, rfl, rfl, rfl⟩ := H
            have hnb143 := NB328_329.out
            have hnc143 := NB329_328.out
            have hnb144 := NB328_335.out
            have hnc144 := NB335_328.out
            obtain ⟨z145_0, z145_1, z145_2, y145_0, y145_1, y145_2⟩ := zC3 BK328.out
            try go_wp2_with (first | ((with_reducible refine gate_dst (N := 118) rfl ?_); (try (refine gate_guard (by rfl) ?_; dsimp only)); refine Kd.R_lit Kd.string _ 9 ?hg (N := 118) ?hd (xs := ([(⟨#[58, 61]⟩ : ByteArray), (⟨#[63, 61]⟩ : ByteArray), (⟨#[43, 61]⟩ : ByteArray), (⟨#[61]⟩ : ByteArray), (⟨#[58]⟩ : ByteArray)] : List ByteArray)) (inner := [.string ⟨#[58, 61]⟩, .string ⟨#[63, 61]⟩, .string ⟨#[43, 61]⟩, .string ⟨#[61]⟩, .string ⟨#[58]⟩]) (ok := fun _ => True) (okp := fun _ => True) ?hr ?hp (fun _ hk => hk) trivial (Below.refl _ _) (Nat.le_refl _) (by simp) ?_; (case hd => rfl); (case hg => rfl); (case hr => (go_simp; try rfl)); (case hp => exact (Reps.one (show Kd.M Kd.string _ _ _ (⟨#[58, 61]⟩ : ByteArray) [.string ⟨#[58, 61]⟩] from rfl) (Reps.one (show Kd.M Kd.string _ _ _ (⟨#[63, 61]⟩ : ByteArray) [.string ⟨#[63, 61]⟩] from rfl) (Reps.one (show Kd.M Kd.string _ _ _ (⟨#[43, 61]⟩ : ByteArray) [.string ⟨#[43, 61]⟩] from rfl) (Reps.one (show Kd.M Kd.string _ _ _ (⟨#[61]⟩ : ByteArray) [.string ⟨#[61]⟩] from rfl) (Reps.one (show Kd.M Kd.string _ _ _ (⟨#[58]⟩ : ByteArray) [.string ⟨#[58]⟩] from rfl) (Reps.none _ _))))))); intro v349 w146 ho147 hb hg_ hnew_; clear hg_ hnew_; (first | rw [← Ny348.out] at ho147 | (simp only [Int.reduceToNat] at ho147; rw [← Ny348.out] at ho147)); have HO350 := ka (Kd.R_lower (Kd.R_new' ho147 (Kd.R_lt (zR HO_4.out))) (below_size (zL HB.out))); replace HO_4 := ka (Kd.R_elder' (zR HO_4.out) (Kd.R_base ho147) hb); replace BK328 := ka (zB BK328.out hb); replace BK329 := ka (zB BK329.out hb); replace BK335 := ka (zB BK335.out hb); replace HB := ka (below_step (zL HB.out) hb); clear hb ho147; obtain ⟨Ao148, co148, eo148⟩ := Kd.R_slice HO350.out; subst eo148) | ((with_reducible refine gate_callee (f := 18) rfl ?_); refine goesL_ (some 119) rfl rfl Tryd.func18 (by kernel_rfl) rfl #[.string t330, .slice Ao148 y348.length co148] rfl zA ?_; (with_reducible refine (cooperageref9_Cut.calls kj68 t330 _ _ y348 t351 t352 t353 _ ?side1 ?side2 A113.out).mono ?_); (case side1 => exact zCS (Kd.R_reads' HO350.out).2.2); (case side2 => exact (Kd.R_reads' HO350.out).2.1); rintro e w149 ⟨rfl, hb⟩; refine ⟨_, rfl, ?_⟩; replace HO_4 := ka (Kd.R_below (zR HO_4.out) hb); replace HO350 := ka (Kd.R_below (zR HO350.out) hb); replace BK328 := ka (zB BK328.out hb); replace BK329 := ka (zB BK329.out hb); replace BK335 := ka (zB BK335.out hb); replace HB := ka (below_step (zL HB.out) hb); (try clear hb); (try clear hb2); (try clear hk); (try clear hi); have hnb150 := NB335_329.out; have hnc150 := NB329_335.out; obtain ⟨z151_0, z151_1, z151_2, z151_3, z151_4, z151_5, z151_6, z151_7, z151_8, z151_9, y151_0, y151_1, y151_2, y151_3, y151_4, y151_5, y151_6, y151_7, y151_8, y151_9⟩ := zC10 BK335.out) | ((with_reducible refine gate_callee (f := 40) rfl ?_); refine goesL_ (some 132) rfl rfl Tryd.func40 (by kernel_rfl) rfl #[.string t351] rfl zA ?_; (with_reducible refine (cooperageref1_Trim.calls kj68 t351 t367 _ A140.out).mono ?_); rintro e w' ⟨rfl, ⟨nd, rfl⟩⟩; refine ⟨_, rfl, ?_⟩) | ((with_reducible refine gate_callee (f := 40) rfl ?_); refine goesL_ (some 135) rfl rfl Tryd.func40 (by kernel_rfl) rfl #[.string t353] rfl zA ?_; (with_reducible refine (cooperageref1_Trim.calls kj68 t353 t368 _ A141.out).mono ?_); rintro e w' ⟨rfl, ⟨nd, rfl⟩⟩; refine ⟨_, rfl, ?_⟩))
            replace HO_4 : Aside0 (Kd.R Kd.string 9 ((((w149.setCell ⟨gb335, 2, none⟩ (.string t352)).setCell ⟨gb335, 0, none⟩ (.int .i64 1)).setCell ⟨gb335, 3, none⟩ (.string t367)).setCell ⟨gb335, 4, none⟩ (.string t368)) w.heap.size (fun k_ => some k_ ≠ (.slice Ao148 y348.length co148 : Value).ownBlock) (.slice (some ad334) t331.length co20) t331) := ⟨by (with_reducible repeat (first | apply Kd.R_alloc | apply Kd.R_drewN | apply Kd.R_drew)); exact Kd.R_mono (zNT HO_4.out BK335.out) (fun _ hk => hk.1.2)⟩
            replace HO350 : Aside0 (Kd.R Kd.string 9 ((((w149.setCell ⟨gb335, 2, none⟩ (.string t352)).setCell ⟨gb335, 0, none⟩ (.int .i64 1)).setCell ⟨gb335, 3, none⟩ (.string t367)).setCell ⟨gb335, 4, none⟩ (.string t368)) w.heap.size (fun k_ => some k_ ≠ (.slice (some ad334) t331.length co20 : Value).ownBlock) (.slice Ao148 y348.length co148) y348) := ⟨by (with_reducible repeat (first | apply Kd.R_alloc | apply Kd.R_drewN | apply Kd.R_drew)); exact Kd.R_mono (zNT HO350.out BK335.out) (fun _ hk => hk.1.2)⟩
            replace BK328 : Aside0 (((((w149.setCell ⟨gb335, 2, none⟩ (.string t352)).setCell ⟨gb335, 0, none⟩ (.int .i64 1)).setCell ⟨gb335, 3, none⟩ (.string t367)).setCell ⟨gb335, 4, none⟩ (.string t368)).heap[gb328]? = some (.cells #[.int .i64 a0_0, .bool a0_1, .string t330] 53 (0, 0))) := ⟨zK BK328.out⟩
            replace BK329 : Aside0 (((((w149.setCell ⟨gb335, 2, none⟩ (.string t352)).setCell ⟨gb335, 0, none⟩ (.int .i64 1)).setCell ⟨gb335, 3, none⟩ (.string t367)).setCell ⟨gb335, 4, none⟩ (.string t368)).heap[gb329]? = some (.cells #[.int .i64 0, .int .i64 0, .string ⟨#[]⟩, .string ⟨#[]⟩, .string ⟨#[]⟩, .string ⟨#[]⟩, .string ⟨#[]⟩, .string ⟨#[]⟩, .string ⟨#[]⟩, .slice none 0 0] 64 (0, 0))) := ⟨zK BK329.out⟩
            replace BK335 : Aside0 (((((w149.setCell ⟨gb335, 2, none⟩ (.string t352)).setCell ⟨gb335, 0, none⟩ (.int .i64 1)).setCell ⟨gb335, 3, none⟩ (.string t367)).setCell ⟨gb335, 4, none⟩ (.string t368)).heap[gb335]? = some (.cells #[.int .i64 1, .int .i64 a0_0, .string t352, .string t367, .string t368, .string ⟨#[]⟩, .string ⟨#[]⟩, .string ⟨#[]⟩, .string ⟨#[]⟩, .slice none 0 0] 64 (0, 0))) := ⟨by (with_reducible repeat (first | refine blk_drewN ?_ _ | refine blk_drew ?_ | refine blk_alloc ?_ _)); refine blk_put (cs := #[.int .i64 1, .int .i64 a0_0, .string t352, .string t367, .string ⟨#[]⟩, .string ⟨#[]⟩, .string ⟨#[]⟩, .string ⟨#[]⟩, .string ⟨#[]⟩, .slice none 0 0]) ?_ 4 _ rfl; (with_reducible repeat (first | refine blk_drewN ?_ _ | refine blk_drew ?_ | refine blk_alloc ?_ _)); refine blk_put (cs := #[.int .i64 1, .int .i64 a0_0, .string t352, .string ⟨#[]⟩, .string ⟨#[]⟩, .string ⟨#[]⟩, .string ⟨#[]⟩, .string ⟨#[]⟩, .string ⟨#[]⟩, .slice none 0 0]) ?_ 3 _ rfl; (with_reducible repeat (first | refine blk_drewN ?_ _ | refine blk_drew ?_ | refine blk_alloc ?_ _)); refine blk_put (cs := #[.int .i64 0, .int .i64 a0_0, .string t352, .string ⟨#[]⟩, .string ⟨#[]⟩, .string ⟨#[]⟩, .string ⟨#[]⟩, .string ⟨#[]⟩, .string ⟨#[]⟩, .slice none 0 0]) ?_ 0 _ rfl; (with_reducible repeat (first | refine blk_drewN ?_ _ | refine blk_drew ?_ | refine blk_alloc ?_ _)); refine blk_put (cs := #[.int .i64 0, .int .i64 a0_0, .string (rdOf ByteArray.empty t331 0), .string ⟨#[]⟩, .string ⟨#[]⟩, .string ⟨#[]⟩, .string ⟨#[]⟩, .string ⟨#[]⟩, .string ⟨#[]⟩, .slice none 0 0]) ?_ 2 _ rfl; (with_reducible repeat (first | refine blk_drewN ?_ _ | refine blk_drew ?_ | refine blk_alloc ?_ _)); exact BK335.out⟩
            replace HB : Aside0 (Below w.heap.size w ((((w149.setCell ⟨gb335, 2, none⟩ (.string t352)).setCell ⟨gb335, 0, none⟩ (.int .i64 1)).setCell ⟨gb335, 3, none⟩ (.string t367)).setCell ⟨gb335, 4, none⟩ (.string t368))) := ⟨zL HB.out⟩
            repeat rw [zDC]
            repeat rw [zDD]
            generalize ((((w149.setCell ⟨gb335, 2, none⟩ (.string t352)).setCell ⟨gb335, 0, none⟩ (.int .i64 1)).setCell ⟨gb335, 3, none⟩ (.string t367)).setCell ⟨gb335, 4, none⟩ (.string t368)) = w152 at HO_4 HO350 BK328 BK329 BK335 HB ⊢
            (try (rw [drewN_self w152]; generalize hq_ : World.drewN w152 _ = w152; have n0_ : Aside0 (Kd.R Kd.string 9 w152 w.heap.size (fun k_ => some k_ ≠ (.slice (some ad334) t331.length co20 : Value).ownBlock) (.slice Ao148 y348.length co148) y348) := ⟨by rw [← hq_]; exact (zR HO350.out)⟩; have n1_ : Aside0 (Kd.R Kd.string 9 w152 w.heap.size (fun k_ => some k_ ≠ (.slice Ao148 y348.length co148 : Value).ownBlock) (.slice (some ad334) t331.length co20) t331) := ⟨by rw [← hq_]; exact (zR HO_4.out)⟩; have n2_ : Aside0 (w152.heap[gb328]? = some (.cells #[.int .i64 a0_0, .bool a0_1, .string t330] 53 (0, 0))) := ⟨by rw [← hq_]; exact (zK BK328.out)⟩; have n3_ : Aside0 (w152.heap[gb329]? = some (.cells #[.int .i64 0, .int .i64 0, .string ⟨#[]⟩, .string ⟨#[]⟩, .string ⟨#[]⟩, .string ⟨#[]⟩, .string ⟨#[]⟩, .string ⟨#[]⟩, .string ⟨#[]⟩, .slice none 0 0] 64 (0, 0))) := ⟨by rw [← hq_]; exact (zK BK329.out)⟩; have n4_ : Aside0 (w152.heap[gb335]? = some (.cells #[.int .i64 1, .int .i64 a0_0, .string t352, .string t367, .string t368, .string ⟨#[]⟩, .string ⟨#[]⟩, .string ⟨#[]⟩, .string ⟨#[]⟩, .slice none 0 0] 64 (0, 0))) := ⟨by rw [← hq_]; exact (zK BK335.out)⟩; have n5_ : Aside0 (Below w.heap.size w w152) := ⟨by rw [← hq_]; exact (zL HB.out)⟩; clear HO350 HO_4 BK328 BK329 BK335 HB hq_; have HO350 := n0_; have HO_4 := n1_; have BK328 := n2_; have BK329 := n3_; have BK335 := n4_; have HB := n5_; clear n0_ n1_ n2_ n3_ n4_ n5_; (try (obtain ⟨z145_0, z145_1, z145_2, y145_0, y145_1, y145_2⟩ := zC3 BK328.out)); (try (obtain ⟨z138_0, z138_1, z138_2, z138_3, z138_4, z138_5, z138_6, z138_7, z138_8, z138_9, y138_0, y138_1, y138_2, y138_3, y138_4, y138_5, y138_6, y138_7, y138_8, y138_9⟩ := zC10 BK329.out)); (try (obtain ⟨z151_0, z151_1, z151_2, z151_3, z151_4, z151_5, z151_6, z151_7, z151_8, z151_9, y151_0, y151_1, y151_2, y151_3, y151_4, y151_5, y151_6, y151_7, y151_8, y151_9⟩ := zC10 BK335.out))))
            replace HO_4 := ka (Kd.R_drew HO_4.out)
            replace HO350 := ka (Kd.R_drew HO350.out)
            replace BK328 := ka (blk_drew BK328.out)
            replace BK329 := ka (blk_drew BK329.out)
            replace BK335 := ka (blk_drew BK335.out)
            replace HB := ka (below_drew1 HB.out)
            refine start_ (n := 6) (S := fun w' => w'.cell? ⟨gb335, 0, none⟩ = some (.int .i64 1) ∧ w'.cell? ⟨gb335, 1, none⟩ = some (.int .i64 a0_0) ∧ w'.cell? ⟨gb335, 2, none⟩ = some (.string t352) ∧ w'.cell? ⟨gb335, 3, none⟩ = some (.string t367) ∧ w'.cell? ⟨gb335, 4, none⟩ = some (.string t368) ∧ w'.cell? ⟨gb335, 5, none⟩ = some (.string ⟨#[]⟩) ∧ w'.cell? ⟨gb335, 6, none⟩ = some (.string ⟨#[]⟩) ∧ w'.cell? ⟨gb335, 7, none⟩ = some (.string ⟨#[]⟩) ∧ w'.cell? ⟨gb335, 8, none⟩ = some (.string ⟨#[]⟩) ∧ w'.cell? ⟨gb335, 9, none⟩ = some (.slice none 0 0)) (ds := []) #[false, false, false, false, false, false] (by kernel_rfl) rfl rfl ⟨zc BK335.out 0, zc BK335.out 1, zc BK335.out 2, zc BK335.out 3, zc BK335.out 4, zc BK335.out 5, zc BK335.out 6, zc BK335.out 7, zc BK335.out 8, zc BK335.out 9⟩ (fun hHeld => ?_)
            generalize w152.drew = w153 at HO_4 HO350 BK328 BK329 BK335 HB hHeld ⊢
            refine zkp 1 (N := some 138) (h := ?_)
            refine zkt 0 (N := some 137) hHeld (h := ?_)
            refine zkt 2 (N := some 139) hHeld (h := ?_)
            refine one_ (i := 3) (N := some 140) #[true, true, true, true, false, false] rfl rfl (by kernel_rfl) (by decide) (fun K hK => ?_)
            refine goes_ Tryd.func16 (by kernel_rfl) rfl #[.string t367] (by rfl) rfl rfl zA ?_
            with_reducible refine (cooperageref9_Name.calls kj68 t367 t369 _ A142.out).mono ?_
            rintro e w' ⟨rfl, ⟨nd, rfl⟩⟩
            refine ⟨_, rfl, ?_⟩
            refine hK.out _ _ ⟨zc BK335.out 0, zc BK335.out 1, zc BK335.out 2, zc BK335.out 3, zc BK335.out 4, zc BK335.out 5, zc BK335.out 6, zc BK335.out 7, zc BK335.out 8, zc BK335.out 9⟩ (fun hHeld => ?_)
            clear hK K
            refine znm (N := some 140) (h := ?_)
            refine one_ (i := 4) (N := none) #[true, true, true, true, true, false] rfl rfl (by kernel_rfl) (by decide) (fun K hK => ?_)
            have hs154 : w153.cell? ⟨gb329, 0, none⟩ = some (.int .i64 0) := zc BK329.out 0
            have hfs154 := blk_frozen BK329.out 0
            have hns154_0 := NB328_329.out
            have hns154_2 := NB335_329.out
            have hms154_0 := NB329_328.out
            have hms154_2 := NB329_335.out
            have hs155 : w153.cell? ⟨gb329, 1, none⟩ = some (.int .i64 0) := zc BK329.out 1
            have hfs155 := blk_frozen BK329.out 1
            have hns155_0 := NB328_329.out
            have hns155_2 := NB335_329.out
            have hms155_0 := NB329_328.out
            have hms155_2 := NB329_335.out
            have hs156 : w153.cell? ⟨gb329, 2, none⟩ = some (.string ⟨#[]⟩) := zc BK329.out 2
            have hfs156 := blk_frozen BK329.out 2
            have hns156_0 := NB328_329.out
            have hns156_2 := NB335_329.out
            have hms156_0 := NB329_328.out
            have hms156_2 := NB329_335.out
            have hs157 : w153.cell? ⟨gb329, 3, none⟩ = some (.string ⟨#[]⟩) := zc BK329.out 3
            have hfs157 := blk_frozen BK329.out 3
            have hns157_0 := NB328_329.out
            have hns157_2 := NB335_329.out
            have hms157_0 := NB329_328.out
            have hms157_2 := NB329_335.out
            have hs158 : w153.cell? ⟨gb329, 4, none⟩ = some (.string ⟨#[]⟩) := zc BK329.out 4
            have hfs158 := blk_frozen BK329.out 4
            have hns158_0 := NB328_329.out
            have hns158_2 := NB335_329.out
            have hms158_0 := NB329_328.out
            have hms158_2 := NB329_335.out
            have hs159 : w153.cell? ⟨gb329, 5, none⟩ = some (.string ⟨#[]⟩) := zc BK329.out 5
            have hfs159 := blk_frozen BK329.out 5
            have hns159_0 := NB328_329.out
            have hns159_2 := NB335_329.out
            have hms159_0 := NB329_328.out
            have hms159_2 := NB329_335.out
            have hs160 : w153.cell? ⟨gb329, 6, none⟩ = some (.string ⟨#[]⟩) := zc BK329.out 6
            have hfs160 := blk_frozen BK329.out 6
            have hns160_0 := NB328_329.out
            have hns160_2 := NB335_329.out
            have hms160_0 := NB329_328.out
            have hms160_2 := NB329_335.out
            have hs161 : w153.cell? ⟨gb329, 7, none⟩ = some (.string ⟨#[]⟩) := zc BK329.out 7
            have hfs161 := blk_frozen BK329.out 7
            have hns161_0 := NB328_329.out
            have hns161_2 := NB335_329.out
            have hms161_0 := NB329_328.out
            have hms161_2 := NB329_335.out
            have hs162 : w153.cell? ⟨gb329, 8, none⟩ = some (.string ⟨#[]⟩) := zc BK329.out 8
            have hfs162 := blk_frozen BK329.out 8
            have hns162_0 := NB328_329.out
            have hns162_2 := NB335_329.out
            have hms162_0 := NB329_328.out
            have hms162_2 := NB329_335.out
            have hs163 : w153.cell? ⟨gb329, 9, none⟩ = some (.slice none 0 0) := zc BK329.out 9
            have hfs163 := blk_frozen BK329.out 9
            have hns163_0 := NB328_329.out
            have hns163_2 := NB335_329.out
            have hms163_0 := NB329_328.out
            have hms163_2 := NB329_335.out
            refine skip_ (w1 := ?_) (by rfl) rfl ?_ ?_
            rotate_left
            ·go_simp
             rfl
            refine hK.out _ _ ⟨(zW NB335_329.out hHeld.1), (zW NB335_329.out hHeld.2.1), (zW NB335_329.out hHeld.2.2.1), (zW NB335_329.out hHeld.2.2.2.1), (zW NB335_329.out hHeld.2.2.2.2.1), (zW NB335_329.out hHeld.2.2.2.2.2.1), (zW NB335_329.out hHeld.2.2.2.2.2.2.1), (zW NB335_329.out hHeld.2.2.2.2.2.2.2.1), (zW NB335_329.out hHeld.2.2.2.2.2.2.2.2.1), (zW NB335_329.out hHeld.2.2.2.2.2.2.2.2.2)⟩ (fun hHeld => ?_)
            clear hK K
            refine zkp 5 (N := some 3) (h := ?_)
            refine done_ (by kernel_rfl) ?_
            try go_wp2
            refine bodyPost_ret (results_ct rfl _ _ gb329 64 #[.int .i64 1, .int .i64 a0_0, .string t352, .string t367, .string t368, .string ⟨#[]⟩, .string ⟨#[]⟩, .string ⟨#[]⟩, .string ⟨#[]⟩, .slice none 0 0] (0, 0) _ rfl (zP10 BK329.out) Tryd.underlying64 rfl (by kernel_rfl)) rfl ?_
            exact ⟨_, zE, zNl, zL HB.out⟩
         case' pos =>
          rw [if_pos c107] at H
          have c107b0 := zb0 c107
          have c107b1 := zb1 c107
          clear c107
     all_goals
      replace H := zs11 H
      obtain ⟨rfl, rfl, rfl, rfl, rfl, rfl, rfl, rfl, rfl, rfl, rfl⟩ := H
      have hnb102 := NB335_328.out
      have hnc102 := NB328_335.out
      have hnb103 := NB335_329.out
      have hnc103 := NB329_335.out
      obtain ⟨z104_0, z104_1, z104_2, z104_3, z104_4, z104_5, z104_6, z104_7, z104_8, z104_9, y104_0, y104_1, y104_2, y104_3, y104_4, y104_5, y104_6, y104_7, y104_8, y104_9⟩ := zC10 BK335.out
      have hnb105 := NB329_328.out
      have hnc105 := NB328_329.out
      obtain ⟨z106_0, z106_1, z106_2, z106_3, z106_4, z106_5, z106_6, z106_7, z106_8, z106_9, y106_0, y106_1, y106_2, y106_3, y106_4, y106_5, y106_6, y106_7, y106_8, y106_9⟩ := zC10 BK329.out
      go_wp2
      refine bodyPost_ret (results_ct rfl _ _ gb329 64 #[.int .i64 6, .int .i64 a0_0, .string (rdOf ByteArray.empty t331 0), .string ⟨#[]⟩, .string t337, .string ⟨#[]⟩, .string ⟨#[]⟩, .string ⟨#[]⟩, .string ⟨#[]⟩, .slice none 0 0] (0, 0) _ rfl (zP10 BK329.out) Tryd.underlying64 rfl (by kernel_rfl)) rfl ?_
      exact ⟨_, zE, zNl, zL HB.out⟩

end Go.Proofs.YthnholondnfjoaaDoor.PParse
