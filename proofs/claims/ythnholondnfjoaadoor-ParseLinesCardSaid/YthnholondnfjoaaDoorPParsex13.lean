-- Written by a program of this session (wip/tools/ext.py, over the kit's printer); not trusted: Lean checks it.
import Derived.Test.YthnholondnfjoaaDoorPParsex0
import Derived.Test.YthnholondnfjoaaDoorPParsex10
import Derived.Test.YthnholondnfjoaaDoorPParsex11
import Derived.Test.YthnholondnfjoaaDoorPParsex12
namespace Go.Proofs.YthnholondnfjoaaDoor.PParse
open Go.RowKit Go.Proofs.YthnholondnfjoaaDoorW.PrintWords Go.Proofs.YthnholondnfjoaaDoorW.PrintLast Go.Proofs.YthnholondnfjoaaDoorW.PrintMore
attribute [local go_sem] max2_int min2_int max_two min_two max_three min_three max_four min_four   -- for this text's walks alone
set_option linter.unusedVariables false
set_option linter.unusedSimpArgs false

/-! ### cooperageref9_one: function 26 -/
mutual
def cooperageref9_one.j0 : Nat → List ByteArray → ByteArray → ByteArray → Bool → Int → Bool → ByteArray → Int → Int → ByteArray → ByteArray → ByteArray → ByteArray → ByteArray → ByteArray → ByteArray → Option (Int × Int × ByteArray × ByteArray × ByteArray × ByteArray × ByteArray × ByteArray × ByteArray × List ByteArray × Bool)
 | 0, _, _, _, _, _, _, _, _, _, _, _, _, _, _, _, _ => none
 | k + 1, x4, x6, x38, x39, x336000, x336001, x336002, x343000, x343001, x343002, x343003, x343004, x343005, x343006, x343007, x343008 => if x39 = true then (if (x6.size : Int) < 2 then (cooperageref9_one.j1 k x6 true 3 x343001 x343002 x343003 x343004 x343005 x343006 x343007 x343008) else (if 0 < (x6.size : Int) then (if (bt x6 0) = 40 then (if 0 ≤ (wrap64 ((x6.size : Int) - 1)) then (if (wrap64 ((x6.size : Int) - 1)) < (x6.size : Int) then (cooperageref9_one.j1 k x6 ((bt x6 (wrap64 ((x6.size : Int) - 1))) != 41) 3 x343001 x343002 x343003 x343004 x343005 x343006 x343007 x343008) else (none)) else (none)) else (cooperageref9_one.j1 k x6 true 3 x343001 x343002 x343003 x343004 x343005 x343006 x343007 x343008)) else (none))) else (if x38.toList = ([105, 102, 100, 101, 102] : List UInt8) then (cooperageref9_one.j2 k x4 x6 x38 (x38.toList == ([105, 102, 100, 101, 102] : List UInt8)) x336000 x336001 x336002 x343000 x343001 x343002 x343003 x343004 x343005 x343006 x343007 x343008) else (cooperageref9_one.j2 k x4 x6 x38 (x38.toList == ([105, 102, 110, 100, 101, 102] : List UInt8)) x336000 x336001 x336002 x343000 x343001 x343002 x343003 x343004 x343005 x343006 x343007 x343008))
def cooperageref9_one.j1 : Nat → ByteArray → Bool → Int → Int → ByteArray → ByteArray → ByteArray → ByteArray → ByteArray → ByteArray → ByteArray → Option (Int × Int × ByteArray × ByteArray × ByteArray × ByteArray × ByteArray × ByteArray × ByteArray × List ByteArray × Bool)
 | 0, _, _, _, _, _, _, _, _, _, _, _ => none
 | k + 1, x6, x58, x343000, x343001, x343002, x343003, x343004, x343005, x343006, x343007, x343008 => if x58 = true then (some (x343000, x343001, x343002, x343003, x343004, x343005, x343006, x343007, x343008, ([] : List ByteArray), false)) else (if 1 ≤ (wrap64 ((x6.size : Int) - 1)) then (if (wrap64 ((x6.size : Int) - 1)) ≤ (x6.size : Int) then ((cooperageref9_Cut.f k (x6.extract 1 ((wrap64 ((x6.size : Int) - 1)) : Int).toNat) (([(⟨#[44]⟩ : ByteArray)] : List ByteArray))).bind fun bt349 => ((cooperageref1_Trim.f k bt349.1).bind fun t352 => ((cooperageref1_Trim.f k bt349.2.2).bind fun t353 => (some (x343000, x343001, x343002, t352, t353, x343005, x343006, x343007, x343008, ([] : List ByteArray), (bt349.2.1.toList != ([] : List UInt8))))))) else (none)) else (none))
def cooperageref9_one.j2 : Nat → List ByteArray → ByteArray → ByteArray → Bool → Int → Bool → ByteArray → Int → Int → ByteArray → ByteArray → ByteArray → ByteArray → ByteArray → ByteArray → ByteArray → Option (Int × Int × ByteArray × ByteArray × ByteArray × ByteArray × ByteArray × ByteArray × ByteArray × List ByteArray × Bool)
 | 0, _, _, _, _, _, _, _, _, _, _, _, _, _, _, _, _ => none
 | k + 1, x4, x6, x38, x80, x336000, x336001, x336002, x343000, x343001, x343002, x343003, x343004, x343005, x343006, x343007, x343008 => if x80 = true then ((cooperageref9_Name.f k x6).bind fun t354 => (some (3, x343001, x343002, x6, x343004, x343005, x343006, x343007, x343008, ([] : List ByteArray), t354))) else (if x38.toList = ([101, 108, 115, 101] : List UInt8) then (some (4, x336000, (⟨#[]⟩ : ByteArray), (⟨#[]⟩ : ByteArray), (⟨#[]⟩ : ByteArray), (⟨#[]⟩ : ByteArray), (⟨#[]⟩ : ByteArray), (⟨#[]⟩ : ByteArray), (⟨#[]⟩ : ByteArray), ([] : List ByteArray), ((x4.length : Int) == 1))) else (if x38.toList = ([101, 110, 100, 105, 102] : List UInt8) then (some (5, x336000, (⟨#[]⟩ : ByteArray), (⟨#[]⟩ : ByteArray), (⟨#[]⟩ : ByteArray), (⟨#[]⟩ : ByteArray), (⟨#[]⟩ : ByteArray), (⟨#[]⟩ : ByteArray), (⟨#[]⟩ : ByteArray), ([] : List ByteArray), ((x4.length : Int) == 1))) else (if x38.toList = ([105, 110, 99, 108, 117, 100, 101] : List UInt8) then (some (6, x343001, x343002, x343003, x6, x343005, x343006, x343007, x343008, ([] : List ByteArray), (x6.toList != ([] : List UInt8)))) else (if x38.toList = ([45, 105, 110, 99, 108, 117, 100, 101] : List UInt8) then (some (6, x343001, x343002, x343003, x6, x343005, x343006, x343007, x343008, ([] : List ByteArray), (x6.toList != ([] : List UInt8)))) else ((cooperageref9_Cut.f k x336002 (([(⟨#[58, 61]⟩ : ByteArray), (⟨#[63, 61]⟩ : ByteArray), (⟨#[43, 61]⟩ : ByteArray), (⟨#[61]⟩ : ByteArray), (⟨#[58]⟩ : ByteArray)] : List ByteArray))).bind fun bt358 => (if bt358.2.1.toList = ([] : List UInt8) then (some (x343000, x343001, bt358.2.1, x343003, x343004, x343005, x343006, x343007, x343008, ([] : List ByteArray), false)) else (if bt358.2.1.toList = ([58] : List UInt8) then ((cooperageref9_rule.f k bt358.1 bt358.2.2 x336000).bind fun bt361 => (some (bt361.1, bt361.2.1, bt361.2.2.1, bt361.2.2.2.1, bt361.2.2.2.2.1, bt361.2.2.2.2.2.1, bt361.2.2.2.2.2.2.1, bt361.2.2.2.2.2.2.2.1, bt361.2.2.2.2.2.2.2.2.1, bt361.2.2.2.2.2.2.2.2.2.1, bt361.2.2.2.2.2.2.2.2.2.2))) else ((cooperageref1_Trim.f k bt358.1).bind fun t374 => ((cooperageref1_Trim.f k bt358.2.2).bind fun t375 => ((cooperageref9_Name.f k t374).bind fun t376 => (some (1, x343001, bt358.2.1, t374, t375, x343005, x343006, x343007, x343008, ([] : List ByteArray), t376))))))))))))
end
def cooperageref9_one.f (k : Nat) (a0_0 : Int) (a0_1 : Bool) (a0_2 : ByteArray) : Option (Int × Int × ByteArray × ByteArray × ByteArray × ByteArray × ByteArray × ByteArray × ByteArray × List ByteArray × Bool) := (cooperageref1_Trim.f k a0_2).bind fun t337 => ((cooperageref1_Words.f k t337).bind fun t338 => (if (t338.length : Int) = 0 then (some (0, 0, (⟨#[]⟩ : ByteArray), (⟨#[]⟩ : ByteArray), (⟨#[]⟩ : ByteArray), (⟨#[]⟩ : ByteArray), (⟨#[]⟩ : ByteArray), (⟨#[]⟩ : ByteArray), (⟨#[]⟩ : ByteArray), ([] : List ByteArray), false)) else (if 0 < (t338.length : Int) then ((cooperageref9_behind.f k t337 (rdOf ByteArray.empty t338 0)).bind fun t344 => (if (rdOf ByteArray.empty t338 0).toList = ([105, 102, 101, 113] : List UInt8) then (cooperageref9_one.j0 k t338 t344 (rdOf ByteArray.empty t338 0) ((rdOf ByteArray.empty t338 0).toList == ([105, 102, 101, 113] : List UInt8)) a0_0 a0_1 t337 0 a0_0 (rdOf ByteArray.empty t338 0) (⟨#[]⟩ : ByteArray) (⟨#[]⟩ : ByteArray) (⟨#[]⟩ : ByteArray) (⟨#[]⟩ : ByteArray) (⟨#[]⟩ : ByteArray) (⟨#[]⟩ : ByteArray)) else (cooperageref9_one.j0 k t338 t344 (rdOf ByteArray.empty t338 0) ((rdOf ByteArray.empty t338 0).toList == ([105, 102, 110, 101, 113] : List UInt8)) a0_0 a0_1 t337 0 a0_0 (rdOf ByteArray.empty t338 0) (⟨#[]⟩ : ByteArray) (⟨#[]⟩ : ByteArray) (⟨#[]⟩ : ByteArray) (⟨#[]⟩ : ByteArray) (⟨#[]⟩ : ByteArray) (⟨#[]⟩ : ByteArray)))) else (none))))
theorem cooperageref9_one.mono_l : ∀ k, (∀ y0 y1 y2 y3 y4 y5 y6 y7 y8 y9 y10 y11 y12 y13 y14 y15, LeO (cooperageref9_one.j0 k y0 y1 y2 y3 y4 y5 y6 y7 y8 y9 y10 y11 y12 y13 y14 y15) (cooperageref9_one.j0 (k + 1) y0 y1 y2 y3 y4 y5 y6 y7 y8 y9 y10 y11 y12 y13 y14 y15)) ∧ (∀ y0 y1 y2 y3 y4 y5 y6 y7 y8 y9 y10, LeO (cooperageref9_one.j1 k y0 y1 y2 y3 y4 y5 y6 y7 y8 y9 y10) (cooperageref9_one.j1 (k + 1) y0 y1 y2 y3 y4 y5 y6 y7 y8 y9 y10)) ∧ (∀ y0 y1 y2 y3 y4 y5 y6 y7 y8 y9 y10 y11 y12 y13 y14 y15, LeO (cooperageref9_one.j2 k y0 y1 y2 y3 y4 y5 y6 y7 y8 y9 y10 y11 y12 y13 y14 y15) (cooperageref9_one.j2 (k + 1) y0 y1 y2 y3 y4 y5 y6 y7 y8 y9 y10 y11 y12 y13 y14 y15))
 | 0 => ⟨fun _ _ _ _ _ _ _ _ _ _ _ _ _ _ _ _ r h => by simp [cooperageref9_one.j0] at h, fun _ _ _ _ _ _ _ _ _ _ _ r h => by simp [cooperageref9_one.j1] at h, fun _ _ _ _ _ _ _ _ _ _ _ _ _ _ _ _ r h => by simp [cooperageref9_one.j2] at h⟩
 | k + 1 => by
  obtain ⟨ih0, ih1, ih2⟩ := cooperageref9_one.mono_l k
  refine ⟨?_, ?_, ?_⟩
  ·intro y0 y1 y2 y3 y4 y5 y6 y7 y8 y9 y10 y11 y12 y13 y14 y15
   unfold cooperageref9_one.j0
   repeat' first
   | (with_reducible exact ih0 _ _ _ _ _ _ _ _ _ _ _ _ _ _ _ _)
   | (with_reducible exact ih1 _ _ _ _ _ _ _ _ _ _ _)
   | (with_reducible exact ih2 _ _ _ _ _ _ _ _ _ _ _ _ _ _ _ _)
   | (with_reducible exact cooperageref1_Trim.mono _ _)
   | (with_reducible exact cooperageref1_Words.mono _ _)
   | (with_reducible exact cooperageref9_Cut.mono _ _ _)
   | (with_reducible exact cooperageref9_Name.mono _ _)
   | (with_reducible exact cooperageref9_behind.mono _ _ _)
   | (with_reducible exact cooperageref9_rule.mono _ _ _ _)
   | (with_reducible exact LeO.refl _)
   | (with_reducible exact LeO.none _)
   | (with_reducible refine LeO.ite ?_ ?_)
   | (with_reducible refine LeO.bind ?_ (fun _ => ?_))
   | exact ih0 _ _ _ _ _ _ _ _ _ _ _ _ _ _ _ _
   | exact ih1 _ _ _ _ _ _ _ _ _ _ _
   | exact ih2 _ _ _ _ _ _ _ _ _ _ _ _ _ _ _ _
   | exact cooperageref1_Trim.mono _ _
   | exact cooperageref1_Words.mono _ _
   | exact cooperageref9_Cut.mono _ _ _
   | exact cooperageref9_Name.mono _ _
   | exact cooperageref9_behind.mono _ _ _
   | exact cooperageref9_rule.mono _ _ _ _
   | exact LeO.none _
   | refine LeO.ite ?_ ?_
   | refine LeO.bind ?_ (fun _ => ?_)
  ·intro y0 y1 y2 y3 y4 y5 y6 y7 y8 y9 y10
   unfold cooperageref9_one.j1
   repeat' first
   | (with_reducible exact ih0 _ _ _ _ _ _ _ _ _ _ _ _ _ _ _ _)
   | (with_reducible exact ih1 _ _ _ _ _ _ _ _ _ _ _)
   | (with_reducible exact ih2 _ _ _ _ _ _ _ _ _ _ _ _ _ _ _ _)
   | (with_reducible exact cooperageref1_Trim.mono _ _)
   | (with_reducible exact cooperageref1_Words.mono _ _)
   | (with_reducible exact cooperageref9_Cut.mono _ _ _)
   | (with_reducible exact cooperageref9_Name.mono _ _)
   | (with_reducible exact cooperageref9_behind.mono _ _ _)
   | (with_reducible exact cooperageref9_rule.mono _ _ _ _)
   | (with_reducible exact LeO.refl _)
   | (with_reducible exact LeO.none _)
   | (with_reducible refine LeO.ite ?_ ?_)
   | (with_reducible refine LeO.bind ?_ (fun _ => ?_))
   | exact ih0 _ _ _ _ _ _ _ _ _ _ _ _ _ _ _ _
   | exact ih1 _ _ _ _ _ _ _ _ _ _ _
   | exact ih2 _ _ _ _ _ _ _ _ _ _ _ _ _ _ _ _
   | exact cooperageref1_Trim.mono _ _
   | exact cooperageref1_Words.mono _ _
   | exact cooperageref9_Cut.mono _ _ _
   | exact cooperageref9_Name.mono _ _
   | exact cooperageref9_behind.mono _ _ _
   | exact cooperageref9_rule.mono _ _ _ _
   | exact LeO.none _
   | refine LeO.ite ?_ ?_
   | refine LeO.bind ?_ (fun _ => ?_)
  ·intro y0 y1 y2 y3 y4 y5 y6 y7 y8 y9 y10 y11 y12 y13 y14 y15
   unfold cooperageref9_one.j2
   repeat' first
   | (with_reducible exact ih0 _ _ _ _ _ _ _ _ _ _ _ _ _ _ _ _)
   | (with_reducible exact ih1 _ _ _ _ _ _ _ _ _ _ _)
   | (with_reducible exact ih2 _ _ _ _ _ _ _ _ _ _ _ _ _ _ _ _)
   | (with_reducible exact cooperageref1_Trim.mono _ _)
   | (with_reducible exact cooperageref1_Words.mono _ _)
   | (with_reducible exact cooperageref9_Cut.mono _ _ _)
   | (with_reducible exact cooperageref9_Name.mono _ _)
   | (with_reducible exact cooperageref9_behind.mono _ _ _)
   | (with_reducible exact cooperageref9_rule.mono _ _ _ _)
   | (with_reducible exact LeO.refl _)
   | (with_reducible exact LeO.none _)
   | (with_reducible refine LeO.ite ?_ ?_)
   | (with_reducible refine LeO.bind ?_ (fun _ => ?_))
   | exact ih0 _ _ _ _ _ _ _ _ _ _ _ _ _ _ _ _
   | exact ih1 _ _ _ _ _ _ _ _ _ _ _
   | exact ih2 _ _ _ _ _ _ _ _ _ _ _ _ _ _ _ _
   | exact cooperageref1_Trim.mono _ _
   | exact cooperageref1_Words.mono _ _
   | exact cooperageref9_Cut.mono _ _ _
   | exact cooperageref9_Name.mono _ _
   | exact cooperageref9_behind.mono _ _ _
   | exact cooperageref9_rule.mono _ _ _ _
   | exact LeO.none _
   | refine LeO.ite ?_ ?_
   | refine LeO.bind ?_ (fun _ => ?_)
theorem cooperageref9_one.mono : ∀ a0 a1 a2 k, LeO (cooperageref9_one.f k a0 a1 a2) (cooperageref9_one.f (k + 1) a0 a1 a2) := by
 intro a0 a1 a2 k
 obtain ⟨ih0, ih1, ih2⟩ := cooperageref9_one.mono_l k
 unfold cooperageref9_one.f
 repeat' first
   | (with_reducible exact ih0 _ _ _ _ _ _ _ _ _ _ _ _ _ _ _ _)
   | (with_reducible exact ih1 _ _ _ _ _ _ _ _ _ _ _)
   | (with_reducible exact ih2 _ _ _ _ _ _ _ _ _ _ _ _ _ _ _ _)
   | (with_reducible exact cooperageref1_Trim.mono _ _)
   | (with_reducible exact cooperageref1_Words.mono _ _)
   | (with_reducible exact cooperageref9_Cut.mono _ _ _)
   | (with_reducible exact cooperageref9_Name.mono _ _)
   | (with_reducible exact cooperageref9_behind.mono _ _ _)
   | (with_reducible exact cooperageref9_rule.mono _ _ _ _)
   | (with_reducible exact LeO.refl _)
   | (with_reducible exact LeO.none _)
   | (with_reducible refine LeO.ite ?_ ?_)
   | (with_reducible refine LeO.bind ?_ (fun _ => ?_))
   | exact ih0 _ _ _ _ _ _ _ _ _ _ _ _ _ _ _ _
   | exact ih1 _ _ _ _ _ _ _ _ _ _ _
   | exact ih2 _ _ _ _ _ _ _ _ _ _ _ _ _ _ _ _
   | exact cooperageref1_Trim.mono _ _
   | exact cooperageref1_Words.mono _ _
   | exact cooperageref9_Cut.mono _ _ _
   | exact cooperageref9_Name.mono _ _
   | exact cooperageref9_behind.mono _ _ _
   | exact cooperageref9_rule.mono _ _ _ _
   | exact LeO.none _
   | refine LeO.ite ?_ ?_
   | refine LeO.bind ?_ (fun _ => ?_)
def cooperageref9_one.T5 : Bool × List (List Nat × List Nat) := (true, [([], []), ([0], [0]), ([], []), ([2], [2]), ([3], [3]), ([1, 4], [1, 4]), ([], []), ([6, 5, 0, 1, 2, 3, 4, 5, 6], [5, 6])])
def cooperageref9_one.B5 : List Nat := [0, 1, 0, 4, 12, 31, 0, 127]
theorem cooperageref9_one.tab5 : rtab .any (opsOf Tryd.f26 5) = cooperageref9_one.T5 := by kernel_rfl
theorem cooperageref9_one.bits5 : waitsOk cooperageref9_one.T5.2 cooperageref9_one.B5 = true := by kernel_rfl
set_option maxHeartbeats 8000000 in
set_option maxRecDepth 100000 in
theorem cooperageref9_one.calls (k : Nat) (a0_0 : Int) (a0_1 : Bool) (a0_2 : ByteArray) (r1 : Int) (r2 : Int) (r3 : ByteArray) (r4 : ByteArray) (r5 : ByteArray) (r6 : ByteArray) (r7 : ByteArray) (r8 : ByteArray) (r9 : ByteArray) (r10 : List ByteArray) (r11 : Bool) (w : World) (h : cooperageref9_one.f k a0_0 a0_1 a0_2 = some (r1, r2, r3, r4, r5, r6, r7, r8, r9, r10, r11)) :
  Calls Tryd.prog 26 #[.agg #[.int .i64 a0_0, .bool a0_1, .string a0_2]] w fun e w' => ∃ v9_ : Value, e = .returned (.tuple #[.agg #[.int .i64 r1, .int .i64 r2, .string r3, .string r4, .string r5, .string r6, .string r7, .string r8, .string r9, v9_], .bool r11]) ∧ Kd.R Kd.string 9 w' w.heap.size (fun _ => True) v9_ r10 ∧ Below w.heap.size w w' := by
 have hu53 := Tryd.underlying53
 have hu64 := Tryd.underlying64
 have HB := Aside0.mk (Below.refl w.heap.size w)
 have H : ((cooperageref1_Trim.f k a0_2).bind fun t337 => ((cooperageref1_Words.f k t337).bind fun t338 => (if (t338.length : Int) = 0 then (some (0, 0, (⟨#[]⟩ : ByteArray), (⟨#[]⟩ : ByteArray), (⟨#[]⟩ : ByteArray), (⟨#[]⟩ : ByteArray), (⟨#[]⟩ : ByteArray), (⟨#[]⟩ : ByteArray), (⟨#[]⟩ : ByteArray), ([] : List ByteArray), false)) else (if 0 < (t338.length : Int) then ((cooperageref9_behind.f k t337 (rdOf ByteArray.empty t338 0)).bind fun t344 => (if (rdOf ByteArray.empty t338 0).toList = ([105, 102, 101, 113] : List UInt8) then (cooperageref9_one.j0 k t338 t344 (rdOf ByteArray.empty t338 0) ((rdOf ByteArray.empty t338 0).toList == ([105, 102, 101, 113] : List UInt8)) a0_0 a0_1 t337 0 a0_0 (rdOf ByteArray.empty t338 0) (⟨#[]⟩ : ByteArray) (⟨#[]⟩ : ByteArray) (⟨#[]⟩ : ByteArray) (⟨#[]⟩ : ByteArray) (⟨#[]⟩ : ByteArray) (⟨#[]⟩ : ByteArray)) else (cooperageref9_one.j0 k t338 t344 (rdOf ByteArray.empty t338 0) ((rdOf ByteArray.empty t338 0).toList == ([105, 102, 110, 101, 113] : List UInt8)) a0_0 a0_1 t337 0 a0_0 (rdOf ByteArray.empty t338 0) (⟨#[]⟩ : ByteArray) (⟨#[]⟩ : ByteArray) (⟨#[]⟩ : ByteArray) (⟨#[]⟩ : ByteArray) (⟨#[]⟩ : ByteArray) (⟨#[]⟩ : ByteArray)))) else (none))))) = some (r1, r2, r3, r4, r5, r6, r7, r8, r9, r10, r11) := h
 clear h
 replace H := Option.bind_eq_some_iff.mp H
 obtain ⟨t337, A20, H⟩ := H
 try dsimp only at H
 have A2 := Aside0.mk A20
 clear A20
 replace H := Option.bind_eq_some_iff.mp H
 obtain ⟨t338, A30, H⟩ := H
 try dsimp only at H
 have A3 := Aside0.mk A30
 clear A30
 by_cases c4 : (t338.length : Int) = 0
 ·rw [if_pos c4] at H
  have c4b0 := beq_iff_eq.mpr c4
  have c4b1 := bne_eq_false_iff_eq.mpr c4
  clear c4
  simp only [Option.some.injEq, Prod.mk.injEq] at H
  obtain ⟨rfl, rfl, rfl, rfl, rfl, rfl, rfl, rfl, rfl, rfl, rfl⟩ := H
  go_enter Tryd.func26, Tryd.ntmps26
  go_wp2_with (first | ((with_reducible refine gate_dst (N := 1) rfl ?_); (try (refine gate_guard (by rfl) ?_; dsimp only)); refine box_event ?hg (N := 1) ?hd (cs := #[.int .i64 a0_0, .bool a0_1, .string a0_2]) (t := 53) ?hr ?_; (case hd => rfl); (case hg => rfl); (case hr => (go_simp; try rfl)); intro gb335 hg w5 hbox hb; have BK335 := Aside0.mk (hbox); have GW335 := Aside0.mk (zG hg (zL HB.out)); have GE335 := Aside0.mk (zG hg (zL HB.out)); replace HB := Aside0.mk (below_step (zL HB.out) hb); clear hb hbox hg) | ((with_reducible refine gate_dst (N := 2) rfl ?_); (try (refine gate_guard (by rfl) ?_; dsimp only)); refine box_event ?hg (N := 2) ?hd (cs := #[.int .i64 0, .int .i64 0, .string ⟨#[]⟩, .string ⟨#[]⟩, .string ⟨#[]⟩, .string ⟨#[]⟩, .string ⟨#[]⟩, .string ⟨#[]⟩, .string ⟨#[]⟩, .slice none 0 0]) (t := 64) ?hr ?_; (case hd => rfl); (case hg => rfl); (case hr => (go_simp; try rfl)); intro gb336 hg w6 hbox hb; have BK336 := Aside0.mk (hbox); have GW336 := Aside0.mk (zG hg (zL HB.out)); have GE336 := Aside0.mk (zG hg (zL HB.out)); replace HB := Aside0.mk (below_step (zL HB.out) hb); have NB335_336 := Aside0.mk (zNK hg BK335.out); have NB336_335 := Aside0.mk (zOK hg BK335.out); replace BK335 := Aside0.mk (zB BK335.out hb); clear hb hbox hg; have hnb7 := NB335_336.out; have hnc7 := NB336_335.out; obtain ⟨hcz8_0, hcz8_1, hcz8_2, hfz8_0, hfz8_1, hfz8_2⟩ := zC3 BK335.out) | ((with_reducible refine gate_callee (f := 40) rfl ?_); refine goesL_ (some 15) rfl rfl Tryd.func40 (by kernel_rfl) rfl #[.string a0_2] rfl zA ?_; (with_reducible refine (cooperageref1_Trim.calls k a0_2 t337 _ A2.out).mono ?_); rintro e w' ⟨rfl, ⟨nd, rfl⟩⟩; refine ⟨_, rfl, ?_⟩; (try (rw [drewN_self w6]; generalize hq_ : World.drewN w6 _ = w6; have n0_ : Aside0 (w6.heap[gb335]? = some (.cells #[.int .i64 a0_0, .bool a0_1, .string a0_2] 53 (0, 0))) := ⟨by rw [← hq_]; exact (zK BK335.out)⟩; have n1_ : Aside0 (w6.heap[gb336]? = some (.cells #[.int .i64 0, .int .i64 0, .string ⟨#[]⟩, .string ⟨#[]⟩, .string ⟨#[]⟩, .string ⟨#[]⟩, .string ⟨#[]⟩, .string ⟨#[]⟩, .string ⟨#[]⟩, .slice none 0 0] 64 (0, 0))) := ⟨by rw [← hq_]; exact (zK BK336.out)⟩; have n2_ : Aside0 (Below w.heap.size w w6) := ⟨by rw [← hq_]; exact (zL HB.out)⟩; clear BK335 BK336 HB hq_; have BK335 := n0_; have BK336 := n1_; have HB := n2_; clear n0_ n1_ n2_; (try (obtain ⟨hcz8_0, hcz8_1, hcz8_2, hfz8_0, hfz8_1, hfz8_2⟩ := zC3 BK335.out))))) | ((with_reducible refine gate_callee (f := 47) rfl ?_); refine goesL_ (some 19) rfl rfl Tryd.func47 (by kernel_rfl) rfl #[.string t337] rfl zA ?_; (with_reducible refine (cooperageref1_Words.calls k t337 t338 _ A3.out).mono ?_); rintro e w9 ⟨v339, rfl, ho0, hb⟩; refine ⟨_, rfl, ?_⟩; have HO340 := Aside0.mk (Kd.R_lower ho0 (below_size (zL HB.out))); replace BK335 := Aside0.mk (blk_below (g := gb335) (o := .cells #[.int .i64 a0_0, .bool a0_1, .string t337] 53 (0, 0)) (by (with_reducible repeat (first | refine blk_drewN ?_ _ | refine blk_drew ?_ | refine blk_alloc ?_ _)); refine blk_put (cs := #[.int .i64 a0_0, .bool a0_1, .string a0_2]) ?_ 2 _ rfl; (with_reducible repeat (first | refine blk_drewN ?_ _ | refine blk_drew ?_ | refine blk_alloc ?_ _)); exact BK335.out) hb); replace BK336 := Aside0.mk (zB BK336.out hb); replace HB := Aside0.mk (below_step (zL HB.out) hb); (try clear hb); (try clear hb2); (try clear hk); (try clear hi); (try clear ho0); obtain ⟨Ao10, co10, eo10⟩ := Kd.R_slice HO340.out; subst eo10; obtain ⟨hcz11_0, hcz11_1, hcz11_2, hcz11_3, hcz11_4, hcz11_5, hcz11_6, hcz11_7, hcz11_8, hcz11_9, hfz11_0, hfz11_1, hfz11_2, hfz11_3, hfz11_4, hfz11_5, hfz11_6, hfz11_7, hfz11_8, hfz11_9⟩ := zC10 BK336.out))
  refine bodyPost_ret (results_ct rfl _ _ gb336 64 #[.int .i64 0, .int .i64 0, .string ⟨#[]⟩, .string ⟨#[]⟩, .string ⟨#[]⟩, .string ⟨#[]⟩, .string ⟨#[]⟩, .string ⟨#[]⟩, .string ⟨#[]⟩, .slice none 0 0] (0, 0) _ rfl (zP10 BK336.out) Tryd.underlying64 rfl (by kernel_rfl)) rfl ?_
  exact ⟨_, zE, by first | exact Kd.R_nil _ _ _ _ _ | exact Kd.N_nil _ _ _ _ _ | exact Kd.V_nil _ _ _ _ _ | exact Kd.Q_nil _ _ _ _ _ | exact Kd.S_nil _ _ _ _ _, zL HB.out⟩
 rw [if_neg c4] at H
 have c4b0 := beq_eq_false_iff_ne.mpr c4
 have c4b1 := bne_iff_ne.mpr c4
 have c4b2 : ¬ (t338 = []) := fun h_ => c4 (by rw [h_]; rfl)
 by_cases c12 : 0 < (t338.length : Int)
 ·rw [if_pos c12] at H
  have c12b0 := decide_eq_true c12
  have c12b1 : decide (0 < t338.length) = true := decide_eq_true (by omega)
  clear c12
  replace H := Option.bind_eq_some_iff.mp H
  obtain ⟨t344, A130, H⟩ := H
  try dsimp only at H
  have A13 := Aside0.mk A130
  clear A130
  have HC14 := Aside0.mk H
  clear H
  go_enter Tryd.func26, Tryd.ntmps26
  try go_wp2_with (first | ((with_reducible refine gate_dst (N := 1) rfl ?_); (try (refine gate_guard (by rfl) ?_; dsimp only)); refine box_event ?hg (N := 1) ?hd (cs := #[.int .i64 a0_0, .bool a0_1, .string a0_2]) (t := 53) ?hr ?_; (case hd => rfl); (case hg => rfl); (case hr => (go_simp; try rfl)); intro gb335 hg w15 hbox hb; have BK335 := Aside0.mk (hbox); have GW335 := Aside0.mk (zG hg (zL HB.out)); have GE335 := Aside0.mk (zG hg (zL HB.out)); replace HB := Aside0.mk (below_step (zL HB.out) hb); clear hb hbox hg) | ((with_reducible refine gate_dst (N := 2) rfl ?_); (try (refine gate_guard (by rfl) ?_; dsimp only)); refine box_event ?hg (N := 2) ?hd (cs := #[.int .i64 0, .int .i64 0, .string ⟨#[]⟩, .string ⟨#[]⟩, .string ⟨#[]⟩, .string ⟨#[]⟩, .string ⟨#[]⟩, .string ⟨#[]⟩, .string ⟨#[]⟩, .slice none 0 0]) (t := 64) ?hr ?_; (case hd => rfl); (case hg => rfl); (case hr => (go_simp; try rfl)); intro gb336 hg w16 hbox hb; have BK336 := Aside0.mk (hbox); have GW336 := Aside0.mk (zG hg (zL HB.out)); have GE336 := Aside0.mk (zG hg (zL HB.out)); replace HB := Aside0.mk (below_step (zL HB.out) hb); have NB335_336 := Aside0.mk (zNK hg BK335.out); have NB336_335 := Aside0.mk (zOK hg BK335.out); replace BK335 := Aside0.mk (zB BK335.out hb); clear hb hbox hg; have hnb17 := NB335_336.out; have hnc17 := NB336_335.out; obtain ⟨hcz18_0, hcz18_1, hcz18_2, hfz18_0, hfz18_1, hfz18_2⟩ := zC3 BK335.out) | ((with_reducible refine gate_callee (f := 40) rfl ?_); refine goesL_ (some 15) rfl rfl Tryd.func40 (by kernel_rfl) rfl #[.string a0_2] rfl zA ?_; (with_reducible refine (cooperageref1_Trim.calls k a0_2 t337 _ A2.out).mono ?_); rintro e w' ⟨rfl, ⟨nd, rfl⟩⟩; refine ⟨_, rfl, ?_⟩; (try (rw [drewN_self w16]; generalize hq_ : World.drewN w16 _ = w16; have n0_ : Aside0 (w16.heap[gb335]? = some (.cells #[.int .i64 a0_0, .bool a0_1, .string a0_2] 53 (0, 0))) := ⟨by rw [← hq_]; exact (zK BK335.out)⟩; have n1_ : Aside0 (w16.heap[gb336]? = some (.cells #[.int .i64 0, .int .i64 0, .string ⟨#[]⟩, .string ⟨#[]⟩, .string ⟨#[]⟩, .string ⟨#[]⟩, .string ⟨#[]⟩, .string ⟨#[]⟩, .string ⟨#[]⟩, .slice none 0 0] 64 (0, 0))) := ⟨by rw [← hq_]; exact (zK BK336.out)⟩; have n2_ : Aside0 (Below w.heap.size w w16) := ⟨by rw [← hq_]; exact (zL HB.out)⟩; clear BK335 BK336 HB hq_; have BK335 := n0_; have BK336 := n1_; have HB := n2_; clear n0_ n1_ n2_; (try (obtain ⟨hcz18_0, hcz18_1, hcz18_2, hfz18_0, hfz18_1, hfz18_2⟩ := zC3 BK335.out)); (try (obtain ⟨hcz11_0, hcz11_1, hcz11_2, hcz11_3, hcz11_4, hcz11_5, hcz11_6, hcz11_7, hcz11_8, hcz11_9, hfz11_0, hfz11_1, hfz11_2, hfz11_3, hfz11_4, hfz11_5, hfz11_6, hfz11_7, hfz11_8, hfz11_9⟩ := zC10 BK336.out))))) | ((with_reducible refine gate_callee (f := 47) rfl ?_); refine goesL_ (some 19) rfl rfl Tryd.func47 (by kernel_rfl) rfl #[.string t337] rfl zA ?_; (with_reducible refine (cooperageref1_Words.calls k t337 t338 _ A3.out).mono ?_); rintro e w19 ⟨v339, rfl, ho0, hb⟩; refine ⟨_, rfl, ?_⟩; have HO340 := Aside0.mk (Kd.R_lower ho0 (below_size (zL HB.out))); replace BK335 := Aside0.mk (blk_below (g := gb335) (o := .cells #[.int .i64 a0_0, .bool a0_1, .string t337] 53 (0, 0)) (by (with_reducible repeat (first | refine blk_drewN ?_ _ | refine blk_drew ?_ | refine blk_alloc ?_ _)); refine blk_put (cs := #[.int .i64 a0_0, .bool a0_1, .string a0_2]) ?_ 2 _ rfl; (with_reducible repeat (first | refine blk_drewN ?_ _ | refine blk_drew ?_ | refine blk_alloc ?_ _)); exact BK335.out) hb); replace BK336 := Aside0.mk (zB BK336.out hb); replace HB := Aside0.mk (below_step (zL HB.out) hb); (try clear hb); (try clear hb2); (try clear hk); (try clear hi); (try clear ho0); obtain ⟨Ao20, co20, eo20⟩ := Kd.R_slice HO340.out; subst eo20))
  have n0_ := Aside0.mk (Kd.R_drew HO340.out)
  have n1_ := Aside0.mk (blk_drew BK335.out)
  have n2_ := Aside0.mk (blk_drew BK336.out)
  have n3_ := Aside0.mk (below_drew1 HB.out)
  clear HO340
  clear BK335
  clear BK336
  clear HB
  have HO340 := n0_
  have BK335 := n1_
  have BK336 := n2_
  have HB := n3_
  clear n0_ n1_ n2_ n3_
  have p341 : 0 ≤ (0 : Int) := (by omega)
  have q341 : 0 < (t338.length : Int) := zD
  obtain ⟨ad341, e341, hx341_0⟩ := Kd.at_string (Kd.R_reads' HO340.out).2.2 0 p341 q341
  cases e341
  have qi341 : (0 < t338.length) = True := eq_true (by omega)
  (try rw [show ((0 : Int)).toNat = 0 from rfl] at hx341_0)
  (try rw [Addr.add_zero'] at hx341_0)
  replace p341 := eq_true p341
  replace q341 := eq_true q341
  refine start_ (n := 8) (S := fun w' => w'.cell? ⟨gb335, 0, none⟩ = some (.int .i64 a0_0) ∧ w'.cell? ⟨gb335, 1, none⟩ = some (.bool a0_1) ∧ w'.cell? ⟨gb335, 2, none⟩ = some (.string t337) ∧ w'.cell? ad341 = some (.string (rdOf ByteArray.empty t338 0))) (ds := []) #[false, false, false, false, false, false, false, false] (by kernel_rfl) rfl rfl ⟨(blk_cell BK335.out 0).trans rfl, (blk_cell BK335.out 1).trans rfl, (blk_cell BK335.out 2).trans rfl, hx341_0⟩ (fun hHeld => ?_); refine with_tabW cooperageref9_one.tab5 cooperageref9_one.bits5 (fun HT_ HW_ => ?_)
  generalize w19.drew = w21 at HO340 BK335 BK336 HB hx341_0 hHeld ⊢
  refine pure_ (i := 0) (N := some 24) (v := ?_) (a' := ?_) #[true, false, false, false, false, false, false, false] rfl rfl (any_of HT_.out (by kernel_rfl)) (fun _ _ _ h => h) (Or.inl ⟨by rfl, ?_⟩) ?_ ?_
  rotate_left
  ·intro w'
   go_simp
   with_reducible rfl
  rotate_left
  ·simp only [Act.put, List.setIfInBounds_toArray, List.set_cons_zero, List.set_cons_succ, i64_w, i32_w]
   rfl
  refine pure_ (i := 2) (N := some 26) (v := ?_) (a' := ?_) #[true, false, true, false, false, false, false, false] rfl rfl (any_of HT_.out (by kernel_rfl)) (fun _ _ _ h => h) (Or.inl ⟨by rfl, ?_⟩) ?_ ?_
  rotate_left
  ·intro w'
   go_simp
   with_reducible rfl
  rotate_left
  ·simp only [Act.put, List.setIfInBounds_toArray, List.set_cons_zero, List.set_cons_succ, i64_w, i32_w]
   rfl
  refine pure_ (i := 3) (N := some 27) (v := ?_) (a' := ?_) #[true, false, true, true, false, false, false, false] rfl rfl (any_of HT_.out (by kernel_rfl)) (fun _ _ _ h => h) (Or.inl ⟨by rfl, ?_⟩) ?_ ?_
  rotate_left
  ·intro w'
   go_simp
   with_reducible rfl
  rotate_left
  ·simp only [Act.put, List.setIfInBounds_toArray, List.set_cons_zero, List.set_cons_succ, i64_w, i32_w]
   rfl
  refine take_ (i := 1) (N := some 25) (v := ?_) (a' := ?_) #[true, true, true, true, false, false, false, false] rfl rfl (take_ofW HT_.out HW_.out (by kernel_rfl)) (fun _ _ _ h => h) (Or.inl ⟨by rfl, ?_⟩) hHeld ?_ ?_
  rotate_left
  ·rintro w' ⟨s0, s1, s2, s3⟩
   go_simp
   with_reducible rfl
  rotate_left
  ·simp only [Act.put, List.setIfInBounds_toArray, List.set_cons_zero, List.set_cons_succ, i64_w, i32_w]
   rfl
  refine take_ (i := 4) (N := some 28) (v := ?_) (a' := ?_) #[true, true, true, true, true, false, false, false] rfl rfl (take_ofW HT_.out HW_.out (by kernel_rfl)) (fun _ _ _ h => h) (Or.inl ⟨by rfl, ?_⟩) hHeld ?_ ?_
  rotate_left
  ·rintro w' ⟨s0, s1, s2, s3⟩
   go_simp
   with_reducible rfl
  rotate_left
  ·simp only [Act.put, List.setIfInBounds_toArray, List.set_cons_zero, List.set_cons_succ, i64_w, i32_w]
   rfl
  refine pure_ (i := 5) (N := some 29) (v := ?_) (a' := ?_) #[true, true, true, true, true, true, false, false] rfl rfl (any_of HT_.out (by kernel_rfl)) (fun _ _ _ h => h) (Or.inl ⟨by rfl, ?_⟩) ?_ ?_
  rotate_left
  ·intro w'
   go_simp
   with_reducible rfl
  rotate_left
  ·simp only [Act.put, List.setIfInBounds_toArray, List.set_cons_zero, List.set_cons_succ, i64_w, i32_w]
   rfl
  refine one_ (i := 6) (N := some 5) #[true, true, true, true, true, true, true, false] rfl rfl (one_of HT_.out (by kernel_rfl)) (by decide) (fun K hK => ?_)
  refine box_step ?hg (N := 5) ?hd (cs := #[.int .i64 0, .int .i64 0, .string ⟨#[]⟩, .string ⟨#[]⟩, .string ⟨#[]⟩, .string ⟨#[]⟩, .string ⟨#[]⟩, .string ⟨#[]⟩, .string ⟨#[]⟩, .slice none 0 0]) (t := 64) ?hr ?_; (case hd => rfl); (case hg => rfl); (case hr => (go_simp; try rfl))
  intro gb342 hg w22 hbox hb
  have HS3_ := (hb.cell (World.block_lt_of_cell? _ _ (hHeld.2.2.2))).trans (hHeld.2.2.2)
  have n0_ := Aside0.mk (Kd.R_below (zR HO340.out) hb)
  have n1_ := Aside0.mk (zB BK335.out hb)
  have n2_ := Aside0.mk (zB BK336.out hb)
  have n3_ := Aside0.mk (below_step (zL HB.out) hb)
  have n4_ := Aside0.mk (hbox)
  have n5_ := Aside0.mk (zG hg (zL HB.out))
  have n6_ := Aside0.mk (zG hg (zL HB.out))
  have n7_ := Aside0.mk (zNK hg BK335.out)
  have n8_ := Aside0.mk (zOK hg BK335.out)
  have n9_ := Aside0.mk (zNK hg BK336.out)
  have n10_ := Aside0.mk (zOK hg BK336.out)
  clear HO340
  clear BK335
  clear BK336
  clear HB
  have HO340 := n0_
  have BK335 := n1_
  have BK336 := n2_
  have HB := n3_
  have BK342 := n4_
  have GW342 := n5_
  have GE342 := n6_
  have NB335_342 := n7_
  have NB342_335 := n8_
  have NB336_342 := n9_
  have NB342_336 := n10_
  clear n0_ n1_ n2_ n3_ n4_ n5_ n6_ n7_ n8_ n9_ n10_
  clear hb hbox hg
  refine hK.out _ _ ⟨(blk_cell BK335.out 0).trans rfl, (blk_cell BK335.out 1).trans rfl, (blk_cell BK335.out 2).trans rfl, HS3_⟩ (fun hHeld => ?_)
  clear hK K
  refine norm_ (a' := ?_) ?_ ?_
  rotate_left
  ·show Act.put _ (some 5) _ = _
   simp only [Act.put, List.setIfInBounds_toArray, List.set_cons_zero, List.set_cons_succ, i64_w, i32_w]
   rfl
  refine one_ (i := 7) (N := none) #[true, true, true, true, true, true, true, true] rfl rfl (one_of HT_.out (by kernel_rfl)) (by decide) (fun K hK => ?_)
  have hs23 : w22.cell? ⟨gb342, 0, none⟩ = some (.int .i64 0) := (blk_cell BK342.out 0).trans rfl
  have hfs23 := blk_frozen BK342.out 0
  have hns23_0 := NB335_342.out
  have hns23_1 := NB336_342.out
  have hms23_0 := NB342_335.out
  have hms23_1 := NB342_336.out
  have hs24 : w22.cell? ⟨gb342, 1, none⟩ = some (.int .i64 0) := (blk_cell BK342.out 1).trans rfl
  have hfs24 := blk_frozen BK342.out 1
  have hns24_0 := NB335_342.out
  have hns24_1 := NB336_342.out
  have hms24_0 := NB342_335.out
  have hms24_1 := NB342_336.out
  have hs25 : w22.cell? ⟨gb342, 2, none⟩ = some (.string ⟨#[]⟩) := (blk_cell BK342.out 2).trans rfl
  have hfs25 := blk_frozen BK342.out 2
  have hns25_0 := NB335_342.out
  have hns25_1 := NB336_342.out
  have hms25_0 := NB342_335.out
  have hms25_1 := NB342_336.out
  have hs26 : w22.cell? ⟨gb342, 3, none⟩ = some (.string ⟨#[]⟩) := (blk_cell BK342.out 3).trans rfl
  have hfs26 := blk_frozen BK342.out 3
  have hns26_0 := NB335_342.out
  have hns26_1 := NB336_342.out
  have hms26_0 := NB342_335.out
  have hms26_1 := NB342_336.out
  have hs27 : w22.cell? ⟨gb342, 4, none⟩ = some (.string ⟨#[]⟩) := (blk_cell BK342.out 4).trans rfl
  have hfs27 := blk_frozen BK342.out 4
  have hns27_0 := NB335_342.out
  have hns27_1 := NB336_342.out
  have hms27_0 := NB342_335.out
  have hms27_1 := NB342_336.out
  have hs28 : w22.cell? ⟨gb342, 5, none⟩ = some (.string ⟨#[]⟩) := (blk_cell BK342.out 5).trans rfl
  have hfs28 := blk_frozen BK342.out 5
  have hns28_0 := NB335_342.out
  have hns28_1 := NB336_342.out
  have hms28_0 := NB342_335.out
  have hms28_1 := NB342_336.out
  have hs29 : w22.cell? ⟨gb342, 6, none⟩ = some (.string ⟨#[]⟩) := (blk_cell BK342.out 6).trans rfl
  have hfs29 := blk_frozen BK342.out 6
  have hns29_0 := NB335_342.out
  have hns29_1 := NB336_342.out
  have hms29_0 := NB342_335.out
  have hms29_1 := NB342_336.out
  have hs30 : w22.cell? ⟨gb342, 7, none⟩ = some (.string ⟨#[]⟩) := (blk_cell BK342.out 7).trans rfl
  have hfs30 := blk_frozen BK342.out 7
  have hns30_0 := NB335_342.out
  have hns30_1 := NB336_342.out
  have hms30_0 := NB342_335.out
  have hms30_1 := NB342_336.out
  have hs31 : w22.cell? ⟨gb342, 8, none⟩ = some (.string ⟨#[]⟩) := (blk_cell BK342.out 8).trans rfl
  have hfs31 := blk_frozen BK342.out 8
  have hns31_0 := NB335_342.out
  have hns31_1 := NB336_342.out
  have hms31_0 := NB342_335.out
  have hms31_1 := NB342_336.out
  have hs32 : w22.cell? ⟨gb342, 9, none⟩ = some (.slice none 0 0) := (blk_cell BK342.out 9).trans rfl
  have hfs32 := blk_frozen BK342.out 9
  have hns32_0 := NB335_342.out
  have hns32_1 := NB336_342.out
  have hms32_0 := NB342_335.out
  have hms32_1 := NB342_336.out
  refine skip_ (w1 := ?_) (by rfl) rfl ?_ ?_
  rotate_left
  ·go_simp
   rfl
  refine hK.out _ _ ⟨(zW NB335_342.out hHeld.1), (zW NB335_342.out hHeld.2.1), (zW NB335_342.out hHeld.2.2.1), ((cell_far (p := ⟨gb342, _, none⟩) (by first | exact Kd.own_blk (Kd.R_ne HO340.out BK342.out (by decide)) | (rw [add_block]; exact Kd.own_blk (Kd.R_ne HO340.out BK342.out (by decide))) | (show (Addr.add _ _).block ≠ _; rw [add_block]; exact Kd.own_blk (Kd.R_ne HO340.out BK342.out (by decide))) | (dsimp only; exact Kd.own_blk (Kd.R_ne HO340.out BK342.out (by decide)))) _).trans (((cell_far (p := ⟨gb342, _, none⟩) (by first | exact Kd.own_blk (Kd.R_ne HO340.out BK342.out (by decide)) | (rw [add_block]; exact Kd.own_blk (Kd.R_ne HO340.out BK342.out (by decide))) | (show (Addr.add _ _).block ≠ _; rw [add_block]; exact Kd.own_blk (Kd.R_ne HO340.out BK342.out (by decide))) | (dsimp only; exact Kd.own_blk (Kd.R_ne HO340.out BK342.out (by decide)))) _).trans (((cell_far (p := ⟨gb342, _, none⟩) (by first | exact Kd.own_blk (Kd.R_ne HO340.out BK342.out (by decide)) | (rw [add_block]; exact Kd.own_blk (Kd.R_ne HO340.out BK342.out (by decide))) | (show (Addr.add _ _).block ≠ _; rw [add_block]; exact Kd.own_blk (Kd.R_ne HO340.out BK342.out (by decide))) | (dsimp only; exact Kd.own_blk (Kd.R_ne HO340.out BK342.out (by decide)))) _).trans (((cell_far (p := ⟨gb342, _, none⟩) (by first | exact Kd.own_blk (Kd.R_ne HO340.out BK342.out (by decide)) | (rw [add_block]; exact Kd.own_blk (Kd.R_ne HO340.out BK342.out (by decide))) | (show (Addr.add _ _).block ≠ _; rw [add_block]; exact Kd.own_blk (Kd.R_ne HO340.out BK342.out (by decide))) | (dsimp only; exact Kd.own_blk (Kd.R_ne HO340.out BK342.out (by decide)))) _).trans (((cell_far (p := ⟨gb342, _, none⟩) (by first | exact Kd.own_blk (Kd.R_ne HO340.out BK342.out (by decide)) | (rw [add_block]; exact Kd.own_blk (Kd.R_ne HO340.out BK342.out (by decide))) | (show (Addr.add _ _).block ≠ _; rw [add_block]; exact Kd.own_blk (Kd.R_ne HO340.out BK342.out (by decide))) | (dsimp only; exact Kd.own_blk (Kd.R_ne HO340.out BK342.out (by decide)))) _).trans (((cell_far (p := ⟨gb342, _, none⟩) (by first | exact Kd.own_blk (Kd.R_ne HO340.out BK342.out (by decide)) | (rw [add_block]; exact Kd.own_blk (Kd.R_ne HO340.out BK342.out (by decide))) | (show (Addr.add _ _).block ≠ _; rw [add_block]; exact Kd.own_blk (Kd.R_ne HO340.out BK342.out (by decide))) | (dsimp only; exact Kd.own_blk (Kd.R_ne HO340.out BK342.out (by decide)))) _).trans (((cell_far (p := ⟨gb342, _, none⟩) (by first | exact Kd.own_blk (Kd.R_ne HO340.out BK342.out (by decide)) | (rw [add_block]; exact Kd.own_blk (Kd.R_ne HO340.out BK342.out (by decide))) | (show (Addr.add _ _).block ≠ _; rw [add_block]; exact Kd.own_blk (Kd.R_ne HO340.out BK342.out (by decide))) | (dsimp only; exact Kd.own_blk (Kd.R_ne HO340.out BK342.out (by decide)))) _).trans (((cell_far (p := ⟨gb342, _, none⟩) (by first | exact Kd.own_blk (Kd.R_ne HO340.out BK342.out (by decide)) | (rw [add_block]; exact Kd.own_blk (Kd.R_ne HO340.out BK342.out (by decide))) | (show (Addr.add _ _).block ≠ _; rw [add_block]; exact Kd.own_blk (Kd.R_ne HO340.out BK342.out (by decide))) | (dsimp only; exact Kd.own_blk (Kd.R_ne HO340.out BK342.out (by decide)))) _).trans (((cell_far (p := ⟨gb342, _, none⟩) (by first | exact Kd.own_blk (Kd.R_ne HO340.out BK342.out (by decide)) | (rw [add_block]; exact Kd.own_blk (Kd.R_ne HO340.out BK342.out (by decide))) | (show (Addr.add _ _).block ≠ _; rw [add_block]; exact Kd.own_blk (Kd.R_ne HO340.out BK342.out (by decide))) | (dsimp only; exact Kd.own_blk (Kd.R_ne HO340.out BK342.out (by decide)))) _).trans (((cell_far (p := ⟨gb342, _, none⟩) (by first | exact Kd.own_blk (Kd.R_ne HO340.out BK342.out (by decide)) | (rw [add_block]; exact Kd.own_blk (Kd.R_ne HO340.out BK342.out (by decide))) | (show (Addr.add _ _).block ≠ _; rw [add_block]; exact Kd.own_blk (Kd.R_ne HO340.out BK342.out (by decide))) | (dsimp only; exact Kd.own_blk (Kd.R_ne HO340.out BK342.out (by decide)))) _).trans (hHeld.2.2.2))))))))))))))))))))⟩ (fun hHeld => ?_)
  clear hK K
  refine done_ (done_of HT_.out (by kernel_rfl)) ?_
  try go_wp2
  have n0_ : Aside0 (Kd.R Kd.string 9 ((((((((((w22.setCell ⟨gb342, 0, none⟩ (.int .i64 0)).setCell ⟨gb342, 1, none⟩ (.int .i64 a0_0)).setCell ⟨gb342, 2, none⟩ (.string (rdOf ByteArray.empty t338 0))).setCell ⟨gb342, 3, none⟩ (.string ⟨#[]⟩)).setCell ⟨gb342, 4, none⟩ (.string ⟨#[]⟩)).setCell ⟨gb342, 5, none⟩ (.string ⟨#[]⟩)).setCell ⟨gb342, 6, none⟩ (.string ⟨#[]⟩)).setCell ⟨gb342, 7, none⟩ (.string ⟨#[]⟩)).setCell ⟨gb342, 8, none⟩ (.string ⟨#[]⟩)).setCell ⟨gb342, 9, none⟩ (.slice none 0 0)) w.heap.size (fun _ => True) (.slice (some ad341) t338.length co20) t338) := ⟨by (with_reducible repeat (first | apply Kd.R_alloc | apply Kd.R_drewN | apply Kd.R_drew)); exact Kd.R_mono (zNT HO340.out BK342.out) (fun _ hk => trivial)⟩
  have n1_ : Aside0 (((((((((((w22.setCell ⟨gb342, 0, none⟩ (.int .i64 0)).setCell ⟨gb342, 1, none⟩ (.int .i64 a0_0)).setCell ⟨gb342, 2, none⟩ (.string (rdOf ByteArray.empty t338 0))).setCell ⟨gb342, 3, none⟩ (.string ⟨#[]⟩)).setCell ⟨gb342, 4, none⟩ (.string ⟨#[]⟩)).setCell ⟨gb342, 5, none⟩ (.string ⟨#[]⟩)).setCell ⟨gb342, 6, none⟩ (.string ⟨#[]⟩)).setCell ⟨gb342, 7, none⟩ (.string ⟨#[]⟩)).setCell ⟨gb342, 8, none⟩ (.string ⟨#[]⟩)).setCell ⟨gb342, 9, none⟩ (.slice none 0 0)).heap[gb335]? = some (.cells #[.int .i64 a0_0, .bool a0_1, .string t337] 53 (0, 0))) := ⟨zK BK335.out⟩
  have n2_ : Aside0 (((((((((((w22.setCell ⟨gb342, 0, none⟩ (.int .i64 0)).setCell ⟨gb342, 1, none⟩ (.int .i64 a0_0)).setCell ⟨gb342, 2, none⟩ (.string (rdOf ByteArray.empty t338 0))).setCell ⟨gb342, 3, none⟩ (.string ⟨#[]⟩)).setCell ⟨gb342, 4, none⟩ (.string ⟨#[]⟩)).setCell ⟨gb342, 5, none⟩ (.string ⟨#[]⟩)).setCell ⟨gb342, 6, none⟩ (.string ⟨#[]⟩)).setCell ⟨gb342, 7, none⟩ (.string ⟨#[]⟩)).setCell ⟨gb342, 8, none⟩ (.string ⟨#[]⟩)).setCell ⟨gb342, 9, none⟩ (.slice none 0 0)).heap[gb336]? = some (.cells #[.int .i64 0, .int .i64 0, .string ⟨#[]⟩, .string ⟨#[]⟩, .string ⟨#[]⟩, .string ⟨#[]⟩, .string ⟨#[]⟩, .string ⟨#[]⟩, .string ⟨#[]⟩, .slice none 0 0] 64 (0, 0))) := ⟨zK BK336.out⟩
  have n3_ : Aside0 (((((((((((w22.setCell ⟨gb342, 0, none⟩ (.int .i64 0)).setCell ⟨gb342, 1, none⟩ (.int .i64 a0_0)).setCell ⟨gb342, 2, none⟩ (.string (rdOf ByteArray.empty t338 0))).setCell ⟨gb342, 3, none⟩ (.string ⟨#[]⟩)).setCell ⟨gb342, 4, none⟩ (.string ⟨#[]⟩)).setCell ⟨gb342, 5, none⟩ (.string ⟨#[]⟩)).setCell ⟨gb342, 6, none⟩ (.string ⟨#[]⟩)).setCell ⟨gb342, 7, none⟩ (.string ⟨#[]⟩)).setCell ⟨gb342, 8, none⟩ (.string ⟨#[]⟩)).setCell ⟨gb342, 9, none⟩ (.slice none 0 0)).heap[gb342]? = some (.cells #[.int .i64 0, .int .i64 a0_0, .string (rdOf ByteArray.empty t338 0), .string ⟨#[]⟩, .string ⟨#[]⟩, .string ⟨#[]⟩, .string ⟨#[]⟩, .string ⟨#[]⟩, .string ⟨#[]⟩, .slice none 0 0] 64 (0, 0))) := ⟨zP10 BK342.out⟩
  have n4_ : Aside0 (Below w.heap.size w ((((((((((w22.setCell ⟨gb342, 0, none⟩ (.int .i64 0)).setCell ⟨gb342, 1, none⟩ (.int .i64 a0_0)).setCell ⟨gb342, 2, none⟩ (.string (rdOf ByteArray.empty t338 0))).setCell ⟨gb342, 3, none⟩ (.string ⟨#[]⟩)).setCell ⟨gb342, 4, none⟩ (.string ⟨#[]⟩)).setCell ⟨gb342, 5, none⟩ (.string ⟨#[]⟩)).setCell ⟨gb342, 6, none⟩ (.string ⟨#[]⟩)).setCell ⟨gb342, 7, none⟩ (.string ⟨#[]⟩)).setCell ⟨gb342, 8, none⟩ (.string ⟨#[]⟩)).setCell ⟨gb342, 9, none⟩ (.slice none 0 0))) := ⟨zL HB.out⟩
  (try clear HO340)
  (try clear BK335)
  (try clear BK336)
  (try clear BK342)
  (try clear HB)
  repeat rw [zDC]
  repeat rw [zDD]
  generalize ((((((((((w22.setCell ⟨gb342, 0, none⟩ (.int .i64 0)).setCell ⟨gb342, 1, none⟩ (.int .i64 a0_0)).setCell ⟨gb342, 2, none⟩ (.string (rdOf ByteArray.empty t338 0))).setCell ⟨gb342, 3, none⟩ (.string ⟨#[]⟩)).setCell ⟨gb342, 4, none⟩ (.string ⟨#[]⟩)).setCell ⟨gb342, 5, none⟩ (.string ⟨#[]⟩)).setCell ⟨gb342, 6, none⟩ (.string ⟨#[]⟩)).setCell ⟨gb342, 7, none⟩ (.string ⟨#[]⟩)).setCell ⟨gb342, 8, none⟩ (.string ⟨#[]⟩)).setCell ⟨gb342, 9, none⟩ (.slice none 0 0)) = w33 at n0_ n1_ n2_ n3_ n4_ ⊢
  have HO340 := n0_
  have BK335 := n1_
  have BK336 := n2_
  have BK342 := n3_
  have HB := n4_
  clear n0_ n1_ n2_ n3_ n4_
  have n0_ := Aside0.mk (Kd.R_drew HO340.out)
  have n1_ := Aside0.mk (blk_drew BK335.out)
  have n2_ := Aside0.mk (blk_drew BK336.out)
  have n3_ := Aside0.mk (blk_drew BK342.out)
  have n4_ := Aside0.mk (below_drew1 HB.out)
  clear HO340
  clear BK335
  clear BK336
  clear BK342
  clear HB
  have HO340 := n0_
  have BK335 := n1_
  have BK336 := n2_
  have BK342 := n3_
  have HB := n4_
  clear n0_ n1_ n2_ n3_ n4_
  have p343 : 0 ≤ (0 : Int) := (by omega)
  have q343 : 0 < (t338.length : Int) := zD
  obtain ⟨ad343, e343, hx343_0⟩ := Kd.at_string (Kd.R_reads' HO340.out).2.2 0 p343 q343
  obtain rfl : ad341 = ad343 := (by injection e343)
  have qi343 : (0 < t338.length) = True := eq_true (by omega)
  (try rw [show ((0 : Int)).toNat = 0 from rfl] at hx343_0)
  (try rw [Addr.add_zero'] at hx343_0)
  replace p343 := eq_true p343
  replace q343 := eq_true q343
  refine start_ (n := 7) (S := fun w' => w'.cell? ⟨gb335, 0, none⟩ = some (.int .i64 a0_0) ∧ w'.cell? ⟨gb335, 1, none⟩ = some (.bool a0_1) ∧ w'.cell? ⟨gb335, 2, none⟩ = some (.string t337) ∧ w'.cell? ad341 = some (.string (rdOf ByteArray.empty t338 0))) (ds := []) #[false, false, false, false, false, false, false] (by kernel_rfl) rfl rfl ⟨(blk_cell BK335.out 0).trans rfl, (blk_cell BK335.out 1).trans rfl, (blk_cell BK335.out 2).trans rfl, hx343_0⟩ (fun hHeld => ?_)
  generalize w33.drew = w34 at HO340 BK335 BK336 BK342 HB hx343_0 hHeld ⊢
  refine pure_ (i := 0) (N := some 30) (v := ?_) (a' := ?_) #[true, false, false, false, false, false, false] rfl rfl (by kernel_rfl) (fun _ _ _ h => h) (Or.inl ⟨by rfl, ?_⟩) ?_ ?_
  rotate_left
  ·intro w'
   go_simp
   with_reducible rfl
  rotate_left
  ·simp only [Act.put, List.setIfInBounds_toArray, List.set_cons_zero, List.set_cons_succ, i64_w, i32_w]
   rfl
  refine pure_ (i := 2) (N := some 32) (v := ?_) (a' := ?_) #[true, false, true, false, false, false, false] rfl rfl (by kernel_rfl) (fun _ _ _ h => h) (Or.inl ⟨by rfl, ?_⟩) ?_ ?_
  rotate_left
  ·intro w'
   go_simp
   with_reducible rfl
  rotate_left
  ·simp only [Act.put, List.setIfInBounds_toArray, List.set_cons_zero, List.set_cons_succ, i64_w, i32_w]
   rfl
  refine pure_ (i := 3) (N := some 33) (v := ?_) (a' := ?_) #[true, false, true, true, false, false, false] rfl rfl (by kernel_rfl) (fun _ _ _ h => h) (Or.inl ⟨by rfl, ?_⟩) ?_ ?_
  rotate_left
  ·intro w'
   go_simp
   with_reducible rfl
  rotate_left
  ·simp only [Act.put, List.setIfInBounds_toArray, List.set_cons_zero, List.set_cons_succ, i64_w, i32_w]
   rfl
  refine take_ (i := 1) (N := some 31) (v := ?_) (a' := ?_) #[true, true, true, true, false, false, false] rfl rfl (by kernel_rfl) (fun _ _ _ h => h) (Or.inl ⟨by rfl, ?_⟩) hHeld ?_ ?_
  rotate_left
  ·rintro w' ⟨s0, s1, s2, s3⟩
   go_simp
   with_reducible rfl
  rotate_left
  ·simp only [Act.put, List.setIfInBounds_toArray, List.set_cons_zero, List.set_cons_succ, i64_w, i32_w]
   rfl
  refine take_ (i := 4) (N := some 34) (v := ?_) (a' := ?_) #[true, true, true, true, true, false, false] rfl rfl (by kernel_rfl) (fun _ _ _ h => h) (Or.inl ⟨by rfl, ?_⟩) hHeld ?_ ?_
  rotate_left
  ·rintro w' ⟨s0, s1, s2, s3⟩
   go_simp
   with_reducible rfl
  rotate_left
  ·simp only [Act.put, List.setIfInBounds_toArray, List.set_cons_zero, List.set_cons_succ, i64_w, i32_w]
   rfl
  refine one_ (i := 5) (N := some 35) #[true, true, true, true, true, true, false] rfl rfl (by kernel_rfl) (by decide) (fun K hK => ?_)
  refine goes_ Tryd.func48 (by kernel_rfl) rfl #[.string t337, .string (rdOf ByteArray.empty t338 0)] (by rfl) rfl rfl zA ?_
  with_reducible refine (cooperageref9_behind.calls k t337 (rdOf ByteArray.empty t338 0) t344 _ A13.out).mono ?_
  rintro e w' ⟨rfl, ⟨nd, rfl⟩⟩
  refine ⟨_, rfl, ?_⟩
  refine hK.out _ _ ⟨(blk_cell BK335.out 0).trans rfl, (blk_cell BK335.out 1).trans rfl, (blk_cell BK335.out 2).trans rfl, hHeld.2.2.2⟩ (fun hHeld => ?_)
  clear hK K
  refine norm_ (a' := ?_) ?_ ?_
  rotate_left
  ·show Act.put _ (some 35) _ = _
   simp only [Act.put, List.setIfInBounds_toArray, List.set_cons_zero, List.set_cons_succ, i64_w, i32_w]
   rfl
  refine pure_ (i := 6) (N := some 6) (v := ?_) (a' := ?_) #[true, true, true, true, true, true, true] rfl rfl (by kernel_rfl) (fun _ _ _ h => h) (Or.inl ⟨by rfl, ?_⟩) ?_ ?_
  rotate_left
  ·intro w'
   go_simp
   with_reducible rfl
  rotate_left
  ·simp only [Act.put, List.setIfInBounds_toArray, List.set_cons_zero, List.set_cons_succ, i64_w, i32_w]
   rfl
  refine done_ (by kernel_rfl) ?_
  have p345 : 0 ≤ (0 : Int) := (by omega)
  have q345 : 0 < (t338.length : Int) := zD
  obtain ⟨ad345, e345, hx345_0⟩ := Kd.at_string (Kd.R_reads' HO340.out).2.2 0 p345 q345
  obtain rfl : ad341 = ad345 := (by injection e345)
  have qi345 : (0 < t338.length) = True := eq_true (by omega)
  (try rw [show ((0 : Int)).toNat = 0 from rfl] at hx345_0)
  (try rw [Addr.add_zero'] at hx345_0)
  replace p345 := eq_true p345
  replace q345 := eq_true q345
  go_upto_if 39 with (fail)
  go_cut [39] (fun v39 wc => ∃ (kq : Nat) (x39_13 : Bool), v39 = .bool x39_13 ∧ Aside0 (cooperageref9_one.j0 kq t338 t344 (rdOf ByteArray.empty t338 0) x39_13 a0_0 a0_1 t337 0 a0_0 (rdOf ByteArray.empty t338 0) (⟨#[]⟩ : ByteArray) (⟨#[]⟩ : ByteArray) (⟨#[]⟩ : ByteArray) (⟨#[]⟩ : ByteArray) (⟨#[]⟩ : ByteArray) (⟨#[]⟩ : ByteArray) = some (r1, r2, r3, r4, r5, r6, r7, r8, r9, r10, r11)) ∧ Aside0 (kq ≤ k) ∧ Aside0 (Kd.R Kd.string 9 wc w.heap.size (fun _ => True) (.slice (some ad341) t338.length co20) t338) ∧ Aside0 (wc.heap[gb335]? = some (.cells #[.int .i64 a0_0, .bool a0_1, .string t337] 53 (0, 0))) ∧ Aside0 (wc.heap[gb336]? = some (.cells #[.int .i64 0, .int .i64 0, .string ⟨#[]⟩, .string ⟨#[]⟩, .string ⟨#[]⟩, .string ⟨#[]⟩, .string ⟨#[]⟩, .string ⟨#[]⟩, .string ⟨#[]⟩, (.slice none 0 0)] 64 (0, 0))) ∧ Aside0 (wc.heap[gb342]? = some (.cells #[.int .i64 0, .int .i64 a0_0, .string (rdOf ByteArray.empty t338 0), .string ⟨#[]⟩, .string ⟨#[]⟩, .string ⟨#[]⟩, .string ⟨#[]⟩, .string ⟨#[]⟩, .string ⟨#[]⟩, (.slice none 0 0)] 64 (0, 0))) ∧ Aside0 (Below w.heap.size w wc))
  case first =>
   have H := HC14.out
   clear HC14
   by_cases c35 : (rdOf ByteArray.empty t338 0).toList = ([105, 102, 101, 113] : List UInt8)
   ·rw [if_pos c35] at H
    have c35b0 := beq_iff_eq.mpr c35
    have c35b1 := bne_eq_false_iff_eq.mpr c35
    clear c35
    (first | rw [c35b0] | (simp only [i64_w, i32_w]; rw [c35b0]) | rw [isE_ c35b0] | skip)
    have H' := Aside0.mk H
    clear H
    go_wp2
    go_meet
    case rel => exact ⟨_, (((rdOf ByteArray.empty t338 0).toList == ([105, 102, 101, 113] : List UInt8))), zS, H', ⟨by first | omega | exact Nat.le_refl _⟩, ⟨by (with_reducible repeat (first | apply Kd.R_alloc | apply Kd.R_drewN | apply Kd.R_drew)); exact HO340.out⟩, ⟨zK BK335.out⟩, ⟨zK BK336.out⟩, ⟨zK BK342.out⟩, ⟨zL HB.out⟩⟩
   rw [if_neg c35] at H
   have c35b0 := beq_eq_false_iff_ne.mpr c35
   have c35b1 := bne_iff_ne.mpr c35
   (first | rw [c35b0] | (simp only [i64_w, i32_w]; rw [c35b0]) | rw [isE_ c35b0] | skip)
   have H' := Aside0.mk H
   clear H
   go_wp2
   go_meet
   case rel => exact ⟨_, (((rdOf ByteArray.empty t338 0).toList == ([105, 102, 110, 101, 113] : List UInt8))), zS, H', ⟨by first | omega | exact Nat.le_refl _⟩, ⟨by (with_reducible repeat (first | apply Kd.R_alloc | apply Kd.R_drewN | apply Kd.R_drew)); exact HO340.out⟩, ⟨zK BK335.out⟩, ⟨zK BK336.out⟩, ⟨zK BK342.out⟩, ⟨zL HB.out⟩⟩
  case rest =>
   clear HC14
   try clear c4
   try clear c4b0
   try clear c4b1
   try clear c4b2
   try clear c12
   try clear c12b0
   try clear c12b1
   try clear hcz11_0 hcz11_1 hcz11_2 hcz11_3 hcz11_4 hcz11_5 hcz11_6 hcz11_7 hcz11_8 hcz11_9
   try clear hcz18_0 hcz18_1 hcz18_2
   try clear hfz11_0 hfz11_1 hfz11_2 hfz11_3 hfz11_4 hfz11_5 hfz11_6 hfz11_7 hfz11_8 hfz11_9
   try clear hfz18_0 hfz18_1 hfz18_2
   try clear hx341_0
   try clear hx343_0
   try clear hx345_0
   try clear p341
   try clear p343
   try clear p345
   try clear q341
   try clear q343
   try clear q345
   obtain ⟨kq, x39_13, rfl, HA, HJ13, HO_4, BK335, BK336, BK342, HB⟩ := hcut
   cases kq with
   | zero => exact absurd HA.out (by simp [cooperageref9_one.j0])
   | succ kj13 =>
    have H := HA.out
    clear HA
    simp only [cooperageref9_one.j0] at H
    by_cases c36 : x39_13 = true
    ·subst c36
     rw [if_pos rfl] at H
     have HC37 := Aside0.mk H
     clear H
     have hnb38 := NB342_335.out
     have hnc38 := NB335_342.out
     have hnb39 := NB342_336.out
     have hnc39 := NB336_342.out
     obtain ⟨hcz40_0, hcz40_1, hcz40_2, hcz40_3, hcz40_4, hcz40_5, hcz40_6, hcz40_7, hcz40_8, hcz40_9, hfz40_0, hfz40_1, hfz40_2, hfz40_3, hfz40_4, hfz40_5, hfz40_6, hfz40_7, hfz40_8, hfz40_9⟩ := zC10 BK342.out
     go_upto_region 11 with (fail)
     go_cut [58] (fun v58 wc => ∃ (kq : Nat) (x58_36 : Bool), v58 = .bool x58_36 ∧ Aside0 (cooperageref9_one.j1 kq t344 x58_36 3 a0_0 (rdOf ByteArray.empty t338 0) (⟨#[]⟩ : ByteArray) (⟨#[]⟩ : ByteArray) (⟨#[]⟩ : ByteArray) (⟨#[]⟩ : ByteArray) (⟨#[]⟩ : ByteArray) (⟨#[]⟩ : ByteArray) = some (r1, r2, r3, r4, r5, r6, r7, r8, r9, r10, r11)) ∧ Aside0 (kq ≤ kj13) ∧ Aside0 (wc.heap[gb335]? = some (.cells #[.int .i64 a0_0, .bool a0_1, .string t337] 53 (0, 0))) ∧ Aside0 (wc.heap[gb336]? = some (.cells #[.int .i64 0, .int .i64 0, .string ⟨#[]⟩, .string ⟨#[]⟩, .string ⟨#[]⟩, .string ⟨#[]⟩, .string ⟨#[]⟩, .string ⟨#[]⟩, .string ⟨#[]⟩, (.slice none 0 0)] 64 (0, 0))) ∧ Aside0 (wc.heap[gb342]? = some (.cells #[.int .i64 3, .int .i64 a0_0, .string (rdOf ByteArray.empty t338 0), .string ⟨#[]⟩, .string ⟨#[]⟩, .string ⟨#[]⟩, .string ⟨#[]⟩, .string ⟨#[]⟩, .string ⟨#[]⟩, (.slice none 0 0)] 64 (0, 0))) ∧ Aside0 (Below w.heap.size w wc))
     case first =>
      have H := HC37.out
      clear HC37
      by_cases c41 : (t344.size : Int) < 2
      ·rw [if_pos c41] at H
       have c41b0 := decide_eq_true c41
       have c41b1 : decide (t344.size < 2) = true := decide_eq_true (by omega)
       clear c41
       (first | rw [c41b0] | (simp only [i64_w, i32_w]; rw [c41b0]) | rw [isE_ c41b0] | skip)
       have H' := Aside0.mk H
       clear H
       go_wp2
       go_meet
       case rel => exact ⟨_, (true), zS, H', ⟨by have := HJ13.out; first | omega | exact Nat.le_refl _⟩, ⟨zK BK335.out⟩, ⟨zK BK336.out⟩, ⟨by (with_reducible repeat (first | refine blk_drewN ?_ _ | refine blk_drew ?_ | refine blk_alloc ?_ _)); refine blk_put (cs := #[.int .i64 0, .int .i64 a0_0, .string (rdOf ByteArray.empty t338 0), .string ⟨#[]⟩, .string ⟨#[]⟩, .string ⟨#[]⟩, .string ⟨#[]⟩, .string ⟨#[]⟩, .string ⟨#[]⟩, .slice none 0 0]) ?_ 0 _ rfl; (with_reducible repeat (first | refine blk_drewN ?_ _ | refine blk_drew ?_ | refine blk_alloc ?_ _)); exact BK342.out⟩, ⟨zL HB.out⟩⟩
      rw [if_neg c41] at H
      have c41b0 := decide_eq_false c41
      have c41b1 : decide (t344.size < 2) = false := decide_eq_false (by omega)
      clear c41
      (first | rw [c41b0] | (simp only [i64_w, i32_w]; rw [c41b0]) | rw [isE_ c41b0] | skip)
      by_cases c42 : 0 < (t344.size : Int)
      ·rw [if_pos c42] at H
       have c42b0 := decide_eq_true c42
       have c42b1 : decide (0 < t344.size) = true := decide_eq_true (by omega)
       clear c42
       by_cases c44 : (bt t344 0) = 40
       ·rw [if_pos c44] at H
        have c44b0 := beq_iff_eq.mpr c44
        have c44b1 := bne_eq_false_iff_eq.mpr c44
        clear c44
        obtain ⟨ji45, hji45⟩ : ∃ j_ : Int, (wrap64 ((t344.size : Int) - 1)) = j_ := ⟨_, rfl⟩
        replace H : (if 0 ≤ (ji45) then (if (ji45) < (t344.size : Int) then (cooperageref9_one.j1 kj13 t344 ((bt t344 (ji45)) != 41) 3 a0_0 (rdOf ByteArray.empty t338 0) (⟨#[]⟩ : ByteArray) (⟨#[]⟩ : ByteArray) (⟨#[]⟩ : ByteArray) (⟨#[]⟩ : ByteArray) (⟨#[]⟩ : ByteArray) (⟨#[]⟩ : ByteArray)) else (none)) else (none)) = some (r1, r2, r3, r4, r5, r6, r7, r8, r9, r10, r11) := by first | (rw [hji45] at H; exact H) | (simp only [hji45] at H ⊢; exact H)
        have hji45w : (IntKind.i64.wrap ((t344.size : Int) - 1)) = ji45 := (i64_w _).trans hji45
        by_cases c46 : 0 ≤ (ji45)
        ·rw [if_pos c46] at H
         have c46b0 := decide_eq_true c46
         clear c46
         by_cases c47 : (ji45) < (t344.size : Int)
         ·rw [if_pos c47] at H
          have c47b0 := decide_eq_true c47
          clear c47
          have H' := Aside0.mk H
          clear H
          have p43 : 0 ≤ (0 : Int) := (by omega)
          have q43 : 0 < t344.size := (by have : (0 : Int) < (t344.size : Int) := zD; omega)
          have hx43 : ∀ h : 0 < t344.size, ((t344[0]'h).toNat : Int) = bt t344 0 := bt_at t344 0
          clear p43
          have qi43 : (0 < (t344.size : Int)) = True := eq_true zD
          replace q43 := eq_true q43
          have p48 : 0 ≤ ((ji45) : Int) := zD
          have q48 : (ji45) < (t344.size : Int) := zD
          have hx48 := bt_at t344 (ji45)
          replace p48 := eq_true p48
          replace q48 := eq_true q48
          go_wp2
          go_meet
          case rel => exact ⟨_, (((bt t344 (ji45)) != 41)), (by first | rfl | (simp; done) | (simp only [← hji45] <;> (first | rfl | simp)) | (simp [*]; done)), H', ⟨by have := HJ13.out; first | omega | exact Nat.le_refl _⟩, ⟨zK BK335.out⟩, ⟨zK BK336.out⟩, ⟨by (with_reducible repeat (first | refine blk_drewN ?_ _ | refine blk_drew ?_ | refine blk_alloc ?_ _)); refine blk_put (cs := #[.int .i64 0, .int .i64 a0_0, .string (rdOf ByteArray.empty t338 0), .string ⟨#[]⟩, .string ⟨#[]⟩, .string ⟨#[]⟩, .string ⟨#[]⟩, .string ⟨#[]⟩, .string ⟨#[]⟩, .slice none 0 0]) ?_ 0 _ rfl; (with_reducible repeat (first | refine blk_drewN ?_ _ | refine blk_drew ?_ | refine blk_alloc ?_ _)); exact BK342.out⟩, ⟨zL HB.out⟩⟩
         rw [if_neg c47] at H
         exact absurd H (by simp)
        rw [if_neg c46] at H
        exact absurd H (by simp)
       rw [if_neg c44] at H
       have c44b0 := beq_eq_false_iff_ne.mpr c44
       have c44b1 := bne_iff_ne.mpr c44
       have H' := Aside0.mk H
       clear H
       have p43 : 0 ≤ (0 : Int) := (by omega)
       have q43 : 0 < t344.size := (by have : (0 : Int) < (t344.size : Int) := zD; omega)
       have hx43 : ∀ h : 0 < t344.size, ((t344[0]'h).toNat : Int) = bt t344 0 := bt_at t344 0
       clear p43
       have qi43 : (0 < (t344.size : Int)) = True := eq_true zD
       replace q43 := eq_true q43
       go_wp2
       go_meet
       case rel => exact ⟨_, (true), zS, H', ⟨by have := HJ13.out; first | omega | exact Nat.le_refl _⟩, ⟨zK BK335.out⟩, ⟨zK BK336.out⟩, ⟨by (with_reducible repeat (first | refine blk_drewN ?_ _ | refine blk_drew ?_ | refine blk_alloc ?_ _)); refine blk_put (cs := #[.int .i64 0, .int .i64 a0_0, .string (rdOf ByteArray.empty t338 0), .string ⟨#[]⟩, .string ⟨#[]⟩, .string ⟨#[]⟩, .string ⟨#[]⟩, .string ⟨#[]⟩, .string ⟨#[]⟩, .slice none 0 0]) ?_ 0 _ rfl; (with_reducible repeat (first | refine blk_drewN ?_ _ | refine blk_drew ?_ | refine blk_alloc ?_ _)); exact BK342.out⟩, ⟨zL HB.out⟩⟩
      rw [if_neg c42] at H
      exact absurd H (by simp)
     case rest =>
      clear HC37
      try clear c4
      try clear c4b0
      try clear c4b1
      try clear c4b2
      try clear c12
      try clear c12b0
      try clear c12b1
      try clear c36
      try clear hcz11_0 hcz11_1 hcz11_2 hcz11_3 hcz11_4 hcz11_5 hcz11_6 hcz11_7 hcz11_8 hcz11_9
      try clear hcz18_0 hcz18_1 hcz18_2
      try clear hcz40_0 hcz40_1 hcz40_2 hcz40_3 hcz40_4 hcz40_5 hcz40_6 hcz40_7 hcz40_8 hcz40_9
      try clear hfz11_0 hfz11_1 hfz11_2 hfz11_3 hfz11_4 hfz11_5 hfz11_6 hfz11_7 hfz11_8 hfz11_9
      try clear hfz18_0 hfz18_1 hfz18_2
      try clear hfz40_0 hfz40_1 hfz40_2 hfz40_3 hfz40_4 hfz40_5 hfz40_6 hfz40_7 hfz40_8 hfz40_9
      try clear hx341_0
      try clear hx343_0
      try clear hx345_0
      try clear p341
      try clear p343
      try clear p345
      try clear q341
      try clear q343
      try clear q345
      obtain ⟨kq, x58_36, rfl, HA, HJ36, BK335, BK336, BK342, HB⟩ := hcut
      cases kq with
      | zero => exact absurd HA.out (by simp [cooperageref9_one.j1])
      | succ kj36 =>
       have H := HA.out
       clear HA
       simp only [cooperageref9_one.j1] at H
       by_cases c49 : x58_36 = true
       ·subst c49
        rw [if_pos rfl] at H
        simp only [Option.some.injEq, Prod.mk.injEq] at H
        obtain ⟨rfl, rfl, rfl, rfl, rfl, rfl, rfl, rfl, rfl, rfl, rfl⟩ := H
        have hnb50 := NB342_335.out
        have hnc50 := NB335_342.out
        have hnb51 := NB342_336.out
        have hnc51 := NB336_342.out
        obtain ⟨hcz52_0, hcz52_1, hcz52_2, hcz52_3, hcz52_4, hcz52_5, hcz52_6, hcz52_7, hcz52_8, hcz52_9, hfz52_0, hfz52_1, hfz52_2, hfz52_3, hfz52_4, hfz52_5, hfz52_6, hfz52_7, hfz52_8, hfz52_9⟩ := zC10 BK342.out
        have hnb53 := NB336_335.out
        have hnc53 := NB335_336.out
        obtain ⟨hcz54_0, hcz54_1, hcz54_2, hcz54_3, hcz54_4, hcz54_5, hcz54_6, hcz54_7, hcz54_8, hcz54_9, hfz54_0, hfz54_1, hfz54_2, hfz54_3, hfz54_4, hfz54_5, hfz54_6, hfz54_7, hfz54_8, hfz54_9⟩ := zC10 BK336.out
        go_wp2
        refine bodyPost_ret (results_ct rfl _ _ gb336 64 #[.int .i64 3, .int .i64 a0_0, .string (rdOf ByteArray.empty t338 0), .string ⟨#[]⟩, .string ⟨#[]⟩, .string ⟨#[]⟩, .string ⟨#[]⟩, .string ⟨#[]⟩, .string ⟨#[]⟩, .slice none 0 0] (0, 0) _ rfl (zP10 BK336.out) Tryd.underlying64 rfl (by kernel_rfl)) rfl ?_
        exact ⟨_, zE, by first | exact Kd.R_nil _ _ _ _ _ | exact Kd.N_nil _ _ _ _ _ | exact Kd.V_nil _ _ _ _ _ | exact Kd.Q_nil _ _ _ _ _ | exact Kd.S_nil _ _ _ _ _, zL HB.out⟩
       replace c49 := Bool.eq_false_iff.mpr c49
       subst c49
       rw [if_neg (show ¬ (false = true) by decide)] at H
       by_cases c55 : 1 ≤ (wrap64 ((t344.size : Int) - 1))
       ·rw [if_pos c55] at H
        have c55b0 := eq_true c55
        have c55b1 := decide_eq_true c55
        clear c55
        by_cases c56 : (wrap64 ((t344.size : Int) - 1)) ≤ (t344.size : Int)
        ·rw [if_pos c56] at H
         have c56b0 := eq_true c56
         have c56b1 := decide_eq_true c56
         clear c56
         obtain ⟨y346, hy346⟩ : ∃ y_ : List ByteArray, y_ = (([(⟨#[44]⟩ : ByteArray)] : List ByteArray)) := ⟨_, rfl⟩
         replace H : ((cooperageref9_Cut.f kj36 (t344.extract 1 ((wrap64 ((t344.size : Int) - 1)) : Int).toNat) y346).bind fun bt349 => ((cooperageref1_Trim.f kj36 bt349.1).bind fun t352 => ((cooperageref1_Trim.f kj36 bt349.2.2).bind fun t353 => (some (3, a0_0, (rdOf ByteArray.empty t338 0), t352, t353, (⟨#[]⟩ : ByteArray), (⟨#[]⟩ : ByteArray), (⟨#[]⟩ : ByteArray), (⟨#[]⟩ : ByteArray), ([] : List ByteArray), (bt349.2.1.toList != ([] : List UInt8))))))) = some (r1, r2, r3, r4, r5, r6, r7, r8, r9, r10, r11) := zH hy346 H
         have Ny346 := Aside0.mk hy346
         clear hy346
         replace H := Option.bind_eq_some_iff.mp H
         obtain ⟨⟨t349, t350, t351⟩, A570, H⟩ := H
         try dsimp only at H
         have A57 := Aside0.mk A570
         clear A570
         replace H := Option.bind_eq_some_iff.mp H
         obtain ⟨t352, A580, H⟩ := H
         try dsimp only at H
         have A58 := Aside0.mk A580
         clear A580
         replace H := Option.bind_eq_some_iff.mp H
         obtain ⟨t353, A590, H⟩ := H
         try dsimp only at H
         have A59 := Aside0.mk A590
         clear A590
         simp only [Option.some.injEq, Prod.mk.injEq] at H
         obtain ⟨rfl, rfl, rfl, rfl, rfl, rfl, rfl, rfl, rfl, rfl, rfl⟩ := H
         go_wp2_with (first | ((with_reducible refine gate_dst (N := 66) rfl ?_); (try (refine gate_guard (by rfl) ?_; dsimp only)); refine Kd.R_lit Kd.string _ 9 ?hg (N := 66) ?hd (xs := ([(⟨#[44]⟩ : ByteArray)] : List ByteArray)) (inner := [.string ⟨#[44]⟩]) (ok := fun _ => True) (okp := fun _ => True) ?hr ?hp (fun _ hk => hk) trivial (Below.refl _ _) (Nat.le_refl _) (by simp) ?_; (case hd => rfl); (case hg => rfl); (case hr => (go_simp; try rfl)); (case hp => exact (Reps.one (show Kd.M Kd.string _ _ _ (⟨#[44]⟩ : ByteArray) [.string ⟨#[44]⟩] from rfl) (Reps.none _ _))); intro v347 w60 ho61 hb hg_ hnew_; clear hg_ hnew_; (first | rw [← Ny346.out] at ho61 | (simp only [Int.reduceToNat] at ho61; rw [← Ny346.out] at ho61)); have HO348 := Aside0.mk (Kd.R_lower ho61 (below_size (zL HB.out))); replace BK335 := Aside0.mk (zB BK335.out hb); replace BK336 := Aside0.mk (zB BK336.out hb); replace BK342 := Aside0.mk (zB BK342.out hb); replace HB := Aside0.mk (below_step (zL HB.out) hb); clear hb ho61; obtain ⟨Ao62, co62, eo62⟩ := Kd.R_slice HO348.out; subst eo62) | ((with_reducible refine gate_callee (f := 18) rfl ?_); refine goesL_ (some 67) rfl rfl Tryd.func18 (by kernel_rfl) rfl #[.string (t344.extract 1 ((wrap64 ((t344.size : Int) - 1)) : Int).toNat), .slice Ao62 y346.length co62] rfl zA ?_; (with_reducible refine (cooperageref9_Cut.calls kj36 (t344.extract 1 ((wrap64 ((t344.size : Int) - 1)) : Int).toNat) _ _ y346 t349 t350 t351 _ ?side1 ?side2 A57.out).mono ?_); (case side1 => exact zCS (Kd.R_reads' HO348.out).2.2); (case side2 => exact (Kd.R_reads' HO348.out).2.1); rintro e w63 ⟨rfl, hb⟩; refine ⟨_, rfl, ?_⟩; replace HO348 := Aside0.mk (Kd.R_below (zR HO348.out) hb); replace BK335 := Aside0.mk (zB BK335.out hb); replace BK336 := Aside0.mk (zB BK336.out hb); replace BK342 := Aside0.mk (zB BK342.out hb); replace HB := Aside0.mk (below_step (zL HB.out) hb); (try clear hb); (try clear hb2); (try clear hk); (try clear hi)) | ((with_reducible refine gate_callee (f := 40) rfl ?_); refine goesL_ (some 72) rfl rfl Tryd.func40 (by kernel_rfl) rfl #[.string t349] rfl zA ?_; (with_reducible refine (cooperageref1_Trim.calls kj36 t349 t352 _ A58.out).mono ?_); rintro e w' ⟨rfl, ⟨nd, rfl⟩⟩; refine ⟨_, rfl, ?_⟩; (try (rw [drewN_self w63]; generalize hq_ : World.drewN w63 _ = w63; have n0_ : Aside0 (Kd.R Kd.string 9 w63 w.heap.size (fun _ => True) (.slice Ao62 y346.length co62) y346) := ⟨by rw [← hq_]; exact (zR HO348.out)⟩; have n1_ : Aside0 (w63.heap[gb335]? = some (.cells #[.int .i64 a0_0, .bool a0_1, .string t337] 53 (0, 0))) := ⟨by rw [← hq_]; exact (zK BK335.out)⟩; have n2_ : Aside0 (w63.heap[gb336]? = some (.cells #[.int .i64 0, .int .i64 0, .string ⟨#[]⟩, .string ⟨#[]⟩, .string ⟨#[]⟩, .string ⟨#[]⟩, .string ⟨#[]⟩, .string ⟨#[]⟩, .string ⟨#[]⟩, .slice none 0 0] 64 (0, 0))) := ⟨by rw [← hq_]; exact (zK BK336.out)⟩; have n3_ : Aside0 (w63.heap[gb342]? = some (.cells #[.int .i64 3, .int .i64 a0_0, .string (rdOf ByteArray.empty t338 0), .string ⟨#[]⟩, .string ⟨#[]⟩, .string ⟨#[]⟩, .string ⟨#[]⟩, .string ⟨#[]⟩, .string ⟨#[]⟩, .slice none 0 0] 64 (0, 0))) := ⟨by rw [← hq_]; exact (zK BK342.out)⟩; have n4_ : Aside0 (Below w.heap.size w w63) := ⟨by rw [← hq_]; exact (zL HB.out)⟩; clear HO348 BK335 BK336 BK342 HB hq_; have HO348 := n0_; have BK335 := n1_; have BK336 := n2_; have BK342 := n3_; have HB := n4_; clear n0_ n1_ n2_ n3_ n4_; (try (obtain ⟨hcz18_0, hcz18_1, hcz18_2, hfz18_0, hfz18_1, hfz18_2⟩ := zC3 BK335.out)); (try (obtain ⟨hcz54_0, hcz54_1, hcz54_2, hcz54_3, hcz54_4, hcz54_5, hcz54_6, hcz54_7, hcz54_8, hcz54_9, hfz54_0, hfz54_1, hfz54_2, hfz54_3, hfz54_4, hfz54_5, hfz54_6, hfz54_7, hfz54_8, hfz54_9⟩ := zC10 BK336.out)); (try (obtain ⟨hcz52_0, hcz52_1, hcz52_2, hcz52_3, hcz52_4, hcz52_5, hcz52_6, hcz52_7, hcz52_8, hcz52_9, hfz52_0, hfz52_1, hfz52_2, hfz52_3, hfz52_4, hfz52_5, hfz52_6, hfz52_7, hfz52_8, hfz52_9⟩ := zC10 BK342.out)))); have hnb64 := NB342_335.out; have hnc64 := NB335_342.out; have hnb65 := NB342_336.out; have hnc65 := NB336_342.out; obtain ⟨hcz66_0, hcz66_1, hcz66_2, hcz66_3, hcz66_4, hcz66_5, hcz66_6, hcz66_7, hcz66_8, hcz66_9, hfz66_0, hfz66_1, hfz66_2, hfz66_3, hfz66_4, hfz66_5, hfz66_6, hfz66_7, hfz66_8, hfz66_9⟩ := zC10 BK342.out) | ((with_reducible refine gate_callee (f := 40) rfl ?_); refine goesL_ (some 75) rfl rfl Tryd.func40 (by kernel_rfl) rfl #[.string t351] rfl zA ?_; (with_reducible refine (cooperageref1_Trim.calls kj36 t351 t353 _ A59.out).mono ?_); rintro e w' ⟨rfl, ⟨nd, rfl⟩⟩; refine ⟨_, rfl, ?_⟩; have hnb67 := NB336_335.out; have hnc67 := NB335_336.out; obtain ⟨hcz68_0, hcz68_1, hcz68_2, hcz68_3, hcz68_4, hcz68_5, hcz68_6, hcz68_7, hcz68_8, hcz68_9, hfz68_0, hfz68_1, hfz68_2, hfz68_3, hfz68_4, hfz68_5, hfz68_6, hfz68_7, hfz68_8, hfz68_9⟩ := zC10 BK336.out))
         refine bodyPost_ret (results_ct rfl _ _ gb336 64 #[.int .i64 3, .int .i64 a0_0, .string (rdOf ByteArray.empty t338 0), .string t352, .string t353, .string ⟨#[]⟩, .string ⟨#[]⟩, .string ⟨#[]⟩, .string ⟨#[]⟩, .slice none 0 0] (0, 0) _ rfl (zP10 BK336.out) Tryd.underlying64 rfl (by kernel_rfl)) rfl ?_
         exact ⟨_, zE, by first | exact Kd.R_nil _ _ _ _ _ | exact Kd.N_nil _ _ _ _ _ | exact Kd.V_nil _ _ _ _ _ | exact Kd.Q_nil _ _ _ _ _ | exact Kd.S_nil _ _ _ _ _, zL HB.out⟩
        rw [if_neg c56] at H
        exact absurd H (by simp)
       rw [if_neg c55] at H
       exact absurd H (by simp)
    replace c36 := Bool.eq_false_iff.mpr c36
    subst c36
    rw [if_neg (show ¬ (false = true) by decide)] at H
    have HC69 := Aside0.mk H
    clear H
    go_upto_if 80 with (fail)
    go_cut [80] (fun v80 wc => ∃ (kq : Nat) (x80_68 : Bool), v80 = .bool x80_68 ∧ Aside0 (cooperageref9_one.j2 kq t338 t344 (rdOf ByteArray.empty t338 0) x80_68 a0_0 a0_1 t337 0 a0_0 (rdOf ByteArray.empty t338 0) (⟨#[]⟩ : ByteArray) (⟨#[]⟩ : ByteArray) (⟨#[]⟩ : ByteArray) (⟨#[]⟩ : ByteArray) (⟨#[]⟩ : ByteArray) (⟨#[]⟩ : ByteArray) = some (r1, r2, r3, r4, r5, r6, r7, r8, r9, r10, r11)) ∧ Aside0 (kq ≤ kj13) ∧ Aside0 (Kd.R Kd.string 9 wc w.heap.size (fun _ => True) (.slice (some ad341) t338.length co20) t338) ∧ Aside0 (wc.heap[gb335]? = some (.cells #[.int .i64 a0_0, .bool a0_1, .string t337] 53 (0, 0))) ∧ Aside0 (wc.heap[gb336]? = some (.cells #[.int .i64 0, .int .i64 0, .string ⟨#[]⟩, .string ⟨#[]⟩, .string ⟨#[]⟩, .string ⟨#[]⟩, .string ⟨#[]⟩, .string ⟨#[]⟩, .string ⟨#[]⟩, (.slice none 0 0)] 64 (0, 0))) ∧ Aside0 (wc.heap[gb342]? = some (.cells #[.int .i64 0, .int .i64 a0_0, .string (rdOf ByteArray.empty t338 0), .string ⟨#[]⟩, .string ⟨#[]⟩, .string ⟨#[]⟩, .string ⟨#[]⟩, .string ⟨#[]⟩, .string ⟨#[]⟩, (.slice none 0 0)] 64 (0, 0))) ∧ Aside0 (Below w.heap.size w wc))
    case first =>
     have H := HC69.out
     clear HC69
     by_cases c70 : (rdOf ByteArray.empty t338 0).toList = ([105, 102, 100, 101, 102] : List UInt8)
     ·rw [if_pos c70] at H
      have c70b0 := beq_iff_eq.mpr c70
      have c70b1 := bne_eq_false_iff_eq.mpr c70
      clear c70
      (first | rw [c70b0] | (simp only [i64_w, i32_w]; rw [c70b0]) | rw [isE_ c70b0] | skip)
      have H' := Aside0.mk H
      clear H
      go_wp2
      go_meet
      case rel => exact ⟨_, (((rdOf ByteArray.empty t338 0).toList == ([105, 102, 100, 101, 102] : List UInt8))), zS, H', ⟨by have := HJ13.out; first | omega | exact Nat.le_refl _⟩, ⟨by (with_reducible repeat (first | apply Kd.R_alloc | apply Kd.R_drewN | apply Kd.R_drew)); exact HO_4.out⟩, ⟨zK BK335.out⟩, ⟨zK BK336.out⟩, ⟨zK BK342.out⟩, ⟨zL HB.out⟩⟩
     rw [if_neg c70] at H
     have c70b0 := beq_eq_false_iff_ne.mpr c70
     have c70b1 := bne_iff_ne.mpr c70
     (first | rw [c70b0] | (simp only [i64_w, i32_w]; rw [c70b0]) | rw [isE_ c70b0] | skip)
     have H' := Aside0.mk H
     clear H
     go_wp2
     go_meet
     case rel => exact ⟨_, (((rdOf ByteArray.empty t338 0).toList == ([105, 102, 110, 100, 101, 102] : List UInt8))), zS, H', ⟨by have := HJ13.out; first | omega | exact Nat.le_refl _⟩, ⟨by (with_reducible repeat (first | apply Kd.R_alloc | apply Kd.R_drewN | apply Kd.R_drew)); exact HO_4.out⟩, ⟨zK BK335.out⟩, ⟨zK BK336.out⟩, ⟨zK BK342.out⟩, ⟨zL HB.out⟩⟩
    case rest =>
     clear HC69
     try clear c4
     try clear c4b0
     try clear c4b1
     try clear c4b2
     try clear c12
     try clear c12b0
     try clear c12b1
     try clear c36
     try clear hcz11_0 hcz11_1 hcz11_2 hcz11_3 hcz11_4 hcz11_5 hcz11_6 hcz11_7 hcz11_8 hcz11_9
     try clear hcz18_0 hcz18_1 hcz18_2
     try clear hfz11_0 hfz11_1 hfz11_2 hfz11_3 hfz11_4 hfz11_5 hfz11_6 hfz11_7 hfz11_8 hfz11_9
     try clear hfz18_0 hfz18_1 hfz18_2
     try clear hx341_0
     try clear hx343_0
     try clear hx345_0
     try clear p341
     try clear p343
     try clear p345
     try clear q341
     try clear q343
     try clear q345
     obtain ⟨kq, x80_68, rfl, HA, HJ68, HO_4, BK335, BK336, BK342, HB⟩ := hcut
     cases kq with
     | zero => exact absurd HA.out (by simp [cooperageref9_one.j2])
     | succ kj68 =>
      have H := HA.out
      clear HA
      simp only [cooperageref9_one.j2] at H
      by_cases c71 : x80_68 = true
      case pos =>
       subst c71
       rw [if_pos rfl] at H
       replace H := Option.bind_eq_some_iff.mp H
       obtain ⟨t354, A720, H⟩ := H
       try dsimp only at H
       have A72 := Aside0.mk A720
       clear A720
       simp only [Option.some.injEq, Prod.mk.injEq] at H
       obtain ⟨rfl, rfl, rfl, rfl, rfl, rfl, rfl, rfl, rfl, rfl, rfl⟩ := H
       have hnb73 := NB342_335.out
       have hnc73 := NB335_342.out
       have hnb74 := NB342_336.out
       have hnc74 := NB336_342.out
       obtain ⟨hcz75_0, hcz75_1, hcz75_2, hcz75_3, hcz75_4, hcz75_5, hcz75_6, hcz75_7, hcz75_8, hcz75_9, hfz75_0, hfz75_1, hfz75_2, hfz75_3, hfz75_4, hfz75_5, hfz75_6, hfz75_7, hfz75_8, hfz75_9⟩ := zC10 BK342.out
       try go_wp2
       have n0_ : Aside0 (Kd.R Kd.string 9 ((wc.setCell ⟨gb342, 0, none⟩ (.int .i64 3)).setCell ⟨gb342, 3, none⟩ (.string t344)) w.heap.size (fun _ => True) (.slice (some ad341) t338.length co20) t338) := ⟨by (with_reducible repeat (first | apply Kd.R_alloc | apply Kd.R_drewN | apply Kd.R_drew)); exact Kd.R_mono (zNT HO_4.out BK342.out) (fun _ hk => trivial)⟩
       have n1_ : Aside0 (((wc.setCell ⟨gb342, 0, none⟩ (.int .i64 3)).setCell ⟨gb342, 3, none⟩ (.string t344)).heap[gb335]? = some (.cells #[.int .i64 a0_0, .bool a0_1, .string t337] 53 (0, 0))) := ⟨zK BK335.out⟩
       have n2_ : Aside0 (((wc.setCell ⟨gb342, 0, none⟩ (.int .i64 3)).setCell ⟨gb342, 3, none⟩ (.string t344)).heap[gb336]? = some (.cells #[.int .i64 0, .int .i64 0, .string ⟨#[]⟩, .string ⟨#[]⟩, .string ⟨#[]⟩, .string ⟨#[]⟩, .string ⟨#[]⟩, .string ⟨#[]⟩, .string ⟨#[]⟩, .slice none 0 0] 64 (0, 0))) := ⟨zK BK336.out⟩
       have n3_ : Aside0 (((wc.setCell ⟨gb342, 0, none⟩ (.int .i64 3)).setCell ⟨gb342, 3, none⟩ (.string t344)).heap[gb342]? = some (.cells #[.int .i64 3, .int .i64 a0_0, .string (rdOf ByteArray.empty t338 0), .string t344, .string ⟨#[]⟩, .string ⟨#[]⟩, .string ⟨#[]⟩, .string ⟨#[]⟩, .string ⟨#[]⟩, .slice none 0 0] 64 (0, 0))) := ⟨by (with_reducible repeat (first | refine blk_drewN ?_ _ | refine blk_drew ?_ | refine blk_alloc ?_ _)); refine blk_put (cs := #[.int .i64 3, .int .i64 a0_0, .string (rdOf ByteArray.empty t338 0), .string ⟨#[]⟩, .string ⟨#[]⟩, .string ⟨#[]⟩, .string ⟨#[]⟩, .string ⟨#[]⟩, .string ⟨#[]⟩, .slice none 0 0]) ?_ 3 _ rfl; (with_reducible repeat (first | refine blk_drewN ?_ _ | refine blk_drew ?_ | refine blk_alloc ?_ _)); refine blk_put (cs := #[.int .i64 0, .int .i64 a0_0, .string (rdOf ByteArray.empty t338 0), .string ⟨#[]⟩, .string ⟨#[]⟩, .string ⟨#[]⟩, .string ⟨#[]⟩, .string ⟨#[]⟩, .string ⟨#[]⟩, .slice none 0 0]) ?_ 0 _ rfl; (with_reducible repeat (first | refine blk_drewN ?_ _ | refine blk_drew ?_ | refine blk_alloc ?_ _)); exact BK342.out⟩
       have n4_ : Aside0 (Below w.heap.size w ((wc.setCell ⟨gb342, 0, none⟩ (.int .i64 3)).setCell ⟨gb342, 3, none⟩ (.string t344))) := ⟨zL HB.out⟩
       (try clear HO_4)
       (try clear BK335)
       (try clear BK336)
       (try clear BK342)
       (try clear HB)
       repeat rw [zDC]
       repeat rw [zDD]
       generalize ((wc.setCell ⟨gb342, 0, none⟩ (.int .i64 3)).setCell ⟨gb342, 3, none⟩ (.string t344)) = w76 at n0_ n1_ n2_ n3_ n4_ ⊢
       have HO_4 := n0_
       have BK335 := n1_
       have BK336 := n2_
       have BK342 := n3_
       have HB := n4_
       clear n0_ n1_ n2_ n3_ n4_
       have n0_ := Aside0.mk (Kd.R_drew HO_4.out)
       have n1_ := Aside0.mk (blk_drew BK335.out)
       have n2_ := Aside0.mk (blk_drew BK336.out)
       have n3_ := Aside0.mk (blk_drew BK342.out)
       have n4_ := Aside0.mk (below_drew1 HB.out)
       clear HO_4
       clear BK335
       clear BK336
       clear BK342
       clear HB
       have HO_4 := n0_
       have BK335 := n1_
       have BK336 := n2_
       have BK342 := n3_
       have HB := n4_
       clear n0_ n1_ n2_ n3_ n4_
       refine start_ (n := 5) (S := fun w' => w'.cell? ⟨gb342, 0, none⟩ = some (.int .i64 3) ∧ w'.cell? ⟨gb342, 1, none⟩ = some (.int .i64 a0_0) ∧ w'.cell? ⟨gb342, 2, none⟩ = some (.string (rdOf ByteArray.empty t338 0)) ∧ w'.cell? ⟨gb342, 3, none⟩ = some (.string t344) ∧ w'.cell? ⟨gb342, 4, none⟩ = some (.string ⟨#[]⟩) ∧ w'.cell? ⟨gb342, 5, none⟩ = some (.string ⟨#[]⟩) ∧ w'.cell? ⟨gb342, 6, none⟩ = some (.string ⟨#[]⟩) ∧ w'.cell? ⟨gb342, 7, none⟩ = some (.string ⟨#[]⟩) ∧ w'.cell? ⟨gb342, 8, none⟩ = some (.string ⟨#[]⟩) ∧ w'.cell? ⟨gb342, 9, none⟩ = some (.slice none 0 0)) (ds := []) #[false, false, false, false, false] (by kernel_rfl) rfl rfl ⟨(blk_cell BK342.out 0).trans rfl, (blk_cell BK342.out 1).trans rfl, (blk_cell BK342.out 2).trans rfl, (blk_cell BK342.out 3).trans rfl, (blk_cell BK342.out 4).trans rfl, (blk_cell BK342.out 5).trans rfl, (blk_cell BK342.out 6).trans rfl, (blk_cell BK342.out 7).trans rfl, (blk_cell BK342.out 8).trans rfl, (blk_cell BK342.out 9).trans rfl⟩ (fun hHeld => ?_)
       generalize w76.drew = w77 at HO_4 BK335 BK336 BK342 HB hHeld ⊢
       refine pure_ (i := 1) (N := some 87) (v := ?_) (a' := ?_) #[false, true, false, false, false] rfl rfl (by kernel_rfl) (fun _ _ _ h => h) (Or.inl ⟨by rfl, ?_⟩) ?_ ?_
       rotate_left
       ·intro w'
        go_simp
        with_reducible rfl
       rotate_left
       ·simp only [Act.put, List.setIfInBounds_toArray, List.set_cons_zero, List.set_cons_succ, i64_w, i32_w]
        rfl
       refine take_ (i := 0) (N := some 86) (v := ?_) (a' := ?_) #[true, true, false, false, false] rfl rfl (by kernel_rfl) (fun _ _ _ h => h) (Or.inl ⟨by rfl, ?_⟩) hHeld ?_ ?_
       rotate_left
       ·rintro w' ⟨s0, s1, s2, s3, s4, s5, s6, s7, s8, s9⟩
        go_simp
        with_reducible rfl
       rotate_left
       ·simp only [Act.put, List.setIfInBounds_toArray, List.set_cons_zero, List.set_cons_succ, i64_w, i32_w]
        rfl
       refine one_ (i := 2) (N := some 88) #[true, true, true, false, false] rfl rfl (by kernel_rfl) (by decide) (fun K hK => ?_)
       refine goes_ Tryd.func16 (by kernel_rfl) rfl #[.string t344] (by rfl) rfl rfl zA ?_
       with_reducible refine (cooperageref9_Name.calls kj68 t344 t354 _ A72.out).mono ?_
       rintro e w' ⟨rfl, ⟨nd, rfl⟩⟩
       refine ⟨_, rfl, ?_⟩
       refine hK.out _ _ ⟨(blk_cell BK342.out 0).trans rfl, (blk_cell BK342.out 1).trans rfl, (blk_cell BK342.out 2).trans rfl, (blk_cell BK342.out 3).trans rfl, (blk_cell BK342.out 4).trans rfl, (blk_cell BK342.out 5).trans rfl, (blk_cell BK342.out 6).trans rfl, (blk_cell BK342.out 7).trans rfl, (blk_cell BK342.out 8).trans rfl, (blk_cell BK342.out 9).trans rfl⟩ (fun hHeld => ?_)
       clear hK K
       refine norm_ (a' := ?_) ?_ ?_
       rotate_left
       ·show Act.put _ (some 88) _ = _
        simp only [Act.put, List.setIfInBounds_toArray, List.set_cons_zero, List.set_cons_succ, i64_w, i32_w]
        rfl
       refine one_ (i := 3) (N := none) #[true, true, true, true, false] rfl rfl (by kernel_rfl) (by decide) (fun K hK => ?_)
       have hs78 : w77.cell? ⟨gb336, 0, none⟩ = some (.int .i64 0) := (blk_cell BK336.out 0).trans rfl
       have hfs78 := blk_frozen BK336.out 0
       have hns78_0 := NB335_336.out
       have hns78_2 := NB342_336.out
       have hms78_0 := NB336_335.out
       have hms78_2 := NB336_342.out
       have hs79 : w77.cell? ⟨gb336, 1, none⟩ = some (.int .i64 0) := (blk_cell BK336.out 1).trans rfl
       have hfs79 := blk_frozen BK336.out 1
       have hns79_0 := NB335_336.out
       have hns79_2 := NB342_336.out
       have hms79_0 := NB336_335.out
       have hms79_2 := NB336_342.out
       have hs80 : w77.cell? ⟨gb336, 2, none⟩ = some (.string ⟨#[]⟩) := (blk_cell BK336.out 2).trans rfl
       have hfs80 := blk_frozen BK336.out 2
       have hns80_0 := NB335_336.out
       have hns80_2 := NB342_336.out
       have hms80_0 := NB336_335.out
       have hms80_2 := NB336_342.out
       have hs81 : w77.cell? ⟨gb336, 3, none⟩ = some (.string ⟨#[]⟩) := (blk_cell BK336.out 3).trans rfl
       have hfs81 := blk_frozen BK336.out 3
       have hns81_0 := NB335_336.out
       have hns81_2 := NB342_336.out
       have hms81_0 := NB336_335.out
       have hms81_2 := NB336_342.out
       have hs82 : w77.cell? ⟨gb336, 4, none⟩ = some (.string ⟨#[]⟩) := (blk_cell BK336.out 4).trans rfl
       have hfs82 := blk_frozen BK336.out 4
       have hns82_0 := NB335_336.out
       have hns82_2 := NB342_336.out
       have hms82_0 := NB336_335.out
       have hms82_2 := NB336_342.out
       have hs83 : w77.cell? ⟨gb336, 5, none⟩ = some (.string ⟨#[]⟩) := (blk_cell BK336.out 5).trans rfl
       have hfs83 := blk_frozen BK336.out 5
       have hns83_0 := NB335_336.out
       have hns83_2 := NB342_336.out
       have hms83_0 := NB336_335.out
       have hms83_2 := NB336_342.out
       have hs84 : w77.cell? ⟨gb336, 6, none⟩ = some (.string ⟨#[]⟩) := (blk_cell BK336.out 6).trans rfl
       have hfs84 := blk_frozen BK336.out 6
       have hns84_0 := NB335_336.out
       have hns84_2 := NB342_336.out
       have hms84_0 := NB336_335.out
       have hms84_2 := NB336_342.out
       have hs85 : w77.cell? ⟨gb336, 7, none⟩ = some (.string ⟨#[]⟩) := (blk_cell BK336.out 7).trans rfl
       have hfs85 := blk_frozen BK336.out 7
       have hns85_0 := NB335_336.out
       have hns85_2 := NB342_336.out
       have hms85_0 := NB336_335.out
       have hms85_2 := NB336_342.out
       have hs86 : w77.cell? ⟨gb336, 8, none⟩ = some (.string ⟨#[]⟩) := (blk_cell BK336.out 8).trans rfl
       have hfs86 := blk_frozen BK336.out 8
       have hns86_0 := NB335_336.out
       have hns86_2 := NB342_336.out
       have hms86_0 := NB336_335.out
       have hms86_2 := NB336_342.out
       have hs87 : w77.cell? ⟨gb336, 9, none⟩ = some (.slice none 0 0) := (blk_cell BK336.out 9).trans rfl
       have hfs87 := blk_frozen BK336.out 9
       have hns87_0 := NB335_336.out
       have hns87_2 := NB342_336.out
       have hms87_0 := NB336_335.out
       have hms87_2 := NB336_342.out
       refine skip_ (w1 := ?_) (by rfl) rfl ?_ ?_
       rotate_left
       ·go_simp
        rfl
       refine hK.out _ _ ⟨(zW NB342_336.out hHeld.1), (zW NB342_336.out hHeld.2.1), (zW NB342_336.out hHeld.2.2.1), (zW NB342_336.out hHeld.2.2.2.1), (zW NB342_336.out hHeld.2.2.2.2.1), (zW NB342_336.out hHeld.2.2.2.2.2.1), (zW NB342_336.out hHeld.2.2.2.2.2.2.1), (zW NB342_336.out hHeld.2.2.2.2.2.2.2.1), (zW NB342_336.out hHeld.2.2.2.2.2.2.2.2.1), (zW NB342_336.out hHeld.2.2.2.2.2.2.2.2.2)⟩ (fun hHeld => ?_)
       clear hK K
       refine pure_ (i := 4) (N := some 3) (v := ?_) (a' := ?_) #[true, true, true, true, true] rfl rfl (by kernel_rfl) (fun _ _ _ h => h) (Or.inl ⟨by rfl, ?_⟩) ?_ ?_
       rotate_left
       ·intro w'
        go_simp
        with_reducible rfl
       rotate_left
       ·simp only [Act.put, List.setIfInBounds_toArray, List.set_cons_zero, List.set_cons_succ, i64_w, i32_w]
        rfl
       refine done_ (by kernel_rfl) ?_
       try go_wp2
       refine bodyPost_ret (results_ct rfl _ _ gb336 64 #[.int .i64 3, .int .i64 a0_0, .string (rdOf ByteArray.empty t338 0), .string t344, .string ⟨#[]⟩, .string ⟨#[]⟩, .string ⟨#[]⟩, .string ⟨#[]⟩, .string ⟨#[]⟩, .slice none 0 0] (0, 0) _ rfl (zP10 BK336.out) Tryd.underlying64 rfl (by kernel_rfl)) rfl ?_
       exact ⟨_, zE, by first | exact Kd.R_nil _ _ _ _ _ | exact Kd.N_nil _ _ _ _ _ | exact Kd.V_nil _ _ _ _ _ | exact Kd.Q_nil _ _ _ _ _ | exact Kd.S_nil _ _ _ _ _, zL HB.out⟩
      case' neg =>
       replace c71 := Bool.eq_false_iff.mpr c71
       subst c71
       rw [if_neg (show ¬ (false = true) by decide)] at H
       by_cases c88 : (rdOf ByteArray.empty t338 0).toList = ([101, 108, 115, 101] : List UInt8)
       case pos =>
        rw [if_pos c88] at H
        have c88b0 := beq_iff_eq.mpr c88
        have c88b1 := bne_eq_false_iff_eq.mpr c88
        clear c88
        simp only [Option.some.injEq, Prod.mk.injEq] at H
        obtain ⟨rfl, rfl, rfl, rfl, rfl, rfl, rfl, rfl, rfl, rfl, rfl⟩ := H
        have hnb89 := NB342_335.out
        have hnc89 := NB335_342.out
        have hnb90 := NB342_336.out
        have hnc90 := NB336_342.out
        obtain ⟨hcz91_0, hcz91_1, hcz91_2, hcz91_3, hcz91_4, hcz91_5, hcz91_6, hcz91_7, hcz91_8, hcz91_9, hfz91_0, hfz91_1, hfz91_2, hfz91_3, hfz91_4, hfz91_5, hfz91_6, hfz91_7, hfz91_8, hfz91_9⟩ := zC10 BK342.out
        have hnb92 := NB335_336.out
        have hnc92 := NB336_335.out
        obtain ⟨hcz93_0, hcz93_1, hcz93_2, hfz93_0, hfz93_1, hfz93_2⟩ := zC3 BK335.out
        obtain ⟨hcz94_0, hcz94_1, hcz94_2, hcz94_3, hcz94_4, hcz94_5, hcz94_6, hcz94_7, hcz94_8, hcz94_9, hfz94_0, hfz94_1, hfz94_2, hfz94_3, hfz94_4, hfz94_5, hfz94_6, hfz94_7, hfz94_8, hfz94_9⟩ := zC10 BK336.out
        go_wp2
        refine bodyPost_ret (results_ct rfl _ _ gb336 64 #[.int .i64 4, .int .i64 a0_0, .string ⟨#[]⟩, .string ⟨#[]⟩, .string ⟨#[]⟩, .string ⟨#[]⟩, .string ⟨#[]⟩, .string ⟨#[]⟩, .string ⟨#[]⟩, .slice none 0 0] (0, 0) _ rfl (zP10 BK336.out) Tryd.underlying64 rfl (by kernel_rfl)) rfl ?_
        exact ⟨_, zE, by first | exact Kd.R_nil _ _ _ _ _ | exact Kd.N_nil _ _ _ _ _ | exact Kd.V_nil _ _ _ _ _ | exact Kd.Q_nil _ _ _ _ _ | exact Kd.S_nil _ _ _ _ _, zL HB.out⟩
       case' neg =>
        rw [if_neg c88] at H
        have c88b0 := beq_eq_false_iff_ne.mpr c88
        have c88b1 := bne_iff_ne.mpr c88
        by_cases c95 : (rdOf ByteArray.empty t338 0).toList = ([101, 110, 100, 105, 102] : List UInt8)
        case pos =>
         rw [if_pos c95] at H
         have c95b0 := beq_iff_eq.mpr c95
         have c95b1 := bne_eq_false_iff_eq.mpr c95
         clear c95
         simp only [Option.some.injEq, Prod.mk.injEq] at H
         obtain ⟨rfl, rfl, rfl, rfl, rfl, rfl, rfl, rfl, rfl, rfl, rfl⟩ := H
         have hnb96 := NB335_336.out
         have hnc96 := NB336_335.out
         have hnb97 := NB335_342.out
         have hnc97 := NB342_335.out
         obtain ⟨hcz98_0, hcz98_1, hcz98_2, hfz98_0, hfz98_1, hfz98_2⟩ := zC3 BK335.out
         have hnb99 := NB336_342.out
         have hnc99 := NB342_336.out
         obtain ⟨hcz100_0, hcz100_1, hcz100_2, hcz100_3, hcz100_4, hcz100_5, hcz100_6, hcz100_7, hcz100_8, hcz100_9, hfz100_0, hfz100_1, hfz100_2, hfz100_3, hfz100_4, hfz100_5, hfz100_6, hfz100_7, hfz100_8, hfz100_9⟩ := zC10 BK336.out
         go_wp2
         refine bodyPost_ret (results_ct rfl _ _ gb336 64 #[.int .i64 5, .int .i64 a0_0, .string ⟨#[]⟩, .string ⟨#[]⟩, .string ⟨#[]⟩, .string ⟨#[]⟩, .string ⟨#[]⟩, .string ⟨#[]⟩, .string ⟨#[]⟩, .slice none 0 0] (0, 0) _ rfl (zP10 BK336.out) Tryd.underlying64 rfl (by kernel_rfl)) rfl ?_
         exact ⟨_, zE, by first | exact Kd.R_nil _ _ _ _ _ | exact Kd.N_nil _ _ _ _ _ | exact Kd.V_nil _ _ _ _ _ | exact Kd.Q_nil _ _ _ _ _ | exact Kd.S_nil _ _ _ _ _, zL HB.out⟩
        case' neg =>
         rw [if_neg c95] at H
         have c95b0 := beq_eq_false_iff_ne.mpr c95
         have c95b1 := bne_iff_ne.mpr c95
         by_cases c101 : (rdOf ByteArray.empty t338 0).toList = ([105, 110, 99, 108, 117, 100, 101] : List UInt8)
         case' pos =>
          rw [if_pos c101] at H
          have c101b0 := beq_iff_eq.mpr c101
          have c101b1 := bne_eq_false_iff_eq.mpr c101
          clear c101
         case' neg =>
          rw [if_neg c101] at H
          have c101b0 := beq_eq_false_iff_ne.mpr c101
          have c101b1 := bne_iff_ne.mpr c101
          by_cases c107 : (rdOf ByteArray.empty t338 0).toList = ([45, 105, 110, 99, 108, 117, 100, 101] : List UInt8)
          case neg =>
           rw [if_neg c107] at H
           have c107b0 := beq_eq_false_iff_ne.mpr c107
           have c107b1 := bne_iff_ne.mpr c107
           obtain ⟨y355, hy355⟩ : ∃ y_ : List ByteArray, y_ = (([(⟨#[58, 61]⟩ : ByteArray), (⟨#[63, 61]⟩ : ByteArray), (⟨#[43, 61]⟩ : ByteArray), (⟨#[61]⟩ : ByteArray), (⟨#[58]⟩ : ByteArray)] : List ByteArray)) := ⟨_, rfl⟩
           replace H : ((cooperageref9_Cut.f kj68 t337 y355).bind fun bt358 => (if bt358.2.1.toList = ([] : List UInt8) then (some (0, a0_0, bt358.2.1, (⟨#[]⟩ : ByteArray), (⟨#[]⟩ : ByteArray), (⟨#[]⟩ : ByteArray), (⟨#[]⟩ : ByteArray), (⟨#[]⟩ : ByteArray), (⟨#[]⟩ : ByteArray), ([] : List ByteArray), false)) else (if bt358.2.1.toList = ([58] : List UInt8) then ((cooperageref9_rule.f kj68 bt358.1 bt358.2.2 a0_0).bind fun bt361 => (some (bt361.1, bt361.2.1, bt361.2.2.1, bt361.2.2.2.1, bt361.2.2.2.2.1, bt361.2.2.2.2.2.1, bt361.2.2.2.2.2.2.1, bt361.2.2.2.2.2.2.2.1, bt361.2.2.2.2.2.2.2.2.1, bt361.2.2.2.2.2.2.2.2.2.1, bt361.2.2.2.2.2.2.2.2.2.2))) else ((cooperageref1_Trim.f kj68 bt358.1).bind fun t374 => ((cooperageref1_Trim.f kj68 bt358.2.2).bind fun t375 => ((cooperageref9_Name.f kj68 t374).bind fun t376 => (some (1, a0_0, bt358.2.1, t374, t375, (⟨#[]⟩ : ByteArray), (⟨#[]⟩ : ByteArray), (⟨#[]⟩ : ByteArray), (⟨#[]⟩ : ByteArray), ([] : List ByteArray), t376)))))))) = some (r1, r2, r3, r4, r5, r6, r7, r8, r9, r10, r11) := zH hy355 H
           have Ny355 := Aside0.mk hy355
           clear hy355
           replace H := Option.bind_eq_some_iff.mp H
           obtain ⟨⟨t358, t359, t360⟩, A1130, H⟩ := H
           try dsimp only at H
           have A113 := Aside0.mk A1130
           clear A1130
           by_cases c114 : t359.toList = ([] : List UInt8)
           ·rw [if_pos c114] at H
            have c114b0 := beq_iff_eq.mpr c114
            have c114b1 := bne_eq_false_iff_eq.mpr c114
            clear c114
            simp only [Option.some.injEq, Prod.mk.injEq] at H
            obtain ⟨rfl, rfl, rfl, rfl, rfl, rfl, rfl, rfl, rfl, rfl, rfl⟩ := H
            have hnb115 := NB335_336.out
            have hnc115 := NB336_335.out
            have hnb116 := NB335_342.out
            have hnc116 := NB342_335.out
            obtain ⟨hcz117_0, hcz117_1, hcz117_2, hfz117_0, hfz117_1, hfz117_2⟩ := zC3 BK335.out
            go_wp2_with (first | ((with_reducible refine gate_dst (N := 118) rfl ?_); (try (refine gate_guard (by rfl) ?_; dsimp only)); refine Kd.R_lit Kd.string _ 9 ?hg (N := 118) ?hd (xs := ([(⟨#[58, 61]⟩ : ByteArray), (⟨#[63, 61]⟩ : ByteArray), (⟨#[43, 61]⟩ : ByteArray), (⟨#[61]⟩ : ByteArray), (⟨#[58]⟩ : ByteArray)] : List ByteArray)) (inner := [.string ⟨#[58, 61]⟩, .string ⟨#[63, 61]⟩, .string ⟨#[43, 61]⟩, .string ⟨#[61]⟩, .string ⟨#[58]⟩]) (ok := fun _ => True) (okp := fun _ => True) ?hr ?hp (fun _ hk => hk) trivial (Below.refl _ _) (Nat.le_refl _) (by simp) ?_; (case hd => rfl); (case hg => rfl); (case hr => (go_simp; try rfl)); (case hp => exact (Reps.one (show Kd.M Kd.string _ _ _ (⟨#[58, 61]⟩ : ByteArray) [.string ⟨#[58, 61]⟩] from rfl) (Reps.one (show Kd.M Kd.string _ _ _ (⟨#[63, 61]⟩ : ByteArray) [.string ⟨#[63, 61]⟩] from rfl) (Reps.one (show Kd.M Kd.string _ _ _ (⟨#[43, 61]⟩ : ByteArray) [.string ⟨#[43, 61]⟩] from rfl) (Reps.one (show Kd.M Kd.string _ _ _ (⟨#[61]⟩ : ByteArray) [.string ⟨#[61]⟩] from rfl) (Reps.one (show Kd.M Kd.string _ _ _ (⟨#[58]⟩ : ByteArray) [.string ⟨#[58]⟩] from rfl) (Reps.none _ _))))))); intro v356 w118 ho119 hb hg_ hnew_; clear hg_ hnew_; (first | rw [← Ny355.out] at ho119 | (simp only [Int.reduceToNat] at ho119; rw [← Ny355.out] at ho119)); have HO357 := Aside0.mk (Kd.R_lower (Kd.R_new' ho119 (Kd.R_lt (zR HO_4.out))) (below_size (zL HB.out))); replace HO_4 := Aside0.mk (Kd.R_elder' (zR HO_4.out) (Kd.R_base ho119) hb); replace BK335 := Aside0.mk (zB BK335.out hb); replace BK336 := Aside0.mk (zB BK336.out hb); replace BK342 := Aside0.mk (zB BK342.out hb); replace HB := Aside0.mk (below_step (zL HB.out) hb); clear hb ho119; obtain ⟨Ao120, co120, eo120⟩ := Kd.R_slice HO357.out; subst eo120) | ((with_reducible refine gate_callee (f := 18) rfl ?_); refine goesL_ (some 119) rfl rfl Tryd.func18 (by kernel_rfl) rfl #[.string t337, .slice Ao120 y355.length co120] rfl zA ?_; (with_reducible refine (cooperageref9_Cut.calls kj68 t337 _ _ y355 t358 t359 t360 _ ?side1 ?side2 A113.out).mono ?_); (case side1 => exact zCS (Kd.R_reads' HO357.out).2.2); (case side2 => exact (Kd.R_reads' HO357.out).2.1); rintro e w121 ⟨rfl, hb⟩; refine ⟨_, rfl, ?_⟩; replace HO_4 := Aside0.mk (Kd.R_below (zR HO_4.out) hb); replace HO357 := Aside0.mk (Kd.R_below (zR HO357.out) hb); replace BK335 := Aside0.mk (zB BK335.out hb); replace BK336 := Aside0.mk (zB BK336.out hb); replace BK342 := Aside0.mk (zB BK342.out hb); replace HB := Aside0.mk (below_step (zL HB.out) hb); (try clear hb); (try clear hb2); (try clear hk); (try clear hi); have hnb122 := NB342_336.out; have hnc122 := NB336_342.out; obtain ⟨hcz123_0, hcz123_1, hcz123_2, hcz123_3, hcz123_4, hcz123_5, hcz123_6, hcz123_7, hcz123_8, hcz123_9, hfz123_0, hfz123_1, hfz123_2, hfz123_3, hfz123_4, hfz123_5, hfz123_6, hfz123_7, hfz123_8, hfz123_9⟩ := zC10 BK342.out; obtain ⟨hcz124_0, hcz124_1, hcz124_2, hcz124_3, hcz124_4, hcz124_5, hcz124_6, hcz124_7, hcz124_8, hcz124_9, hfz124_0, hfz124_1, hfz124_2, hfz124_3, hfz124_4, hfz124_5, hfz124_6, hfz124_7, hfz124_8, hfz124_9⟩ := zC10 BK336.out))
            refine bodyPost_ret (results_ct rfl _ _ gb336 64 #[.int .i64 0, .int .i64 a0_0, .string t359, .string ⟨#[]⟩, .string ⟨#[]⟩, .string ⟨#[]⟩, .string ⟨#[]⟩, .string ⟨#[]⟩, .string ⟨#[]⟩, .slice none 0 0] (0, 0) _ rfl (zP10 BK336.out) Tryd.underlying64 rfl (by kernel_rfl)) rfl ?_
            exact ⟨_, zE, by first | exact Kd.R_nil _ _ _ _ _ | exact Kd.N_nil _ _ _ _ _ | exact Kd.V_nil _ _ _ _ _ | exact Kd.Q_nil _ _ _ _ _ | exact Kd.S_nil _ _ _ _ _, zL HB.out⟩
           ·rw [if_neg c114] at H
            have c114b0 := beq_eq_false_iff_ne.mpr c114
            have c114b1 := bne_iff_ne.mpr c114
            by_cases c125 : t359.toList = ([58] : List UInt8)
            ·rw [if_pos c125] at H
             have c125b0 := beq_iff_eq.mpr c125
             have c125b1 := bne_eq_false_iff_eq.mpr c125
             clear c125
             replace H := Option.bind_eq_some_iff.mp H
             obtain ⟨⟨t361, t362, t363, t364, t365, t366, t367, t368, t369, t370, t373⟩, A1260, H⟩ := H
             try dsimp only at H
             have A126 := Aside0.mk A1260
             clear A1260
             simp only [Option.some.injEq, Prod.mk.injEq] at H
             obtain ⟨rfl, rfl, rfl, rfl, rfl, rfl, rfl, rfl, rfl, rfl, rfl⟩ := H
             have hnb127 := NB335_336.out
             have hnc127 := NB336_335.out
             have hnb128 := NB335_342.out
             have hnc128 := NB342_335.out
             obtain ⟨hcz129_0, hcz129_1, hcz129_2, hfz129_0, hfz129_1, hfz129_2⟩ := zC3 BK335.out
             go_wp2_with (first | ((with_reducible refine gate_dst (N := 118) rfl ?_); (try (refine gate_guard (by rfl) ?_; dsimp only)); refine Kd.R_lit Kd.string _ 9 ?hg (N := 118) ?hd (xs := ([(⟨#[58, 61]⟩ : ByteArray), (⟨#[63, 61]⟩ : ByteArray), (⟨#[43, 61]⟩ : ByteArray), (⟨#[61]⟩ : ByteArray), (⟨#[58]⟩ : ByteArray)] : List ByteArray)) (inner := [.string ⟨#[58, 61]⟩, .string ⟨#[63, 61]⟩, .string ⟨#[43, 61]⟩, .string ⟨#[61]⟩, .string ⟨#[58]⟩]) (ok := fun _ => True) (okp := fun _ => True) ?hr ?hp (fun _ hk => hk) trivial (Below.refl _ _) (Nat.le_refl _) (by simp) ?_; (case hd => rfl); (case hg => rfl); (case hr => (go_simp; try rfl)); (case hp => exact (Reps.one (show Kd.M Kd.string _ _ _ (⟨#[58, 61]⟩ : ByteArray) [.string ⟨#[58, 61]⟩] from rfl) (Reps.one (show Kd.M Kd.string _ _ _ (⟨#[63, 61]⟩ : ByteArray) [.string ⟨#[63, 61]⟩] from rfl) (Reps.one (show Kd.M Kd.string _ _ _ (⟨#[43, 61]⟩ : ByteArray) [.string ⟨#[43, 61]⟩] from rfl) (Reps.one (show Kd.M Kd.string _ _ _ (⟨#[61]⟩ : ByteArray) [.string ⟨#[61]⟩] from rfl) (Reps.one (show Kd.M Kd.string _ _ _ (⟨#[58]⟩ : ByteArray) [.string ⟨#[58]⟩] from rfl) (Reps.none _ _))))))); intro v356 w130 ho131 hb hg_ hnew_; clear hg_ hnew_; (first | rw [← Ny355.out] at ho131 | (simp only [Int.reduceToNat] at ho131; rw [← Ny355.out] at ho131)); have HO357 := Aside0.mk (Kd.R_lower (Kd.R_new' ho131 (Kd.R_lt (zR HO_4.out))) (below_size (zL HB.out))); replace HO_4 := Aside0.mk (Kd.R_elder' (zR HO_4.out) (Kd.R_base ho131) hb); replace BK335 := Aside0.mk (zB BK335.out hb); replace BK336 := Aside0.mk (zB BK336.out hb); replace BK342 := Aside0.mk (zB BK342.out hb); replace HB := Aside0.mk (below_step (zL HB.out) hb); clear hb ho131; obtain ⟨Ao132, co132, eo132⟩ := Kd.R_slice HO357.out; subst eo132) | ((with_reducible refine gate_callee (f := 18) rfl ?_); refine goesL_ (some 119) rfl rfl Tryd.func18 (by kernel_rfl) rfl #[.string t337, .slice Ao132 y355.length co132] rfl zA ?_; (with_reducible refine (cooperageref9_Cut.calls kj68 t337 _ _ y355 t358 t359 t360 _ ?side1 ?side2 A113.out).mono ?_); (case side1 => exact zCS (Kd.R_reads' HO357.out).2.2); (case side2 => exact (Kd.R_reads' HO357.out).2.1); rintro e w133 ⟨rfl, hb⟩; refine ⟨_, rfl, ?_⟩; replace HO_4 := Aside0.mk (Kd.R_below (zR HO_4.out) hb); replace HO357 := Aside0.mk (Kd.R_below (zR HO357.out) hb); replace BK335 := Aside0.mk (zB BK335.out hb); replace BK336 := Aside0.mk (zB BK336.out hb); replace BK342 := Aside0.mk (zB BK342.out hb); replace HB := Aside0.mk (below_step (zL HB.out) hb); (try clear hb); (try clear hb2); (try clear hk); (try clear hi); have hnb134 := NB342_336.out; have hnc134 := NB336_342.out; obtain ⟨hcz135_0, hcz135_1, hcz135_2, hcz135_3, hcz135_4, hcz135_5, hcz135_6, hcz135_7, hcz135_8, hcz135_9, hfz135_0, hfz135_1, hfz135_2, hfz135_3, hfz135_4, hfz135_5, hfz135_6, hfz135_7, hfz135_8, hfz135_9⟩ := zC10 BK342.out; obtain ⟨hcz136_0, hcz136_1, hcz136_2, hfz136_0, hfz136_1, hfz136_2⟩ := zC3 BK335.out) | ((with_reducible refine gate_callee (f := 49) rfl ?_); refine goesL_ (some 145) rfl rfl Tryd.func49 (by kernel_rfl) rfl #[.string t358, .string t360, .int .i64 a0_0] rfl zA ?_; (with_reducible refine (cooperageref9_rule.calls kj68 t358 t360 a0_0 t361 t362 t363 t364 t365 t366 t367 t368 t369 t370 t373 _ A126.out).mono ?_); rintro e w137 ⟨v371, rfl, ho0, hb⟩; refine ⟨_, rfl, ?_⟩; have HO372 := Aside0.mk (Kd.R_lower (Kd.R_new' (Kd.R_new' ho0 (Kd.R_lt (zT HO_4.out BK342.out))) (Kd.R_lt (zT HO357.out BK342.out))) (below_size (zL HB.out))); replace HO_4 := Aside0.mk (Kd.R_elder' (zT HO_4.out BK342.out) (Kd.R_base ho0) hb); replace HO357 := Aside0.mk (Kd.R_elder' (zT HO357.out BK342.out) (Kd.R_base ho0) hb); replace BK335 := Aside0.mk (zB BK335.out hb); replace BK336 := Aside0.mk (zB BK336.out hb); replace BK342 := Aside0.mk (blk_below (g := gb342) (o := .cells #[.int .i64 0, .int .i64 a0_0, .string t359, .string ⟨#[]⟩, .string ⟨#[]⟩, .string ⟨#[]⟩, .string ⟨#[]⟩, .string ⟨#[]⟩, .string ⟨#[]⟩, .slice none 0 0] 64 (0, 0)) (by (with_reducible repeat (first | refine blk_drewN ?_ _ | refine blk_drew ?_ | refine blk_alloc ?_ _)); refine blk_put (cs := #[.int .i64 0, .int .i64 a0_0, .string (rdOf ByteArray.empty t338 0), .string ⟨#[]⟩, .string ⟨#[]⟩, .string ⟨#[]⟩, .string ⟨#[]⟩, .string ⟨#[]⟩, .string ⟨#[]⟩, .slice none 0 0]) ?_ 2 _ rfl; (with_reducible repeat (first | refine blk_drewN ?_ _ | refine blk_drew ?_ | refine blk_alloc ?_ _)); exact BK342.out) hb); replace HB := Aside0.mk (below_step (zL HB.out) hb); (try clear hb); (try clear hb2); (try clear hk); (try clear hi); (try clear ho0); obtain ⟨hcz138_0, hcz138_1, hcz138_2, hcz138_3, hcz138_4, hcz138_5, hcz138_6, hcz138_7, hcz138_8, hcz138_9, hfz138_0, hfz138_1, hfz138_2, hfz138_3, hfz138_4, hfz138_5, hfz138_6, hfz138_7, hfz138_8, hfz138_9⟩ := zC10 BK336.out; obtain ⟨Ao139, co139, eo139⟩ := Kd.R_slice HO372.out; subst eo139))
             refine bodyPost_ret (results_ct rfl _ _ gb336 64 #[.int .i64 t361, .int .i64 t362, .string t363, .string t364, .string t365, .string t366, .string t367, .string t368, .string t369, .slice Ao139 t370.length co139] (0, 0) _ rfl (zP10 BK336.out) Tryd.underlying64 rfl (by kernel_rfl)) rfl ?_
             exact ⟨_, zE, by (with_reducible repeat (first | apply Kd.R_alloc | apply Kd.R_drewN | apply Kd.R_drew)); exact Kd.R_mono (zNT HO372.out BK336.out) (fun _ hk => trivial), zL HB.out⟩
            ·rw [if_neg c125] at H
             have c125b0 := beq_eq_false_iff_ne.mpr c125
             have c125b1 := bne_iff_ne.mpr c125
             replace H := Option.bind_eq_some_iff.mp H
             obtain ⟨t374, A1400, H⟩ := H
             try dsimp only at H
             have A140 := Aside0.mk A1400
             clear A1400
             replace H := Option.bind_eq_some_iff.mp H
             obtain ⟨t375, A1410, H⟩ := H
             try dsimp only at H
             have A141 := Aside0.mk A1410
             clear A1410
             replace H := Option.bind_eq_some_iff.mp H
             obtain ⟨t376, A1420, H⟩ := H
             try dsimp only at H
             have A142 := Aside0.mk A1420
             clear A1420
             simp only [Option.some.injEq, Prod.mk.injEq] at H
             obtain ⟨rfl, rfl, rfl, rfl, rfl, rfl, rfl, rfl, rfl, rfl, rfl⟩ := H
             have hnb143 := NB335_336.out
             have hnc143 := NB336_335.out
             have hnb144 := NB335_342.out
             have hnc144 := NB342_335.out
             obtain ⟨hcz145_0, hcz145_1, hcz145_2, hfz145_0, hfz145_1, hfz145_2⟩ := zC3 BK335.out
             try go_wp2_with (first | ((with_reducible refine gate_dst (N := 118) rfl ?_); (try (refine gate_guard (by rfl) ?_; dsimp only)); refine Kd.R_lit Kd.string _ 9 ?hg (N := 118) ?hd (xs := ([(⟨#[58, 61]⟩ : ByteArray), (⟨#[63, 61]⟩ : ByteArray), (⟨#[43, 61]⟩ : ByteArray), (⟨#[61]⟩ : ByteArray), (⟨#[58]⟩ : ByteArray)] : List ByteArray)) (inner := [.string ⟨#[58, 61]⟩, .string ⟨#[63, 61]⟩, .string ⟨#[43, 61]⟩, .string ⟨#[61]⟩, .string ⟨#[58]⟩]) (ok := fun _ => True) (okp := fun _ => True) ?hr ?hp (fun _ hk => hk) trivial (Below.refl _ _) (Nat.le_refl _) (by simp) ?_; (case hd => rfl); (case hg => rfl); (case hr => (go_simp; try rfl)); (case hp => exact (Reps.one (show Kd.M Kd.string _ _ _ (⟨#[58, 61]⟩ : ByteArray) [.string ⟨#[58, 61]⟩] from rfl) (Reps.one (show Kd.M Kd.string _ _ _ (⟨#[63, 61]⟩ : ByteArray) [.string ⟨#[63, 61]⟩] from rfl) (Reps.one (show Kd.M Kd.string _ _ _ (⟨#[43, 61]⟩ : ByteArray) [.string ⟨#[43, 61]⟩] from rfl) (Reps.one (show Kd.M Kd.string _ _ _ (⟨#[61]⟩ : ByteArray) [.string ⟨#[61]⟩] from rfl) (Reps.one (show Kd.M Kd.string _ _ _ (⟨#[58]⟩ : ByteArray) [.string ⟨#[58]⟩] from rfl) (Reps.none _ _))))))); intro v356 w146 ho147 hb hg_ hnew_; clear hg_ hnew_; (first | rw [← Ny355.out] at ho147 | (simp only [Int.reduceToNat] at ho147; rw [← Ny355.out] at ho147)); have HO357 := Aside0.mk (Kd.R_lower (Kd.R_new' ho147 (Kd.R_lt (zR HO_4.out))) (below_size (zL HB.out))); replace HO_4 := Aside0.mk (Kd.R_elder' (zR HO_4.out) (Kd.R_base ho147) hb); replace BK335 := Aside0.mk (zB BK335.out hb); replace BK336 := Aside0.mk (zB BK336.out hb); replace BK342 := Aside0.mk (zB BK342.out hb); replace HB := Aside0.mk (below_step (zL HB.out) hb); clear hb ho147; obtain ⟨Ao148, co148, eo148⟩ := Kd.R_slice HO357.out; subst eo148) | ((with_reducible refine gate_callee (f := 18) rfl ?_); refine goesL_ (some 119) rfl rfl Tryd.func18 (by kernel_rfl) rfl #[.string t337, .slice Ao148 y355.length co148] rfl zA ?_; (with_reducible refine (cooperageref9_Cut.calls kj68 t337 _ _ y355 t358 t359 t360 _ ?side1 ?side2 A113.out).mono ?_); (case side1 => exact zCS (Kd.R_reads' HO357.out).2.2); (case side2 => exact (Kd.R_reads' HO357.out).2.1); rintro e w149 ⟨rfl, hb⟩; refine ⟨_, rfl, ?_⟩; replace HO_4 := Aside0.mk (Kd.R_below (zR HO_4.out) hb); replace HO357 := Aside0.mk (Kd.R_below (zR HO357.out) hb); replace BK335 := Aside0.mk (zB BK335.out hb); replace BK336 := Aside0.mk (zB BK336.out hb); replace BK342 := Aside0.mk (zB BK342.out hb); replace HB := Aside0.mk (below_step (zL HB.out) hb); (try clear hb); (try clear hb2); (try clear hk); (try clear hi); have hnb150 := NB342_336.out; have hnc150 := NB336_342.out; obtain ⟨hcz151_0, hcz151_1, hcz151_2, hcz151_3, hcz151_4, hcz151_5, hcz151_6, hcz151_7, hcz151_8, hcz151_9, hfz151_0, hfz151_1, hfz151_2, hfz151_3, hfz151_4, hfz151_5, hfz151_6, hfz151_7, hfz151_8, hfz151_9⟩ := zC10 BK342.out) | ((with_reducible refine gate_callee (f := 40) rfl ?_); refine goesL_ (some 132) rfl rfl Tryd.func40 (by kernel_rfl) rfl #[.string t358] rfl zA ?_; (with_reducible refine (cooperageref1_Trim.calls kj68 t358 t374 _ A140.out).mono ?_); rintro e w' ⟨rfl, ⟨nd, rfl⟩⟩; refine ⟨_, rfl, ?_⟩) | ((with_reducible refine gate_callee (f := 40) rfl ?_); refine goesL_ (some 135) rfl rfl Tryd.func40 (by kernel_rfl) rfl #[.string t360] rfl zA ?_; (with_reducible refine (cooperageref1_Trim.calls kj68 t360 t375 _ A141.out).mono ?_); rintro e w' ⟨rfl, ⟨nd, rfl⟩⟩; refine ⟨_, rfl, ?_⟩))
             have n0_ : Aside0 (Kd.R Kd.string 9 ((((w149.setCell ⟨gb342, 2, none⟩ (.string t359)).setCell ⟨gb342, 0, none⟩ (.int .i64 1)).setCell ⟨gb342, 3, none⟩ (.string t374)).setCell ⟨gb342, 4, none⟩ (.string t375)) w.heap.size (fun k_ => some k_ ≠ (.slice Ao148 y355.length co148 : Value).ownBlock) (.slice (some ad341) t338.length co20) t338) := ⟨by (with_reducible repeat (first | apply Kd.R_alloc | apply Kd.R_drewN | apply Kd.R_drew)); exact Kd.R_mono (zNT HO_4.out BK342.out) (fun _ hk => hk.1.2)⟩
             have n1_ : Aside0 (Kd.R Kd.string 9 ((((w149.setCell ⟨gb342, 2, none⟩ (.string t359)).setCell ⟨gb342, 0, none⟩ (.int .i64 1)).setCell ⟨gb342, 3, none⟩ (.string t374)).setCell ⟨gb342, 4, none⟩ (.string t375)) w.heap.size (fun k_ => some k_ ≠ (.slice (some ad341) t338.length co20 : Value).ownBlock) (.slice Ao148 y355.length co148) y355) := ⟨by (with_reducible repeat (first | apply Kd.R_alloc | apply Kd.R_drewN | apply Kd.R_drew)); exact Kd.R_mono (zNT HO357.out BK342.out) (fun _ hk => hk.1.2)⟩
             have n2_ : Aside0 (((((w149.setCell ⟨gb342, 2, none⟩ (.string t359)).setCell ⟨gb342, 0, none⟩ (.int .i64 1)).setCell ⟨gb342, 3, none⟩ (.string t374)).setCell ⟨gb342, 4, none⟩ (.string t375)).heap[gb335]? = some (.cells #[.int .i64 a0_0, .bool a0_1, .string t337] 53 (0, 0))) := ⟨zK BK335.out⟩
             have n3_ : Aside0 (((((w149.setCell ⟨gb342, 2, none⟩ (.string t359)).setCell ⟨gb342, 0, none⟩ (.int .i64 1)).setCell ⟨gb342, 3, none⟩ (.string t374)).setCell ⟨gb342, 4, none⟩ (.string t375)).heap[gb336]? = some (.cells #[.int .i64 0, .int .i64 0, .string ⟨#[]⟩, .string ⟨#[]⟩, .string ⟨#[]⟩, .string ⟨#[]⟩, .string ⟨#[]⟩, .string ⟨#[]⟩, .string ⟨#[]⟩, .slice none 0 0] 64 (0, 0))) := ⟨zK BK336.out⟩
             have n4_ : Aside0 (((((w149.setCell ⟨gb342, 2, none⟩ (.string t359)).setCell ⟨gb342, 0, none⟩ (.int .i64 1)).setCell ⟨gb342, 3, none⟩ (.string t374)).setCell ⟨gb342, 4, none⟩ (.string t375)).heap[gb342]? = some (.cells #[.int .i64 1, .int .i64 a0_0, .string t359, .string t374, .string t375, .string ⟨#[]⟩, .string ⟨#[]⟩, .string ⟨#[]⟩, .string ⟨#[]⟩, .slice none 0 0] 64 (0, 0))) := ⟨by (with_reducible repeat (first | refine blk_drewN ?_ _ | refine blk_drew ?_ | refine blk_alloc ?_ _)); refine blk_put (cs := #[.int .i64 1, .int .i64 a0_0, .string t359, .string t374, .string ⟨#[]⟩, .string ⟨#[]⟩, .string ⟨#[]⟩, .string ⟨#[]⟩, .string ⟨#[]⟩, .slice none 0 0]) ?_ 4 _ rfl; (with_reducible repeat (first | refine blk_drewN ?_ _ | refine blk_drew ?_ | refine blk_alloc ?_ _)); refine blk_put (cs := #[.int .i64 1, .int .i64 a0_0, .string t359, .string ⟨#[]⟩, .string ⟨#[]⟩, .string ⟨#[]⟩, .string ⟨#[]⟩, .string ⟨#[]⟩, .string ⟨#[]⟩, .slice none 0 0]) ?_ 3 _ rfl; (with_reducible repeat (first | refine blk_drewN ?_ _ | refine blk_drew ?_ | refine blk_alloc ?_ _)); refine blk_put (cs := #[.int .i64 0, .int .i64 a0_0, .string t359, .string ⟨#[]⟩, .string ⟨#[]⟩, .string ⟨#[]⟩, .string ⟨#[]⟩, .string ⟨#[]⟩, .string ⟨#[]⟩, .slice none 0 0]) ?_ 0 _ rfl; (with_reducible repeat (first | refine blk_drewN ?_ _ | refine blk_drew ?_ | refine blk_alloc ?_ _)); refine blk_put (cs := #[.int .i64 0, .int .i64 a0_0, .string (rdOf ByteArray.empty t338 0), .string ⟨#[]⟩, .string ⟨#[]⟩, .string ⟨#[]⟩, .string ⟨#[]⟩, .string ⟨#[]⟩, .string ⟨#[]⟩, .slice none 0 0]) ?_ 2 _ rfl; (with_reducible repeat (first | refine blk_drewN ?_ _ | refine blk_drew ?_ | refine blk_alloc ?_ _)); exact BK342.out⟩
             have n5_ : Aside0 (Below w.heap.size w ((((w149.setCell ⟨gb342, 2, none⟩ (.string t359)).setCell ⟨gb342, 0, none⟩ (.int .i64 1)).setCell ⟨gb342, 3, none⟩ (.string t374)).setCell ⟨gb342, 4, none⟩ (.string t375))) := ⟨zL HB.out⟩
             (try clear HO_4)
             (try clear HO357)
             (try clear BK335)
             (try clear BK336)
             (try clear BK342)
             (try clear HB)
             repeat rw [zDC]
             repeat rw [zDD]
             generalize ((((w149.setCell ⟨gb342, 2, none⟩ (.string t359)).setCell ⟨gb342, 0, none⟩ (.int .i64 1)).setCell ⟨gb342, 3, none⟩ (.string t374)).setCell ⟨gb342, 4, none⟩ (.string t375)) = w152 at n0_ n1_ n2_ n3_ n4_ n5_ ⊢
             have HO_4 := n0_
             have HO357 := n1_
             have BK335 := n2_
             have BK336 := n3_
             have BK342 := n4_
             have HB := n5_
             clear n0_ n1_ n2_ n3_ n4_ n5_
             (try (rw [drewN_self w152]; generalize hq_ : World.drewN w152 _ = w152; have n0_ : Aside0 (Kd.R Kd.string 9 w152 w.heap.size (fun k_ => some k_ ≠ (.slice (some ad341) t338.length co20 : Value).ownBlock) (.slice Ao148 y355.length co148) y355) := ⟨by rw [← hq_]; exact (zR HO357.out)⟩; have n1_ : Aside0 (Kd.R Kd.string 9 w152 w.heap.size (fun k_ => some k_ ≠ (.slice Ao148 y355.length co148 : Value).ownBlock) (.slice (some ad341) t338.length co20) t338) := ⟨by rw [← hq_]; exact (zR HO_4.out)⟩; have n2_ : Aside0 (w152.heap[gb335]? = some (.cells #[.int .i64 a0_0, .bool a0_1, .string t337] 53 (0, 0))) := ⟨by rw [← hq_]; exact (zK BK335.out)⟩; have n3_ : Aside0 (w152.heap[gb336]? = some (.cells #[.int .i64 0, .int .i64 0, .string ⟨#[]⟩, .string ⟨#[]⟩, .string ⟨#[]⟩, .string ⟨#[]⟩, .string ⟨#[]⟩, .string ⟨#[]⟩, .string ⟨#[]⟩, .slice none 0 0] 64 (0, 0))) := ⟨by rw [← hq_]; exact (zK BK336.out)⟩; have n4_ : Aside0 (w152.heap[gb342]? = some (.cells #[.int .i64 1, .int .i64 a0_0, .string t359, .string t374, .string t375, .string ⟨#[]⟩, .string ⟨#[]⟩, .string ⟨#[]⟩, .string ⟨#[]⟩, .slice none 0 0] 64 (0, 0))) := ⟨by rw [← hq_]; exact (zK BK342.out)⟩; have n5_ : Aside0 (Below w.heap.size w w152) := ⟨by rw [← hq_]; exact (zL HB.out)⟩; clear HO357 HO_4 BK335 BK336 BK342 HB hq_; have HO357 := n0_; have HO_4 := n1_; have BK335 := n2_; have BK336 := n3_; have BK342 := n4_; have HB := n5_; clear n0_ n1_ n2_ n3_ n4_ n5_; (try (obtain ⟨hcz145_0, hcz145_1, hcz145_2, hfz145_0, hfz145_1, hfz145_2⟩ := zC3 BK335.out)); (try (obtain ⟨hcz138_0, hcz138_1, hcz138_2, hcz138_3, hcz138_4, hcz138_5, hcz138_6, hcz138_7, hcz138_8, hcz138_9, hfz138_0, hfz138_1, hfz138_2, hfz138_3, hfz138_4, hfz138_5, hfz138_6, hfz138_7, hfz138_8, hfz138_9⟩ := zC10 BK336.out)); (try (obtain ⟨hcz151_0, hcz151_1, hcz151_2, hcz151_3, hcz151_4, hcz151_5, hcz151_6, hcz151_7, hcz151_8, hcz151_9, hfz151_0, hfz151_1, hfz151_2, hfz151_3, hfz151_4, hfz151_5, hfz151_6, hfz151_7, hfz151_8, hfz151_9⟩ := zC10 BK342.out))))
             have n0_ := Aside0.mk (Kd.R_drew HO_4.out)
             have n1_ := Aside0.mk (Kd.R_drew HO357.out)
             have n2_ := Aside0.mk (blk_drew BK335.out)
             have n3_ := Aside0.mk (blk_drew BK336.out)
             have n4_ := Aside0.mk (blk_drew BK342.out)
             have n5_ := Aside0.mk (below_drew1 HB.out)
             clear HO_4
             clear HO357
             clear BK335
             clear BK336
             clear BK342
             clear HB
             have HO_4 := n0_
             have HO357 := n1_
             have BK335 := n2_
             have BK336 := n3_
             have BK342 := n4_
             have HB := n5_
             clear n0_ n1_ n2_ n3_ n4_ n5_
             refine start_ (n := 6) (S := fun w' => w'.cell? ⟨gb342, 0, none⟩ = some (.int .i64 1) ∧ w'.cell? ⟨gb342, 1, none⟩ = some (.int .i64 a0_0) ∧ w'.cell? ⟨gb342, 2, none⟩ = some (.string t359) ∧ w'.cell? ⟨gb342, 3, none⟩ = some (.string t374) ∧ w'.cell? ⟨gb342, 4, none⟩ = some (.string t375) ∧ w'.cell? ⟨gb342, 5, none⟩ = some (.string ⟨#[]⟩) ∧ w'.cell? ⟨gb342, 6, none⟩ = some (.string ⟨#[]⟩) ∧ w'.cell? ⟨gb342, 7, none⟩ = some (.string ⟨#[]⟩) ∧ w'.cell? ⟨gb342, 8, none⟩ = some (.string ⟨#[]⟩) ∧ w'.cell? ⟨gb342, 9, none⟩ = some (.slice none 0 0)) (ds := []) #[false, false, false, false, false, false] (by kernel_rfl) rfl rfl ⟨(blk_cell BK342.out 0).trans rfl, (blk_cell BK342.out 1).trans rfl, (blk_cell BK342.out 2).trans rfl, (blk_cell BK342.out 3).trans rfl, (blk_cell BK342.out 4).trans rfl, (blk_cell BK342.out 5).trans rfl, (blk_cell BK342.out 6).trans rfl, (blk_cell BK342.out 7).trans rfl, (blk_cell BK342.out 8).trans rfl, (blk_cell BK342.out 9).trans rfl⟩ (fun hHeld => ?_)
             generalize w152.drew = w153 at HO_4 HO357 BK335 BK336 BK342 HB hHeld ⊢
             refine pure_ (i := 1) (N := some 138) (v := ?_) (a' := ?_) #[false, true, false, false, false, false] rfl rfl (by kernel_rfl) (fun _ _ _ h => h) (Or.inl ⟨by rfl, ?_⟩) ?_ ?_
             rotate_left
             ·intro w'
              go_simp
              with_reducible rfl
             rotate_left
             ·simp only [Act.put, List.setIfInBounds_toArray, List.set_cons_zero, List.set_cons_succ, i64_w, i32_w]
              rfl
             refine take_ (i := 0) (N := some 137) (v := ?_) (a' := ?_) #[true, true, false, false, false, false] rfl rfl (by kernel_rfl) (fun _ _ _ h => h) (Or.inl ⟨by rfl, ?_⟩) hHeld ?_ ?_
             rotate_left
             ·rintro w' ⟨s0, s1, s2, s3, s4, s5, s6, s7, s8, s9⟩
              go_simp
              with_reducible rfl
             rotate_left
             ·simp only [Act.put, List.setIfInBounds_toArray, List.set_cons_zero, List.set_cons_succ, i64_w, i32_w]
              rfl
             refine take_ (i := 2) (N := some 139) (v := ?_) (a' := ?_) #[true, true, true, false, false, false] rfl rfl (by kernel_rfl) (fun _ _ _ h => h) (Or.inl ⟨by rfl, ?_⟩) hHeld ?_ ?_
             rotate_left
             ·rintro w' ⟨s0, s1, s2, s3, s4, s5, s6, s7, s8, s9⟩
              go_simp
              with_reducible rfl
             rotate_left
             ·simp only [Act.put, List.setIfInBounds_toArray, List.set_cons_zero, List.set_cons_succ, i64_w, i32_w]
              rfl
             refine one_ (i := 3) (N := some 140) #[true, true, true, true, false, false] rfl rfl (by kernel_rfl) (by decide) (fun K hK => ?_)
             refine goes_ Tryd.func16 (by kernel_rfl) rfl #[.string t374] (by rfl) rfl rfl zA ?_
             with_reducible refine (cooperageref9_Name.calls kj68 t374 t376 _ A142.out).mono ?_
             rintro e w' ⟨rfl, ⟨nd, rfl⟩⟩
             refine ⟨_, rfl, ?_⟩
             refine hK.out _ _ ⟨(blk_cell BK342.out 0).trans rfl, (blk_cell BK342.out 1).trans rfl, (blk_cell BK342.out 2).trans rfl, (blk_cell BK342.out 3).trans rfl, (blk_cell BK342.out 4).trans rfl, (blk_cell BK342.out 5).trans rfl, (blk_cell BK342.out 6).trans rfl, (blk_cell BK342.out 7).trans rfl, (blk_cell BK342.out 8).trans rfl, (blk_cell BK342.out 9).trans rfl⟩ (fun hHeld => ?_)
             clear hK K
             refine norm_ (a' := ?_) ?_ ?_
             rotate_left
             ·show Act.put _ (some 140) _ = _
              simp only [Act.put, List.setIfInBounds_toArray, List.set_cons_zero, List.set_cons_succ, i64_w, i32_w]
              rfl
             refine one_ (i := 4) (N := none) #[true, true, true, true, true, false] rfl rfl (by kernel_rfl) (by decide) (fun K hK => ?_)
             have hs154 : w153.cell? ⟨gb336, 0, none⟩ = some (.int .i64 0) := (blk_cell BK336.out 0).trans rfl
             have hfs154 := blk_frozen BK336.out 0
             have hns154_0 := NB335_336.out
             have hns154_2 := NB342_336.out
             have hms154_0 := NB336_335.out
             have hms154_2 := NB336_342.out
             have hs155 : w153.cell? ⟨gb336, 1, none⟩ = some (.int .i64 0) := (blk_cell BK336.out 1).trans rfl
             have hfs155 := blk_frozen BK336.out 1
             have hns155_0 := NB335_336.out
             have hns155_2 := NB342_336.out
             have hms155_0 := NB336_335.out
             have hms155_2 := NB336_342.out
             have hs156 : w153.cell? ⟨gb336, 2, none⟩ = some (.string ⟨#[]⟩) := (blk_cell BK336.out 2).trans rfl
             have hfs156 := blk_frozen BK336.out 2
             have hns156_0 := NB335_336.out
             have hns156_2 := NB342_336.out
             have hms156_0 := NB336_335.out
             have hms156_2 := NB336_342.out
             have hs157 : w153.cell? ⟨gb336, 3, none⟩ = some (.string ⟨#[]⟩) := (blk_cell BK336.out 3).trans rfl
             have hfs157 := blk_frozen BK336.out 3
             have hns157_0 := NB335_336.out
             have hns157_2 := NB342_336.out
             have hms157_0 := NB336_335.out
             have hms157_2 := NB336_342.out
             have hs158 : w153.cell? ⟨gb336, 4, none⟩ = some (.string ⟨#[]⟩) := (blk_cell BK336.out 4).trans rfl
             have hfs158 := blk_frozen BK336.out 4
             have hns158_0 := NB335_336.out
             have hns158_2 := NB342_336.out
             have hms158_0 := NB336_335.out
             have hms158_2 := NB336_342.out
             have hs159 : w153.cell? ⟨gb336, 5, none⟩ = some (.string ⟨#[]⟩) := (blk_cell BK336.out 5).trans rfl
             have hfs159 := blk_frozen BK336.out 5
             have hns159_0 := NB335_336.out
             have hns159_2 := NB342_336.out
             have hms159_0 := NB336_335.out
             have hms159_2 := NB336_342.out
             have hs160 : w153.cell? ⟨gb336, 6, none⟩ = some (.string ⟨#[]⟩) := (blk_cell BK336.out 6).trans rfl
             have hfs160 := blk_frozen BK336.out 6
             have hns160_0 := NB335_336.out
             have hns160_2 := NB342_336.out
             have hms160_0 := NB336_335.out
             have hms160_2 := NB336_342.out
             have hs161 : w153.cell? ⟨gb336, 7, none⟩ = some (.string ⟨#[]⟩) := (blk_cell BK336.out 7).trans rfl
             have hfs161 := blk_frozen BK336.out 7
             have hns161_0 := NB335_336.out
             have hns161_2 := NB342_336.out
             have hms161_0 := NB336_335.out
             have hms161_2 := NB336_342.out
             have hs162 : w153.cell? ⟨gb336, 8, none⟩ = some (.string ⟨#[]⟩) := (blk_cell BK336.out 8).trans rfl
             have hfs162 := blk_frozen BK336.out 8
             have hns162_0 := NB335_336.out
             have hns162_2 := NB342_336.out
             have hms162_0 := NB336_335.out
             have hms162_2 := NB336_342.out
             have hs163 : w153.cell? ⟨gb336, 9, none⟩ = some (.slice none 0 0) := (blk_cell BK336.out 9).trans rfl
             have hfs163 := blk_frozen BK336.out 9
             have hns163_0 := NB335_336.out
             have hns163_2 := NB342_336.out
             have hms163_0 := NB336_335.out
             have hms163_2 := NB336_342.out
             refine skip_ (w1 := ?_) (by rfl) rfl ?_ ?_
             rotate_left
             ·go_simp
              rfl
             refine hK.out _ _ ⟨(zW NB342_336.out hHeld.1), (zW NB342_336.out hHeld.2.1), (zW NB342_336.out hHeld.2.2.1), (zW NB342_336.out hHeld.2.2.2.1), (zW NB342_336.out hHeld.2.2.2.2.1), (zW NB342_336.out hHeld.2.2.2.2.2.1), (zW NB342_336.out hHeld.2.2.2.2.2.2.1), (zW NB342_336.out hHeld.2.2.2.2.2.2.2.1), (zW NB342_336.out hHeld.2.2.2.2.2.2.2.2.1), (zW NB342_336.out hHeld.2.2.2.2.2.2.2.2.2)⟩ (fun hHeld => ?_)
             clear hK K
             refine pure_ (i := 5) (N := some 3) (v := ?_) (a' := ?_) #[true, true, true, true, true, true] rfl rfl (by kernel_rfl) (fun _ _ _ h => h) (Or.inl ⟨by rfl, ?_⟩) ?_ ?_
             rotate_left
             ·intro w'
              go_simp
              with_reducible rfl
             rotate_left
             ·simp only [Act.put, List.setIfInBounds_toArray, List.set_cons_zero, List.set_cons_succ, i64_w, i32_w]
              rfl
             refine done_ (by kernel_rfl) ?_
             try go_wp2
             refine bodyPost_ret (results_ct rfl _ _ gb336 64 #[.int .i64 1, .int .i64 a0_0, .string t359, .string t374, .string t375, .string ⟨#[]⟩, .string ⟨#[]⟩, .string ⟨#[]⟩, .string ⟨#[]⟩, .slice none 0 0] (0, 0) _ rfl (zP10 BK336.out) Tryd.underlying64 rfl (by kernel_rfl)) rfl ?_
             exact ⟨_, zE, by first | exact Kd.R_nil _ _ _ _ _ | exact Kd.N_nil _ _ _ _ _ | exact Kd.V_nil _ _ _ _ _ | exact Kd.Q_nil _ _ _ _ _ | exact Kd.S_nil _ _ _ _ _, zL HB.out⟩
          case' pos =>
           rw [if_pos c107] at H
           have c107b0 := beq_iff_eq.mpr c107
           have c107b1 := bne_eq_false_iff_eq.mpr c107
           clear c107
      all_goals
       simp only [Option.some.injEq, Prod.mk.injEq] at H
       obtain ⟨rfl, rfl, rfl, rfl, rfl, rfl, rfl, rfl, rfl, rfl, rfl⟩ := H
       have hnb102 := NB342_335.out
       have hnc102 := NB335_342.out
       have hnb103 := NB342_336.out
       have hnc103 := NB336_342.out
       obtain ⟨hcz104_0, hcz104_1, hcz104_2, hcz104_3, hcz104_4, hcz104_5, hcz104_6, hcz104_7, hcz104_8, hcz104_9, hfz104_0, hfz104_1, hfz104_2, hfz104_3, hfz104_4, hfz104_5, hfz104_6, hfz104_7, hfz104_8, hfz104_9⟩ := zC10 BK342.out
       have hnb105 := NB336_335.out
       have hnc105 := NB335_336.out
       obtain ⟨hcz106_0, hcz106_1, hcz106_2, hcz106_3, hcz106_4, hcz106_5, hcz106_6, hcz106_7, hcz106_8, hcz106_9, hfz106_0, hfz106_1, hfz106_2, hfz106_3, hfz106_4, hfz106_5, hfz106_6, hfz106_7, hfz106_8, hfz106_9⟩ := zC10 BK336.out
       go_wp2
       refine bodyPost_ret (results_ct rfl _ _ gb336 64 #[.int .i64 6, .int .i64 a0_0, .string (rdOf ByteArray.empty t338 0), .string ⟨#[]⟩, .string t344, .string ⟨#[]⟩, .string ⟨#[]⟩, .string ⟨#[]⟩, .string ⟨#[]⟩, .slice none 0 0] (0, 0) _ rfl (zP10 BK336.out) Tryd.underlying64 rfl (by kernel_rfl)) rfl ?_
       exact ⟨_, zE, by first | exact Kd.R_nil _ _ _ _ _ | exact Kd.N_nil _ _ _ _ _ | exact Kd.V_nil _ _ _ _ _ | exact Kd.Q_nil _ _ _ _ _ | exact Kd.S_nil _ _ _ _ _, zL HB.out⟩
 rw [if_neg c12] at H
 exact absurd H (by simp)

end Go.Proofs.YthnholondnfjoaaDoor.PParse
