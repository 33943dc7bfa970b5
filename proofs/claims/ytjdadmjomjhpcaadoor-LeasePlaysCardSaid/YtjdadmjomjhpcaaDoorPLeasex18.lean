-- Written by a program of this session (wip/tools/ext.py, over the kit's printer); not trusted: Lean checks it.
import Derived.Test.YtjdadmjomjhpcaaDoorPLeasex8
import Derived.Test.YtjdadmjomjhpcaaDoorPLeasex16
import Derived.Test.YtjdadmjomjhpcaaDoorPLeasex17
namespace Go.Proofs.YtjdadmjomjhpcaaDoor.PLease
open Go.RowKit Go.Proofs.YtjdadmjomjhpcaaDoorW.PrintWords Go.Proofs.YtjdadmjomjhpcaaDoorW.PrintLast Go.Proofs.YtjdadmjomjhpcaaDoorW.PrintMore
attribute [local go_sem] max2_int min2_int max_two min_two max_three min_three max_four min_four
set_option linter.unusedVariables false
set_option linter.unusedSimpArgs false
set_option maxHeartbeats 8000000
set_option maxRecDepth 100000

/-! ### cooperagelaw16_LeasePlays: function 3 -/
mutual
def cooperagelaw16_LeasePlays.j0 : Nat → List (S34) → Bool → Bool → Option (Bool)
 | 0, _, _, _ => none
 | k + 1, x0, x3, x32 => if x32 = true then (some x3) else (cooperagelaw16_LeasePlays.l0 k x0 0 0 ([] : List (S42)) ([] : List (S49)) 0 ([] : List (S45)) ([] : List (S52)))
def cooperagelaw16_LeasePlays.l0 : Nat → List (S34) → Int → Int → List (S42) → List (S49) → Int → List (S45) → List (S52) → Option (Bool)
 | 0, _, _, _, _, _, _, _, _ => none
 | k + 1, x0, x7, x748000, x748001, x748002, x749000, x749001, x749002 => if x7 < (x0.length : Int) then (if 0 ≤ x7 then ((cooperagelaw16_does.f k x748000 x748001 x748002 ((rd_T34 x0 x7).f0) ((rd_T34 x0 x7).f1) ((rd_T34 x0 x7).f2) ((rd_T34 x0 x7).f3) ((rd_T34 x0 x7).f4) ((rd_T34 x0 x7).f5) ((rd_T34 x0 x7).f6) ((rd_T34 x0 x7).f4)).bind fun bt751 => ((cooperagelaw16_must.f k x749000 x749001 x749002 ((rd_T34 x0 x7).f0) ((rd_T34 x0 x7).f1) ((rd_T34 x0 x7).f2) ((rd_T34 x0 x7).f3) ((rd_T34 x0 x7).f4) ((rd_T34 x0 x7).f5) ((rd_T34 x0 x7).f6) ((rd_T34 x0 x7).f4)).bind fun bt761 => ((cooperagelaw16_sameTable.f k bt751.1 bt751.2.1 bt751.2.2.1 bt761.1 bt761.2.1 bt761.2.2.1).bind fun t771 => (if bt751.2.2.2.1 = bt761.2.2.2.1 then (if bt751.2.2.2.2 = bt761.2.2.2.2 then (cooperagelaw16_LeasePlays.j2 k x0 x7 (!t771) bt751.1 bt751.2.1 bt751.2.2.1 bt761.1 bt761.2.1 bt761.2.2.1 ((rd_T34 x0 x7).f0) ((rd_T34 x0 x7).f1) ((rd_T34 x0 x7).f2) ((rd_T34 x0 x7).f3) ((rd_T34 x0 x7).f4) ((rd_T34 x0 x7).f5) ((rd_T34 x0 x7).f6)) else (cooperagelaw16_LeasePlays.j2 k x0 x7 true bt751.1 bt751.2.1 bt751.2.2.1 bt761.1 bt761.2.1 bt761.2.2.1 ((rd_T34 x0 x7).f0) ((rd_T34 x0 x7).f1) ((rd_T34 x0 x7).f2) ((rd_T34 x0 x7).f3) ((rd_T34 x0 x7).f4) ((rd_T34 x0 x7).f5) ((rd_T34 x0 x7).f6))) else (cooperagelaw16_LeasePlays.j2 k x0 x7 true bt751.1 bt751.2.1 bt751.2.2.1 bt761.1 bt761.2.1 bt761.2.2.1 ((rd_T34 x0 x7).f0) ((rd_T34 x0 x7).f1) ((rd_T34 x0 x7).f2) ((rd_T34 x0 x7).f3) ((rd_T34 x0 x7).f4) ((rd_T34 x0 x7).f5) ((rd_T34 x0 x7).f6)))))) else (none)) else (some true)
def cooperagelaw16_LeasePlays.j2 : Nat → List (S34) → Int → Bool → Int → List (S42) → List (S49) → Int → List (S45) → List (S52) → Int → Int → Int → Int → Int → ByteArray → Bool → Option (Bool)
 | 0, _, _, _, _, _, _, _, _, _, _, _, _, _, _, _, _ => none
 | k + 1, x0, x7, x80, x748000, x748001, x748002, x749000, x749001, x749002, x751000, x751001, x751002, x751003, x751004, x751005, x751006 => if x80 = true then (some false) else ((lease_Held.f k x748000 x748001 x748002 x751001 x751005).bind fun bt772 => ((cooperageref16_Held.f k x749000 x749001 x749002 x751001 x751005).bind fun bt779 => ((lease_Waits.f k x748000 x748001 x748002 x751001).bind fun bt786 => ((cooperageref16_Waits.f k x749000 x749001 x749002 x751001).bind fun bt792 => (if (bt772.2.2.2.2.2 != bt779.2.2.2.2.2) = true then (cooperagelaw16_LeasePlays.j3 k x0 x7 true x748000 x748001 x748002 x749000 x749001 x749002) else (if (bt786.2.2.2.2 != bt792.2.2.2.2) = true then (cooperagelaw16_LeasePlays.j3 k x0 x7 true x748000 x748001 x748002 x749000 x749001 x749002) else (if bt772.2.2.2.1 = bt779.2.2.2.1 then (if bt772.2.1.toList = bt779.2.1.toList then (if bt786.2.1.toList = bt792.2.1.toList then (if bt786.1 = bt792.1 then ((lease_Valid.f k x748000 x748001 x748002 x751001 x751005 x751003).bind fun t798 => ((cooperageref16_Valid.f k x749000 x749001 x749002 x751001 x751005 x751003).bind fun t799 => (cooperagelaw16_LeasePlays.j3 k x0 x7 (t798 != t799) x748000 x748001 x748002 x749000 x749001 x749002))) else (cooperagelaw16_LeasePlays.j3 k x0 x7 true x748000 x748001 x748002 x749000 x749001 x749002)) else (cooperagelaw16_LeasePlays.j3 k x0 x7 true x748000 x748001 x748002 x749000 x749001 x749002)) else (cooperagelaw16_LeasePlays.j3 k x0 x7 true x748000 x748001 x748002 x749000 x749001 x749002)) else (cooperagelaw16_LeasePlays.j3 k x0 x7 true x748000 x748001 x748002 x749000 x749001 x749002))))))))
def cooperagelaw16_LeasePlays.j3 : Nat → List (S34) → Int → Bool → Int → List (S42) → List (S49) → Int → List (S45) → List (S52) → Option (Bool)
 | 0, _, _, _, _, _, _, _, _, _ => none
 | k + 1, x0, x7, x167, x748000, x748001, x748002, x749000, x749001, x749002 => if x167 = true then (some false) else (cooperagelaw16_LeasePlays.l0 k x0 (wrap64 (x7 + 1)) x748000 x748001 x748002 x749000 x749001 x749002)
end
def cooperagelaw16_LeasePlays.f (k : Nat) (l0 : List (S34)) : Option (Bool) := (cooperagelaw16_shown.f k).bind fun t745 => ((cooperagelaw16_right.f k l0).bind fun t746 => (if t745 = true then (cooperagelaw16_LeasePlays.j0 k l0 t745 (!t746)) else (cooperagelaw16_LeasePlays.j0 k l0 t745 true)))
theorem cooperagelaw16_LeasePlays.mono_l : ∀ k, (∀ y0 y1 y2, LeO (cooperagelaw16_LeasePlays.j0 k y0 y1 y2) (cooperagelaw16_LeasePlays.j0 (k + 1) y0 y1 y2)) ∧ (∀ y0 y1 y2 y3 y4 y5 y6 y7, LeO (cooperagelaw16_LeasePlays.l0 k y0 y1 y2 y3 y4 y5 y6 y7) (cooperagelaw16_LeasePlays.l0 (k + 1) y0 y1 y2 y3 y4 y5 y6 y7)) ∧ (∀ y0 y1 y2 y3 y4 y5 y6 y7 y8 y9 y10 y11 y12 y13 y14 y15, LeO (cooperagelaw16_LeasePlays.j2 k y0 y1 y2 y3 y4 y5 y6 y7 y8 y9 y10 y11 y12 y13 y14 y15) (cooperagelaw16_LeasePlays.j2 (k + 1) y0 y1 y2 y3 y4 y5 y6 y7 y8 y9 y10 y11 y12 y13 y14 y15)) ∧ (∀ y0 y1 y2 y3 y4 y5 y6 y7 y8, LeO (cooperagelaw16_LeasePlays.j3 k y0 y1 y2 y3 y4 y5 y6 y7 y8) (cooperagelaw16_LeasePlays.j3 (k + 1) y0 y1 y2 y3 y4 y5 y6 y7 y8))
 | 0 => ⟨fun _ _ _ r h => by simp [cooperagelaw16_LeasePlays.j0] at h, fun _ _ _ _ _ _ _ _ r h => by simp [cooperagelaw16_LeasePlays.l0] at h, fun _ _ _ _ _ _ _ _ _ _ _ _ _ _ _ _ r h => by simp [cooperagelaw16_LeasePlays.j2] at h, fun _ _ _ _ _ _ _ _ _ r h => by simp [cooperagelaw16_LeasePlays.j3] at h⟩
 | k + 1 => by
  obtain ⟨ih0, ih1, ih2, ih3⟩ := cooperagelaw16_LeasePlays.mono_l k
  have m0 := @cooperagelaw16_does.mono
  have m1 := @cooperagelaw16_must.mono
  have m2 := @cooperagelaw16_right.mono
  have m3 := @cooperagelaw16_sameTable.mono
  have m4 := @cooperagelaw16_shown.mono
  have m5 := @cooperageref16_Held.mono
  have m6 := @cooperageref16_Valid.mono
  have m7 := @cooperageref16_Waits.mono
  have m8 := @lease_Held.mono
  have m9 := @lease_Valid.mono
  have m10 := @lease_Waits.mono
  refine ⟨?_, ?_, ?_, ?_⟩
  ·intros
   unfold cooperagelaw16_LeasePlays.j0
   exact zLe
  ·intros
   unfold cooperagelaw16_LeasePlays.l0
   exact zLe
  ·intros
   unfold cooperagelaw16_LeasePlays.j2
   exact zLe
  ·intros
   unfold cooperagelaw16_LeasePlays.j3
   exact zLe
theorem cooperagelaw16_LeasePlays.mono : ∀ a0 k, LeO (cooperagelaw16_LeasePlays.f k a0) (cooperagelaw16_LeasePlays.f (k + 1) a0) := by
 intro a0 k
 obtain ⟨ih0, ih1, ih2, ih3⟩ := cooperagelaw16_LeasePlays.mono_l k
 unfold cooperagelaw16_LeasePlays.f
 have m0 := @cooperagelaw16_does.mono
 have m1 := @cooperagelaw16_must.mono
 have m2 := @cooperagelaw16_right.mono
 have m3 := @cooperagelaw16_sameTable.mono
 have m4 := @cooperagelaw16_shown.mono
 have m5 := @cooperageref16_Held.mono
 have m6 := @cooperageref16_Valid.mono
 have m7 := @cooperageref16_Waits.mono
 have m8 := @lease_Held.mono
 have m9 := @lease_Valid.mono
 have m10 := @lease_Waits.mono
 exact zLe
def cooperagelaw16_LeasePlays.T22 : Bool × List (List Nat × List Nat) := (true, [([], []), ([], []), ([0, 1], [0, 1]), ([2], [2]), ([3], [3]), ([3], [3]), ([4, 5, 3], [3, 4, 5]), ([3, 6], [3, 6]), ([7, 3], [7]), ([8], [8]), ([9, 8], [8, 9]), ([8], [8]), ([11, 8], [8, 11]), ([10, 12, 8], [8, 10, 12]), ([8, 13], [8, 13]), ([14, 8], [14]), ([15], [15]), ([16, 15], [15, 16]), ([15], [15]), ([18, 15], [15, 18]), ([17, 19, 15], [15, 17, 19]), ([15, 20], [15, 20]), ([21, 15], [21]), ([22], [22]), ([23, 22], [22, 23]), ([22], [22]), ([25, 22], [22, 25]), ([24, 26, 22], [22, 24, 26]), ([22, 27], [22, 27]), ([28, 22], [28]), ([29], [29]), ([30, 29], [29, 30]), ([29], [29]), ([32, 29], [29, 32]), ([31, 33, 29], [29, 31, 33]), ([29, 34], [29, 34]), ([35, 29], [35]), ([36], [36]), ([36], [36]), ([38, 36], [36, 38]), ([36], [36]), ([40, 36], [36, 40]), ([36], [36]), ([42, 36], [36, 42]), ([37, 39, 41, 43, 36, 36], [36, 37, 39, 41, 43]), ([36], [36]), ([36], [36]), ([46, 36], [36, 46]), ([36], [36]), ([48, 36], [36, 48]), ([36], [36]), ([50, 36], [36, 50]), ([45, 47, 49, 51, 44, 36], [36, 45, 47, 49, 51]), ([44, 52, 36], [36, 44, 52]), ([36, 53], [36, 53])])
def cooperagelaw16_LeasePlays.B22 : List Nat := [0, 0, 3, 7, 15, 15, 63, 127, 255, 511, 1023, 511, 2559, 8191, 16383, 32767, 65535, 131071, 65535, 327679, 1048575, 2097151, 4194303, 8388607, 16777215, 8388607, 41943039, 134217727, 268435455, 536870911, 1073741823, 2147483647, 1073741823, 5368709119, 17179869183, 34359738367, 68719476735, 137438953471, 137438953471, 412316860415, 137438953471, 1236950581247, 137438953471, 4535485464575, 17592186044415, 137438953471, 137438953471, 70506183131135, 137438953471, 281612415664127, 137438953471, 1126037345796095, 4503599627370495, 9007199254740991, 18014398509481983]
theorem cooperagelaw16_LeasePlays.tab22 : rtab .any (opsOf Tryd.f3 22) = cooperagelaw16_LeasePlays.T22 := by kernel_rfl
theorem cooperagelaw16_LeasePlays.bits22 : waitsOk cooperagelaw16_LeasePlays.T22.2 cooperagelaw16_LeasePlays.B22 = true := by kernel_rfl
theorem cooperagelaw16_LeasePlays.calls (k : Nat) (A0 : Option Addr) (c0 : Nat) (l0 : List (S34)) (r : Bool) (w : World) (hr0 : Kd.C k34 w A0 l0.length l0) (hc0 : l0.length ≤ c0) (h : cooperagelaw16_LeasePlays.f k l0 = some r) :
  Calls Tryd.prog 3 #[.slice A0 l0.length c0] w fun e w' => e = .returned (.bool r) ∧ Below w.heap.size w w' := by
 have hu28 := Tryd.underlying28
 have hu32 := Tryd.underlying32
 have hu34 := Tryd.underlying34
 have hu42 := Tryd.underlying42
 have hu45 := Tryd.underlying45
 have hu49 := Tryd.underlying49
 have hu52 := Tryd.underlying52
 have HR0 := ka hr0
 have HC0 := ka hc0
 clear hr0 hc0
 have HB := ka (Below.refl w.heap.size w)
 have H : ((cooperagelaw16_shown.f k).bind fun t745 => ((cooperagelaw16_right.f k l0).bind fun t746 => (if t745 = true then (cooperagelaw16_LeasePlays.j0 k l0 t745 (!t746)) else (cooperagelaw16_LeasePlays.j0 k l0 t745 true)))) = some r := h
 clear h
 replace H := Option.bind_eq_some_iff.mp H
 obtain ⟨t745, A20, H⟩ := H
 try dsimp only at H
 have A2 := ka A20
 clear A20
 replace H := Option.bind_eq_some_iff.mp H
 obtain ⟨t746, A30, H⟩ := H
 try dsimp only at H
 have A3 := ka A30
 clear A30
 have HC4 := ka H
 clear H
 go_enter Tryd.func3, Tryd.ntmps3
 go_upto_region 3 with (first | ((with_reducible refine gate_callee (f := 4) rfl ?_); refine goesL_ (some 24) rfl rfl Tryd.func4 (by kernel_rfl) rfl #[] rfl zA ?_; (with_reducible refine (cooperagelaw16_shown.calls k  t745 _ A2.out).mono ?_); rintro e w5 ⟨rfl, hb⟩; refine ⟨_, rfl, ?_⟩; replace HB := ka (below_step (zL HB.out) hb); (try clear hb); (try clear hb2); (try clear hk); (try clear hi)) | ((with_reducible refine gate_callee (f := 5) rfl ?_); refine goesL_ (some 26) rfl rfl Tryd.func5 (by kernel_rfl) rfl #[.slice A0 l0.length c0] rfl zA ?_; (with_reducible refine (cooperagelaw16_right.calls k _ _ l0 t746 _ ?side1 ?side2 A3.out).mono ?_); (case side1 => exact zCS (Kd.C_below HR0.out HB.out)); (case side2 => exact HC0.out); rintro e w' ⟨rfl, ⟨nd, rfl⟩⟩; refine ⟨_, rfl, ?_⟩))
 (try simp only [Act.put, List.setIfInBounds_toArray, List.set_cons_zero, List.set_cons_succ])
 go_cut [32] (fun v32 wc => ∃ (kq : Nat) (x32_3 : Bool), v32 = .bool x32_3 ∧ Aside0 (cooperagelaw16_LeasePlays.j0 kq l0 t745 x32_3 = some r) ∧ Aside0 (kq ≤ k) ∧ Aside0 (Below w.heap.size w wc))
 case first =>
  have H := HC4.out
  clear HC4
  by_cases c6 : t745 = true
  ·subst c6
   rw [if_pos rfl] at H
   have H' := ka H
   clear H
   go_wp2
   go_meet
   case rel => as_aux_lemma => exact ⟨_, (!t746), zS, H', ⟨by first | omega | exact Nat.le_refl _⟩, ⟨zL HB.out⟩⟩
  replace c6 := Bool.eq_false_iff.mpr c6
  subst c6
  rw [if_neg (show ¬ (false = true) by decide)] at H
  have H' := ka H
  clear H
  go_wp2
  go_meet
  case rel => as_aux_lemma => exact ⟨_, (true), zS, H', ⟨by first | omega | exact Nat.le_refl _⟩, ⟨zL HB.out⟩⟩
 case rest =>
  clear HC4
  obtain ⟨kq, x32_3, rfl, HA, HJ3, HB⟩ := hcut
  cases kq with
  | zero => exact absurd HA.out (by simp [cooperagelaw16_LeasePlays.j0])
  | succ kj3 =>
   have H := HA.out
   clear HA
   simp only [cooperagelaw16_LeasePlays.j0] at H
   by_cases c7 : x32_3 = true
   ·subst c7
    rw [if_pos rfl] at H
    obtain rfl := Option.some.inj H
    go_wp2
    go_ret
    exact ⟨zE, zL HB.out⟩
   replace c7 := Bool.eq_false_iff.mpr c7
   subst c7
   rw [if_neg (show ¬ (false = true) by decide)] at H
   have H' := ka H
   clear H
   go_wp2_with (first | ((with_reducible refine gate_dst (N := 5) rfl ?_); refine box_event ?hg (N := 5) ?hd (cs := #[.int .i64 0, .slice none 0 0, .slice none 0 0]) (t := 28) ?hr ?_; (case hd => rfl); (case hg => rfl); (case hr => (go_simp; try rfl)); intro gb747 hg w8 hbox hb; have BK747 := ka (hbox); have GW747 := ka (zG hg (zL HB.out)); replace HB := ka (below_step (zL HB.out) hb); clear hb hbox hg; obtain ⟨z9_0, z9_1, z9_2, y9_0, y9_1, y9_2⟩ := zC3 BK747.out) | ((with_reducible refine gate_dst (N := 6) rfl ?_); refine box_event ?hg (N := 6) ?hd (cs := #[.int .i64 0, .slice none 0 0, .slice none 0 0]) (t := 32) ?hr ?_; (case hd => rfl); (case hg => rfl); (case hr => (go_simp; try rfl)); intro gb748 hg w10 hbox hb; have BK748 := ka (hbox); have GW748 := ka (zG hg (zL HB.out)); replace HB := ka (below_step (zL HB.out) hb); have NB747_748 := ka ((by rw [hg]; exact Nat.ne_of_lt (blk_lt (g := gb747) (o := .cells #[.int .i64 0, .slice none 0 0, .slice none 0 0] 28 (0, 0)) (zP3 BK747.out)) : gb747 ≠ gb748)); have NB748_747 := ka ((by rw [hg]; exact Nat.ne_of_gt (blk_lt (g := gb747) (o := .cells #[.int .i64 0, .slice none 0 0, .slice none 0 0] 28 (0, 0)) (zP3 BK747.out)) : gb748 ≠ gb747)); replace BK747 := ka (blk_below (g := gb747) (o := .cells #[.int .i64 0, .slice none 0 0, .slice none 0 0] 28 (0, 0)) (zP3 BK747.out) hb); clear hb hbox hg; have hnb11 := NB748_747.out; have hnc11 := NB747_748.out; obtain ⟨z12_0, z12_1, z12_2, y12_0, y12_1, y12_2⟩ := zC3 BK748.out))
   go_loopg [7] kj3 (fun kq v7 w' => ∃ (x7_2 : Int) (x748000_2 : Int) (x748001_2 : List (S42)) (x748002_2 : List (S49)) (x749000_2 : Int) (x749001_2 : List (S45)) (x749002_2 : List (S52)) (u748001 : Value) (u748002 : Value) (u749001 : Value) (u749002 : Value), v7 = .int .i64 x7_2 ∧ Aside0 (cooperagelaw16_LeasePlays.l0 kq l0 x7_2 x748000_2 x748001_2 x748002_2 x749000_2 x749001_2 x749002_2 = some r) ∧ Aside0 (kq ≤ kj3) ∧ Aside0 (Kd.V k42 42 w' w.heap.size (fun k_ => k_ ≠ gb747 ∧ k_ ≠ gb748) u748001 x748001_2) ∧ Aside0 (Kd.V k49 49 w' w.heap.size (fun k_ => k_ ≠ gb747 ∧ k_ ≠ gb748) u748002 x748002_2) ∧ Aside0 (Kd.V k45 45 w' w.heap.size (fun k_ => k_ ≠ gb747 ∧ k_ ≠ gb748) u749001 x749001_2) ∧ Aside0 (Kd.V k52 52 w' w.heap.size (fun k_ => k_ ≠ gb747 ∧ k_ ≠ gb748) u749002 x749002_2) ∧ Aside0 (w'.heap[gb747]? = some (.cells #[.int .i64 x748000_2, u748001, u748002] 28 (0, 0))) ∧ Aside0 (w'.heap[gb748]? = some (.cells #[.int .i64 x749000_2, u749001, u749002] 32 (0, 0))) ∧ Aside0 (Below w.heap.size w w'))
   case atStart => as_aux_lemma => exact ⟨(0), (0), (([] : List (S42))), (([] : List (S49))), (0), (([] : List (S45))), (([] : List (S52))), (.slice none 0 0), (.slice none 0 0), (.slice none 0 0), (.slice none 0 0), zS, H', ⟨Nat.le_refl _⟩, ⟨Kd.V_nil _ _ _ _ _⟩, ⟨Kd.V_nil _ _ _ _ _⟩, ⟨Kd.V_nil _ _ _ _ _⟩, ⟨Kd.V_nil _ _ _ _ _⟩, ⟨zK BK747.out⟩, ⟨zP3 BK748.out⟩, ⟨zL HB.out⟩⟩
   case round =>
    clear H'
    try clear c7
    try clear z12_0 z12_1 z12_2
    try clear z9_0 z9_1 z9_2
    try clear y12_0 y12_1 y12_2
    try clear y9_0 y9_1 y9_2
    obtain ⟨x7_2, x748000_2, x748001_2, x748002_2, x749000_2, x749001_2, x749002_2, u748001, u748002, u749001, u749002, rfl, HA, HK2, HO_748001, HO_748002, HO_749001, HO_749002, BK747, BK748, HB⟩ := hrel
    cases gk with
    | zero => exact absurd HA.out (by simp [cooperagelaw16_LeasePlays.l0])
    | succ k2 =>
     have H := HA.out
     clear HA
     simp only [cooperagelaw16_LeasePlays.l0] at H
     by_cases c13 : x7_2 < (l0.length : Int)
     ·rw [if_pos c13] at H
      have c13b0 := zdt c13
      clear c13
      replace H := zif H
      obtain ⟨c14, H⟩ := H
      have c14b0 := zdt c14
      clear c14
      replace H := Option.bind_eq_some_iff.mp H
      obtain ⟨⟨t751, t752, t755, t758, t759⟩, A150, H⟩ := H
      try dsimp only at H
      have A15 := ka A150
      clear A150
      replace H := Option.bind_eq_some_iff.mp H
      obtain ⟨⟨t761, t762, t765, t768, t769⟩, A160, H⟩ := H
      try dsimp only at H
      have A16 := ka A160
      clear A160
      replace H := Option.bind_eq_some_iff.mp H
      obtain ⟨t771, A170, H⟩ := H
      try dsimp only at H
      have A17 := ka A170
      clear A170
      have HC18 := ka H
      clear H
      have p749 : 0 ≤ (x7_2 : Int) := zD
      have q749 : x7_2 < (l0.length : Int) := zD
      obtain ⟨ad749, e749, hx749_0, hx749_1, hx749_2, hx749_3, hx749_4, hx749_5, hx749_6⟩ := at_T34 HR0.out x7_2 p749 q749
      cases e749
      replace hx749_0 := zX HB.out hx749_0
      replace hx749_1 := zX HB.out hx749_1
      replace hx749_2 := zX HB.out hx749_2
      replace hx749_3 := zX HB.out hx749_3
      replace hx749_4 := zX HB.out hx749_4
      replace hx749_5 := zX HB.out hx749_5
      replace hx749_6 := zX HB.out hx749_6
      replace p749 := eq_true p749
      replace q749 := eq_true q749
      go_upto_region 16 with (first | ((with_reducible refine gate_dst (N := 8) rfl ?_); refine box_event ?hg (N := 8) ?hd (cs := #[.int .i64 0, .int .i64 0, .int .i64 0, .int .i64 0, .int .i64 0, .string ⟨#[]⟩, .bool false]) (t := 34) ?hr ?_; (case hd => rfl); (case hg => rfl); (case hr => (go_simp; try rfl)); intro gb750 hg w19 hbox hb; replace HO_748001 := ka (Kd.V_below (Kd.V_elderB (zV HO_748001.out) gb750 (Nat.le_of_eq hg.symm)) hb); replace HO_748002 := ka (Kd.V_below (Kd.V_elderB (zV HO_748002.out) gb750 (Nat.le_of_eq hg.symm)) hb); replace HO_749001 := ka (Kd.V_below (Kd.V_elderB (zV HO_749001.out) gb750 (Nat.le_of_eq hg.symm)) hb); replace HO_749002 := ka (Kd.V_below (Kd.V_elderB (zV HO_749002.out) gb750 (Nat.le_of_eq hg.symm)) hb); have BK750 := ka (hbox); have GW750 := ka (zG hg (zL HB.out)); replace HB := ka (below_step (zL HB.out) hb); have NB747_750 := ka (zNK hg BK747.out); have NB750_747 := ka (zOK hg BK747.out); replace BK747 := ka (zB BK747.out hb); have NB748_750 := ka (zNK hg BK748.out); have NB750_748 := ka (zOK hg BK748.out); replace BK748 := ka (zB BK748.out hb); clear hb hbox hg; have hnb20 := NB750_747.out; have hnc20 := NB747_750.out; have hnb21 := NB750_748.out; have hnc21 := NB748_750.out; obtain ⟨z22_0, z22_1, z22_2, z22_3, z22_4, z22_5, z22_6, y22_0, y22_1, y22_2, y22_3, y22_4, y22_5, y22_6⟩ := zC7 BK750.out) | ((with_reducible refine gate_store (t := 34) (p := 8) rfl ?_); refine store_event (t := 34) (p := 8) (v := ?vo_w23) (w1 := (((((((w19.setCell ⟨gb750, 0, none⟩ (.int .i64 ((rd_T34 l0 x7_2).f0))).setCell ⟨gb750, 1, none⟩ (.int .i64 ((rd_T34 l0 x7_2).f1))).setCell ⟨gb750, 2, none⟩ (.int .i64 ((rd_T34 l0 x7_2).f2))).setCell ⟨gb750, 3, none⟩ (.int .i64 ((rd_T34 l0 x7_2).f3))).setCell ⟨gb750, 4, none⟩ (.int .i64 ((rd_T34 l0 x7_2).f4))).setCell ⟨gb750, 5, none⟩ (.string ((rd_T34 l0 x7_2).f5))).setCell ⟨gb750, 6, none⟩ (.bool ((rd_T34 l0 x7_2).f6)))) ?hg ?ho ?hn ?hr ?_; (case ho => rfl); (case hg => rfl); (case hn => rfl); (case hr => (go_simp; try rfl)); intro w23 hw; have n0_ : Aside0 (Kd.V k42 42 w23 w.heap.size (fun k_ => k_ ≠ gb747 ∧ k_ ≠ gb748 ∧ k_ ≠ gb750) u748001 x748001_2) := ⟨(by rw [hw]; exact (Kd.V_mono (zNV HO_748001.out (g := gb750) (fun _ hk => hk.2)) (fun _ hk => ⟨hk.1.1.1, ⟨hk.1.1.2, hk.1.2⟩⟩)))⟩; have n1_ : Aside0 (Kd.V k49 49 w23 w.heap.size (fun k_ => k_ ≠ gb747 ∧ k_ ≠ gb748 ∧ k_ ≠ gb750) u748002 x748002_2) := ⟨(by rw [hw]; exact (Kd.V_mono (zNV HO_748002.out (g := gb750) (fun _ hk => hk.2)) (fun _ hk => ⟨hk.1.1.1, ⟨hk.1.1.2, hk.1.2⟩⟩)))⟩; have n2_ : Aside0 (Kd.V k45 45 w23 w.heap.size (fun k_ => k_ ≠ gb747 ∧ k_ ≠ gb748 ∧ k_ ≠ gb750) u749001 x749001_2) := ⟨(by rw [hw]; exact (Kd.V_mono (zNV HO_749001.out (g := gb750) (fun _ hk => hk.2)) (fun _ hk => ⟨hk.1.1.1, ⟨hk.1.1.2, hk.1.2⟩⟩)))⟩; have n3_ : Aside0 (Kd.V k52 52 w23 w.heap.size (fun k_ => k_ ≠ gb747 ∧ k_ ≠ gb748 ∧ k_ ≠ gb750) u749002 x749002_2) := ⟨(by rw [hw]; exact (Kd.V_mono (zNV HO_749002.out (g := gb750) (fun _ hk => hk.2)) (fun _ hk => ⟨hk.1.1.1, ⟨hk.1.1.2, hk.1.2⟩⟩)))⟩; have n4_ : Aside0 (w23.heap[gb747]? = some (.cells #[.int .i64 x748000_2, u748001, u748002] 28 (0, 0))) := ⟨(by rw [hw]; exact (zK BK747.out))⟩; have n5_ : Aside0 (w23.heap[gb748]? = some (.cells #[.int .i64 x749000_2, u749001, u749002] 32 (0, 0))) := ⟨(by rw [hw]; exact (zK BK748.out))⟩; have n6_ : Aside0 (w23.heap[gb750]? = some (.cells #[.int .i64 ((rd_T34 l0 x7_2).f0), .int .i64 ((rd_T34 l0 x7_2).f1), .int .i64 ((rd_T34 l0 x7_2).f2), .int .i64 ((rd_T34 l0 x7_2).f3), .int .i64 ((rd_T34 l0 x7_2).f4), .string ((rd_T34 l0 x7_2).f5), .bool ((rd_T34 l0 x7_2).f6)] 34 (0, 0))) := ⟨(by rw [hw]; exact (zP7 BK750.out))⟩; have n7_ : Aside0 (Below w.heap.size w w23) := ⟨(by rw [hw]; exact (zL HB.out))⟩; clear hw; revert n0_ n1_ n2_ n3_ n4_ n5_ n6_ n7_; clear HO_748001 HO_748002 HO_749001 HO_749002 BK747 BK748 BK750 HB; intro HO_748001 HO_748002 HO_749001 HO_749002 BK747 BK748 BK750 HB; have hnb24 := NB747_748.out; have hnc24 := NB748_747.out; obtain ⟨z25_0, z25_1, z25_2, y25_0, y25_1, y25_2⟩ := zC3 BK747.out; obtain ⟨z26_0, z26_1, z26_2, z26_3, z26_4, z26_5, z26_6, y26_0, y26_1, y26_2, y26_3, y26_4, y26_5, y26_6⟩ := zC7 BK750.out; obtain ⟨Ao27, co27, eo27⟩ := Kd.V_slice HO_748001.out; subst eo27; obtain ⟨Ao28, co28, eo28⟩ := Kd.V_slice HO_748002.out; subst eo28) | ((with_reducible refine gate_callee (f := 6) rfl ?_); refine goesL_ (some 51) rfl rfl Tryd.func6 (by kernel_rfl) rfl #[.agg #[.int .i64 x748000_2, .slice Ao27 x748001_2.length co27, .slice Ao28 x748002_2.length co28], .agg #[.int .i64 ((rd_T34 l0 x7_2).f0), .int .i64 ((rd_T34 l0 x7_2).f1), .int .i64 ((rd_T34 l0 x7_2).f2), .int .i64 ((rd_T34 l0 x7_2).f3), .int .i64 ((rd_T34 l0 x7_2).f4), .string ((rd_T34 l0 x7_2).f5), .bool ((rd_T34 l0 x7_2).f6)], .int .i64 ((rd_T34 l0 x7_2).f4)] rfl zA ?_; (with_reducible refine (cooperagelaw16_does.calls k2 x748000_2 (fun k_ => (k_ ≠ gb747 ∧ (k_ ≠ gb748 ∧ k_ ≠ gb750))) _ _ x748001_2 (fun k_ => (k_ ≠ gb747 ∧ (k_ ≠ gb748 ∧ k_ ≠ gb750))) _ _ x748002_2 ((rd_T34 l0 x7_2).f0) ((rd_T34 l0 x7_2).f1) ((rd_T34 l0 x7_2).f2) ((rd_T34 l0 x7_2).f3) ((rd_T34 l0 x7_2).f4) ((rd_T34 l0 x7_2).f5) ((rd_T34 l0 x7_2).f6) ((rd_T34 l0 x7_2).f4) t751 t752 t755 t758 t759 _ ?side1 ?side2 A15.out).mono ?_); (case side1 => exact HO_748001.out); (case side2 => exact HO_748002.out); rintro e w29 ⟨v753, v756, rfl, ho0, ho1, hb⟩; refine ⟨_, rfl, ?_⟩; replace HO_748001 := ka (Kd.V_below (zV HO_748001.out) hb); replace HO_748002 := ka (Kd.V_below (zV HO_748002.out) hb); replace HO_749001 := ka (Kd.V_below (zV HO_749001.out) hb); replace HO_749002 := ka (Kd.V_below (zV HO_749002.out) hb); have HO754 := ka (Kd.V_lower (Kd.V_mono (ok' := fun k_ => k_ ≠ gb747 ∧ k_ ≠ gb748 ∧ k_ ≠ gb750) ho0 (fun k_ hk_ => ⟨Or.elim hk_ (fun hs_ => Or.elim hs_ (fun hs_ => hs_.1) (fun hs_ => hs_.1)) (fun hn_ => (Kd.freshB (g := gb747) (o := .cells #[.int .i64 x748000_2, .slice Ao27 x748001_2.length co27, .slice Ao28 x748002_2.length co28] 28 (0, 0)) (zK BK747.out) k_ hn_)), Or.elim hk_ (fun hs_ => Or.elim hs_ (fun hs_ => hs_.2.1) (fun hs_ => hs_.2.1)) (fun hn_ => (Kd.freshB (g := gb748) (o := .cells #[.int .i64 x749000_2, u749001, u749002] 32 (0, 0)) (zK BK748.out) k_ hn_)), Or.elim hk_ (fun hs_ => Or.elim hs_ (fun hs_ => hs_.2.2) (fun hs_ => hs_.2.2)) (fun hn_ => (Kd.freshB (g := gb750) (o := .cells #[.int .i64 ((rd_T34 l0 x7_2).f0), .int .i64 ((rd_T34 l0 x7_2).f1), .int .i64 ((rd_T34 l0 x7_2).f2), .int .i64 ((rd_T34 l0 x7_2).f3), .int .i64 ((rd_T34 l0 x7_2).f4), .string ((rd_T34 l0 x7_2).f5), .bool ((rd_T34 l0 x7_2).f6)] 34 (0, 0)) (zK BK750.out) k_ hn_))⟩)) (below_size (zL HB.out))); have HO757 := ka (Kd.V_lower (Kd.V_mono (ok' := fun k_ => k_ ≠ gb747 ∧ k_ ≠ gb748 ∧ k_ ≠ gb750) ho1 (fun k_ hk_ => ⟨Or.elim hk_ (fun hs_ => Or.elim hs_ (fun hs_ => hs_.1) (fun hs_ => hs_.1)) (fun hn_ => (Kd.freshB (g := gb747) (o := .cells #[.int .i64 x748000_2, .slice Ao27 x748001_2.length co27, .slice Ao28 x748002_2.length co28] 28 (0, 0)) (zK BK747.out) k_ hn_)), Or.elim hk_ (fun hs_ => Or.elim hs_ (fun hs_ => hs_.2.1) (fun hs_ => hs_.2.1)) (fun hn_ => (Kd.freshB (g := gb748) (o := .cells #[.int .i64 x749000_2, u749001, u749002] 32 (0, 0)) (zK BK748.out) k_ hn_)), Or.elim hk_ (fun hs_ => Or.elim hs_ (fun hs_ => hs_.2.2) (fun hs_ => hs_.2.2)) (fun hn_ => (Kd.freshB (g := gb750) (o := .cells #[.int .i64 ((rd_T34 l0 x7_2).f0), .int .i64 ((rd_T34 l0 x7_2).f1), .int .i64 ((rd_T34 l0 x7_2).f2), .int .i64 ((rd_T34 l0 x7_2).f3), .int .i64 ((rd_T34 l0 x7_2).f4), .string ((rd_T34 l0 x7_2).f5), .bool ((rd_T34 l0 x7_2).f6)] 34 (0, 0)) (zK BK750.out) k_ hn_))⟩)) (below_size (zL HB.out))); replace BK747 := ka (zB BK747.out hb); replace BK748 := ka (zB BK748.out hb); replace BK750 := ka (zB BK750.out hb); replace HB := ka (below_step (zL HB.out) hb); (try clear hb); (try clear hb2); (try clear hk); (try clear hi); (try clear ho0); (try clear ho1)) | ((with_reducible refine gate_dst (N := 9) rfl ?_); refine box_event ?hg (N := 9) ?hd (cs := #[.int .i64 0, .slice none 0 0, .slice none 0 0]) (t := 28) ?hr ?_; (case hd => rfl); (case hg => rfl); (case hr => (go_simp; try rfl)); intro gb760 hg w30 hbox hb; replace HO_748001 := ka (Kd.V_below (Kd.V_elderB (zV HO_748001.out) gb760 (Nat.le_of_eq hg.symm)) hb); replace HO_748002 := ka (Kd.V_below (Kd.V_elderB (zV HO_748002.out) gb760 (Nat.le_of_eq hg.symm)) hb); replace HO_749001 := ka (Kd.V_below (Kd.V_elderB (zV HO_749001.out) gb760 (Nat.le_of_eq hg.symm)) hb); replace HO_749002 := ka (Kd.V_below (Kd.V_elderB (zV HO_749002.out) gb760 (Nat.le_of_eq hg.symm)) hb); replace HO754 := ka (Kd.V_below (Kd.V_elderB (zV HO754.out) gb760 (Nat.le_of_eq hg.symm)) hb); replace HO757 := ka (Kd.V_below (Kd.V_elderB (zV HO757.out) gb760 (Nat.le_of_eq hg.symm)) hb); have BK760 := ka (hbox); have GW760 := ka (zG hg (zL HB.out)); replace HB := ka (below_step (zL HB.out) hb); have NB747_760 := ka (zNK hg BK747.out); have NB760_747 := ka (zOK hg BK747.out); replace BK747 := ka (zB BK747.out hb); have NB748_760 := ka (zNK hg BK748.out); have NB760_748 := ka (zOK hg BK748.out); replace BK748 := ka (zB BK748.out hb); have NB750_760 := ka (zNK hg BK750.out); have NB760_750 := ka (zOK hg BK750.out); replace BK750 := ka (zB BK750.out hb); clear hb hbox hg; have hnb31 := NB760_747.out; have hnc31 := NB747_760.out; have hnb32 := NB760_748.out; have hnc32 := NB748_760.out; have hnb33 := NB760_750.out; have hnc33 := NB750_760.out; obtain ⟨z34_0, z34_1, z34_2, y34_0, y34_1, y34_2⟩ := zC3 BK760.out; obtain ⟨Ao35, co35, eo35⟩ := Kd.V_slice HO754.out; subst eo35; obtain ⟨Ao36, co36, eo36⟩ := Kd.V_slice HO757.out; subst eo36) | ((with_reducible refine gate_store (t := 28) (p := 9) rfl ?_); refine store_event (t := 28) (p := 9) (v := ?vo_w37) (w1 := (((w30.setCell ⟨gb760, 0, none⟩ (.int .i64 t751)).setCell ⟨gb760, 1, none⟩ (.slice Ao35 t752.length co35)).setCell ⟨gb760, 2, none⟩ (.slice Ao36 t755.length co36))) ?hg ?ho ?hn ?hr ?_; (case ho => rfl); (case hg => rfl); (case hn => rfl); (case hr => (go_simp; try rfl)); intro w37 hw; have n0_ : Aside0 (Kd.V k42 42 w37 w.heap.size (fun k_ => k_ ≠ gb747 ∧ k_ ≠ gb748 ∧ k_ ≠ gb750 ∧ k_ ≠ gb760) (.slice Ao27 x748001_2.length co27) x748001_2) := ⟨(by rw [hw]; exact (Kd.V_mono (zNV HO_748001.out (g := gb760) (fun _ hk => hk.2)) (fun _ hk => ⟨hk.1.1.1, ⟨hk.1.1.2.1, ⟨hk.1.1.2.2, hk.1.2⟩⟩⟩)))⟩; have n1_ : Aside0 (Kd.V k49 49 w37 w.heap.size (fun k_ => k_ ≠ gb747 ∧ k_ ≠ gb748 ∧ k_ ≠ gb750 ∧ k_ ≠ gb760) (.slice Ao28 x748002_2.length co28) x748002_2) := ⟨(by rw [hw]; exact (Kd.V_mono (zNV HO_748002.out (g := gb760) (fun _ hk => hk.2)) (fun _ hk => ⟨hk.1.1.1, ⟨hk.1.1.2.1, ⟨hk.1.1.2.2, hk.1.2⟩⟩⟩)))⟩; have n2_ : Aside0 (Kd.V k45 45 w37 w.heap.size (fun k_ => k_ ≠ gb747 ∧ k_ ≠ gb748 ∧ k_ ≠ gb750 ∧ k_ ≠ gb760) u749001 x749001_2) := ⟨(by rw [hw]; exact (Kd.V_mono (zNV HO_749001.out (g := gb760) (fun _ hk => hk.2)) (fun _ hk => ⟨hk.1.1.1, ⟨hk.1.1.2.1, ⟨hk.1.1.2.2, hk.1.2⟩⟩⟩)))⟩; have n3_ : Aside0 (Kd.V k52 52 w37 w.heap.size (fun k_ => k_ ≠ gb747 ∧ k_ ≠ gb748 ∧ k_ ≠ gb750 ∧ k_ ≠ gb760) u749002 x749002_2) := ⟨(by rw [hw]; exact (Kd.V_mono (zNV HO_749002.out (g := gb760) (fun _ hk => hk.2)) (fun _ hk => ⟨hk.1.1.1, ⟨hk.1.1.2.1, ⟨hk.1.1.2.2, hk.1.2⟩⟩⟩)))⟩; have n4_ : Aside0 (Kd.V k42 42 w37 w.heap.size (fun k_ => k_ ≠ gb747 ∧ k_ ≠ gb748 ∧ k_ ≠ gb750 ∧ k_ ≠ gb760) (.slice Ao35 t752.length co35) t752) := ⟨(by rw [hw]; exact (Kd.V_mono (zNV HO754.out (g := gb760) (fun _ hk => hk.2)) (fun _ hk => ⟨hk.1.1.1, ⟨hk.1.1.2.1, ⟨hk.1.1.2.2, hk.1.2⟩⟩⟩)))⟩; have n5_ : Aside0 (Kd.V k49 49 w37 w.heap.size (fun k_ => k_ ≠ gb747 ∧ k_ ≠ gb748 ∧ k_ ≠ gb750 ∧ k_ ≠ gb760) (.slice Ao36 t755.length co36) t755) := ⟨(by rw [hw]; exact (Kd.V_mono (zNV HO757.out (g := gb760) (fun _ hk => hk.2)) (fun _ hk => ⟨hk.1.1.1, ⟨hk.1.1.2.1, ⟨hk.1.1.2.2, hk.1.2⟩⟩⟩)))⟩; have n6_ : Aside0 (w37.heap[gb747]? = some (.cells #[.int .i64 x748000_2, .slice Ao27 x748001_2.length co27, .slice Ao28 x748002_2.length co28] 28 (0, 0))) := ⟨(by rw [hw]; exact (zK BK747.out))⟩; have n7_ : Aside0 (w37.heap[gb748]? = some (.cells #[.int .i64 x749000_2, u749001, u749002] 32 (0, 0))) := ⟨(by rw [hw]; exact (zK BK748.out))⟩; have n8_ : Aside0 (w37.heap[gb750]? = some (.cells #[.int .i64 ((rd_T34 l0 x7_2).f0), .int .i64 ((rd_T34 l0 x7_2).f1), .int .i64 ((rd_T34 l0 x7_2).f2), .int .i64 ((rd_T34 l0 x7_2).f3), .int .i64 ((rd_T34 l0 x7_2).f4), .string ((rd_T34 l0 x7_2).f5), .bool ((rd_T34 l0 x7_2).f6)] 34 (0, 0))) := ⟨(by rw [hw]; exact (zK BK750.out))⟩; have n9_ : Aside0 (w37.heap[gb760]? = some (.cells #[.int .i64 t751, .slice Ao35 t752.length co35, .slice Ao36 t755.length co36] 28 (0, 0))) := ⟨(by rw [hw]; exact (zP3 BK760.out))⟩; have n10_ : Aside0 (Below w.heap.size w w37) := ⟨(by rw [hw]; exact (zL HB.out))⟩; clear hw; revert n0_ n1_ n2_ n3_ n4_ n5_ n6_ n7_ n8_ n9_ n10_; clear HO_748001 HO_748002 HO_749001 HO_749002 HO754 HO757 BK747 BK748 BK750 BK760 HB; intro HO_748001 HO_748002 HO_749001 HO_749002 HO754 HO757 BK747 BK748 BK750 BK760 HB; obtain ⟨z38_0, z38_1, z38_2, y38_0, y38_1, y38_2⟩ := zC3 BK748.out; obtain ⟨z39_0, z39_1, z39_2, z39_3, z39_4, z39_5, z39_6, y39_0, y39_1, y39_2, y39_3, y39_4, y39_5, y39_6⟩ := zC7 BK750.out; obtain ⟨Ao40, co40, eo40⟩ := Kd.V_slice HO_749001.out; subst eo40; obtain ⟨Ao41, co41, eo41⟩ := Kd.V_slice HO_749002.out; subst eo41) | ((with_reducible refine gate_callee (f := 7) rfl ?_); refine goesL_ (some 60) rfl rfl Tryd.func7 (by kernel_rfl) rfl #[.agg #[.int .i64 x749000_2, .slice Ao40 x749001_2.length co40, .slice Ao41 x749002_2.length co41], .agg #[.int .i64 ((rd_T34 l0 x7_2).f0), .int .i64 ((rd_T34 l0 x7_2).f1), .int .i64 ((rd_T34 l0 x7_2).f2), .int .i64 ((rd_T34 l0 x7_2).f3), .int .i64 ((rd_T34 l0 x7_2).f4), .string ((rd_T34 l0 x7_2).f5), .bool ((rd_T34 l0 x7_2).f6)], .int .i64 ((rd_T34 l0 x7_2).f4)] rfl zA ?_; (with_reducible refine (cooperagelaw16_must.calls k2 x749000_2 (fun k_ => (k_ ≠ gb747 ∧ (k_ ≠ gb748 ∧ (k_ ≠ gb750 ∧ k_ ≠ gb760)))) _ _ x749001_2 (fun k_ => (k_ ≠ gb747 ∧ (k_ ≠ gb748 ∧ (k_ ≠ gb750 ∧ k_ ≠ gb760)))) _ _ x749002_2 ((rd_T34 l0 x7_2).f0) ((rd_T34 l0 x7_2).f1) ((rd_T34 l0 x7_2).f2) ((rd_T34 l0 x7_2).f3) ((rd_T34 l0 x7_2).f4) ((rd_T34 l0 x7_2).f5) ((rd_T34 l0 x7_2).f6) ((rd_T34 l0 x7_2).f4) t761 t762 t765 t768 t769 _ ?side1 ?side2 A16.out).mono ?_); (case side1 => exact HO_749001.out); (case side2 => exact HO_749002.out); rintro e w42 ⟨v763, v766, rfl, ho0, ho1, hb⟩; refine ⟨_, rfl, ?_⟩; replace HO_748001 := ka (Kd.V_below (zV HO_748001.out) hb); replace HO_748002 := ka (Kd.V_below (zV HO_748002.out) hb); replace HO_749001 := ka (Kd.V_below (zV HO_749001.out) hb); replace HO_749002 := ka (Kd.V_below (zV HO_749002.out) hb); replace HO754 := ka (Kd.V_below (zV HO754.out) hb); replace HO757 := ka (Kd.V_below (zV HO757.out) hb); have HO764 := ka (Kd.V_lower (Kd.V_mono (ok' := fun k_ => k_ ≠ gb747 ∧ k_ ≠ gb748 ∧ k_ ≠ gb750 ∧ k_ ≠ gb760) ho0 (fun k_ hk_ => ⟨Or.elim hk_ (fun hs_ => Or.elim hs_ (fun hs_ => hs_.1) (fun hs_ => hs_.1)) (fun hn_ => (Kd.freshB (g := gb747) (o := .cells #[.int .i64 x748000_2, .slice Ao27 x748001_2.length co27, .slice Ao28 x748002_2.length co28] 28 (0, 0)) (zK BK747.out) k_ hn_)), Or.elim hk_ (fun hs_ => Or.elim hs_ (fun hs_ => hs_.2.1) (fun hs_ => hs_.2.1)) (fun hn_ => (Kd.freshB (g := gb748) (o := .cells #[.int .i64 x749000_2, .slice Ao40 x749001_2.length co40, .slice Ao41 x749002_2.length co41] 32 (0, 0)) (zK BK748.out) k_ hn_)), Or.elim hk_ (fun hs_ => Or.elim hs_ (fun hs_ => hs_.2.2.1) (fun hs_ => hs_.2.2.1)) (fun hn_ => (Kd.freshB (g := gb750) (o := .cells #[.int .i64 ((rd_T34 l0 x7_2).f0), .int .i64 ((rd_T34 l0 x7_2).f1), .int .i64 ((rd_T34 l0 x7_2).f2), .int .i64 ((rd_T34 l0 x7_2).f3), .int .i64 ((rd_T34 l0 x7_2).f4), .string ((rd_T34 l0 x7_2).f5), .bool ((rd_T34 l0 x7_2).f6)] 34 (0, 0)) (zK BK750.out) k_ hn_)), Or.elim hk_ (fun hs_ => Or.elim hs_ (fun hs_ => hs_.2.2.2) (fun hs_ => hs_.2.2.2)) (fun hn_ => (Kd.freshB (g := gb760) (o := .cells #[.int .i64 t751, .slice Ao35 t752.length co35, .slice Ao36 t755.length co36] 28 (0, 0)) (zK BK760.out) k_ hn_))⟩)) (below_size (zL HB.out))); have HO767 := ka (Kd.V_lower (Kd.V_mono (ok' := fun k_ => k_ ≠ gb747 ∧ k_ ≠ gb748 ∧ k_ ≠ gb750 ∧ k_ ≠ gb760) ho1 (fun k_ hk_ => ⟨Or.elim hk_ (fun hs_ => Or.elim hs_ (fun hs_ => hs_.1) (fun hs_ => hs_.1)) (fun hn_ => (Kd.freshB (g := gb747) (o := .cells #[.int .i64 x748000_2, .slice Ao27 x748001_2.length co27, .slice Ao28 x748002_2.length co28] 28 (0, 0)) (zK BK747.out) k_ hn_)), Or.elim hk_ (fun hs_ => Or.elim hs_ (fun hs_ => hs_.2.1) (fun hs_ => hs_.2.1)) (fun hn_ => (Kd.freshB (g := gb748) (o := .cells #[.int .i64 x749000_2, .slice Ao40 x749001_2.length co40, .slice Ao41 x749002_2.length co41] 32 (0, 0)) (zK BK748.out) k_ hn_)), Or.elim hk_ (fun hs_ => Or.elim hs_ (fun hs_ => hs_.2.2.1) (fun hs_ => hs_.2.2.1)) (fun hn_ => (Kd.freshB (g := gb750) (o := .cells #[.int .i64 ((rd_T34 l0 x7_2).f0), .int .i64 ((rd_T34 l0 x7_2).f1), .int .i64 ((rd_T34 l0 x7_2).f2), .int .i64 ((rd_T34 l0 x7_2).f3), .int .i64 ((rd_T34 l0 x7_2).f4), .string ((rd_T34 l0 x7_2).f5), .bool ((rd_T34 l0 x7_2).f6)] 34 (0, 0)) (zK BK750.out) k_ hn_)), Or.elim hk_ (fun hs_ => Or.elim hs_ (fun hs_ => hs_.2.2.2) (fun hs_ => hs_.2.2.2)) (fun hn_ => (Kd.freshB (g := gb760) (o := .cells #[.int .i64 t751, .slice Ao35 t752.length co35, .slice Ao36 t755.length co36] 28 (0, 0)) (zK BK760.out) k_ hn_))⟩)) (below_size (zL HB.out))); replace BK747 := ka (zB BK747.out hb); replace BK748 := ka (zB BK748.out hb); replace BK750 := ka (zB BK750.out hb); replace BK760 := ka (zB BK760.out hb); replace HB := ka (below_step (zL HB.out) hb); (try clear hb); (try clear hb2); (try clear hk); (try clear hi); (try clear ho0); (try clear ho1)) | ((with_reducible refine gate_dst (N := 12) rfl ?_); refine box_event ?hg (N := 12) ?hd (cs := #[.int .i64 0, .slice none 0 0, .slice none 0 0]) (t := 32) ?hr ?_; (case hd => rfl); (case hg => rfl); (case hr => (go_simp; try rfl)); intro gb770 hg w43 hbox hb; replace HO_748001 := ka (Kd.V_below (Kd.V_elderB (zV HO_748001.out) gb770 (Nat.le_of_eq hg.symm)) hb); replace HO_748002 := ka (Kd.V_below (Kd.V_elderB (zV HO_748002.out) gb770 (Nat.le_of_eq hg.symm)) hb); replace HO_749001 := ka (Kd.V_below (Kd.V_elderB (zV HO_749001.out) gb770 (Nat.le_of_eq hg.symm)) hb); replace HO_749002 := ka (Kd.V_below (Kd.V_elderB (zV HO_749002.out) gb770 (Nat.le_of_eq hg.symm)) hb); replace HO754 := ka (Kd.V_below (Kd.V_elderB (zV HO754.out) gb770 (Nat.le_of_eq hg.symm)) hb); replace HO757 := ka (Kd.V_below (Kd.V_elderB (zV HO757.out) gb770 (Nat.le_of_eq hg.symm)) hb); replace HO764 := ka (Kd.V_below (Kd.V_elderB (zV HO764.out) gb770 (Nat.le_of_eq hg.symm)) hb); replace HO767 := ka (Kd.V_below (Kd.V_elderB (zV HO767.out) gb770 (Nat.le_of_eq hg.symm)) hb); have BK770 := ka (hbox); have GW770 := ka (zG hg (zL HB.out)); replace HB := ka (below_step (zL HB.out) hb); have NB747_770 := ka (zNK hg BK747.out); have NB770_747 := ka (zOK hg BK747.out); replace BK747 := ka (zB BK747.out hb); have NB748_770 := ka (zNK hg BK748.out); have NB770_748 := ka (zOK hg BK748.out); replace BK748 := ka (zB BK748.out hb); have NB750_770 := ka (zNK hg BK750.out); have NB770_750 := ka (zOK hg BK750.out); replace BK750 := ka (zB BK750.out hb); have NB760_770 := ka (zNK hg BK760.out); have NB770_760 := ka (zOK hg BK760.out); replace BK760 := ka (zB BK760.out hb); clear hb hbox hg; have hnb44 := NB770_747.out; have hnc44 := NB747_770.out; have hnb45 := NB770_748.out; have hnc45 := NB748_770.out; have hnb46 := NB770_750.out; have hnc46 := NB750_770.out; have hnb47 := NB770_760.out; have hnc47 := NB760_770.out; obtain ⟨z48_0, z48_1, z48_2, y48_0, y48_1, y48_2⟩ := zC3 BK770.out; obtain ⟨Ao49, co49, eo49⟩ := Kd.V_slice HO764.out; subst eo49; obtain ⟨Ao50, co50, eo50⟩ := Kd.V_slice HO767.out; subst eo50; obtain ⟨z51_0, z51_1, z51_2, y51_0, y51_1, y51_2⟩ := zC3 BK760.out; obtain ⟨z52_0, z52_1, z52_2, y52_0, y52_1, y52_2⟩ := zC3 BK747.out; obtain ⟨z53_0, z53_1, z53_2, y53_0, y53_1, y53_2⟩ := zC3 BK748.out) | ((with_reducible refine gate_callee (f := 8) rfl ?_); refine goesL_ (some 68) rfl rfl Tryd.func8 (by kernel_rfl) rfl #[.agg #[.int .i64 t751, .slice Ao35 t752.length co35, .slice Ao36 t755.length co36], .agg #[.int .i64 t761, .slice Ao49 t762.length co49, .slice Ao50 t765.length co50]] rfl zA ?_; (with_reducible refine (cooperagelaw16_sameTable.calls k2 t751 _ _ t752 _ _ t755 t761 _ _ t762 _ _ t765 t771 _ ?side1 ?side2 ?side3 ?side4 ?side5 ?side6 ?side7 ?side8 A17.out).mono ?_); (case side1 => refine (Kd.V_reads' (e := 42) (base := w.heap.size) (ok := fun k_ => ((k_ ≠ gb747 ∧ (k_ ≠ gb748 ∧ (k_ ≠ gb750 ∧ k_ ≠ gb760))) ∧ k_ ≠ gb770)) (n := t752.length) (c := co35) ?_).2.2; exact (by (with_reducible repeat (first | apply Kd.V_alloc | apply Kd.V_drewN | apply Kd.V_drew)); exact (Kd.V_mono (Kd.V_mono (Kd.V_mono (Kd.V_far (p := ⟨gb748, 2, none⟩) (Kd.V_far (p := ⟨gb748, 1, none⟩) (Kd.V_far (p := ⟨gb748, 0, none⟩) (Kd.V_far (p := ⟨gb747, 2, none⟩) (Kd.V_far (p := ⟨gb747, 1, none⟩) (Kd.V_far (p := ⟨gb747, 0, none⟩) (Kd.V_far (p := ⟨gb770, 2, none⟩) (Kd.V_far (p := ⟨gb770, 1, none⟩) (Kd.V_far (p := ⟨gb770, 0, none⟩) (Kd.V_mono (Kd.V_mono (Kd.V_mono HO754.out (fun k_ hk => (⟨hk, hk.2⟩ : _ ∧ k_ ≠ gb770))) (fun k_ hk => (⟨hk, hk.1.1.1⟩ : _ ∧ k_ ≠ gb747))) (fun k_ hk => (⟨hk, hk.1.1.1.2.1⟩ : _ ∧ k_ ≠ gb748))) (fun _ hk => hk.1.1.2) (.int .i64 t761)) (fun _ hk => hk.1.1.2) (.slice Ao49 t762.length co49)) (fun _ hk => hk.1.1.2) (.slice Ao50 t765.length co50)) (fun _ hk => hk.1.2) (.int .i64 t751)) (fun _ hk => hk.1.2) (.slice Ao35 t752.length co35)) (fun _ hk => hk.1.2) (.slice Ao36 t755.length co36)) (fun _ hk => hk.2) (.int .i64 t761)) (fun _ hk => hk.2) (.slice Ao49 t762.length co49)) (fun _ hk => hk.2) (.slice Ao50 t765.length co50)) (fun _ h_ => h_.1)) (fun _ h_ => h_.1)) (fun _ h_ => h_.1)))); (case side2 => exact (Kd.V_reads' HO754.out).2.1); (case side3 => refine (Kd.V_reads' (e := 49) (base := w.heap.size) (ok := fun k_ => ((k_ ≠ gb747 ∧ (k_ ≠ gb748 ∧ (k_ ≠ gb750 ∧ k_ ≠ gb760))) ∧ k_ ≠ gb770)) (n := t755.length) (c := co36) ?_).2.2; exact (by (with_reducible repeat (first | apply Kd.V_alloc | apply Kd.V_drewN | apply Kd.V_drew)); exact (Kd.V_mono (Kd.V_mono (Kd.V_mono (Kd.V_far (p := ⟨gb748, 2, none⟩) (Kd.V_far (p := ⟨gb748, 1, none⟩) (Kd.V_far (p := ⟨gb748, 0, none⟩) (Kd.V_far (p := ⟨gb747, 2, none⟩) (Kd.V_far (p := ⟨gb747, 1, none⟩) (Kd.V_far (p := ⟨gb747, 0, none⟩) (Kd.V_far (p := ⟨gb770, 2, none⟩) (Kd.V_far (p := ⟨gb770, 1, none⟩) (Kd.V_far (p := ⟨gb770, 0, none⟩) (Kd.V_mono (Kd.V_mono (Kd.V_mono HO757.out (fun k_ hk => (⟨hk, hk.2⟩ : _ ∧ k_ ≠ gb770))) (fun k_ hk => (⟨hk, hk.1.1.1⟩ : _ ∧ k_ ≠ gb747))) (fun k_ hk => (⟨hk, hk.1.1.1.2.1⟩ : _ ∧ k_ ≠ gb748))) (fun _ hk => hk.1.1.2) (.int .i64 t761)) (fun _ hk => hk.1.1.2) (.slice Ao49 t762.length co49)) (fun _ hk => hk.1.1.2) (.slice Ao50 t765.length co50)) (fun _ hk => hk.1.2) (.int .i64 t751)) (fun _ hk => hk.1.2) (.slice Ao35 t752.length co35)) (fun _ hk => hk.1.2) (.slice Ao36 t755.length co36)) (fun _ hk => hk.2) (.int .i64 t761)) (fun _ hk => hk.2) (.slice Ao49 t762.length co49)) (fun _ hk => hk.2) (.slice Ao50 t765.length co50)) (fun _ h_ => h_.1)) (fun _ h_ => h_.1)) (fun _ h_ => h_.1)))); (case side4 => exact (Kd.V_reads' HO757.out).2.1); (case side5 => refine (Kd.V_reads' (e := 45) (base := w.heap.size) (ok := fun k_ => ((k_ ≠ gb747 ∧ (k_ ≠ gb748 ∧ (k_ ≠ gb750 ∧ k_ ≠ gb760))) ∧ k_ ≠ gb770)) (n := t762.length) (c := co49) ?_).2.2; exact (by (with_reducible repeat (first | apply Kd.V_alloc | apply Kd.V_drewN | apply Kd.V_drew)); exact (Kd.V_mono (Kd.V_mono (Kd.V_mono (Kd.V_far (p := ⟨gb748, 2, none⟩) (Kd.V_far (p := ⟨gb748, 1, none⟩) (Kd.V_far (p := ⟨gb748, 0, none⟩) (Kd.V_far (p := ⟨gb747, 2, none⟩) (Kd.V_far (p := ⟨gb747, 1, none⟩) (Kd.V_far (p := ⟨gb747, 0, none⟩) (Kd.V_far (p := ⟨gb770, 2, none⟩) (Kd.V_far (p := ⟨gb770, 1, none⟩) (Kd.V_far (p := ⟨gb770, 0, none⟩) (Kd.V_mono (Kd.V_mono (Kd.V_mono HO764.out (fun k_ hk => (⟨hk, hk.2⟩ : _ ∧ k_ ≠ gb770))) (fun k_ hk => (⟨hk, hk.1.1.1⟩ : _ ∧ k_ ≠ gb747))) (fun k_ hk => (⟨hk, hk.1.1.1.2.1⟩ : _ ∧ k_ ≠ gb748))) (fun _ hk => hk.1.1.2) (.int .i64 t761)) (fun _ hk => hk.1.1.2) (.slice Ao49 t762.length co49)) (fun _ hk => hk.1.1.2) (.slice Ao50 t765.length co50)) (fun _ hk => hk.1.2) (.int .i64 t751)) (fun _ hk => hk.1.2) (.slice Ao35 t752.length co35)) (fun _ hk => hk.1.2) (.slice Ao36 t755.length co36)) (fun _ hk => hk.2) (.int .i64 t761)) (fun _ hk => hk.2) (.slice Ao49 t762.length co49)) (fun _ hk => hk.2) (.slice Ao50 t765.length co50)) (fun _ h_ => h_.1)) (fun _ h_ => h_.1)) (fun _ h_ => h_.1)))); (case side6 => exact (Kd.V_reads' HO764.out).2.1); (case side7 => refine (Kd.V_reads' (e := 52) (base := w.heap.size) (ok := fun k_ => ((k_ ≠ gb747 ∧ (k_ ≠ gb748 ∧ (k_ ≠ gb750 ∧ k_ ≠ gb760))) ∧ k_ ≠ gb770)) (n := t765.length) (c := co50) ?_).2.2; exact (by (with_reducible repeat (first | apply Kd.V_alloc | apply Kd.V_drewN | apply Kd.V_drew)); exact (Kd.V_mono (Kd.V_mono (Kd.V_mono (Kd.V_far (p := ⟨gb748, 2, none⟩) (Kd.V_far (p := ⟨gb748, 1, none⟩) (Kd.V_far (p := ⟨gb748, 0, none⟩) (Kd.V_far (p := ⟨gb747, 2, none⟩) (Kd.V_far (p := ⟨gb747, 1, none⟩) (Kd.V_far (p := ⟨gb747, 0, none⟩) (Kd.V_far (p := ⟨gb770, 2, none⟩) (Kd.V_far (p := ⟨gb770, 1, none⟩) (Kd.V_far (p := ⟨gb770, 0, none⟩) (Kd.V_mono (Kd.V_mono (Kd.V_mono HO767.out (fun k_ hk => (⟨hk, hk.2⟩ : _ ∧ k_ ≠ gb770))) (fun k_ hk => (⟨hk, hk.1.1.1⟩ : _ ∧ k_ ≠ gb747))) (fun k_ hk => (⟨hk, hk.1.1.1.2.1⟩ : _ ∧ k_ ≠ gb748))) (fun _ hk => hk.1.1.2) (.int .i64 t761)) (fun _ hk => hk.1.1.2) (.slice Ao49 t762.length co49)) (fun _ hk => hk.1.1.2) (.slice Ao50 t765.length co50)) (fun _ hk => hk.1.2) (.int .i64 t751)) (fun _ hk => hk.1.2) (.slice Ao35 t752.length co35)) (fun _ hk => hk.1.2) (.slice Ao36 t755.length co36)) (fun _ hk => hk.2) (.int .i64 t761)) (fun _ hk => hk.2) (.slice Ao49 t762.length co49)) (fun _ hk => hk.2) (.slice Ao50 t765.length co50)) (fun _ h_ => h_.1)) (fun _ h_ => h_.1)) (fun _ h_ => h_.1)))); (case side8 => exact (Kd.V_reads' HO767.out).2.1); rintro e w54 ⟨rfl, hb⟩; refine ⟨_, rfl, ?_⟩; replace HO_748001 := ka (Kd.V_below (by (with_reducible repeat (first | apply Kd.V_alloc | apply Kd.V_drewN | apply Kd.V_drew)); exact (Kd.V_mono (Kd.V_mono (Kd.V_mono (Kd.V_far (p := ⟨gb748, 2, none⟩) (Kd.V_far (p := ⟨gb748, 1, none⟩) (Kd.V_far (p := ⟨gb748, 0, none⟩) (Kd.V_far (p := ⟨gb747, 2, none⟩) (Kd.V_far (p := ⟨gb747, 1, none⟩) (Kd.V_far (p := ⟨gb747, 0, none⟩) (Kd.V_far (p := ⟨gb770, 2, none⟩) (Kd.V_far (p := ⟨gb770, 1, none⟩) (Kd.V_far (p := ⟨gb770, 0, none⟩) (Kd.V_mono (Kd.V_mono (Kd.V_mono HO_748001.out (fun k_ hk => (⟨hk, hk.2⟩ : _ ∧ k_ ≠ gb770))) (fun k_ hk => (⟨hk, hk.1.1.1⟩ : _ ∧ k_ ≠ gb747))) (fun k_ hk => (⟨hk, hk.1.1.1.2.1⟩ : _ ∧ k_ ≠ gb748))) (fun _ hk => hk.1.1.2) (.int .i64 t761)) (fun _ hk => hk.1.1.2) (.slice Ao49 t762.length co49)) (fun _ hk => hk.1.1.2) (.slice Ao50 t765.length co50)) (fun _ hk => hk.1.2) (.int .i64 t751)) (fun _ hk => hk.1.2) (.slice Ao35 t752.length co35)) (fun _ hk => hk.1.2) (.slice Ao36 t755.length co36)) (fun _ hk => hk.2) (.int .i64 t761)) (fun _ hk => hk.2) (.slice Ao49 t762.length co49)) (fun _ hk => hk.2) (.slice Ao50 t765.length co50)) (fun _ h_ => h_.1)) (fun _ h_ => h_.1)) (fun _ h_ => h_.1))) hb); replace HO_748002 := ka (Kd.V_below (by (with_reducible repeat (first | apply Kd.V_alloc | apply Kd.V_drewN | apply Kd.V_drew)); exact (Kd.V_mono (Kd.V_mono (Kd.V_mono (Kd.V_far (p := ⟨gb748, 2, none⟩) (Kd.V_far (p := ⟨gb748, 1, none⟩) (Kd.V_far (p := ⟨gb748, 0, none⟩) (Kd.V_far (p := ⟨gb747, 2, none⟩) (Kd.V_far (p := ⟨gb747, 1, none⟩) (Kd.V_far (p := ⟨gb747, 0, none⟩) (Kd.V_far (p := ⟨gb770, 2, none⟩) (Kd.V_far (p := ⟨gb770, 1, none⟩) (Kd.V_far (p := ⟨gb770, 0, none⟩) (Kd.V_mono (Kd.V_mono (Kd.V_mono HO_748002.out (fun k_ hk => (⟨hk, hk.2⟩ : _ ∧ k_ ≠ gb770))) (fun k_ hk => (⟨hk, hk.1.1.1⟩ : _ ∧ k_ ≠ gb747))) (fun k_ hk => (⟨hk, hk.1.1.1.2.1⟩ : _ ∧ k_ ≠ gb748))) (fun _ hk => hk.1.1.2) (.int .i64 t761)) (fun _ hk => hk.1.1.2) (.slice Ao49 t762.length co49)) (fun _ hk => hk.1.1.2) (.slice Ao50 t765.length co50)) (fun _ hk => hk.1.2) (.int .i64 t751)) (fun _ hk => hk.1.2) (.slice Ao35 t752.length co35)) (fun _ hk => hk.1.2) (.slice Ao36 t755.length co36)) (fun _ hk => hk.2) (.int .i64 t761)) (fun _ hk => hk.2) (.slice Ao49 t762.length co49)) (fun _ hk => hk.2) (.slice Ao50 t765.length co50)) (fun _ h_ => h_.1)) (fun _ h_ => h_.1)) (fun _ h_ => h_.1))) hb); replace HO_749001 := ka (Kd.V_below (by (with_reducible repeat (first | apply Kd.V_alloc | apply Kd.V_drewN | apply Kd.V_drew)); exact (Kd.V_mono (Kd.V_mono (Kd.V_mono (Kd.V_far (p := ⟨gb748, 2, none⟩) (Kd.V_far (p := ⟨gb748, 1, none⟩) (Kd.V_far (p := ⟨gb748, 0, none⟩) (Kd.V_far (p := ⟨gb747, 2, none⟩) (Kd.V_far (p := ⟨gb747, 1, none⟩) (Kd.V_far (p := ⟨gb747, 0, none⟩) (Kd.V_far (p := ⟨gb770, 2, none⟩) (Kd.V_far (p := ⟨gb770, 1, none⟩) (Kd.V_far (p := ⟨gb770, 0, none⟩) (Kd.V_mono (Kd.V_mono (Kd.V_mono HO_749001.out (fun k_ hk => (⟨hk, hk.2⟩ : _ ∧ k_ ≠ gb770))) (fun k_ hk => (⟨hk, hk.1.1.1⟩ : _ ∧ k_ ≠ gb747))) (fun k_ hk => (⟨hk, hk.1.1.1.2.1⟩ : _ ∧ k_ ≠ gb748))) (fun _ hk => hk.1.1.2) (.int .i64 t761)) (fun _ hk => hk.1.1.2) (.slice Ao49 t762.length co49)) (fun _ hk => hk.1.1.2) (.slice Ao50 t765.length co50)) (fun _ hk => hk.1.2) (.int .i64 t751)) (fun _ hk => hk.1.2) (.slice Ao35 t752.length co35)) (fun _ hk => hk.1.2) (.slice Ao36 t755.length co36)) (fun _ hk => hk.2) (.int .i64 t761)) (fun _ hk => hk.2) (.slice Ao49 t762.length co49)) (fun _ hk => hk.2) (.slice Ao50 t765.length co50)) (fun _ h_ => h_.1)) (fun _ h_ => h_.1)) (fun _ h_ => h_.1))) hb); replace HO_749002 := ka (Kd.V_below (by (with_reducible repeat (first | apply Kd.V_alloc | apply Kd.V_drewN | apply Kd.V_drew)); exact (Kd.V_mono (Kd.V_mono (Kd.V_mono (Kd.V_far (p := ⟨gb748, 2, none⟩) (Kd.V_far (p := ⟨gb748, 1, none⟩) (Kd.V_far (p := ⟨gb748, 0, none⟩) (Kd.V_far (p := ⟨gb747, 2, none⟩) (Kd.V_far (p := ⟨gb747, 1, none⟩) (Kd.V_far (p := ⟨gb747, 0, none⟩) (Kd.V_far (p := ⟨gb770, 2, none⟩) (Kd.V_far (p := ⟨gb770, 1, none⟩) (Kd.V_far (p := ⟨gb770, 0, none⟩) (Kd.V_mono (Kd.V_mono (Kd.V_mono HO_749002.out (fun k_ hk => (⟨hk, hk.2⟩ : _ ∧ k_ ≠ gb770))) (fun k_ hk => (⟨hk, hk.1.1.1⟩ : _ ∧ k_ ≠ gb747))) (fun k_ hk => (⟨hk, hk.1.1.1.2.1⟩ : _ ∧ k_ ≠ gb748))) (fun _ hk => hk.1.1.2) (.int .i64 t761)) (fun _ hk => hk.1.1.2) (.slice Ao49 t762.length co49)) (fun _ hk => hk.1.1.2) (.slice Ao50 t765.length co50)) (fun _ hk => hk.1.2) (.int .i64 t751)) (fun _ hk => hk.1.2) (.slice Ao35 t752.length co35)) (fun _ hk => hk.1.2) (.slice Ao36 t755.length co36)) (fun _ hk => hk.2) (.int .i64 t761)) (fun _ hk => hk.2) (.slice Ao49 t762.length co49)) (fun _ hk => hk.2) (.slice Ao50 t765.length co50)) (fun _ h_ => h_.1)) (fun _ h_ => h_.1)) (fun _ h_ => h_.1))) hb); replace HO754 := ka (Kd.V_below (by (with_reducible repeat (first | apply Kd.V_alloc | apply Kd.V_drewN | apply Kd.V_drew)); exact (Kd.V_mono (Kd.V_mono (Kd.V_mono (Kd.V_far (p := ⟨gb748, 2, none⟩) (Kd.V_far (p := ⟨gb748, 1, none⟩) (Kd.V_far (p := ⟨gb748, 0, none⟩) (Kd.V_far (p := ⟨gb747, 2, none⟩) (Kd.V_far (p := ⟨gb747, 1, none⟩) (Kd.V_far (p := ⟨gb747, 0, none⟩) (Kd.V_far (p := ⟨gb770, 2, none⟩) (Kd.V_far (p := ⟨gb770, 1, none⟩) (Kd.V_far (p := ⟨gb770, 0, none⟩) (Kd.V_mono (Kd.V_mono (Kd.V_mono HO754.out (fun k_ hk => (⟨hk, hk.2⟩ : _ ∧ k_ ≠ gb770))) (fun k_ hk => (⟨hk, hk.1.1.1⟩ : _ ∧ k_ ≠ gb747))) (fun k_ hk => (⟨hk, hk.1.1.1.2.1⟩ : _ ∧ k_ ≠ gb748))) (fun _ hk => hk.1.1.2) (.int .i64 t761)) (fun _ hk => hk.1.1.2) (.slice Ao49 t762.length co49)) (fun _ hk => hk.1.1.2) (.slice Ao50 t765.length co50)) (fun _ hk => hk.1.2) (.int .i64 t751)) (fun _ hk => hk.1.2) (.slice Ao35 t752.length co35)) (fun _ hk => hk.1.2) (.slice Ao36 t755.length co36)) (fun _ hk => hk.2) (.int .i64 t761)) (fun _ hk => hk.2) (.slice Ao49 t762.length co49)) (fun _ hk => hk.2) (.slice Ao50 t765.length co50)) (fun _ h_ => h_.1)) (fun _ h_ => h_.1)) (fun _ h_ => h_.1))) hb); replace HO757 := ka (Kd.V_below (by (with_reducible repeat (first | apply Kd.V_alloc | apply Kd.V_drewN | apply Kd.V_drew)); exact (Kd.V_mono (Kd.V_mono (Kd.V_mono (Kd.V_far (p := ⟨gb748, 2, none⟩) (Kd.V_far (p := ⟨gb748, 1, none⟩) (Kd.V_far (p := ⟨gb748, 0, none⟩) (Kd.V_far (p := ⟨gb747, 2, none⟩) (Kd.V_far (p := ⟨gb747, 1, none⟩) (Kd.V_far (p := ⟨gb747, 0, none⟩) (Kd.V_far (p := ⟨gb770, 2, none⟩) (Kd.V_far (p := ⟨gb770, 1, none⟩) (Kd.V_far (p := ⟨gb770, 0, none⟩) (Kd.V_mono (Kd.V_mono (Kd.V_mono HO757.out (fun k_ hk => (⟨hk, hk.2⟩ : _ ∧ k_ ≠ gb770))) (fun k_ hk => (⟨hk, hk.1.1.1⟩ : _ ∧ k_ ≠ gb747))) (fun k_ hk => (⟨hk, hk.1.1.1.2.1⟩ : _ ∧ k_ ≠ gb748))) (fun _ hk => hk.1.1.2) (.int .i64 t761)) (fun _ hk => hk.1.1.2) (.slice Ao49 t762.length co49)) (fun _ hk => hk.1.1.2) (.slice Ao50 t765.length co50)) (fun _ hk => hk.1.2) (.int .i64 t751)) (fun _ hk => hk.1.2) (.slice Ao35 t752.length co35)) (fun _ hk => hk.1.2) (.slice Ao36 t755.length co36)) (fun _ hk => hk.2) (.int .i64 t761)) (fun _ hk => hk.2) (.slice Ao49 t762.length co49)) (fun _ hk => hk.2) (.slice Ao50 t765.length co50)) (fun _ h_ => h_.1)) (fun _ h_ => h_.1)) (fun _ h_ => h_.1))) hb); replace HO764 := ka (Kd.V_below (by (with_reducible repeat (first | apply Kd.V_alloc | apply Kd.V_drewN | apply Kd.V_drew)); exact (Kd.V_mono (Kd.V_mono (Kd.V_mono (Kd.V_far (p := ⟨gb748, 2, none⟩) (Kd.V_far (p := ⟨gb748, 1, none⟩) (Kd.V_far (p := ⟨gb748, 0, none⟩) (Kd.V_far (p := ⟨gb747, 2, none⟩) (Kd.V_far (p := ⟨gb747, 1, none⟩) (Kd.V_far (p := ⟨gb747, 0, none⟩) (Kd.V_far (p := ⟨gb770, 2, none⟩) (Kd.V_far (p := ⟨gb770, 1, none⟩) (Kd.V_far (p := ⟨gb770, 0, none⟩) (Kd.V_mono (Kd.V_mono (Kd.V_mono HO764.out (fun k_ hk => (⟨hk, hk.2⟩ : _ ∧ k_ ≠ gb770))) (fun k_ hk => (⟨hk, hk.1.1.1⟩ : _ ∧ k_ ≠ gb747))) (fun k_ hk => (⟨hk, hk.1.1.1.2.1⟩ : _ ∧ k_ ≠ gb748))) (fun _ hk => hk.1.1.2) (.int .i64 t761)) (fun _ hk => hk.1.1.2) (.slice Ao49 t762.length co49)) (fun _ hk => hk.1.1.2) (.slice Ao50 t765.length co50)) (fun _ hk => hk.1.2) (.int .i64 t751)) (fun _ hk => hk.1.2) (.slice Ao35 t752.length co35)) (fun _ hk => hk.1.2) (.slice Ao36 t755.length co36)) (fun _ hk => hk.2) (.int .i64 t761)) (fun _ hk => hk.2) (.slice Ao49 t762.length co49)) (fun _ hk => hk.2) (.slice Ao50 t765.length co50)) (fun _ h_ => h_.1)) (fun _ h_ => h_.1)) (fun _ h_ => h_.1))) hb); replace HO767 := ka (Kd.V_below (by (with_reducible repeat (first | apply Kd.V_alloc | apply Kd.V_drewN | apply Kd.V_drew)); exact (Kd.V_mono (Kd.V_mono (Kd.V_mono (Kd.V_far (p := ⟨gb748, 2, none⟩) (Kd.V_far (p := ⟨gb748, 1, none⟩) (Kd.V_far (p := ⟨gb748, 0, none⟩) (Kd.V_far (p := ⟨gb747, 2, none⟩) (Kd.V_far (p := ⟨gb747, 1, none⟩) (Kd.V_far (p := ⟨gb747, 0, none⟩) (Kd.V_far (p := ⟨gb770, 2, none⟩) (Kd.V_far (p := ⟨gb770, 1, none⟩) (Kd.V_far (p := ⟨gb770, 0, none⟩) (Kd.V_mono (Kd.V_mono (Kd.V_mono HO767.out (fun k_ hk => (⟨hk, hk.2⟩ : _ ∧ k_ ≠ gb770))) (fun k_ hk => (⟨hk, hk.1.1.1⟩ : _ ∧ k_ ≠ gb747))) (fun k_ hk => (⟨hk, hk.1.1.1.2.1⟩ : _ ∧ k_ ≠ gb748))) (fun _ hk => hk.1.1.2) (.int .i64 t761)) (fun _ hk => hk.1.1.2) (.slice Ao49 t762.length co49)) (fun _ hk => hk.1.1.2) (.slice Ao50 t765.length co50)) (fun _ hk => hk.1.2) (.int .i64 t751)) (fun _ hk => hk.1.2) (.slice Ao35 t752.length co35)) (fun _ hk => hk.1.2) (.slice Ao36 t755.length co36)) (fun _ hk => hk.2) (.int .i64 t761)) (fun _ hk => hk.2) (.slice Ao49 t762.length co49)) (fun _ hk => hk.2) (.slice Ao50 t765.length co50)) (fun _ h_ => h_.1)) (fun _ h_ => h_.1)) (fun _ h_ => h_.1))) hb); replace BK747 := ka (blk_below (g := gb747) (o := .cells #[.int .i64 t751, .slice Ao35 t752.length co35, .slice Ao36 t755.length co36] 28 (0, 0)) (zP3 BK747.out) hb); replace BK748 := ka (blk_below (g := gb748) (o := .cells #[.int .i64 t761, .slice Ao49 t762.length co49, .slice Ao50 t765.length co50] 32 (0, 0)) (zP3 BK748.out) hb); replace BK750 := ka (zB BK750.out hb); replace BK760 := ka (zB BK760.out hb); replace BK770 := ka (blk_below (g := gb770) (o := .cells #[.int .i64 t761, .slice Ao49 t762.length co49, .slice Ao50 t765.length co50] 32 (0, 0)) (zP3 BK770.out) hb); replace HB := ka (below_step (zL HB.out) hb); (try clear hb); (try clear hb2); (try clear hk); (try clear hi)))
      (try simp only [Act.put, List.setIfInBounds_toArray, List.set_cons_zero, List.set_cons_succ])
      go_cut [80] (fun v80 wc => ∃ (kq : Nat) (x80_17 : Bool), v80 = .bool x80_17 ∧ Aside0 (cooperagelaw16_LeasePlays.j2 kq l0 x7_2 x80_17 t751 t752 t755 t761 t762 t765 ((rd_T34 l0 x7_2).f0) ((rd_T34 l0 x7_2).f1) ((rd_T34 l0 x7_2).f2) ((rd_T34 l0 x7_2).f3) ((rd_T34 l0 x7_2).f4) ((rd_T34 l0 x7_2).f5) ((rd_T34 l0 x7_2).f6) = some r) ∧ Aside0 (kq ≤ k2) ∧ Aside0 (Kd.V k42 42 wc w.heap.size (fun k_ => k_ ≠ gb747 ∧ k_ ≠ gb748 ∧ k_ ≠ gb750 ∧ k_ ≠ gb760 ∧ k_ ≠ gb770) (.slice Ao35 t752.length co35) t752) ∧ Aside0 (Kd.V k49 49 wc w.heap.size (fun k_ => k_ ≠ gb747 ∧ k_ ≠ gb748 ∧ k_ ≠ gb750 ∧ k_ ≠ gb760 ∧ k_ ≠ gb770) (.slice Ao36 t755.length co36) t755) ∧ Aside0 (Kd.V k45 45 wc w.heap.size (fun k_ => k_ ≠ gb747 ∧ k_ ≠ gb748 ∧ k_ ≠ gb750 ∧ k_ ≠ gb760 ∧ k_ ≠ gb770) (.slice Ao49 t762.length co49) t762) ∧ Aside0 (Kd.V k52 52 wc w.heap.size (fun k_ => k_ ≠ gb747 ∧ k_ ≠ gb748 ∧ k_ ≠ gb750 ∧ k_ ≠ gb760 ∧ k_ ≠ gb770) (.slice Ao50 t765.length co50) t765) ∧ Aside0 (Kd.V k42 42 wc w.heap.size (fun k_ => k_ ≠ gb747 ∧ k_ ≠ gb748 ∧ k_ ≠ gb750 ∧ k_ ≠ gb760 ∧ k_ ≠ gb770) (.slice Ao35 t752.length co35) t752) ∧ Aside0 (Kd.V k49 49 wc w.heap.size (fun k_ => k_ ≠ gb747 ∧ k_ ≠ gb748 ∧ k_ ≠ gb750 ∧ k_ ≠ gb760 ∧ k_ ≠ gb770) (.slice Ao36 t755.length co36) t755) ∧ Aside0 (Kd.V k45 45 wc w.heap.size (fun k_ => k_ ≠ gb747 ∧ k_ ≠ gb748 ∧ k_ ≠ gb750 ∧ k_ ≠ gb760 ∧ k_ ≠ gb770) (.slice Ao49 t762.length co49) t762) ∧ Aside0 (Kd.V k52 52 wc w.heap.size (fun k_ => k_ ≠ gb747 ∧ k_ ≠ gb748 ∧ k_ ≠ gb750 ∧ k_ ≠ gb760 ∧ k_ ≠ gb770) (.slice Ao50 t765.length co50) t765) ∧ Aside0 (wc.heap[gb747]? = some (.cells #[.int .i64 t751, (.slice Ao35 t752.length co35), (.slice Ao36 t755.length co36)] 28 (0, 0))) ∧ Aside0 (wc.heap[gb748]? = some (.cells #[.int .i64 t761, (.slice Ao49 t762.length co49), (.slice Ao50 t765.length co50)] 32 (0, 0))) ∧ Aside0 (wc.heap[gb750]? = some (.cells #[.int .i64 ((rd_T34 l0 x7_2).f0), .int .i64 ((rd_T34 l0 x7_2).f1), .int .i64 ((rd_T34 l0 x7_2).f2), .int .i64 ((rd_T34 l0 x7_2).f3), .int .i64 ((rd_T34 l0 x7_2).f4), .string ((rd_T34 l0 x7_2).f5), .bool ((rd_T34 l0 x7_2).f6)] 34 (0, 0))) ∧ Aside0 (wc.heap[gb760]? = some (.cells #[.int .i64 t751, (.slice Ao35 t752.length co35), (.slice Ao36 t755.length co36)] 28 (0, 0))) ∧ Aside0 (wc.heap[gb770]? = some (.cells #[.int .i64 t761, (.slice Ao49 t762.length co49), (.slice Ao50 t765.length co50)] 32 (0, 0))) ∧ Aside0 (Below w.heap.size w wc))
      case first =>
       have H := HC18.out
       clear HC18
       by_cases c55 : t758 = t768
       ·rw [if_pos c55] at H
        have c55b0 := zb0 c55
        have c55b1 := zb1 c55
        clear c55
        (first | rw [c55b0] | (simp only [i64_w, i32_w]; rw [c55b0]) | rw [isE_ c55b0] | skip)
        by_cases c56 : t759 = t769
        ·rw [if_pos c56] at H
         have c56b0 := zb0 c56
         have c56b1 := zb1 c56
         clear c56
         have H' := ka H
         clear H
         go_wp2
         go_meet
         case rel => as_aux_lemma => exact ⟨_, (!t771), zS, H', ⟨by have := HJ3.out; have := HK2.out; first | omega | exact Nat.le_refl _⟩, ⟨by (with_reducible repeat (first | apply Kd.V_alloc | apply Kd.V_drewN | apply Kd.V_drew)); exact Kd.V_mono HO754.out (fun _ hk => ⟨hk.1.1, ⟨hk.1.2.1, ⟨hk.1.2.2.1, ⟨hk.1.2.2.2, hk.2⟩⟩⟩⟩)⟩, ⟨by (with_reducible repeat (first | apply Kd.V_alloc | apply Kd.V_drewN | apply Kd.V_drew)); exact Kd.V_mono HO757.out (fun _ hk => ⟨hk.1.1, ⟨hk.1.2.1, ⟨hk.1.2.2.1, ⟨hk.1.2.2.2, hk.2⟩⟩⟩⟩)⟩, ⟨by (with_reducible repeat (first | apply Kd.V_alloc | apply Kd.V_drewN | apply Kd.V_drew)); exact Kd.V_mono HO764.out (fun _ hk => ⟨hk.1.1, ⟨hk.1.2.1, ⟨hk.1.2.2.1, ⟨hk.1.2.2.2, hk.2⟩⟩⟩⟩)⟩, ⟨by (with_reducible repeat (first | apply Kd.V_alloc | apply Kd.V_drewN | apply Kd.V_drew)); exact Kd.V_mono HO767.out (fun _ hk => ⟨hk.1.1, ⟨hk.1.2.1, ⟨hk.1.2.2.1, ⟨hk.1.2.2.2, hk.2⟩⟩⟩⟩)⟩, ⟨by (with_reducible repeat (first | apply Kd.V_alloc | apply Kd.V_drewN | apply Kd.V_drew)); exact Kd.V_mono HO754.out (fun _ hk => ⟨hk.1.1, ⟨hk.1.2.1, ⟨hk.1.2.2.1, ⟨hk.1.2.2.2, hk.2⟩⟩⟩⟩)⟩, ⟨by (with_reducible repeat (first | apply Kd.V_alloc | apply Kd.V_drewN | apply Kd.V_drew)); exact Kd.V_mono HO757.out (fun _ hk => ⟨hk.1.1, ⟨hk.1.2.1, ⟨hk.1.2.2.1, ⟨hk.1.2.2.2, hk.2⟩⟩⟩⟩)⟩, ⟨by (with_reducible repeat (first | apply Kd.V_alloc | apply Kd.V_drewN | apply Kd.V_drew)); exact Kd.V_mono HO764.out (fun _ hk => ⟨hk.1.1, ⟨hk.1.2.1, ⟨hk.1.2.2.1, ⟨hk.1.2.2.2, hk.2⟩⟩⟩⟩)⟩, ⟨by (with_reducible repeat (first | apply Kd.V_alloc | apply Kd.V_drewN | apply Kd.V_drew)); exact Kd.V_mono HO767.out (fun _ hk => ⟨hk.1.1, ⟨hk.1.2.1, ⟨hk.1.2.2.1, ⟨hk.1.2.2.2, hk.2⟩⟩⟩⟩)⟩, ⟨zK BK747.out⟩, ⟨zK BK748.out⟩, ⟨zK BK750.out⟩, ⟨zK BK760.out⟩, ⟨zK BK770.out⟩, ⟨zL HB.out⟩⟩
        rw [if_neg c56] at H
        have c56b0 := zn0 c56
        have c56b1 := zn1 c56
        have H' := ka H
        clear H
        go_wp2
        go_meet
        case rel => as_aux_lemma => exact ⟨_, (true), zS, H', ⟨by have := HJ3.out; have := HK2.out; first | omega | exact Nat.le_refl _⟩, ⟨by (with_reducible repeat (first | apply Kd.V_alloc | apply Kd.V_drewN | apply Kd.V_drew)); exact Kd.V_mono HO754.out (fun _ hk => ⟨hk.1.1, ⟨hk.1.2.1, ⟨hk.1.2.2.1, ⟨hk.1.2.2.2, hk.2⟩⟩⟩⟩)⟩, ⟨by (with_reducible repeat (first | apply Kd.V_alloc | apply Kd.V_drewN | apply Kd.V_drew)); exact Kd.V_mono HO757.out (fun _ hk => ⟨hk.1.1, ⟨hk.1.2.1, ⟨hk.1.2.2.1, ⟨hk.1.2.2.2, hk.2⟩⟩⟩⟩)⟩, ⟨by (with_reducible repeat (first | apply Kd.V_alloc | apply Kd.V_drewN | apply Kd.V_drew)); exact Kd.V_mono HO764.out (fun _ hk => ⟨hk.1.1, ⟨hk.1.2.1, ⟨hk.1.2.2.1, ⟨hk.1.2.2.2, hk.2⟩⟩⟩⟩)⟩, ⟨by (with_reducible repeat (first | apply Kd.V_alloc | apply Kd.V_drewN | apply Kd.V_drew)); exact Kd.V_mono HO767.out (fun _ hk => ⟨hk.1.1, ⟨hk.1.2.1, ⟨hk.1.2.2.1, ⟨hk.1.2.2.2, hk.2⟩⟩⟩⟩)⟩, ⟨by (with_reducible repeat (first | apply Kd.V_alloc | apply Kd.V_drewN | apply Kd.V_drew)); exact Kd.V_mono HO754.out (fun _ hk => ⟨hk.1.1, ⟨hk.1.2.1, ⟨hk.1.2.2.1, ⟨hk.1.2.2.2, hk.2⟩⟩⟩⟩)⟩, ⟨by (with_reducible repeat (first | apply Kd.V_alloc | apply Kd.V_drewN | apply Kd.V_drew)); exact Kd.V_mono HO757.out (fun _ hk => ⟨hk.1.1, ⟨hk.1.2.1, ⟨hk.1.2.2.1, ⟨hk.1.2.2.2, hk.2⟩⟩⟩⟩)⟩, ⟨by (with_reducible repeat (first | apply Kd.V_alloc | apply Kd.V_drewN | apply Kd.V_drew)); exact Kd.V_mono HO764.out (fun _ hk => ⟨hk.1.1, ⟨hk.1.2.1, ⟨hk.1.2.2.1, ⟨hk.1.2.2.2, hk.2⟩⟩⟩⟩)⟩, ⟨by (with_reducible repeat (first | apply Kd.V_alloc | apply Kd.V_drewN | apply Kd.V_drew)); exact Kd.V_mono HO767.out (fun _ hk => ⟨hk.1.1, ⟨hk.1.2.1, ⟨hk.1.2.2.1, ⟨hk.1.2.2.2, hk.2⟩⟩⟩⟩)⟩, ⟨zK BK747.out⟩, ⟨zK BK748.out⟩, ⟨zK BK750.out⟩, ⟨zK BK760.out⟩, ⟨zK BK770.out⟩, ⟨zL HB.out⟩⟩
       rw [if_neg c55] at H
       have c55b0 := zn0 c55
       have c55b1 := zn1 c55
       (first | rw [c55b0] | (simp only [i64_w, i32_w]; rw [c55b0]) | rw [isE_ c55b0] | skip)
       have H' := ka H
       clear H
       go_wp2
       go_meet
       case rel => as_aux_lemma => exact ⟨_, (true), zS, H', ⟨by have := HJ3.out; have := HK2.out; first | omega | exact Nat.le_refl _⟩, ⟨by (with_reducible repeat (first | apply Kd.V_alloc | apply Kd.V_drewN | apply Kd.V_drew)); exact Kd.V_mono HO754.out (fun _ hk => ⟨hk.1.1, ⟨hk.1.2.1, ⟨hk.1.2.2.1, ⟨hk.1.2.2.2, hk.2⟩⟩⟩⟩)⟩, ⟨by (with_reducible repeat (first | apply Kd.V_alloc | apply Kd.V_drewN | apply Kd.V_drew)); exact Kd.V_mono HO757.out (fun _ hk => ⟨hk.1.1, ⟨hk.1.2.1, ⟨hk.1.2.2.1, ⟨hk.1.2.2.2, hk.2⟩⟩⟩⟩)⟩, ⟨by (with_reducible repeat (first | apply Kd.V_alloc | apply Kd.V_drewN | apply Kd.V_drew)); exact Kd.V_mono HO764.out (fun _ hk => ⟨hk.1.1, ⟨hk.1.2.1, ⟨hk.1.2.2.1, ⟨hk.1.2.2.2, hk.2⟩⟩⟩⟩)⟩, ⟨by (with_reducible repeat (first | apply Kd.V_alloc | apply Kd.V_drewN | apply Kd.V_drew)); exact Kd.V_mono HO767.out (fun _ hk => ⟨hk.1.1, ⟨hk.1.2.1, ⟨hk.1.2.2.1, ⟨hk.1.2.2.2, hk.2⟩⟩⟩⟩)⟩, ⟨by (with_reducible repeat (first | apply Kd.V_alloc | apply Kd.V_drewN | apply Kd.V_drew)); exact Kd.V_mono HO754.out (fun _ hk => ⟨hk.1.1, ⟨hk.1.2.1, ⟨hk.1.2.2.1, ⟨hk.1.2.2.2, hk.2⟩⟩⟩⟩)⟩, ⟨by (with_reducible repeat (first | apply Kd.V_alloc | apply Kd.V_drewN | apply Kd.V_drew)); exact Kd.V_mono HO757.out (fun _ hk => ⟨hk.1.1, ⟨hk.1.2.1, ⟨hk.1.2.2.1, ⟨hk.1.2.2.2, hk.2⟩⟩⟩⟩)⟩, ⟨by (with_reducible repeat (first | apply Kd.V_alloc | apply Kd.V_drewN | apply Kd.V_drew)); exact Kd.V_mono HO764.out (fun _ hk => ⟨hk.1.1, ⟨hk.1.2.1, ⟨hk.1.2.2.1, ⟨hk.1.2.2.2, hk.2⟩⟩⟩⟩)⟩, ⟨by (with_reducible repeat (first | apply Kd.V_alloc | apply Kd.V_drewN | apply Kd.V_drew)); exact Kd.V_mono HO767.out (fun _ hk => ⟨hk.1.1, ⟨hk.1.2.1, ⟨hk.1.2.2.1, ⟨hk.1.2.2.2, hk.2⟩⟩⟩⟩)⟩, ⟨zK BK747.out⟩, ⟨zK BK748.out⟩, ⟨zK BK750.out⟩, ⟨zK BK760.out⟩, ⟨zK BK770.out⟩, ⟨zL HB.out⟩⟩
      case rest =>
       clear HC18
       try clear c7
       try clear c13
       try clear c13b0
       try clear c14
       try clear c14b0
       try clear z12_0 z12_1 z12_2
       try clear z22_0 z22_1 z22_2 z22_3 z22_4 z22_5 z22_6
       try clear z25_0 z25_1 z25_2
       try clear z26_0 z26_1 z26_2 z26_3 z26_4 z26_5 z26_6
       try clear z34_0 z34_1 z34_2
       try clear z38_0 z38_1 z38_2
       try clear z39_0 z39_1 z39_2 z39_3 z39_4 z39_5 z39_6
       try clear z48_0 z48_1 z48_2
       try clear z51_0 z51_1 z51_2
       try clear z52_0 z52_1 z52_2
       try clear z53_0 z53_1 z53_2
       try clear z9_0 z9_1 z9_2
       try clear y12_0 y12_1 y12_2
       try clear y22_0 y22_1 y22_2 y22_3 y22_4 y22_5 y22_6
       try clear y25_0 y25_1 y25_2
       try clear y26_0 y26_1 y26_2 y26_3 y26_4 y26_5 y26_6
       try clear y34_0 y34_1 y34_2
       try clear y38_0 y38_1 y38_2
       try clear y39_0 y39_1 y39_2 y39_3 y39_4 y39_5 y39_6
       try clear y48_0 y48_1 y48_2
       try clear y51_0 y51_1 y51_2
       try clear y52_0 y52_1 y52_2
       try clear y53_0 y53_1 y53_2
       try clear y9_0 y9_1 y9_2
       try clear hx749_0
       try clear hx749_1
       try clear hx749_2
       try clear hx749_3
       try clear hx749_4
       try clear hx749_5
       try clear hx749_6
       try clear p749
       try clear q749
       obtain ⟨kq, x80_17, rfl, HA, HJ17, HO_748001, HO_748002, HO_749001, HO_749002, HO_761001, HO_761002, HO_771001, HO_771002, BK747, BK748, BK750, BK760, BK770, HB⟩ := hcut
       cases kq with
       | zero => exact absurd HA.out (by simp [cooperagelaw16_LeasePlays.j2])
       | succ kj17 =>
        have H := HA.out
        clear HA
        simp only [cooperagelaw16_LeasePlays.j2] at H
        by_cases c57 : x80_17 = true
        ·subst c57
         rw [if_pos rfl] at H
         obtain rfl := Option.some.inj H
         go_wp2
         go_ret
         exact ⟨zE, zL HB.out⟩
        replace c57 := Bool.eq_false_iff.mpr c57
        subst c57
        rw [if_neg (show ¬ (false = true) by decide)] at H
        replace H := Option.bind_eq_some_iff.mp H
        obtain ⟨⟨t772, t773, t774, t775, t776, t777⟩, A580, H⟩ := H
        try dsimp only at H
        have A58 := ka A580
        clear A580
        replace H := Option.bind_eq_some_iff.mp H
        obtain ⟨⟨t779, t780, t781, t782, t783, t784⟩, A590, H⟩ := H
        try dsimp only at H
        have A59 := ka A590
        clear A590
        replace H := Option.bind_eq_some_iff.mp H
        obtain ⟨⟨t786, t787, t788, t789, t790⟩, A600, H⟩ := H
        try dsimp only at H
        have A60 := ka A600
        clear A600
        replace H := Option.bind_eq_some_iff.mp H
        obtain ⟨⟨t792, t793, t794, t795, t796⟩, A610, H⟩ := H
        try dsimp only at H
        have A61 := ka A610
        clear A610
        have HC62 := ka H
        clear H
        have hnb63 := NB747_748.out
        have hnc63 := NB748_747.out
        have hnb64 := NB747_750.out
        have hnc64 := NB750_747.out
        have hnb65 := NB747_760.out
        have hnc65 := NB760_747.out
        have hnb66 := NB747_770.out
        have hnc66 := NB770_747.out
        obtain ⟨z67_0, z67_1, z67_2, y67_0, y67_1, y67_2⟩ := zC3 BK747.out
        have hnb68 := NB750_748.out
        have hnc68 := NB748_750.out
        have hnb69 := NB750_760.out
        have hnc69 := NB760_750.out
        have hnb70 := NB750_770.out
        have hnc70 := NB770_750.out
        obtain ⟨z71_0, z71_1, z71_2, z71_3, z71_4, z71_5, z71_6, y71_0, y71_1, y71_2, y71_3, y71_4, y71_5, y71_6⟩ := zC7 BK750.out
        go_upto_region 22 with (first | ((with_reducible refine gate_callee (f := 9) rfl ?_); refine goesL_ (some 87) rfl rfl Tryd.func9 (by kernel_rfl) rfl #[.agg #[.int .i64 t751, .slice Ao35 t752.length co35, .slice Ao36 t755.length co36], .int .i64 ((rd_T34 l0 x7_2).f1), .string ((rd_T34 l0 x7_2).f5)] rfl zA ?_; (with_reducible refine (lease_Held.calls kj17 t751 _ _ t752 _ _ t755 ((rd_T34 l0 x7_2).f1) ((rd_T34 l0 x7_2).f5) t772 t773 t774 t775 t776 t777 _ ?side1 ?side2 ?side3 ?side4 A58.out).mono ?_); (case side1 => exact zCS (Kd.V_reads' HO_748001.out).2.2); (case side2 => exact (Kd.V_reads' HO_748001.out).2.1); (case side3 => exact zCS (Kd.V_reads' HO_748002.out).2.2); (case side4 => exact (Kd.V_reads' HO_748002.out).2.1); rintro e w72 ⟨rfl, hb⟩; refine ⟨_, rfl, ?_⟩; replace HO_748001 := ka (Kd.V_below (zV HO_748001.out) hb); replace HO_748002 := ka (Kd.V_below (zV HO_748002.out) hb); replace HO_749001 := ka (Kd.V_below (zV HO_749001.out) hb); replace HO_749002 := ka (Kd.V_below (zV HO_749002.out) hb); replace HO_761001 := ka (Kd.V_below (zV HO_761001.out) hb); replace HO_761002 := ka (Kd.V_below (zV HO_761002.out) hb); replace HO_771001 := ka (Kd.V_below (zV HO_771001.out) hb); replace HO_771002 := ka (Kd.V_below (zV HO_771002.out) hb); replace BK747 := ka (zB BK747.out hb); replace BK748 := ka (zB BK748.out hb); replace BK750 := ka (zB BK750.out hb); replace BK760 := ka (zB BK760.out hb); replace BK770 := ka (zB BK770.out hb); replace HB := ka (below_step (zL HB.out) hb); (try clear hb); (try clear hb2); (try clear hk); (try clear hi)) | ((with_reducible refine gate_dst (N := 16) rfl ?_); refine box_event ?hg (N := 16) ?hd (cs := #[.int .i64 0, .string ⟨#[]⟩, .bool false, .int .i64 0, .int .i64 0]) (t := 42) ?hr ?_; (case hd => rfl); (case hg => rfl); (case hr => (go_simp; try rfl)); intro gb778 hg w73 hbox hb; replace HO_748001 := ka (Kd.V_below (Kd.V_elderB (zV HO_748001.out) gb778 (Nat.le_of_eq hg.symm)) hb); replace HO_748002 := ka (Kd.V_below (Kd.V_elderB (zV HO_748002.out) gb778 (Nat.le_of_eq hg.symm)) hb); replace HO_749001 := ka (Kd.V_below (Kd.V_elderB (zV HO_749001.out) gb778 (Nat.le_of_eq hg.symm)) hb); replace HO_749002 := ka (Kd.V_below (Kd.V_elderB (zV HO_749002.out) gb778 (Nat.le_of_eq hg.symm)) hb); replace HO_761001 := ka (Kd.V_below (Kd.V_elderB (zV HO_761001.out) gb778 (Nat.le_of_eq hg.symm)) hb); replace HO_761002 := ka (Kd.V_below (Kd.V_elderB (zV HO_761002.out) gb778 (Nat.le_of_eq hg.symm)) hb); replace HO_771001 := ka (Kd.V_below (Kd.V_elderB (zV HO_771001.out) gb778 (Nat.le_of_eq hg.symm)) hb); replace HO_771002 := ka (Kd.V_below (Kd.V_elderB (zV HO_771002.out) gb778 (Nat.le_of_eq hg.symm)) hb); have BK778 := ka (hbox); have GW778 := ka (zG hg (zL HB.out)); replace HB := ka (below_step (zL HB.out) hb); have NB747_778 := ka (zNK hg BK747.out); have NB778_747 := ka (zOK hg BK747.out); replace BK747 := ka (zB BK747.out hb); have NB748_778 := ka (zNK hg BK748.out); have NB778_748 := ka (zOK hg BK748.out); replace BK748 := ka (zB BK748.out hb); have NB750_778 := ka (zNK hg BK750.out); have NB778_750 := ka (zOK hg BK750.out); replace BK750 := ka (zB BK750.out hb); have NB760_778 := ka (zNK hg BK760.out); have NB778_760 := ka (zOK hg BK760.out); replace BK760 := ka (zB BK760.out hb); have NB770_778 := ka (zNK hg BK770.out); have NB778_770 := ka (zOK hg BK770.out); replace BK770 := ka (zB BK770.out hb); clear hb hbox hg; have hnb74 := NB778_747.out; have hnc74 := NB747_778.out; have hnb75 := NB778_748.out; have hnc75 := NB748_778.out; have hnb76 := NB778_750.out; have hnc76 := NB750_778.out; have hnb77 := NB778_760.out; have hnc77 := NB760_778.out; have hnb78 := NB778_770.out; have hnc78 := NB770_778.out; obtain ⟨z79_0, z79_1, z79_2, z79_3, z79_4, y79_0, y79_1, y79_2, y79_3, y79_4⟩ := zC5 BK778.out; have hnb80 := NB748_760.out; have hnc80 := NB760_748.out; have hnb81 := NB748_770.out; have hnc81 := NB770_748.out; obtain ⟨z82_0, z82_1, z82_2, y82_0, y82_1, y82_2⟩ := zC3 BK748.out; obtain ⟨z83_0, z83_1, z83_2, z83_3, z83_4, z83_5, z83_6, y83_0, y83_1, y83_2, y83_3, y83_4, y83_5, y83_6⟩ := zC7 BK750.out) | ((with_reducible refine gate_callee (f := 10) rfl ?_); refine goesL_ (some 96) rfl rfl Tryd.func10 (by kernel_rfl) rfl #[.agg #[.int .i64 t761, .slice Ao49 t762.length co49, .slice Ao50 t765.length co50], .int .i64 ((rd_T34 l0 x7_2).f1), .string ((rd_T34 l0 x7_2).f5)] rfl zA ?_; (with_reducible refine (cooperageref16_Held.calls kj17 t761 _ _ t762 _ _ t765 ((rd_T34 l0 x7_2).f1) ((rd_T34 l0 x7_2).f5) t779 t780 t781 t782 t783 t784 _ ?side1 ?side2 ?side3 ?side4 A59.out).mono ?_); (case side1 => refine (Kd.V_reads' (e := 45) (base := w.heap.size) (ok := fun k_ => ((k_ ≠ gb747 ∧ (k_ ≠ gb748 ∧ (k_ ≠ gb750 ∧ (k_ ≠ gb760 ∧ k_ ≠ gb770)))) ∧ k_ ≠ gb778)) (n := t762.length) (c := co49) ?_).2.2; exact (zMV HO_749001.out (g := gb778) (fun _ hk => hk.2))); (case side2 => exact (Kd.V_reads' HO_749001.out).2.1); (case side3 => refine (Kd.V_reads' (e := 52) (base := w.heap.size) (ok := fun k_ => ((k_ ≠ gb747 ∧ (k_ ≠ gb748 ∧ (k_ ≠ gb750 ∧ (k_ ≠ gb760 ∧ k_ ≠ gb770)))) ∧ k_ ≠ gb778)) (n := t765.length) (c := co50) ?_).2.2; exact (zMV HO_749002.out (g := gb778) (fun _ hk => hk.2))); (case side4 => exact (Kd.V_reads' HO_749002.out).2.1); rintro e w84 ⟨rfl, hb⟩; refine ⟨_, rfl, ?_⟩; replace HO_748001 := ka (Kd.V_below (zMV HO_748001.out (g := gb778) (fun _ hk => hk.2)) hb); replace HO_748002 := ka (Kd.V_below (zMV HO_748002.out (g := gb778) (fun _ hk => hk.2)) hb); replace HO_749001 := ka (Kd.V_below (zMV HO_749001.out (g := gb778) (fun _ hk => hk.2)) hb); replace HO_749002 := ka (Kd.V_below (zMV HO_749002.out (g := gb778) (fun _ hk => hk.2)) hb); replace HO_761001 := ka (Kd.V_below (zMV HO_761001.out (g := gb778) (fun _ hk => hk.2)) hb); replace HO_761002 := ka (Kd.V_below (zMV HO_761002.out (g := gb778) (fun _ hk => hk.2)) hb); replace HO_771001 := ka (Kd.V_below (zMV HO_771001.out (g := gb778) (fun _ hk => hk.2)) hb); replace HO_771002 := ka (Kd.V_below (zMV HO_771002.out (g := gb778) (fun _ hk => hk.2)) hb); replace BK747 := ka (zB BK747.out hb); replace BK748 := ka (zB BK748.out hb); replace BK750 := ka (zB BK750.out hb); replace BK760 := ka (zB BK760.out hb); replace BK770 := ka (zB BK770.out hb); replace BK778 := ka (blk_below (g := gb778) (o := .cells #[.int .i64 t772, .string t773, .bool t774, .int .i64 t775, .int .i64 t776] 42 (0, 0)) (zP5 BK778.out) hb); replace HB := ka (below_step (zL HB.out) hb); (try clear hb); (try clear hb2); (try clear hk); (try clear hi)) | ((with_reducible refine gate_dst (N := 18) rfl ?_); refine box_event ?hg (N := 18) ?hd (cs := #[.int .i64 0, .string ⟨#[]⟩, .bool false, .int .i64 0, .int .i64 0]) (t := 45) ?hr ?_; (case hd => rfl); (case hg => rfl); (case hr => (go_simp; try rfl)); intro gb785 hg w85 hbox hb; replace HO_748001 := ka (Kd.V_below (Kd.V_elderB (zV HO_748001.out) gb785 (Nat.le_of_eq hg.symm)) hb); replace HO_748002 := ka (Kd.V_below (Kd.V_elderB (zV HO_748002.out) gb785 (Nat.le_of_eq hg.symm)) hb); replace HO_749001 := ka (Kd.V_below (Kd.V_elderB (zV HO_749001.out) gb785 (Nat.le_of_eq hg.symm)) hb); replace HO_749002 := ka (Kd.V_below (Kd.V_elderB (zV HO_749002.out) gb785 (Nat.le_of_eq hg.symm)) hb); replace HO_761001 := ka (Kd.V_below (Kd.V_elderB (zV HO_761001.out) gb785 (Nat.le_of_eq hg.symm)) hb); replace HO_761002 := ka (Kd.V_below (Kd.V_elderB (zV HO_761002.out) gb785 (Nat.le_of_eq hg.symm)) hb); replace HO_771001 := ka (Kd.V_below (Kd.V_elderB (zV HO_771001.out) gb785 (Nat.le_of_eq hg.symm)) hb); replace HO_771002 := ka (Kd.V_below (Kd.V_elderB (zV HO_771002.out) gb785 (Nat.le_of_eq hg.symm)) hb); have BK785 := ka (hbox); have GW785 := ka (zG hg (zL HB.out)); replace HB := ka (below_step (zL HB.out) hb); have NB747_785 := ka (zNK hg BK747.out); have NB785_747 := ka (zOK hg BK747.out); replace BK747 := ka (zB BK747.out hb); have NB748_785 := ka (zNK hg BK748.out); have NB785_748 := ka (zOK hg BK748.out); replace BK748 := ka (zB BK748.out hb); have NB750_785 := ka (zNK hg BK750.out); have NB785_750 := ka (zOK hg BK750.out); replace BK750 := ka (zB BK750.out hb); have NB760_785 := ka (zNK hg BK760.out); have NB785_760 := ka (zOK hg BK760.out); replace BK760 := ka (zB BK760.out hb); have NB770_785 := ka (zNK hg BK770.out); have NB785_770 := ka (zOK hg BK770.out); replace BK770 := ka (zB BK770.out hb); have NB778_785 := ka (zNK hg BK778.out); have NB785_778 := ka (zOK hg BK778.out); replace BK778 := ka (zB BK778.out hb); clear hb hbox hg; have hnb86 := NB785_747.out; have hnc86 := NB747_785.out; have hnb87 := NB785_748.out; have hnc87 := NB748_785.out; have hnb88 := NB785_750.out; have hnc88 := NB750_785.out; have hnb89 := NB785_760.out; have hnc89 := NB760_785.out; have hnb90 := NB785_770.out; have hnc90 := NB770_785.out; have hnb91 := NB785_778.out; have hnc91 := NB778_785.out; obtain ⟨z92_0, z92_1, z92_2, z92_3, z92_4, y92_0, y92_1, y92_2, y92_3, y92_4⟩ := zC5 BK785.out; obtain ⟨z93_0, z93_1, z93_2, y93_0, y93_1, y93_2⟩ := zC3 BK747.out; obtain ⟨z94_0, z94_1, z94_2, z94_3, z94_4, z94_5, z94_6, y94_0, y94_1, y94_2, y94_3, y94_4, y94_5, y94_6⟩ := zC7 BK750.out) | ((with_reducible refine gate_callee (f := 11) rfl ?_); refine goesL_ (some 103) rfl rfl Tryd.func11 (by kernel_rfl) rfl #[.agg #[.int .i64 t751, .slice Ao35 t752.length co35, .slice Ao36 t755.length co36], .int .i64 ((rd_T34 l0 x7_2).f1)] rfl zA ?_; (with_reducible refine (lease_Waits.calls kj17 t751 _ _ t752 _ _ t755 ((rd_T34 l0 x7_2).f1) t786 t787 t788 t789 t790 _ ?side1 ?side2 ?side3 ?side4 A60.out).mono ?_); (case side1 => refine (Kd.V_reads' (e := 42) (base := w.heap.size) (ok := fun k_ => (((k_ ≠ gb747 ∧ (k_ ≠ gb748 ∧ (k_ ≠ gb750 ∧ (k_ ≠ gb760 ∧ k_ ≠ gb770)))) ∧ k_ ≠ gb778) ∧ k_ ≠ gb785)) (n := t752.length) (c := co35) ?_).2.2; exact (zMV HO_748001.out (g := gb785) (fun _ hk => hk.2))); (case side2 => exact (Kd.V_reads' HO_748001.out).2.1); (case side3 => refine (Kd.V_reads' (e := 49) (base := w.heap.size) (ok := fun k_ => (((k_ ≠ gb747 ∧ (k_ ≠ gb748 ∧ (k_ ≠ gb750 ∧ (k_ ≠ gb760 ∧ k_ ≠ gb770)))) ∧ k_ ≠ gb778) ∧ k_ ≠ gb785)) (n := t755.length) (c := co36) ?_).2.2; exact (zMV HO_748002.out (g := gb785) (fun _ hk => hk.2))); (case side4 => exact (Kd.V_reads' HO_748002.out).2.1); rintro e w95 ⟨rfl, hb⟩; refine ⟨_, rfl, ?_⟩; replace HO_748001 := ka (Kd.V_below (zMV HO_748001.out (g := gb785) (fun _ hk => hk.2)) hb); replace HO_748002 := ka (Kd.V_below (zMV HO_748002.out (g := gb785) (fun _ hk => hk.2)) hb); replace HO_749001 := ka (Kd.V_below (zMV HO_749001.out (g := gb785) (fun _ hk => hk.2)) hb); replace HO_749002 := ka (Kd.V_below (zMV HO_749002.out (g := gb785) (fun _ hk => hk.2)) hb); replace HO_761001 := ka (Kd.V_below (zMV HO_761001.out (g := gb785) (fun _ hk => hk.2)) hb); replace HO_761002 := ka (Kd.V_below (zMV HO_761002.out (g := gb785) (fun _ hk => hk.2)) hb); replace HO_771001 := ka (Kd.V_below (zMV HO_771001.out (g := gb785) (fun _ hk => hk.2)) hb); replace HO_771002 := ka (Kd.V_below (zMV HO_771002.out (g := gb785) (fun _ hk => hk.2)) hb); replace BK747 := ka (zB BK747.out hb); replace BK748 := ka (zB BK748.out hb); replace BK750 := ka (zB BK750.out hb); replace BK760 := ka (zB BK760.out hb); replace BK770 := ka (zB BK770.out hb); replace BK778 := ka (zB BK778.out hb); replace BK785 := ka (blk_below (g := gb785) (o := .cells #[.int .i64 t779, .string t780, .bool t781, .int .i64 t782, .int .i64 t783] 45 (0, 0)) (zP5 BK785.out) hb); replace HB := ka (below_step (zL HB.out) hb); (try clear hb); (try clear hb2); (try clear hk); (try clear hi)) | ((with_reducible refine gate_dst (N := 20) rfl ?_); refine box_event ?hg (N := 20) ?hd (cs := #[.int .i64 0, .string ⟨#[]⟩, .bool false, .int .i64 0]) (t := 49) ?hr ?_; (case hd => rfl); (case hg => rfl); (case hr => (go_simp; try rfl)); intro gb791 hg w96 hbox hb; replace HO_748001 := ka (Kd.V_below (Kd.V_elderB (zV HO_748001.out) gb791 (Nat.le_of_eq hg.symm)) hb); replace HO_748002 := ka (Kd.V_below (Kd.V_elderB (zV HO_748002.out) gb791 (Nat.le_of_eq hg.symm)) hb); replace HO_749001 := ka (Kd.V_below (Kd.V_elderB (zV HO_749001.out) gb791 (Nat.le_of_eq hg.symm)) hb); replace HO_749002 := ka (Kd.V_below (Kd.V_elderB (zV HO_749002.out) gb791 (Nat.le_of_eq hg.symm)) hb); replace HO_761001 := ka (Kd.V_below (Kd.V_elderB (zV HO_761001.out) gb791 (Nat.le_of_eq hg.symm)) hb); replace HO_761002 := ka (Kd.V_below (Kd.V_elderB (zV HO_761002.out) gb791 (Nat.le_of_eq hg.symm)) hb); replace HO_771001 := ka (Kd.V_below (Kd.V_elderB (zV HO_771001.out) gb791 (Nat.le_of_eq hg.symm)) hb); replace HO_771002 := ka (Kd.V_below (Kd.V_elderB (zV HO_771002.out) gb791 (Nat.le_of_eq hg.symm)) hb); have BK791 := ka (hbox); have GW791 := ka (zG hg (zL HB.out)); replace HB := ka (below_step (zL HB.out) hb); have NB747_791 := ka (zNK hg BK747.out); have NB791_747 := ka (zOK hg BK747.out); replace BK747 := ka (zB BK747.out hb); have NB748_791 := ka (zNK hg BK748.out); have NB791_748 := ka (zOK hg BK748.out); replace BK748 := ka (zB BK748.out hb); have NB750_791 := ka (zNK hg BK750.out); have NB791_750 := ka (zOK hg BK750.out); replace BK750 := ka (zB BK750.out hb); have NB760_791 := ka (zNK hg BK760.out); have NB791_760 := ka (zOK hg BK760.out); replace BK760 := ka (zB BK760.out hb); have NB770_791 := ka (zNK hg BK770.out); have NB791_770 := ka (zOK hg BK770.out); replace BK770 := ka (zB BK770.out hb); have NB778_791 := ka (zNK hg BK778.out); have NB791_778 := ka (zOK hg BK778.out); replace BK778 := ka (zB BK778.out hb); have NB785_791 := ka (zNK hg BK785.out); have NB791_785 := ka (zOK hg BK785.out); replace BK785 := ka (zB BK785.out hb); clear hb hbox hg; have hnb97 := NB791_747.out; have hnc97 := NB747_791.out; have hnb98 := NB791_748.out; have hnc98 := NB748_791.out; have hnb99 := NB791_750.out; have hnc99 := NB750_791.out; have hnb100 := NB791_760.out; have hnc100 := NB760_791.out; have hnb101 := NB791_770.out; have hnc101 := NB770_791.out; have hnb102 := NB791_778.out; have hnc102 := NB778_791.out; have hnb103 := NB791_785.out; have hnc103 := NB785_791.out; obtain ⟨z104_0, z104_1, z104_2, z104_3, y104_0, y104_1, y104_2, y104_3⟩ := zC4 BK791.out; obtain ⟨z105_0, z105_1, z105_2, y105_0, y105_1, y105_2⟩ := zC3 BK748.out; obtain ⟨z106_0, z106_1, z106_2, z106_3, z106_4, z106_5, z106_6, y106_0, y106_1, y106_2, y106_3, y106_4, y106_5, y106_6⟩ := zC7 BK750.out) | ((with_reducible refine gate_callee (f := 12) rfl ?_); refine goesL_ (some 110) rfl rfl Tryd.func12 (by kernel_rfl) rfl #[.agg #[.int .i64 t761, .slice Ao49 t762.length co49, .slice Ao50 t765.length co50], .int .i64 ((rd_T34 l0 x7_2).f1)] rfl zA ?_; (with_reducible refine (cooperageref16_Waits.calls kj17 t761 _ _ t762 _ _ t765 ((rd_T34 l0 x7_2).f1) t792 t793 t794 t795 t796 _ ?side1 ?side2 ?side3 ?side4 A61.out).mono ?_); (case side1 => refine (Kd.V_reads' (e := 45) (base := w.heap.size) (ok := fun k_ => ((((k_ ≠ gb747 ∧ (k_ ≠ gb748 ∧ (k_ ≠ gb750 ∧ (k_ ≠ gb760 ∧ k_ ≠ gb770)))) ∧ k_ ≠ gb778) ∧ k_ ≠ gb785) ∧ k_ ≠ gb791)) (n := t762.length) (c := co49) ?_).2.2; exact (zMV HO_749001.out (g := gb791) (fun _ hk => hk.2))); (case side2 => exact (Kd.V_reads' HO_749001.out).2.1); (case side3 => refine (Kd.V_reads' (e := 52) (base := w.heap.size) (ok := fun k_ => ((((k_ ≠ gb747 ∧ (k_ ≠ gb748 ∧ (k_ ≠ gb750 ∧ (k_ ≠ gb760 ∧ k_ ≠ gb770)))) ∧ k_ ≠ gb778) ∧ k_ ≠ gb785) ∧ k_ ≠ gb791)) (n := t765.length) (c := co50) ?_).2.2; exact (zMV HO_749002.out (g := gb791) (fun _ hk => hk.2))); (case side4 => exact (Kd.V_reads' HO_749002.out).2.1); rintro e w107 ⟨rfl, hb⟩; refine ⟨_, rfl, ?_⟩; replace HO_748001 := ka (Kd.V_below (zMV HO_748001.out (g := gb791) (fun _ hk => hk.2)) hb); replace HO_748002 := ka (Kd.V_below (zMV HO_748002.out (g := gb791) (fun _ hk => hk.2)) hb); replace HO_749001 := ka (Kd.V_below (zMV HO_749001.out (g := gb791) (fun _ hk => hk.2)) hb); replace HO_749002 := ka (Kd.V_below (zMV HO_749002.out (g := gb791) (fun _ hk => hk.2)) hb); replace HO_761001 := ka (Kd.V_below (zMV HO_761001.out (g := gb791) (fun _ hk => hk.2)) hb); replace HO_761002 := ka (Kd.V_below (zMV HO_761002.out (g := gb791) (fun _ hk => hk.2)) hb); replace HO_771001 := ka (Kd.V_below (zMV HO_771001.out (g := gb791) (fun _ hk => hk.2)) hb); replace HO_771002 := ka (Kd.V_below (zMV HO_771002.out (g := gb791) (fun _ hk => hk.2)) hb); replace BK747 := ka (zB BK747.out hb); replace BK748 := ka (zB BK748.out hb); replace BK750 := ka (zB BK750.out hb); replace BK760 := ka (zB BK760.out hb); replace BK770 := ka (zB BK770.out hb); replace BK778 := ka (zB BK778.out hb); replace BK785 := ka (zB BK785.out hb); replace BK791 := ka (blk_below (g := gb791) (o := .cells #[.int .i64 t786, .string t787, .bool t788, .int .i64 t789] 49 (0, 0)) (zP4 BK791.out) hb); replace HB := ka (below_step (zL HB.out) hb); (try clear hb); (try clear hb2); (try clear hk); (try clear hi)) | ((with_reducible refine gate_dst (N := 22) rfl ?_); refine box_event ?hg (N := 22) ?hd (cs := #[.int .i64 0, .string ⟨#[]⟩, .bool false, .int .i64 0]) (t := 52) ?hr ?_; (case hd => rfl); (case hg => rfl); (case hr => (go_simp; try rfl)); intro gb797 hg w108 hbox hb; replace HO_748001 := ka (Kd.V_below (Kd.V_elderB (zV HO_748001.out) gb797 (Nat.le_of_eq hg.symm)) hb); replace HO_748002 := ka (Kd.V_below (Kd.V_elderB (zV HO_748002.out) gb797 (Nat.le_of_eq hg.symm)) hb); replace HO_749001 := ka (Kd.V_below (Kd.V_elderB (zV HO_749001.out) gb797 (Nat.le_of_eq hg.symm)) hb); replace HO_749002 := ka (Kd.V_below (Kd.V_elderB (zV HO_749002.out) gb797 (Nat.le_of_eq hg.symm)) hb); replace HO_761001 := ka (Kd.V_below (Kd.V_elderB (zV HO_761001.out) gb797 (Nat.le_of_eq hg.symm)) hb); replace HO_761002 := ka (Kd.V_below (Kd.V_elderB (zV HO_761002.out) gb797 (Nat.le_of_eq hg.symm)) hb); replace HO_771001 := ka (Kd.V_below (Kd.V_elderB (zV HO_771001.out) gb797 (Nat.le_of_eq hg.symm)) hb); replace HO_771002 := ka (Kd.V_below (Kd.V_elderB (zV HO_771002.out) gb797 (Nat.le_of_eq hg.symm)) hb); have BK797 := ka (hbox); have GW797 := ka (zG hg (zL HB.out)); replace HB := ka (below_step (zL HB.out) hb); have NB747_797 := ka (zNK hg BK747.out); have NB797_747 := ka (zOK hg BK747.out); replace BK747 := ka (zB BK747.out hb); have NB748_797 := ka (zNK hg BK748.out); have NB797_748 := ka (zOK hg BK748.out); replace BK748 := ka (zB BK748.out hb); have NB750_797 := ka (zNK hg BK750.out); have NB797_750 := ka (zOK hg BK750.out); replace BK750 := ka (zB BK750.out hb); have NB760_797 := ka (zNK hg BK760.out); have NB797_760 := ka (zOK hg BK760.out); replace BK760 := ka (zB BK760.out hb); have NB770_797 := ka (zNK hg BK770.out); have NB797_770 := ka (zOK hg BK770.out); replace BK770 := ka (zB BK770.out hb); have NB778_797 := ka (zNK hg BK778.out); have NB797_778 := ka (zOK hg BK778.out); replace BK778 := ka (zB BK778.out hb); have NB785_797 := ka (zNK hg BK785.out); have NB797_785 := ka (zOK hg BK785.out); replace BK785 := ka (zB BK785.out hb); have NB791_797 := ka (zNK hg BK791.out); have NB797_791 := ka (zOK hg BK791.out); replace BK791 := ka (zB BK791.out hb); clear hb hbox hg; have hnb109 := NB797_747.out; have hnc109 := NB747_797.out; have hnb110 := NB797_748.out; have hnc110 := NB748_797.out; have hnb111 := NB797_750.out; have hnc111 := NB750_797.out; have hnb112 := NB797_760.out; have hnc112 := NB760_797.out; have hnb113 := NB797_770.out; have hnc113 := NB770_797.out; have hnb114 := NB797_778.out; have hnc114 := NB778_797.out; have hnb115 := NB797_785.out; have hnc115 := NB785_797.out; have hnb116 := NB797_791.out; have hnc116 := NB791_797.out; obtain ⟨z117_0, z117_1, z117_2, z117_3, y117_0, y117_1, y117_2, y117_3⟩ := zC4 BK797.out))
        (try simp only [Act.put, List.setIfInBounds_toArray, List.set_cons_zero, List.set_cons_succ])
        go_cut [167] (fun v167 wc => ∃ (kq : Nat) (x167_61 : Bool), v167 = .bool x167_61 ∧ Aside0 (cooperagelaw16_LeasePlays.j3 kq l0 x7_2 x167_61 t751 t752 t755 t761 t762 t765 = some r) ∧ Aside0 (kq ≤ kj17) ∧ Aside0 (Kd.V k42 42 wc w.heap.size (fun k_ => k_ ≠ gb747 ∧ k_ ≠ gb748 ∧ k_ ≠ gb750 ∧ k_ ≠ gb760 ∧ k_ ≠ gb770 ∧ k_ ≠ gb778 ∧ k_ ≠ gb785 ∧ k_ ≠ gb791 ∧ k_ ≠ gb797) (.slice Ao35 t752.length co35) t752) ∧ Aside0 (Kd.V k49 49 wc w.heap.size (fun k_ => k_ ≠ gb747 ∧ k_ ≠ gb748 ∧ k_ ≠ gb750 ∧ k_ ≠ gb760 ∧ k_ ≠ gb770 ∧ k_ ≠ gb778 ∧ k_ ≠ gb785 ∧ k_ ≠ gb791 ∧ k_ ≠ gb797) (.slice Ao36 t755.length co36) t755) ∧ Aside0 (Kd.V k45 45 wc w.heap.size (fun k_ => k_ ≠ gb747 ∧ k_ ≠ gb748 ∧ k_ ≠ gb750 ∧ k_ ≠ gb760 ∧ k_ ≠ gb770 ∧ k_ ≠ gb778 ∧ k_ ≠ gb785 ∧ k_ ≠ gb791 ∧ k_ ≠ gb797) (.slice Ao49 t762.length co49) t762) ∧ Aside0 (Kd.V k52 52 wc w.heap.size (fun k_ => k_ ≠ gb747 ∧ k_ ≠ gb748 ∧ k_ ≠ gb750 ∧ k_ ≠ gb760 ∧ k_ ≠ gb770 ∧ k_ ≠ gb778 ∧ k_ ≠ gb785 ∧ k_ ≠ gb791 ∧ k_ ≠ gb797) (.slice Ao50 t765.length co50) t765) ∧ Aside0 (Kd.V k42 42 wc w.heap.size (fun k_ => k_ ≠ gb747 ∧ k_ ≠ gb748 ∧ k_ ≠ gb750 ∧ k_ ≠ gb760 ∧ k_ ≠ gb770 ∧ k_ ≠ gb778 ∧ k_ ≠ gb785 ∧ k_ ≠ gb791 ∧ k_ ≠ gb797) (.slice Ao35 t752.length co35) t752) ∧ Aside0 (Kd.V k49 49 wc w.heap.size (fun k_ => k_ ≠ gb747 ∧ k_ ≠ gb748 ∧ k_ ≠ gb750 ∧ k_ ≠ gb760 ∧ k_ ≠ gb770 ∧ k_ ≠ gb778 ∧ k_ ≠ gb785 ∧ k_ ≠ gb791 ∧ k_ ≠ gb797) (.slice Ao36 t755.length co36) t755) ∧ Aside0 (Kd.V k45 45 wc w.heap.size (fun k_ => k_ ≠ gb747 ∧ k_ ≠ gb748 ∧ k_ ≠ gb750 ∧ k_ ≠ gb760 ∧ k_ ≠ gb770 ∧ k_ ≠ gb778 ∧ k_ ≠ gb785 ∧ k_ ≠ gb791 ∧ k_ ≠ gb797) (.slice Ao49 t762.length co49) t762) ∧ Aside0 (Kd.V k52 52 wc w.heap.size (fun k_ => k_ ≠ gb747 ∧ k_ ≠ gb748 ∧ k_ ≠ gb750 ∧ k_ ≠ gb760 ∧ k_ ≠ gb770 ∧ k_ ≠ gb778 ∧ k_ ≠ gb785 ∧ k_ ≠ gb791 ∧ k_ ≠ gb797) (.slice Ao50 t765.length co50) t765) ∧ Aside0 (wc.heap[gb747]? = some (.cells #[.int .i64 t751, (.slice Ao35 t752.length co35), (.slice Ao36 t755.length co36)] 28 (0, 0))) ∧ Aside0 (wc.heap[gb748]? = some (.cells #[.int .i64 t761, (.slice Ao49 t762.length co49), (.slice Ao50 t765.length co50)] 32 (0, 0))) ∧ Aside0 (wc.heap[gb750]? = some (.cells #[.int .i64 ((rd_T34 l0 x7_2).f0), .int .i64 ((rd_T34 l0 x7_2).f1), .int .i64 ((rd_T34 l0 x7_2).f2), .int .i64 ((rd_T34 l0 x7_2).f3), .int .i64 ((rd_T34 l0 x7_2).f4), .string ((rd_T34 l0 x7_2).f5), .bool ((rd_T34 l0 x7_2).f6)] 34 (0, 0))) ∧ Aside0 (wc.heap[gb760]? = some (.cells #[.int .i64 t751, (.slice Ao35 t752.length co35), (.slice Ao36 t755.length co36)] 28 (0, 0))) ∧ Aside0 (wc.heap[gb770]? = some (.cells #[.int .i64 t761, (.slice Ao49 t762.length co49), (.slice Ao50 t765.length co50)] 32 (0, 0))) ∧ Aside0 (wc.heap[gb778]? = some (.cells #[.int .i64 t772, .string t773, .bool t774, .int .i64 t775, .int .i64 t776] 42 (0, 0))) ∧ Aside0 (wc.heap[gb785]? = some (.cells #[.int .i64 t779, .string t780, .bool t781, .int .i64 t782, .int .i64 t783] 45 (0, 0))) ∧ Aside0 (wc.heap[gb791]? = some (.cells #[.int .i64 t786, .string t787, .bool t788, .int .i64 t789] 49 (0, 0))) ∧ Aside0 (wc.heap[gb797]? = some (.cells #[.int .i64 t792, .string t793, .bool t794, .int .i64 t795] 52 (0, 0))) ∧ Aside0 (Below w.heap.size w wc))
        case first =>
         try go_wp2
         replace HO_748001 : Aside0 (Kd.V k42 42 ((((w108.setCell ⟨gb797, 0, none⟩ (.int .i64 t792)).setCell ⟨gb797, 1, none⟩ (.string t793)).setCell ⟨gb797, 2, none⟩ (.bool t794)).setCell ⟨gb797, 3, none⟩ (.int .i64 t795)) w.heap.size (fun k_ => k_ ≠ gb747 ∧ k_ ≠ gb748 ∧ k_ ≠ gb750 ∧ k_ ≠ gb760 ∧ k_ ≠ gb770 ∧ k_ ≠ gb778 ∧ k_ ≠ gb785 ∧ k_ ≠ gb791 ∧ k_ ≠ gb797) (.slice Ao35 t752.length co35) t752) := ⟨by (with_reducible repeat (first | apply Kd.V_alloc | apply Kd.V_drewN | apply Kd.V_drew)); exact Kd.V_mono (zNV HO_748001.out (g := gb797) (fun _ hk => hk.2)) (fun _ hk => ⟨hk.1.1.1.1.1.1, ⟨hk.1.1.1.1.1.2.1, ⟨hk.1.1.1.1.1.2.2.1, ⟨hk.1.1.1.1.1.2.2.2.1, ⟨hk.1.1.1.1.1.2.2.2.2, ⟨hk.1.1.1.1.2, ⟨hk.1.1.1.2, ⟨hk.1.1.2, hk.1.2⟩⟩⟩⟩⟩⟩⟩⟩)⟩
         replace HO_748002 : Aside0 (Kd.V k49 49 ((((w108.setCell ⟨gb797, 0, none⟩ (.int .i64 t792)).setCell ⟨gb797, 1, none⟩ (.string t793)).setCell ⟨gb797, 2, none⟩ (.bool t794)).setCell ⟨gb797, 3, none⟩ (.int .i64 t795)) w.heap.size (fun k_ => k_ ≠ gb747 ∧ k_ ≠ gb748 ∧ k_ ≠ gb750 ∧ k_ ≠ gb760 ∧ k_ ≠ gb770 ∧ k_ ≠ gb778 ∧ k_ ≠ gb785 ∧ k_ ≠ gb791 ∧ k_ ≠ gb797) (.slice Ao36 t755.length co36) t755) := ⟨by (with_reducible repeat (first | apply Kd.V_alloc | apply Kd.V_drewN | apply Kd.V_drew)); exact Kd.V_mono (zNV HO_748002.out (g := gb797) (fun _ hk => hk.2)) (fun _ hk => ⟨hk.1.1.1.1.1.1, ⟨hk.1.1.1.1.1.2.1, ⟨hk.1.1.1.1.1.2.2.1, ⟨hk.1.1.1.1.1.2.2.2.1, ⟨hk.1.1.1.1.1.2.2.2.2, ⟨hk.1.1.1.1.2, ⟨hk.1.1.1.2, ⟨hk.1.1.2, hk.1.2⟩⟩⟩⟩⟩⟩⟩⟩)⟩
         replace HO_749001 : Aside0 (Kd.V k45 45 ((((w108.setCell ⟨gb797, 0, none⟩ (.int .i64 t792)).setCell ⟨gb797, 1, none⟩ (.string t793)).setCell ⟨gb797, 2, none⟩ (.bool t794)).setCell ⟨gb797, 3, none⟩ (.int .i64 t795)) w.heap.size (fun k_ => k_ ≠ gb747 ∧ k_ ≠ gb748 ∧ k_ ≠ gb750 ∧ k_ ≠ gb760 ∧ k_ ≠ gb770 ∧ k_ ≠ gb778 ∧ k_ ≠ gb785 ∧ k_ ≠ gb791 ∧ k_ ≠ gb797) (.slice Ao49 t762.length co49) t762) := ⟨by (with_reducible repeat (first | apply Kd.V_alloc | apply Kd.V_drewN | apply Kd.V_drew)); exact Kd.V_mono (zNV HO_749001.out (g := gb797) (fun _ hk => hk.2)) (fun _ hk => ⟨hk.1.1.1.1.1.1, ⟨hk.1.1.1.1.1.2.1, ⟨hk.1.1.1.1.1.2.2.1, ⟨hk.1.1.1.1.1.2.2.2.1, ⟨hk.1.1.1.1.1.2.2.2.2, ⟨hk.1.1.1.1.2, ⟨hk.1.1.1.2, ⟨hk.1.1.2, hk.1.2⟩⟩⟩⟩⟩⟩⟩⟩)⟩
         replace HO_749002 : Aside0 (Kd.V k52 52 ((((w108.setCell ⟨gb797, 0, none⟩ (.int .i64 t792)).setCell ⟨gb797, 1, none⟩ (.string t793)).setCell ⟨gb797, 2, none⟩ (.bool t794)).setCell ⟨gb797, 3, none⟩ (.int .i64 t795)) w.heap.size (fun k_ => k_ ≠ gb747 ∧ k_ ≠ gb748 ∧ k_ ≠ gb750 ∧ k_ ≠ gb760 ∧ k_ ≠ gb770 ∧ k_ ≠ gb778 ∧ k_ ≠ gb785 ∧ k_ ≠ gb791 ∧ k_ ≠ gb797) (.slice Ao50 t765.length co50) t765) := ⟨by (with_reducible repeat (first | apply Kd.V_alloc | apply Kd.V_drewN | apply Kd.V_drew)); exact Kd.V_mono (zNV HO_749002.out (g := gb797) (fun _ hk => hk.2)) (fun _ hk => ⟨hk.1.1.1.1.1.1, ⟨hk.1.1.1.1.1.2.1, ⟨hk.1.1.1.1.1.2.2.1, ⟨hk.1.1.1.1.1.2.2.2.1, ⟨hk.1.1.1.1.1.2.2.2.2, ⟨hk.1.1.1.1.2, ⟨hk.1.1.1.2, ⟨hk.1.1.2, hk.1.2⟩⟩⟩⟩⟩⟩⟩⟩)⟩
         replace HO_761001 : Aside0 (Kd.V k42 42 ((((w108.setCell ⟨gb797, 0, none⟩ (.int .i64 t792)).setCell ⟨gb797, 1, none⟩ (.string t793)).setCell ⟨gb797, 2, none⟩ (.bool t794)).setCell ⟨gb797, 3, none⟩ (.int .i64 t795)) w.heap.size (fun k_ => k_ ≠ gb747 ∧ k_ ≠ gb748 ∧ k_ ≠ gb750 ∧ k_ ≠ gb760 ∧ k_ ≠ gb770 ∧ k_ ≠ gb778 ∧ k_ ≠ gb785 ∧ k_ ≠ gb791 ∧ k_ ≠ gb797) (.slice Ao35 t752.length co35) t752) := ⟨by (with_reducible repeat (first | apply Kd.V_alloc | apply Kd.V_drewN | apply Kd.V_drew)); exact Kd.V_mono (zNV HO_761001.out (g := gb797) (fun _ hk => hk.2)) (fun _ hk => ⟨hk.1.1.1.1.1.1, ⟨hk.1.1.1.1.1.2.1, ⟨hk.1.1.1.1.1.2.2.1, ⟨hk.1.1.1.1.1.2.2.2.1, ⟨hk.1.1.1.1.1.2.2.2.2, ⟨hk.1.1.1.1.2, ⟨hk.1.1.1.2, ⟨hk.1.1.2, hk.1.2⟩⟩⟩⟩⟩⟩⟩⟩)⟩
         replace HO_761002 : Aside0 (Kd.V k49 49 ((((w108.setCell ⟨gb797, 0, none⟩ (.int .i64 t792)).setCell ⟨gb797, 1, none⟩ (.string t793)).setCell ⟨gb797, 2, none⟩ (.bool t794)).setCell ⟨gb797, 3, none⟩ (.int .i64 t795)) w.heap.size (fun k_ => k_ ≠ gb747 ∧ k_ ≠ gb748 ∧ k_ ≠ gb750 ∧ k_ ≠ gb760 ∧ k_ ≠ gb770 ∧ k_ ≠ gb778 ∧ k_ ≠ gb785 ∧ k_ ≠ gb791 ∧ k_ ≠ gb797) (.slice Ao36 t755.length co36) t755) := ⟨by (with_reducible repeat (first | apply Kd.V_alloc | apply Kd.V_drewN | apply Kd.V_drew)); exact Kd.V_mono (zNV HO_761002.out (g := gb797) (fun _ hk => hk.2)) (fun _ hk => ⟨hk.1.1.1.1.1.1, ⟨hk.1.1.1.1.1.2.1, ⟨hk.1.1.1.1.1.2.2.1, ⟨hk.1.1.1.1.1.2.2.2.1, ⟨hk.1.1.1.1.1.2.2.2.2, ⟨hk.1.1.1.1.2, ⟨hk.1.1.1.2, ⟨hk.1.1.2, hk.1.2⟩⟩⟩⟩⟩⟩⟩⟩)⟩
         replace HO_771001 : Aside0 (Kd.V k45 45 ((((w108.setCell ⟨gb797, 0, none⟩ (.int .i64 t792)).setCell ⟨gb797, 1, none⟩ (.string t793)).setCell ⟨gb797, 2, none⟩ (.bool t794)).setCell ⟨gb797, 3, none⟩ (.int .i64 t795)) w.heap.size (fun k_ => k_ ≠ gb747 ∧ k_ ≠ gb748 ∧ k_ ≠ gb750 ∧ k_ ≠ gb760 ∧ k_ ≠ gb770 ∧ k_ ≠ gb778 ∧ k_ ≠ gb785 ∧ k_ ≠ gb791 ∧ k_ ≠ gb797) (.slice Ao49 t762.length co49) t762) := ⟨by (with_reducible repeat (first | apply Kd.V_alloc | apply Kd.V_drewN | apply Kd.V_drew)); exact Kd.V_mono (zNV HO_771001.out (g := gb797) (fun _ hk => hk.2)) (fun _ hk => ⟨hk.1.1.1.1.1.1, ⟨hk.1.1.1.1.1.2.1, ⟨hk.1.1.1.1.1.2.2.1, ⟨hk.1.1.1.1.1.2.2.2.1, ⟨hk.1.1.1.1.1.2.2.2.2, ⟨hk.1.1.1.1.2, ⟨hk.1.1.1.2, ⟨hk.1.1.2, hk.1.2⟩⟩⟩⟩⟩⟩⟩⟩)⟩
         replace HO_771002 : Aside0 (Kd.V k52 52 ((((w108.setCell ⟨gb797, 0, none⟩ (.int .i64 t792)).setCell ⟨gb797, 1, none⟩ (.string t793)).setCell ⟨gb797, 2, none⟩ (.bool t794)).setCell ⟨gb797, 3, none⟩ (.int .i64 t795)) w.heap.size (fun k_ => k_ ≠ gb747 ∧ k_ ≠ gb748 ∧ k_ ≠ gb750 ∧ k_ ≠ gb760 ∧ k_ ≠ gb770 ∧ k_ ≠ gb778 ∧ k_ ≠ gb785 ∧ k_ ≠ gb791 ∧ k_ ≠ gb797) (.slice Ao50 t765.length co50) t765) := ⟨by (with_reducible repeat (first | apply Kd.V_alloc | apply Kd.V_drewN | apply Kd.V_drew)); exact Kd.V_mono (zNV HO_771002.out (g := gb797) (fun _ hk => hk.2)) (fun _ hk => ⟨hk.1.1.1.1.1.1, ⟨hk.1.1.1.1.1.2.1, ⟨hk.1.1.1.1.1.2.2.1, ⟨hk.1.1.1.1.1.2.2.2.1, ⟨hk.1.1.1.1.1.2.2.2.2, ⟨hk.1.1.1.1.2, ⟨hk.1.1.1.2, ⟨hk.1.1.2, hk.1.2⟩⟩⟩⟩⟩⟩⟩⟩)⟩
         replace BK747 : Aside0 (((((w108.setCell ⟨gb797, 0, none⟩ (.int .i64 t792)).setCell ⟨gb797, 1, none⟩ (.string t793)).setCell ⟨gb797, 2, none⟩ (.bool t794)).setCell ⟨gb797, 3, none⟩ (.int .i64 t795)).heap[gb747]? = some (.cells #[.int .i64 t751, .slice Ao35 t752.length co35, .slice Ao36 t755.length co36] 28 (0, 0))) := ⟨zK BK747.out⟩
         replace BK748 : Aside0 (((((w108.setCell ⟨gb797, 0, none⟩ (.int .i64 t792)).setCell ⟨gb797, 1, none⟩ (.string t793)).setCell ⟨gb797, 2, none⟩ (.bool t794)).setCell ⟨gb797, 3, none⟩ (.int .i64 t795)).heap[gb748]? = some (.cells #[.int .i64 t761, .slice Ao49 t762.length co49, .slice Ao50 t765.length co50] 32 (0, 0))) := ⟨zK BK748.out⟩
         replace BK750 : Aside0 (((((w108.setCell ⟨gb797, 0, none⟩ (.int .i64 t792)).setCell ⟨gb797, 1, none⟩ (.string t793)).setCell ⟨gb797, 2, none⟩ (.bool t794)).setCell ⟨gb797, 3, none⟩ (.int .i64 t795)).heap[gb750]? = some (.cells #[.int .i64 ((rd_T34 l0 x7_2).f0), .int .i64 ((rd_T34 l0 x7_2).f1), .int .i64 ((rd_T34 l0 x7_2).f2), .int .i64 ((rd_T34 l0 x7_2).f3), .int .i64 ((rd_T34 l0 x7_2).f4), .string ((rd_T34 l0 x7_2).f5), .bool ((rd_T34 l0 x7_2).f6)] 34 (0, 0))) := ⟨zK BK750.out⟩
         replace BK760 : Aside0 (((((w108.setCell ⟨gb797, 0, none⟩ (.int .i64 t792)).setCell ⟨gb797, 1, none⟩ (.string t793)).setCell ⟨gb797, 2, none⟩ (.bool t794)).setCell ⟨gb797, 3, none⟩ (.int .i64 t795)).heap[gb760]? = some (.cells #[.int .i64 t751, .slice Ao35 t752.length co35, .slice Ao36 t755.length co36] 28 (0, 0))) := ⟨zK BK760.out⟩
         replace BK770 : Aside0 (((((w108.setCell ⟨gb797, 0, none⟩ (.int .i64 t792)).setCell ⟨gb797, 1, none⟩ (.string t793)).setCell ⟨gb797, 2, none⟩ (.bool t794)).setCell ⟨gb797, 3, none⟩ (.int .i64 t795)).heap[gb770]? = some (.cells #[.int .i64 t761, .slice Ao49 t762.length co49, .slice Ao50 t765.length co50] 32 (0, 0))) := ⟨zK BK770.out⟩
         replace BK778 : Aside0 (((((w108.setCell ⟨gb797, 0, none⟩ (.int .i64 t792)).setCell ⟨gb797, 1, none⟩ (.string t793)).setCell ⟨gb797, 2, none⟩ (.bool t794)).setCell ⟨gb797, 3, none⟩ (.int .i64 t795)).heap[gb778]? = some (.cells #[.int .i64 t772, .string t773, .bool t774, .int .i64 t775, .int .i64 t776] 42 (0, 0))) := ⟨zK BK778.out⟩
         replace BK785 : Aside0 (((((w108.setCell ⟨gb797, 0, none⟩ (.int .i64 t792)).setCell ⟨gb797, 1, none⟩ (.string t793)).setCell ⟨gb797, 2, none⟩ (.bool t794)).setCell ⟨gb797, 3, none⟩ (.int .i64 t795)).heap[gb785]? = some (.cells #[.int .i64 t779, .string t780, .bool t781, .int .i64 t782, .int .i64 t783] 45 (0, 0))) := ⟨zK BK785.out⟩
         replace BK791 : Aside0 (((((w108.setCell ⟨gb797, 0, none⟩ (.int .i64 t792)).setCell ⟨gb797, 1, none⟩ (.string t793)).setCell ⟨gb797, 2, none⟩ (.bool t794)).setCell ⟨gb797, 3, none⟩ (.int .i64 t795)).heap[gb791]? = some (.cells #[.int .i64 t786, .string t787, .bool t788, .int .i64 t789] 49 (0, 0))) := ⟨zK BK791.out⟩
         replace BK797 : Aside0 (((((w108.setCell ⟨gb797, 0, none⟩ (.int .i64 t792)).setCell ⟨gb797, 1, none⟩ (.string t793)).setCell ⟨gb797, 2, none⟩ (.bool t794)).setCell ⟨gb797, 3, none⟩ (.int .i64 t795)).heap[gb797]? = some (.cells #[.int .i64 t792, .string t793, .bool t794, .int .i64 t795] 52 (0, 0))) := ⟨zP4 BK797.out⟩
         replace HB : Aside0 (Below w.heap.size w ((((w108.setCell ⟨gb797, 0, none⟩ (.int .i64 t792)).setCell ⟨gb797, 1, none⟩ (.string t793)).setCell ⟨gb797, 2, none⟩ (.bool t794)).setCell ⟨gb797, 3, none⟩ (.int .i64 t795))) := ⟨zL HB.out⟩
         repeat rw [zDC]
         repeat rw [zDD]
         generalize ((((w108.setCell ⟨gb797, 0, none⟩ (.int .i64 t792)).setCell ⟨gb797, 1, none⟩ (.string t793)).setCell ⟨gb797, 2, none⟩ (.bool t794)).setCell ⟨gb797, 3, none⟩ (.int .i64 t795)) = w130 at HO_748001 HO_748002 HO_749001 HO_749002 HO_761001 HO_761002 HO_771001 HO_771002 BK747 BK748 BK750 BK760 BK770 BK778 BK785 BK791 BK797 HB ⊢
         replace HO_748001 := ka (Kd.V_drew HO_748001.out)
         replace HO_748002 := ka (Kd.V_drew HO_748002.out)
         replace HO_749001 := ka (Kd.V_drew HO_749001.out)
         replace HO_749002 := ka (Kd.V_drew HO_749002.out)
         replace HO_761001 := ka (Kd.V_drew HO_761001.out)
         replace HO_761002 := ka (Kd.V_drew HO_761002.out)
         replace HO_771001 := ka (Kd.V_drew HO_771001.out)
         replace HO_771002 := ka (Kd.V_drew HO_771002.out)
         replace BK747 := ka (blk_drew BK747.out)
         replace BK748 := ka (blk_drew BK748.out)
         replace BK750 := ka (blk_drew BK750.out)
         replace BK760 := ka (blk_drew BK760.out)
         replace BK770 := ka (blk_drew BK770.out)
         replace BK778 := ka (blk_drew BK778.out)
         replace BK785 := ka (blk_drew BK785.out)
         replace BK791 := ka (blk_drew BK791.out)
         replace BK797 := ka (blk_drew BK797.out)
         replace HB := ka (below_drew1 HB.out)
         refine start_ (n := 55) (S := fun w' => w'.cell? ⟨gb778, 0, none⟩ = some (.int .i64 t772) ∧ w'.cell? ⟨gb778, 1, none⟩ = some (.string t773) ∧ w'.cell? ⟨gb778, 2, none⟩ = some (.bool t774) ∧ w'.cell? ⟨gb778, 3, none⟩ = some (.int .i64 t775) ∧ w'.cell? ⟨gb778, 4, none⟩ = some (.int .i64 t776) ∧ w'.cell? ⟨gb785, 0, none⟩ = some (.int .i64 t779) ∧ w'.cell? ⟨gb785, 1, none⟩ = some (.string t780) ∧ w'.cell? ⟨gb785, 2, none⟩ = some (.bool t781) ∧ w'.cell? ⟨gb785, 3, none⟩ = some (.int .i64 t782) ∧ w'.cell? ⟨gb785, 4, none⟩ = some (.int .i64 t783) ∧ w'.cell? ⟨gb791, 0, none⟩ = some (.int .i64 t786) ∧ w'.cell? ⟨gb791, 1, none⟩ = some (.string t787) ∧ w'.cell? ⟨gb791, 2, none⟩ = some (.bool t788) ∧ w'.cell? ⟨gb791, 3, none⟩ = some (.int .i64 t789) ∧ w'.cell? ⟨gb797, 0, none⟩ = some (.int .i64 t792) ∧ w'.cell? ⟨gb797, 1, none⟩ = some (.string t793) ∧ w'.cell? ⟨gb797, 2, none⟩ = some (.bool t794) ∧ w'.cell? ⟨gb797, 3, none⟩ = some (.int .i64 t795) ∧ w'.cell? ⟨gb747, 0, none⟩ = some (.int .i64 t751) ∧ w'.cell? ⟨gb747, 1, none⟩ = some (.slice Ao35 t752.length co35) ∧ w'.cell? ⟨gb747, 2, none⟩ = some (.slice Ao36 t755.length co36) ∧ w'.cell? ⟨gb750, 0, none⟩ = some (.int .i64 ((rd_T34 l0 x7_2).f0)) ∧ w'.cell? ⟨gb750, 1, none⟩ = some (.int .i64 ((rd_T34 l0 x7_2).f1)) ∧ w'.cell? ⟨gb750, 2, none⟩ = some (.int .i64 ((rd_T34 l0 x7_2).f2)) ∧ w'.cell? ⟨gb750, 3, none⟩ = some (.int .i64 ((rd_T34 l0 x7_2).f3)) ∧ w'.cell? ⟨gb750, 4, none⟩ = some (.int .i64 ((rd_T34 l0 x7_2).f4)) ∧ w'.cell? ⟨gb750, 5, none⟩ = some (.string ((rd_T34 l0 x7_2).f5)) ∧ w'.cell? ⟨gb750, 6, none⟩ = some (.bool ((rd_T34 l0 x7_2).f6)) ∧ w'.cell? ⟨gb748, 0, none⟩ = some (.int .i64 t761) ∧ w'.cell? ⟨gb748, 1, none⟩ = some (.slice Ao49 t762.length co49) ∧ w'.cell? ⟨gb748, 2, none⟩ = some (.slice Ao50 t765.length co50)) (ds := []) #[false, false, false, false, false, false, false, false, false, false, false, false, false, false, false, false, false, false, false, false, false, false, false, false, false, false, false, false, false, false, false, false, false, false, false, false, false, false, false, false, false, false, false, false, false, false, false, false, false, false, false, false, false, false, false] (by kernel_rfl) rfl rfl ⟨zc BK778.out 0, zc BK778.out 1, zc BK778.out 2, zc BK778.out 3, zc BK778.out 4, zc BK785.out 0, zc BK785.out 1, zc BK785.out 2, zc BK785.out 3, zc BK785.out 4, zc BK791.out 0, zc BK791.out 1, zc BK791.out 2, zc BK791.out 3, zc BK797.out 0, zc BK797.out 1, zc BK797.out 2, zc BK797.out 3, zc BK747.out 0, zc BK747.out 1, zc BK747.out 2, zc BK750.out 0, zc BK750.out 1, zc BK750.out 2, zc BK750.out 3, zc BK750.out 4, zc BK750.out 5, zc BK750.out 6, zc BK748.out 0, zc BK748.out 1, zc BK748.out 2⟩ (fun hHeld => ?_); refine with_tabW cooperagelaw16_LeasePlays.tab22 cooperagelaw16_LeasePlays.bits22 (fun HT_ HW_ => ?_)
         generalize w130.drew = w131 at HO_748001 HO_748002 HO_749001 HO_749002 HO_761001 HO_761002 HO_771001 HO_771002 BK747 BK748 BK750 BK760 BK770 BK778 BK785 BK791 BK797 HB hHeld ⊢
         have H := HC62.out
         clear HC62
         by_cases c118 : (t777 != t784) = true
         ·rw [if_pos c118] at H
          have c118b0 : (t777 != t784) = true := c118
          (try (have c118b1 : decide (t777 = t784) = false := by simpa using c118))
          (try (have c118b2 : (t777 == t784) = false := by simpa using c118))
          (try (have c118b3 : ¬ (t777 = t784) := by simpa using c118))
          clear c118
          have H' := ka H
          clear H
          as_aux_lemma =>
           refine zpp 0 (N := some 113) HT_ (h := ?_)
           refine zpp 1 (N := some 114) HT_ (h := ?_)
           refine zpp 2 (N := some 115) HT_ (h := ?_)
           refine zpp 3 (N := some 116) HT_ (h := ?_)
           refine zpu 4 (N := some 117) HT_ (h := ?_)
           refine zpu 5 (N := some 118) HT_ (h := ?_)
           refine zpu 6 (N := some 119) HT_ (h := ?_)
           refine zpp 7 (N := some 120) HT_ (h := ?_)
           refine zpp 8 (N := some 121) HT_ (h := ?_)
           refine zpu 9 (N := some 122) HT_ (h := ?_)
           refine zpu 10 (N := some 123) HT_ (h := ?_)
           refine zpu 11 (N := some 124) HT_ (h := ?_)
           refine zpu 12 (N := some 125) HT_ (h := ?_)
           refine zpu 13 (N := some 126) HT_ (h := ?_)
           refine zpp 14 (N := some 127) HT_ (h := ?_)
           refine zpp 15 (N := some 128) HT_ (h := ?_)
           refine zpu 16 (N := some 129) HT_ (h := ?_)
           refine zpu 17 (N := some 130) HT_ (h := ?_)
           refine zpu 18 (N := some 131) HT_ (h := ?_)
           refine zpu 19 (N := some 132) HT_ (h := ?_)
           refine zpu 20 (N := some 133) HT_ (h := ?_)
           refine zpp 21 (N := some 134) HT_ (h := ?_)
           refine zpp 22 (N := some 135) HT_ (h := ?_)
           refine zpu 23 (N := some 136) HT_ (h := ?_)
           refine zpu 24 (N := some 137) HT_ (h := ?_)
           refine zpu 25 (N := some 138) HT_ (h := ?_)
           refine zpu 26 (N := some 139) HT_ (h := ?_)
           refine zpu 27 (N := some 140) HT_ (h := ?_)
           refine zpp 28 (N := some 141) HT_ (h := ?_)
           refine zpp 29 (N := some 142) HT_ (h := ?_)
           refine zpu 30 (N := some 143) HT_ (h := ?_)
           refine zpu 31 (N := some 144) HT_ (h := ?_)
           refine zpu 32 (N := some 145) HT_ (h := ?_)
           refine zpu 33 (N := some 146) HT_ (h := ?_)
           refine zpu 34 (N := some 147) HT_ (h := ?_)
           refine zpp 35 (N := some 148) HT_ (h := ?_)
           refine zpp 36 (N := some 149) HT_ (h := ?_)
           refine zpu 37 (N := some 150) HT_ (h := ?_)
           refine zpu 38 (N := some 151) HT_ (h := ?_)
           refine zpu 39 (N := some 152) HT_ (h := ?_)
           refine zpu 40 (N := some 153) HT_ (h := ?_)
           refine zpu 41 (N := some 154) HT_ (h := ?_)
           refine zpu 42 (N := some 155) HT_ (h := ?_)
           refine zpu 43 (N := some 156) HT_ (h := ?_)
           refine zpu 44 (N := some 157) HT_ (h := ?_)
           refine zpu 45 (N := some 158) HT_ (h := ?_)
           refine zpu 46 (N := some 159) HT_ (h := ?_)
           refine zpu 47 (N := some 160) HT_ (h := ?_)
           refine zpu 48 (N := some 161) HT_ (h := ?_)
           refine zpu 49 (N := some 162) HT_ (h := ?_)
           refine zpu 50 (N := some 163) HT_ (h := ?_)
           refine zpu 51 (N := some 164) HT_ (h := ?_)
           refine zpu 52 (N := some 165) HT_ (h := ?_)
           refine zpu 53 (N := some 166) HT_ (h := ?_)
           refine zpp 54 (N := some 167) HT_ (h := ?_)
           refine done_ (done_of HT_.out (by kernel_rfl)) ?_
           try go_wp2
           go_meet
           case rel => exact ⟨_, (true), zS, H', ⟨by have := HJ3.out; have := HK2.out; have := HJ17.out; first | omega | exact Nat.le_refl _⟩, ⟨zV HO_748001.out⟩, ⟨zV HO_748002.out⟩, ⟨zV HO_749001.out⟩, ⟨zV HO_749002.out⟩, ⟨zV HO_761001.out⟩, ⟨zV HO_761002.out⟩, ⟨zV HO_771001.out⟩, ⟨zV HO_771002.out⟩, ⟨zK BK747.out⟩, ⟨zK BK748.out⟩, ⟨zK BK750.out⟩, ⟨zK BK760.out⟩, ⟨zK BK770.out⟩, ⟨zK BK778.out⟩, ⟨zK BK785.out⟩, ⟨zK BK791.out⟩, ⟨zK BK797.out⟩, ⟨zL HB.out⟩⟩
         rw [if_neg c118] at H
         have c118b0 : (t777 != t784) = false := by simpa using c118
         (try (have c118b1 : decide (t777 = t784) = true := by simpa using c118))
         (try (have c118b2 : (t777 == t784) = true := by simpa using c118))
         clear c118
         by_cases c121 : (t790 != t796) = true
         ·rw [if_pos c121] at H
          have c121b0 : (t790 != t796) = true := c121
          (try (have c121b1 : decide (t790 = t796) = false := by simpa using c121))
          (try (have c121b2 : (t790 == t796) = false := by simpa using c121))
          (try (have c121b3 : ¬ (t790 = t796) := by simpa using c121))
          clear c121
          have H' := ka H
          clear H
          as_aux_lemma =>
           refine zpp 0 (N := some 113) HT_ (h := ?_)
           refine zpp 1 (N := some 114) HT_ (h := ?_)
           refine zpp 2 (N := some 115) HT_ (h := ?_)
           refine zpp 3 (N := some 116) HT_ (h := ?_)
           refine zpp 4 (N := some 117) HT_ (h := ?_)
           refine zpp 5 (N := some 118) HT_ (h := ?_)
           refine zpp 6 (N := some 119) HT_ (h := ?_)
           refine zpp 7 (N := some 120) HT_ (h := ?_)
           refine zpp 8 (N := some 121) HT_ (h := ?_)
           refine zpu 9 (N := some 122) HT_ (h := ?_)
           refine zpu 10 (N := some 123) HT_ (h := ?_)
           refine zpu 11 (N := some 124) HT_ (h := ?_)
           refine zpu 12 (N := some 125) HT_ (h := ?_)
           refine zpu 13 (N := some 126) HT_ (h := ?_)
           refine zpp 14 (N := some 127) HT_ (h := ?_)
           refine zpp 15 (N := some 128) HT_ (h := ?_)
           refine zpu 16 (N := some 129) HT_ (h := ?_)
           refine zpu 17 (N := some 130) HT_ (h := ?_)
           refine zpu 18 (N := some 131) HT_ (h := ?_)
           refine zpu 19 (N := some 132) HT_ (h := ?_)
           refine zpu 20 (N := some 133) HT_ (h := ?_)
           refine zpp 21 (N := some 134) HT_ (h := ?_)
           refine zpp 22 (N := some 135) HT_ (h := ?_)
           refine zpu 23 (N := some 136) HT_ (h := ?_)
           refine zpu 24 (N := some 137) HT_ (h := ?_)
           refine zpu 25 (N := some 138) HT_ (h := ?_)
           refine zpu 26 (N := some 139) HT_ (h := ?_)
           refine zpu 27 (N := some 140) HT_ (h := ?_)
           refine zpp 28 (N := some 141) HT_ (h := ?_)
           refine zpp 29 (N := some 142) HT_ (h := ?_)
           refine zpu 30 (N := some 143) HT_ (h := ?_)
           refine zpu 31 (N := some 144) HT_ (h := ?_)
           refine zpu 32 (N := some 145) HT_ (h := ?_)
           refine zpu 33 (N := some 146) HT_ (h := ?_)
           refine zpu 34 (N := some 147) HT_ (h := ?_)
           refine zpp 35 (N := some 148) HT_ (h := ?_)
           refine zpp 36 (N := some 149) HT_ (h := ?_)
           refine zpu 37 (N := some 150) HT_ (h := ?_)
           refine zpu 38 (N := some 151) HT_ (h := ?_)
           refine zpu 39 (N := some 152) HT_ (h := ?_)
           refine zpu 40 (N := some 153) HT_ (h := ?_)
           refine zpu 41 (N := some 154) HT_ (h := ?_)
           refine zpu 42 (N := some 155) HT_ (h := ?_)
           refine zpu 43 (N := some 156) HT_ (h := ?_)
           refine zpu 44 (N := some 157) HT_ (h := ?_)
           refine zpu 45 (N := some 158) HT_ (h := ?_)
           refine zpu 46 (N := some 159) HT_ (h := ?_)
           refine zpu 47 (N := some 160) HT_ (h := ?_)
           refine zpu 48 (N := some 161) HT_ (h := ?_)
           refine zpu 49 (N := some 162) HT_ (h := ?_)
           refine zpu 50 (N := some 163) HT_ (h := ?_)
           refine zpu 51 (N := some 164) HT_ (h := ?_)
           refine zpu 52 (N := some 165) HT_ (h := ?_)
           refine zpu 53 (N := some 166) HT_ (h := ?_)
           refine zpp 54 (N := some 167) HT_ (h := ?_)
           refine done_ (done_of HT_.out (by kernel_rfl)) ?_
           try go_wp2
           go_meet
           case rel => exact ⟨_, (true), zS, H', ⟨by have := HJ3.out; have := HK2.out; have := HJ17.out; first | omega | exact Nat.le_refl _⟩, ⟨zV HO_748001.out⟩, ⟨zV HO_748002.out⟩, ⟨zV HO_749001.out⟩, ⟨zV HO_749002.out⟩, ⟨zV HO_761001.out⟩, ⟨zV HO_761002.out⟩, ⟨zV HO_771001.out⟩, ⟨zV HO_771002.out⟩, ⟨zK BK747.out⟩, ⟨zK BK748.out⟩, ⟨zK BK750.out⟩, ⟨zK BK760.out⟩, ⟨zK BK770.out⟩, ⟨zK BK778.out⟩, ⟨zK BK785.out⟩, ⟨zK BK791.out⟩, ⟨zK BK797.out⟩, ⟨zL HB.out⟩⟩
         rw [if_neg c121] at H
         have c121b0 : (t790 != t796) = false := by simpa using c121
         (try (have c121b1 : decide (t790 = t796) = true := by simpa using c121))
         (try (have c121b2 : (t790 == t796) = true := by simpa using c121))
         clear c121
         by_cases c124 : t775 = t782
         ·rw [if_pos c124] at H
          have c124b0 := zb0 c124
          have c124b1 := zb1 c124
          clear c124
          by_cases c125 : t773.toList = t780.toList
          ·rw [if_pos c125] at H
           have c125b0 := zb0 c125
           have c125b1 := zb1 c125
           clear c125
           by_cases c126 : t787.toList = t793.toList
           ·rw [if_pos c126] at H
            have c126b0 := zb0 c126
            have c126b1 := zb1 c126
            clear c126
            by_cases c127 : t786 = t792
            ·rw [if_pos c127] at H
             have c127b0 := zb0 c127
             have c127b1 := zb1 c127
             clear c127
             replace H := Option.bind_eq_some_iff.mp H
             obtain ⟨t798, A1280, H⟩ := H
             try dsimp only at H
             have A128 := ka A1280
             clear A1280
             replace H := Option.bind_eq_some_iff.mp H
             obtain ⟨t799, A1290, H⟩ := H
             try dsimp only at H
             have A129 := ka A1290
             clear A1290
             have H' := ka H
             clear H
             as_aux_lemma =>
              refine zpp 0 (N := some 113) HT_ (h := ?_)
              refine zpp 1 (N := some 114) HT_ (h := ?_)
              refine zpp 2 (N := some 115) HT_ (h := ?_)
              refine zpp 3 (N := some 116) HT_ (h := ?_)
              refine zpp 4 (N := some 117) HT_ (h := ?_)
              refine zpp 5 (N := some 118) HT_ (h := ?_)
              refine zpp 6 (N := some 119) HT_ (h := ?_)
              refine zpp 7 (N := some 120) HT_ (h := ?_)
              refine zpp 8 (N := some 121) HT_ (h := ?_)
              refine zpp 9 (N := some 122) HT_ (h := ?_)
              refine zpp 11 (N := some 124) HT_ (h := ?_)
              refine zpt 10 (N := some 123) HT_ HW_ hHeld (h := ?_)
              refine zpt 12 (N := some 125) HT_ HW_ hHeld (h := ?_)
              refine zpp 13 (N := some 126) HT_ (h := ?_)
              refine zpp 14 (N := some 127) HT_ (h := ?_)
              refine zpp 15 (N := some 128) HT_ (h := ?_)
              refine zpp 16 (N := some 129) HT_ (h := ?_)
              refine zpp 18 (N := some 131) HT_ (h := ?_)
              refine zpt 17 (N := some 130) HT_ HW_ hHeld (h := ?_)
              refine zpt 19 (N := some 132) HT_ HW_ hHeld (h := ?_)
              refine zpp 20 (N := some 133) HT_ (h := ?_)
              refine zpp 21 (N := some 134) HT_ (h := ?_)
              refine zpp 22 (N := some 135) HT_ (h := ?_)
              refine zpp 23 (N := some 136) HT_ (h := ?_)
              refine zpp 25 (N := some 138) HT_ (h := ?_)
              refine zpt 24 (N := some 137) HT_ HW_ hHeld (h := ?_)
              refine zpt 26 (N := some 139) HT_ HW_ hHeld (h := ?_)
              refine zpp 27 (N := some 140) HT_ (h := ?_)
              refine zpp 28 (N := some 141) HT_ (h := ?_)
              refine zpp 29 (N := some 142) HT_ (h := ?_)
              refine zpp 30 (N := some 143) HT_ (h := ?_)
              refine zpp 32 (N := some 145) HT_ (h := ?_)
              refine zpt 31 (N := some 144) HT_ HW_ hHeld (h := ?_)
              refine zpt 33 (N := some 146) HT_ HW_ hHeld (h := ?_)
              refine zpp 34 (N := some 147) HT_ (h := ?_)
              refine zpp 35 (N := some 148) HT_ (h := ?_)
              refine zpp 36 (N := some 149) HT_ (h := ?_)
              refine zpp 38 (N := some 151) HT_ (h := ?_)
              refine zpp 40 (N := some 153) HT_ (h := ?_)
              refine zpp 42 (N := some 155) HT_ (h := ?_)
              refine zpp 46 (N := some 159) HT_ (h := ?_)
              refine zpp 48 (N := some 161) HT_ (h := ?_)
              refine zpp 50 (N := some 163) HT_ (h := ?_)
              refine zpt 37 (N := some 150) HT_ HW_ hHeld (h := ?_)
              refine zpt 39 (N := some 152) HT_ HW_ hHeld (h := ?_)
              refine zpt 41 (N := some 154) HT_ HW_ hHeld (h := ?_)
              refine zpt 43 (N := some 156) HT_ HW_ hHeld (h := ?_)
              refine zpt 45 (N := some 158) HT_ HW_ hHeld (h := ?_)
              refine zpt 47 (N := some 160) HT_ HW_ hHeld (h := ?_)
              refine zpt 49 (N := some 162) HT_ HW_ hHeld (h := ?_)
              refine zpt 51 (N := some 164) HT_ HW_ hHeld (h := ?_)
              refine one_ (i := 44) (N := some 157) #[true, true, true, true, true, true, true, true, true, true, true, true, true, true, true, true, true, true, true, true, true, true, true, true, true, true, true, true, true, true, true, true, true, true, true, true, true, true, true, true, true, true, true, true, true, true, true, true, true, true, true, true, false, false, false] rfl rfl (one_of HT_.out (by kernel_rfl)) (by decide) (fun K hK => ?_)
              refine goes_ Tryd.func13 (by kernel_rfl) rfl #[.agg #[.int .i64 t751, .slice Ao35 t752.length co35, .slice Ao36 t755.length co36], .int .i64 ((rd_T34 l0 x7_2).f1), .string ((rd_T34 l0 x7_2).f5), .int .i64 ((rd_T34 l0 x7_2).f3)] (by rfl) rfl rfl zA ?_
              with_reducible refine (lease_Valid.calls kj17 t751 _ _ t752 _ _ t755 ((rd_T34 l0 x7_2).f1) ((rd_T34 l0 x7_2).f5) ((rd_T34 l0 x7_2).f3) t798 _ ?side1 ?side2 ?side3 ?side4 A128.out).mono ?_
              (case side1 => exact zCS (Kd.V_reads' HO_748001.out).2.2)
              (case side2 => exact (Kd.V_reads' HO_748001.out).2.1)
              (case side3 => exact zCS (Kd.V_reads' HO_748002.out).2.2)
              (case side4 => exact (Kd.V_reads' HO_748002.out).2.1)
              rintro e w132 ⟨rfl, hb⟩
              refine ⟨_, rfl, ?_⟩
              replace HO_748001 := ka (Kd.V_below (zV HO_748001.out) hb)
              replace HO_748002 := ka (Kd.V_below (zV HO_748002.out) hb)
              replace HO_749001 := ka (Kd.V_below (zV HO_749001.out) hb)
              replace HO_749002 := ka (Kd.V_below (zV HO_749002.out) hb)
              replace HO_761001 := ka (Kd.V_below (zV HO_761001.out) hb)
              replace HO_761002 := ka (Kd.V_below (zV HO_761002.out) hb)
              replace HO_771001 := ka (Kd.V_below (zV HO_771001.out) hb)
              replace HO_771002 := ka (Kd.V_below (zV HO_771002.out) hb)
              replace BK747 := ka (zB BK747.out hb)
              replace BK748 := ka (zB BK748.out hb)
              replace BK750 := ka (zB BK750.out hb)
              replace BK760 := ka (zB BK760.out hb)
              replace BK770 := ka (zB BK770.out hb)
              replace BK778 := ka (zB BK778.out hb)
              replace BK785 := ka (zB BK785.out hb)
              replace BK791 := ka (zB BK791.out hb)
              replace BK797 := ka (zB BK797.out hb)
              replace HB := ka (below_step (zL HB.out) hb)
              (try clear hb)
              (try clear hb2)
              (try clear hk)
              (try clear hi)
              refine hK.out _ _ ⟨zc BK778.out 0, zc BK778.out 1, zc BK778.out 2, zc BK778.out 3, zc BK778.out 4, zc BK785.out 0, zc BK785.out 1, zc BK785.out 2, zc BK785.out 3, zc BK785.out 4, zc BK791.out 0, zc BK791.out 1, zc BK791.out 2, zc BK791.out 3, zc BK797.out 0, zc BK797.out 1, zc BK797.out 2, zc BK797.out 3, zc BK747.out 0, zc BK747.out 1, zc BK747.out 2, zc BK750.out 0, zc BK750.out 1, zc BK750.out 2, zc BK750.out 3, zc BK750.out 4, zc BK750.out 5, zc BK750.out 6, zc BK748.out 0, zc BK748.out 1, zc BK748.out 2⟩ (fun hHeld => ?_)
              clear hK K
              refine znm (N := some 157) (h := ?_)
              refine one_ (i := 52) (N := some 165) #[true, true, true, true, true, true, true, true, true, true, true, true, true, true, true, true, true, true, true, true, true, true, true, true, true, true, true, true, true, true, true, true, true, true, true, true, true, true, true, true, true, true, true, true, true, true, true, true, true, true, true, true, true, false, false] rfl rfl (one_of HT_.out (by kernel_rfl)) (by decide) (fun K hK => ?_)
              refine goes_ Tryd.func14 (by kernel_rfl) rfl #[.agg #[.int .i64 t761, .slice Ao49 t762.length co49, .slice Ao50 t765.length co50], .int .i64 ((rd_T34 l0 x7_2).f1), .string ((rd_T34 l0 x7_2).f5), .int .i64 ((rd_T34 l0 x7_2).f3)] (by rfl) rfl rfl zA ?_
              with_reducible refine (cooperageref16_Valid.calls kj17 t761 _ _ t762 _ _ t765 ((rd_T34 l0 x7_2).f1) ((rd_T34 l0 x7_2).f5) ((rd_T34 l0 x7_2).f3) t799 _ ?side1 ?side2 ?side3 ?side4 A129.out).mono ?_
              (case side1 => exact zCS (Kd.V_reads' HO_749001.out).2.2)
              (case side2 => exact (Kd.V_reads' HO_749001.out).2.1)
              (case side3 => exact zCS (Kd.V_reads' HO_749002.out).2.2)
              (case side4 => exact (Kd.V_reads' HO_749002.out).2.1)
              rintro e w133 ⟨rfl, hb⟩
              refine ⟨_, rfl, ?_⟩
              replace HO_748001 := ka (Kd.V_below (zV HO_748001.out) hb)
              replace HO_748002 := ka (Kd.V_below (zV HO_748002.out) hb)
              replace HO_749001 := ka (Kd.V_below (zV HO_749001.out) hb)
              replace HO_749002 := ka (Kd.V_below (zV HO_749002.out) hb)
              replace HO_761001 := ka (Kd.V_below (zV HO_761001.out) hb)
              replace HO_761002 := ka (Kd.V_below (zV HO_761002.out) hb)
              replace HO_771001 := ka (Kd.V_below (zV HO_771001.out) hb)
              replace HO_771002 := ka (Kd.V_below (zV HO_771002.out) hb)
              replace BK747 := ka (zB BK747.out hb)
              replace BK748 := ka (zB BK748.out hb)
              replace BK750 := ka (zB BK750.out hb)
              replace BK760 := ka (zB BK760.out hb)
              replace BK770 := ka (zB BK770.out hb)
              replace BK778 := ka (zB BK778.out hb)
              replace BK785 := ka (zB BK785.out hb)
              replace BK791 := ka (zB BK791.out hb)
              replace BK797 := ka (zB BK797.out hb)
              replace HB := ka (below_step (zL HB.out) hb)
              (try clear hb)
              (try clear hb2)
              (try clear hk)
              (try clear hi)
              refine hK.out _ _ ⟨zc BK778.out 0, zc BK778.out 1, zc BK778.out 2, zc BK778.out 3, zc BK778.out 4, zc BK785.out 0, zc BK785.out 1, zc BK785.out 2, zc BK785.out 3, zc BK785.out 4, zc BK791.out 0, zc BK791.out 1, zc BK791.out 2, zc BK791.out 3, zc BK797.out 0, zc BK797.out 1, zc BK797.out 2, zc BK797.out 3, zc BK747.out 0, zc BK747.out 1, zc BK747.out 2, zc BK750.out 0, zc BK750.out 1, zc BK750.out 2, zc BK750.out 3, zc BK750.out 4, zc BK750.out 5, zc BK750.out 6, zc BK748.out 0, zc BK748.out 1, zc BK748.out 2⟩ (fun hHeld => ?_)
              clear hK K
              refine znm (N := some 165) (h := ?_)
              refine zpp 53 (N := some 166) HT_ (h := ?_)
              refine zpp 54 (N := some 167) HT_ (h := ?_)
              refine done_ (done_of HT_.out (by kernel_rfl)) ?_
              try go_wp2
              go_meet
              case rel => exact ⟨_, ((t798 != t799)), zS, H', ⟨by have := HJ3.out; have := HK2.out; have := HJ17.out; first | omega | exact Nat.le_refl _⟩, ⟨zV HO_748001.out⟩, ⟨zV HO_748002.out⟩, ⟨zV HO_749001.out⟩, ⟨zV HO_749002.out⟩, ⟨zV HO_761001.out⟩, ⟨zV HO_761002.out⟩, ⟨zV HO_771001.out⟩, ⟨zV HO_771002.out⟩, ⟨zK BK747.out⟩, ⟨zK BK748.out⟩, ⟨zK BK750.out⟩, ⟨zK BK760.out⟩, ⟨zK BK770.out⟩, ⟨zK BK778.out⟩, ⟨zK BK785.out⟩, ⟨zK BK791.out⟩, ⟨zK BK797.out⟩, ⟨zL HB.out⟩⟩
            rw [if_neg c127] at H
            have c127b0 := zn0 c127
            have c127b1 := zn1 c127
            have H' := ka H
            clear H
            as_aux_lemma =>
             refine zpp 0 (N := some 113) HT_ (h := ?_)
             refine zpp 1 (N := some 114) HT_ (h := ?_)
             refine zpp 2 (N := some 115) HT_ (h := ?_)
             refine zpp 3 (N := some 116) HT_ (h := ?_)
             refine zpp 4 (N := some 117) HT_ (h := ?_)
             refine zpp 5 (N := some 118) HT_ (h := ?_)
             refine zpp 6 (N := some 119) HT_ (h := ?_)
             refine zpp 7 (N := some 120) HT_ (h := ?_)
             refine zpp 8 (N := some 121) HT_ (h := ?_)
             refine zpp 9 (N := some 122) HT_ (h := ?_)
             refine zpp 11 (N := some 124) HT_ (h := ?_)
             refine zpt 10 (N := some 123) HT_ HW_ hHeld (h := ?_)
             refine zpt 12 (N := some 125) HT_ HW_ hHeld (h := ?_)
             refine zpp 13 (N := some 126) HT_ (h := ?_)
             refine zpp 14 (N := some 127) HT_ (h := ?_)
             refine zpp 15 (N := some 128) HT_ (h := ?_)
             refine zpp 16 (N := some 129) HT_ (h := ?_)
             refine zpp 18 (N := some 131) HT_ (h := ?_)
             refine zpt 17 (N := some 130) HT_ HW_ hHeld (h := ?_)
             refine zpt 19 (N := some 132) HT_ HW_ hHeld (h := ?_)
             refine zpp 20 (N := some 133) HT_ (h := ?_)
             refine zpp 21 (N := some 134) HT_ (h := ?_)
             refine zpp 22 (N := some 135) HT_ (h := ?_)
             refine zpp 23 (N := some 136) HT_ (h := ?_)
             refine zpp 25 (N := some 138) HT_ (h := ?_)
             refine zpt 24 (N := some 137) HT_ HW_ hHeld (h := ?_)
             refine zpt 26 (N := some 139) HT_ HW_ hHeld (h := ?_)
             refine zpp 27 (N := some 140) HT_ (h := ?_)
             refine zpp 28 (N := some 141) HT_ (h := ?_)
             refine zpp 29 (N := some 142) HT_ (h := ?_)
             refine zpp 30 (N := some 143) HT_ (h := ?_)
             refine zpp 32 (N := some 145) HT_ (h := ?_)
             refine zpt 31 (N := some 144) HT_ HW_ hHeld (h := ?_)
             refine zpt 33 (N := some 146) HT_ HW_ hHeld (h := ?_)
             refine zpp 34 (N := some 147) HT_ (h := ?_)
             refine zpp 35 (N := some 148) HT_ (h := ?_)
             refine zpp 36 (N := some 149) HT_ (h := ?_)
             refine zpu 37 (N := some 150) HT_ (h := ?_)
             refine zpu 38 (N := some 151) HT_ (h := ?_)
             refine zpu 39 (N := some 152) HT_ (h := ?_)
             refine zpu 40 (N := some 153) HT_ (h := ?_)
             refine zpu 41 (N := some 154) HT_ (h := ?_)
             refine zpu 42 (N := some 155) HT_ (h := ?_)
             refine zpu 43 (N := some 156) HT_ (h := ?_)
             refine zpu 44 (N := some 157) HT_ (h := ?_)
             refine zpu 45 (N := some 158) HT_ (h := ?_)
             refine zpu 46 (N := some 159) HT_ (h := ?_)
             refine zpu 47 (N := some 160) HT_ (h := ?_)
             refine zpu 48 (N := some 161) HT_ (h := ?_)
             refine zpu 49 (N := some 162) HT_ (h := ?_)
             refine zpu 50 (N := some 163) HT_ (h := ?_)
             refine zpu 51 (N := some 164) HT_ (h := ?_)
             refine zpu 52 (N := some 165) HT_ (h := ?_)
             refine zpu 53 (N := some 166) HT_ (h := ?_)
             refine zpp 54 (N := some 167) HT_ (h := ?_)
             refine done_ (done_of HT_.out (by kernel_rfl)) ?_
             try go_wp2
             go_meet
             case rel => exact ⟨_, (true), zS, H', ⟨by have := HJ3.out; have := HK2.out; have := HJ17.out; first | omega | exact Nat.le_refl _⟩, ⟨zV HO_748001.out⟩, ⟨zV HO_748002.out⟩, ⟨zV HO_749001.out⟩, ⟨zV HO_749002.out⟩, ⟨zV HO_761001.out⟩, ⟨zV HO_761002.out⟩, ⟨zV HO_771001.out⟩, ⟨zV HO_771002.out⟩, ⟨zK BK747.out⟩, ⟨zK BK748.out⟩, ⟨zK BK750.out⟩, ⟨zK BK760.out⟩, ⟨zK BK770.out⟩, ⟨zK BK778.out⟩, ⟨zK BK785.out⟩, ⟨zK BK791.out⟩, ⟨zK BK797.out⟩, ⟨zL HB.out⟩⟩
           rw [if_neg c126] at H
           have c126b0 := zn0 c126
           have c126b1 := zn1 c126
           have H' := ka H
           clear H
           as_aux_lemma =>
            refine zpp 0 (N := some 113) HT_ (h := ?_)
            refine zpp 1 (N := some 114) HT_ (h := ?_)
            refine zpp 2 (N := some 115) HT_ (h := ?_)
            refine zpp 3 (N := some 116) HT_ (h := ?_)
            refine zpp 4 (N := some 117) HT_ (h := ?_)
            refine zpp 5 (N := some 118) HT_ (h := ?_)
            refine zpp 6 (N := some 119) HT_ (h := ?_)
            refine zpp 7 (N := some 120) HT_ (h := ?_)
            refine zpp 8 (N := some 121) HT_ (h := ?_)
            refine zpp 9 (N := some 122) HT_ (h := ?_)
            refine zpp 11 (N := some 124) HT_ (h := ?_)
            refine zpt 10 (N := some 123) HT_ HW_ hHeld (h := ?_)
            refine zpt 12 (N := some 125) HT_ HW_ hHeld (h := ?_)
            refine zpp 13 (N := some 126) HT_ (h := ?_)
            refine zpp 14 (N := some 127) HT_ (h := ?_)
            refine zpp 15 (N := some 128) HT_ (h := ?_)
            refine zpp 16 (N := some 129) HT_ (h := ?_)
            refine zpp 18 (N := some 131) HT_ (h := ?_)
            refine zpt 17 (N := some 130) HT_ HW_ hHeld (h := ?_)
            refine zpt 19 (N := some 132) HT_ HW_ hHeld (h := ?_)
            refine zpp 20 (N := some 133) HT_ (h := ?_)
            refine zpp 21 (N := some 134) HT_ (h := ?_)
            refine zpp 22 (N := some 135) HT_ (h := ?_)
            refine zpp 23 (N := some 136) HT_ (h := ?_)
            refine zpp 25 (N := some 138) HT_ (h := ?_)
            refine zpt 24 (N := some 137) HT_ HW_ hHeld (h := ?_)
            refine zpt 26 (N := some 139) HT_ HW_ hHeld (h := ?_)
            refine zpp 27 (N := some 140) HT_ (h := ?_)
            refine zpp 28 (N := some 141) HT_ (h := ?_)
            refine zpp 29 (N := some 142) HT_ (h := ?_)
            refine zpu 30 (N := some 143) HT_ (h := ?_)
            refine zpu 31 (N := some 144) HT_ (h := ?_)
            refine zpu 32 (N := some 145) HT_ (h := ?_)
            refine zpu 33 (N := some 146) HT_ (h := ?_)
            refine zpu 34 (N := some 147) HT_ (h := ?_)
            refine zpp 35 (N := some 148) HT_ (h := ?_)
            refine zpp 36 (N := some 149) HT_ (h := ?_)
            refine zpu 37 (N := some 150) HT_ (h := ?_)
            refine zpu 38 (N := some 151) HT_ (h := ?_)
            refine zpu 39 (N := some 152) HT_ (h := ?_)
            refine zpu 40 (N := some 153) HT_ (h := ?_)
            refine zpu 41 (N := some 154) HT_ (h := ?_)
            refine zpu 42 (N := some 155) HT_ (h := ?_)
            refine zpu 43 (N := some 156) HT_ (h := ?_)
            refine zpu 44 (N := some 157) HT_ (h := ?_)
            refine zpu 45 (N := some 158) HT_ (h := ?_)
            refine zpu 46 (N := some 159) HT_ (h := ?_)
            refine zpu 47 (N := some 160) HT_ (h := ?_)
            refine zpu 48 (N := some 161) HT_ (h := ?_)
            refine zpu 49 (N := some 162) HT_ (h := ?_)
            refine zpu 50 (N := some 163) HT_ (h := ?_)
            refine zpu 51 (N := some 164) HT_ (h := ?_)
            refine zpu 52 (N := some 165) HT_ (h := ?_)
            refine zpu 53 (N := some 166) HT_ (h := ?_)
            refine zpp 54 (N := some 167) HT_ (h := ?_)
            refine done_ (done_of HT_.out (by kernel_rfl)) ?_
            try go_wp2
            go_meet
            case rel => exact ⟨_, (true), zS, H', ⟨by have := HJ3.out; have := HK2.out; have := HJ17.out; first | omega | exact Nat.le_refl _⟩, ⟨zV HO_748001.out⟩, ⟨zV HO_748002.out⟩, ⟨zV HO_749001.out⟩, ⟨zV HO_749002.out⟩, ⟨zV HO_761001.out⟩, ⟨zV HO_761002.out⟩, ⟨zV HO_771001.out⟩, ⟨zV HO_771002.out⟩, ⟨zK BK747.out⟩, ⟨zK BK748.out⟩, ⟨zK BK750.out⟩, ⟨zK BK760.out⟩, ⟨zK BK770.out⟩, ⟨zK BK778.out⟩, ⟨zK BK785.out⟩, ⟨zK BK791.out⟩, ⟨zK BK797.out⟩, ⟨zL HB.out⟩⟩
          rw [if_neg c125] at H
          have c125b0 := zn0 c125
          have c125b1 := zn1 c125
          have H' := ka H
          clear H
          as_aux_lemma =>
           refine zpp 0 (N := some 113) HT_ (h := ?_)
           refine zpp 1 (N := some 114) HT_ (h := ?_)
           refine zpp 2 (N := some 115) HT_ (h := ?_)
           refine zpp 3 (N := some 116) HT_ (h := ?_)
           refine zpp 4 (N := some 117) HT_ (h := ?_)
           refine zpp 5 (N := some 118) HT_ (h := ?_)
           refine zpp 6 (N := some 119) HT_ (h := ?_)
           refine zpp 7 (N := some 120) HT_ (h := ?_)
           refine zpp 8 (N := some 121) HT_ (h := ?_)
           refine zpp 9 (N := some 122) HT_ (h := ?_)
           refine zpp 11 (N := some 124) HT_ (h := ?_)
           refine zpt 10 (N := some 123) HT_ HW_ hHeld (h := ?_)
           refine zpt 12 (N := some 125) HT_ HW_ hHeld (h := ?_)
           refine zpp 13 (N := some 126) HT_ (h := ?_)
           refine zpp 14 (N := some 127) HT_ (h := ?_)
           refine zpp 15 (N := some 128) HT_ (h := ?_)
           refine zpp 16 (N := some 129) HT_ (h := ?_)
           refine zpp 18 (N := some 131) HT_ (h := ?_)
           refine zpt 17 (N := some 130) HT_ HW_ hHeld (h := ?_)
           refine zpt 19 (N := some 132) HT_ HW_ hHeld (h := ?_)
           refine zpp 20 (N := some 133) HT_ (h := ?_)
           refine zpp 21 (N := some 134) HT_ (h := ?_)
           refine zpp 22 (N := some 135) HT_ (h := ?_)
           refine zpu 23 (N := some 136) HT_ (h := ?_)
           refine zpu 24 (N := some 137) HT_ (h := ?_)
           refine zpu 25 (N := some 138) HT_ (h := ?_)
           refine zpu 26 (N := some 139) HT_ (h := ?_)
           refine zpu 27 (N := some 140) HT_ (h := ?_)
           refine zpp 28 (N := some 141) HT_ (h := ?_)
           refine zpp 29 (N := some 142) HT_ (h := ?_)
           refine zpu 30 (N := some 143) HT_ (h := ?_)
           refine zpu 31 (N := some 144) HT_ (h := ?_)
           refine zpu 32 (N := some 145) HT_ (h := ?_)
           refine zpu 33 (N := some 146) HT_ (h := ?_)
           refine zpu 34 (N := some 147) HT_ (h := ?_)
           refine zpp 35 (N := some 148) HT_ (h := ?_)
           refine zpp 36 (N := some 149) HT_ (h := ?_)
           refine zpu 37 (N := some 150) HT_ (h := ?_)
           refine zpu 38 (N := some 151) HT_ (h := ?_)
           refine zpu 39 (N := some 152) HT_ (h := ?_)
           refine zpu 40 (N := some 153) HT_ (h := ?_)
           refine zpu 41 (N := some 154) HT_ (h := ?_)
           refine zpu 42 (N := some 155) HT_ (h := ?_)
           refine zpu 43 (N := some 156) HT_ (h := ?_)
           refine zpu 44 (N := some 157) HT_ (h := ?_)
           refine zpu 45 (N := some 158) HT_ (h := ?_)
           refine zpu 46 (N := some 159) HT_ (h := ?_)
           refine zpu 47 (N := some 160) HT_ (h := ?_)
           refine zpu 48 (N := some 161) HT_ (h := ?_)
           refine zpu 49 (N := some 162) HT_ (h := ?_)
           refine zpu 50 (N := some 163) HT_ (h := ?_)
           refine zpu 51 (N := some 164) HT_ (h := ?_)
           refine zpu 52 (N := some 165) HT_ (h := ?_)
           refine zpu 53 (N := some 166) HT_ (h := ?_)
           refine zpp 54 (N := some 167) HT_ (h := ?_)
           refine done_ (done_of HT_.out (by kernel_rfl)) ?_
           try go_wp2
           go_meet
           case rel => exact ⟨_, (true), zS, H', ⟨by have := HJ3.out; have := HK2.out; have := HJ17.out; first | omega | exact Nat.le_refl _⟩, ⟨zV HO_748001.out⟩, ⟨zV HO_748002.out⟩, ⟨zV HO_749001.out⟩, ⟨zV HO_749002.out⟩, ⟨zV HO_761001.out⟩, ⟨zV HO_761002.out⟩, ⟨zV HO_771001.out⟩, ⟨zV HO_771002.out⟩, ⟨zK BK747.out⟩, ⟨zK BK748.out⟩, ⟨zK BK750.out⟩, ⟨zK BK760.out⟩, ⟨zK BK770.out⟩, ⟨zK BK778.out⟩, ⟨zK BK785.out⟩, ⟨zK BK791.out⟩, ⟨zK BK797.out⟩, ⟨zL HB.out⟩⟩
         rw [if_neg c124] at H
         have c124b0 := zn0 c124
         have c124b1 := zn1 c124
         have H' := ka H
         clear H
         as_aux_lemma =>
          refine zpp 0 (N := some 113) HT_ (h := ?_)
          refine zpp 1 (N := some 114) HT_ (h := ?_)
          refine zpp 2 (N := some 115) HT_ (h := ?_)
          refine zpp 3 (N := some 116) HT_ (h := ?_)
          refine zpp 4 (N := some 117) HT_ (h := ?_)
          refine zpp 5 (N := some 118) HT_ (h := ?_)
          refine zpp 6 (N := some 119) HT_ (h := ?_)
          refine zpp 7 (N := some 120) HT_ (h := ?_)
          refine zpp 8 (N := some 121) HT_ (h := ?_)
          refine zpp 9 (N := some 122) HT_ (h := ?_)
          refine zpp 11 (N := some 124) HT_ (h := ?_)
          refine zpt 10 (N := some 123) HT_ HW_ hHeld (h := ?_)
          refine zpt 12 (N := some 125) HT_ HW_ hHeld (h := ?_)
          refine zpp 13 (N := some 126) HT_ (h := ?_)
          refine zpp 14 (N := some 127) HT_ (h := ?_)
          refine zpp 15 (N := some 128) HT_ (h := ?_)
          refine zpu 16 (N := some 129) HT_ (h := ?_)
          refine zpu 17 (N := some 130) HT_ (h := ?_)
          refine zpu 18 (N := some 131) HT_ (h := ?_)
          refine zpu 19 (N := some 132) HT_ (h := ?_)
          refine zpu 20 (N := some 133) HT_ (h := ?_)
          refine zpp 21 (N := some 134) HT_ (h := ?_)
          refine zpp 22 (N := some 135) HT_ (h := ?_)
          refine zpu 23 (N := some 136) HT_ (h := ?_)
          refine zpu 24 (N := some 137) HT_ (h := ?_)
          refine zpu 25 (N := some 138) HT_ (h := ?_)
          refine zpu 26 (N := some 139) HT_ (h := ?_)
          refine zpu 27 (N := some 140) HT_ (h := ?_)
          refine zpp 28 (N := some 141) HT_ (h := ?_)
          refine zpp 29 (N := some 142) HT_ (h := ?_)
          refine zpu 30 (N := some 143) HT_ (h := ?_)
          refine zpu 31 (N := some 144) HT_ (h := ?_)
          refine zpu 32 (N := some 145) HT_ (h := ?_)
          refine zpu 33 (N := some 146) HT_ (h := ?_)
          refine zpu 34 (N := some 147) HT_ (h := ?_)
          refine zpp 35 (N := some 148) HT_ (h := ?_)
          refine zpp 36 (N := some 149) HT_ (h := ?_)
          refine zpu 37 (N := some 150) HT_ (h := ?_)
          refine zpu 38 (N := some 151) HT_ (h := ?_)
          refine zpu 39 (N := some 152) HT_ (h := ?_)
          refine zpu 40 (N := some 153) HT_ (h := ?_)
          refine zpu 41 (N := some 154) HT_ (h := ?_)
          refine zpu 42 (N := some 155) HT_ (h := ?_)
          refine zpu 43 (N := some 156) HT_ (h := ?_)
          refine zpu 44 (N := some 157) HT_ (h := ?_)
          refine zpu 45 (N := some 158) HT_ (h := ?_)
          refine zpu 46 (N := some 159) HT_ (h := ?_)
          refine zpu 47 (N := some 160) HT_ (h := ?_)
          refine zpu 48 (N := some 161) HT_ (h := ?_)
          refine zpu 49 (N := some 162) HT_ (h := ?_)
          refine zpu 50 (N := some 163) HT_ (h := ?_)
          refine zpu 51 (N := some 164) HT_ (h := ?_)
          refine zpu 52 (N := some 165) HT_ (h := ?_)
          refine zpu 53 (N := some 166) HT_ (h := ?_)
          refine zpp 54 (N := some 167) HT_ (h := ?_)
          refine done_ (done_of HT_.out (by kernel_rfl)) ?_
          try go_wp2
          go_meet
          case rel => exact ⟨_, (true), zS, H', ⟨by have := HJ3.out; have := HK2.out; have := HJ17.out; first | omega | exact Nat.le_refl _⟩, ⟨zV HO_748001.out⟩, ⟨zV HO_748002.out⟩, ⟨zV HO_749001.out⟩, ⟨zV HO_749002.out⟩, ⟨zV HO_761001.out⟩, ⟨zV HO_761002.out⟩, ⟨zV HO_771001.out⟩, ⟨zV HO_771002.out⟩, ⟨zK BK747.out⟩, ⟨zK BK748.out⟩, ⟨zK BK750.out⟩, ⟨zK BK760.out⟩, ⟨zK BK770.out⟩, ⟨zK BK778.out⟩, ⟨zK BK785.out⟩, ⟨zK BK791.out⟩, ⟨zK BK797.out⟩, ⟨zL HB.out⟩⟩
        case rest =>
         clear HC62
         obtain ⟨kq, x167_61, rfl, HA, HJ61, HO_748001, HO_748002, HO_749001, HO_749002, HO_761001, HO_761002, HO_771001, HO_771002, BK747, BK748, BK750, BK760, BK770, BK778, BK785, BK791, BK797, HB⟩ := hcut
         cases kq with
         | zero => exact absurd HA.out (by simp [cooperagelaw16_LeasePlays.j3])
         | succ kj61 =>
          have H := HA.out
          clear HA
          simp only [cooperagelaw16_LeasePlays.j3] at H
          by_cases c142 : x167_61 = true
          ·subst c142
           rw [if_pos rfl] at H
           obtain rfl := Option.some.inj H
           go_wp2
           go_ret
           exact ⟨zE, zL HB.out⟩
          replace c142 := Bool.eq_false_iff.mpr c142
          subst c142
          rw [if_neg (show ¬ (false = true) by decide)] at H
          have H' := ka H
          clear H
          go_wp2
          go_roundg kj61
          case measure => have := HJ3.out; have := HK2.out; have := HJ17.out; have := HJ61.out; omega
          case rel => as_aux_lemma => exact ⟨(wrap64 (x7_2 + 1)), (t751), (t752), (t755), (t761), (t762), (t765), (.slice Ao35 t752.length co35), (.slice Ao36 t755.length co36), (.slice Ao49 t762.length co49), (.slice Ao50 t765.length co50), zS, H', ⟨by have := HJ3.out; have := HK2.out; have := HJ17.out; have := HJ61.out; omega⟩, ⟨by (with_reducible repeat (first | apply Kd.V_alloc | apply Kd.V_drewN | apply Kd.V_drew)); exact Kd.V_mono HO_748001.out (fun _ hk => ⟨hk.1, hk.2.1⟩)⟩, ⟨by (with_reducible repeat (first | apply Kd.V_alloc | apply Kd.V_drewN | apply Kd.V_drew)); exact Kd.V_mono HO_748002.out (fun _ hk => ⟨hk.1, hk.2.1⟩)⟩, ⟨by (with_reducible repeat (first | apply Kd.V_alloc | apply Kd.V_drewN | apply Kd.V_drew)); exact Kd.V_mono HO_749001.out (fun _ hk => ⟨hk.1, hk.2.1⟩)⟩, ⟨by (with_reducible repeat (first | apply Kd.V_alloc | apply Kd.V_drewN | apply Kd.V_drew)); exact Kd.V_mono HO_749002.out (fun _ hk => ⟨hk.1, hk.2.1⟩)⟩, ⟨zK BK747.out⟩, ⟨zK BK748.out⟩, ⟨zL HB.out⟩⟩
     rw [if_neg c13] at H
     have c13b0 := zdf c13
     clear c13
     obtain rfl := Option.some.inj H
     go_wp2
     go_ret
     exact ⟨zE, zL HB.out⟩

/-- THE ONE PURE STATEMENT of cooperagelaw16_LeasePlays. -/
def cooperagelaw16_LeasePlays.Pure : Prop := ∀ (l0 : List (S34)), l0.length ≤ 9223372036854775807 → l0.length * 64 ≤ 140737488351232 → (∀ x ∈ l0, (Lit.int .i64 x.f0).wf = true ∧ (Lit.int .i64 x.f1).wf = true ∧ (Lit.int .i64 x.f2).wf = true ∧ (Lit.int .i64 x.f3).wf = true ∧ (Lit.int .i64 x.f4).wf = true ∧ x.f5.size ≤ 9223372036854775807) → ∃ k, cooperagelaw16_LeasePlays.f k l0 = some true
theorem cooperagelaw16_LeasePlays.walk (P : cooperagelaw16_LeasePlays.Pure) (A0 : Option Addr) (c0 : Nat) (l0 : List (S34)) (w : World) (r0 : Kd.C k34 w A0 l0.length l0) (q0 : l0.length ≤ c0) (m0 : l0.length ≤ 9223372036854775807) (y0 : l0.length * 64 ≤ 140737488351232) (e0 : ∀ x ∈ l0, (Lit.int .i64 x.f0).wf = true ∧ (Lit.int .i64 x.f1).wf = true ∧ (Lit.int .i64 x.f2).wf = true ∧ (Lit.int .i64 x.f3).wf = true ∧ (Lit.int .i64 x.f4).wf = true ∧ x.f5.size ≤ 9223372036854775807) :
  Calls Tryd.prog 3 #[.slice A0 l0.length c0] w fun e w' => e = .returned (.bool true) ∧ Below w.heap.size w w' := by
 obtain ⟨k, h⟩ := P l0 m0 y0 e0
 refine (cooperagelaw16_LeasePlays.calls k _ _ l0 true w r0 q0 h).mono ?_
 rintro e w' ⟨rfl, hd⟩
 exact ⟨rfl, hd⟩

end Go.Proofs.YtjdadmjomjhpcaaDoor.PLease
