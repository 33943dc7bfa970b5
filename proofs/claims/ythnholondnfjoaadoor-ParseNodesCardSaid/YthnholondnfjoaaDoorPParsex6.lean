-- Written by a program of this session (wip/tools/ext.py, over the kit's printer); not trusted: Lean checks it.
import Derived.Test.YthnholondnfjoaaDoorPParsex0
import Derived.Test.YthnholondnfjoaaDoorPParsex1
import Derived.Test.YthnholondnfjoaaDoorPParsex2
import Derived.Test.YthnholondnfjoaaDoorPParsex3
import Derived.Test.YthnholondnfjoaaDoorPParsex4
import Derived.Test.YthnholondnfjoaaDoorPParsex5
namespace Go.Proofs.YthnholondnfjoaaDoor.PParse
open Go.RowKit Go.Proofs.YthnholondnfjoaaDoorW.PrintWords Go.Proofs.YthnholondnfjoaaDoorW.PrintLast Go.Proofs.YthnholondnfjoaaDoorW.PrintMore
attribute [local go_sem] max2_int min2_int max_two min_two max_three min_three max_four min_four
set_option linter.unusedVariables false
set_option linter.unusedSimpArgs false
set_option maxHeartbeats 8000000
set_option maxRecDepth 100000

/-! ### parse_node: function 23 -/
def parse_node.j0 : Nat → ByteArray → ByteArray → ByteArray → ByteArray → Bool → Option (Int × Int × ByteArray × ByteArray × ByteArray × ByteArray × ByteArray × ByteArray × ByteArray × List ByteArray × Bool)
 | 0, _, _, _, _, _ => none
 | k + 1, x0, x4, x5, x18, x19 => if x19 = true then ((parse_conditional.f k x4 x5).bind fun bt171 => (some (bt171.1, bt171.2.1, bt171.2.2.1, bt171.2.2.2.1, bt171.2.2.2.2.1, bt171.2.2.2.2.2.1, bt171.2.2.2.2.2.2.1, bt171.2.2.2.2.2.2.2.1, bt171.2.2.2.2.2.2.2.2.1, bt171.2.2.2.2.2.2.2.2.2.1, bt171.2.2.2.2.2.2.2.2.2.2))) else (if x18.toList = ([101, 108, 115, 101] : List UInt8) then (some (4, 0, (⟨#[]⟩ : ByteArray), (⟨#[]⟩ : ByteArray), (⟨#[]⟩ : ByteArray), (⟨#[]⟩ : ByteArray), (⟨#[]⟩ : ByteArray), (⟨#[]⟩ : ByteArray), (⟨#[]⟩ : ByteArray), ([] : List ByteArray), (x5.toList == ([] : List UInt8)))) else (if x18.toList = ([101, 110, 100, 105, 102] : List UInt8) then (some (5, 0, (⟨#[]⟩ : ByteArray), (⟨#[]⟩ : ByteArray), (⟨#[]⟩ : ByteArray), (⟨#[]⟩ : ByteArray), (⟨#[]⟩ : ByteArray), (⟨#[]⟩ : ByteArray), (⟨#[]⟩ : ByteArray), ([] : List ByteArray), (x5.toList == ([] : List UInt8)))) else (if x18.toList = ([105, 110, 99, 108, 117, 100, 101] : List UInt8) then (some (6, 0, x4, (⟨#[]⟩ : ByteArray), x5, (⟨#[]⟩ : ByteArray), (⟨#[]⟩ : ByteArray), (⟨#[]⟩ : ByteArray), (⟨#[]⟩ : ByteArray), ([] : List ByteArray), (x5.toList != ([] : List UInt8)))) else (if x18.toList = ([45, 105, 110, 99, 108, 117, 100, 101] : List UInt8) then (some (6, 0, x4, (⟨#[]⟩ : ByteArray), x5, (⟨#[]⟩ : ByteArray), (⟨#[]⟩ : ByteArray), (⟨#[]⟩ : ByteArray), (⟨#[]⟩ : ByteArray), ([] : List ByteArray), (x5.toList != ([] : List UInt8)))) else ((parse_Cut.f k x0 (([(⟨#[58, 61]⟩ : ByteArray), (⟨#[63, 61]⟩ : ByteArray), (⟨#[43, 61]⟩ : ByteArray), (⟨#[61]⟩ : ByteArray), (⟨#[58]⟩ : ByteArray)] : List ByteArray))).bind fun bt187 => (if bt187.2.1.toList = ([] : List UInt8) then (some (0, 0, (⟨#[]⟩ : ByteArray), (⟨#[]⟩ : ByteArray), (⟨#[]⟩ : ByteArray), (⟨#[]⟩ : ByteArray), (⟨#[]⟩ : ByteArray), (⟨#[]⟩ : ByteArray), (⟨#[]⟩ : ByteArray), ([] : List ByteArray), false)) else (if bt187.2.1.toList = ([58] : List UInt8) then ((parse_rule.f k bt187.1 bt187.2.2).bind fun bt190 => (some (bt190.1, bt190.2.1, bt190.2.2.1, bt190.2.2.2.1, bt190.2.2.2.2.1, bt190.2.2.2.2.2.1, bt190.2.2.2.2.2.2.1, bt190.2.2.2.2.2.2.2.1, bt190.2.2.2.2.2.2.2.2.1, bt190.2.2.2.2.2.2.2.2.2.1, bt190.2.2.2.2.2.2.2.2.2.2))) else ((text_Trim.f bt187.1).bind fun t203 => ((text_Trim.f bt187.2.2).bind fun t204 => ((parse_Name.f k t203).bind fun t206 => (some (1, 0, bt187.2.1, t203, t204, (⟨#[]⟩ : ByteArray), (⟨#[]⟩ : ByteArray), (⟨#[]⟩ : ByteArray), (⟨#[]⟩ : ByteArray), ([] : List ByteArray), t206))))))))))))
def parse_node.f (k : Nat) (a0 : ByteArray) : Option (Int × Int × ByteArray × ByteArray × ByteArray × ByteArray × ByteArray × ByteArray × ByteArray × List ByteArray × Bool) := (text_Words.f a0).bind fun t165 => (if 0 < (t165.length : Int) then ((strings_TrimPrefix.f a0 (rdOf ByteArray.empty t165 0)).bind fun t169 => ((text_Trim.f t169).bind fun t170 => (if (rdOf ByteArray.empty t165 0).toList = ([105, 102, 101, 113] : List UInt8) then (parse_node.j0 k a0 (rdOf ByteArray.empty t165 0) t170 (rdOf ByteArray.empty t165 0) ((rdOf ByteArray.empty t165 0).toList == ([105, 102, 101, 113] : List UInt8))) else (if (rdOf ByteArray.empty t165 0).toList = ([105, 102, 110, 101, 113] : List UInt8) then (parse_node.j0 k a0 (rdOf ByteArray.empty t165 0) t170 (rdOf ByteArray.empty t165 0) ((rdOf ByteArray.empty t165 0).toList == ([105, 102, 110, 101, 113] : List UInt8))) else (if (rdOf ByteArray.empty t165 0).toList = ([105, 102, 100, 101, 102] : List UInt8) then (parse_node.j0 k a0 (rdOf ByteArray.empty t165 0) t170 (rdOf ByteArray.empty t165 0) ((rdOf ByteArray.empty t165 0).toList == ([105, 102, 100, 101, 102] : List UInt8))) else (parse_node.j0 k a0 (rdOf ByteArray.empty t165 0) t170 (rdOf ByteArray.empty t165 0) ((rdOf ByteArray.empty t165 0).toList == ([105, 102, 110, 100, 101, 102] : List UInt8)))))))) else (none))
theorem parse_node.mono_l : ∀ k, (∀ y0 y1 y2 y3 y4, LeO (parse_node.j0 k y0 y1 y2 y3 y4) (parse_node.j0 (k + 1) y0 y1 y2 y3 y4))
 | 0 => fun _ _ _ _ _ r h => by simp [parse_node.j0] at h
 | k + 1 => by
  have ih0 := parse_node.mono_l k
  ·intro y0 y1 y2 y3 y4
   unfold parse_node.j0
   have m0 := @parse_Cut.mono
   have m1 := @parse_Name.mono
   have m2 := @parse_conditional.mono
   have m3 := @parse_rule.mono
   exact zLe
theorem parse_node.mono : ∀ a0 k, LeO (parse_node.f k a0) (parse_node.f (k + 1) a0) := by
 intro a0 k
 have ih0 := parse_node.mono_l k
 unfold parse_node.f
 have m0 := @parse_Cut.mono
 have m1 := @parse_Name.mono
 have m2 := @parse_conditional.mono
 have m3 := @parse_rule.mono
 exact zLe
theorem parse_node.calls (k : Nat) (a0 : ByteArray) (r1 : Int) (r2 : Int) (r3 : ByteArray) (r4 : ByteArray) (r5 : ByteArray) (r6 : ByteArray) (r7 : ByteArray) (r8 : ByteArray) (r9 : ByteArray) (r10 : List ByteArray) (r11 : Bool) (w : World) (h : parse_node.f k a0 = some (r1, r2, r3, r4, r5, r6, r7, r8, r9, r10, r11)) :
  Calls Tryd.prog 23 #[.string a0] w fun e w' => ∃ v9_ : Value, e = .returned (.tuple #[.agg #[.int .i64 r1, .int .i64 r2, .string r3, .string r4, .string r5, .string r6, .string r7, .string r8, .string r9, v9_], .bool r11]) ∧ Kd.R Kd.string 9 w' w.heap.size (fun _ => True) v9_ r10 ∧ Below w.heap.size w w' := by
 have hu45 := Tryd.underlying45
 have HB := ka (Below.refl w.heap.size w)
 have H : ((text_Words.f a0).bind fun t165 => (if 0 < (t165.length : Int) then ((strings_TrimPrefix.f a0 (rdOf ByteArray.empty t165 0)).bind fun t169 => ((text_Trim.f t169).bind fun t170 => (if (rdOf ByteArray.empty t165 0).toList = ([105, 102, 101, 113] : List UInt8) then (parse_node.j0 k a0 (rdOf ByteArray.empty t165 0) t170 (rdOf ByteArray.empty t165 0) ((rdOf ByteArray.empty t165 0).toList == ([105, 102, 101, 113] : List UInt8))) else (if (rdOf ByteArray.empty t165 0).toList = ([105, 102, 110, 101, 113] : List UInt8) then (parse_node.j0 k a0 (rdOf ByteArray.empty t165 0) t170 (rdOf ByteArray.empty t165 0) ((rdOf ByteArray.empty t165 0).toList == ([105, 102, 110, 101, 113] : List UInt8))) else (if (rdOf ByteArray.empty t165 0).toList = ([105, 102, 100, 101, 102] : List UInt8) then (parse_node.j0 k a0 (rdOf ByteArray.empty t165 0) t170 (rdOf ByteArray.empty t165 0) ((rdOf ByteArray.empty t165 0).toList == ([105, 102, 100, 101, 102] : List UInt8))) else (parse_node.j0 k a0 (rdOf ByteArray.empty t165 0) t170 (rdOf ByteArray.empty t165 0) ((rdOf ByteArray.empty t165 0).toList == ([105, 102, 110, 100, 101, 102] : List UInt8)))))))) else (none))) = some (r1, r2, r3, r4, r5, r6, r7, r8, r9, r10, r11) := h
 clear h
 replace H := Option.bind_eq_some_iff.mp H
 obtain ⟨t165, A20, H⟩ := H
 try dsimp only at H
 have A2 := ka A20
 clear A20
 replace H := zif H
 obtain ⟨c3, H⟩ := H
 have c3b0 := zdt c3
 have c3b1 : decide (0 < t165.length) = true := decide_eq_true (by omega)
 clear c3
 replace H := Option.bind_eq_some_iff.mp H
 obtain ⟨t169, A40, H⟩ := H
 try dsimp only at H
 have A4 := ka A40
 clear A40
 replace H := Option.bind_eq_some_iff.mp H
 obtain ⟨t170, A50, H⟩ := H
 try dsimp only at H
 have A5 := ka A50
 clear A50
 have HC6 := ka H
 clear H
 go_enter Tryd.func23, Tryd.ntmps23
 go_upto_if 19 with (first | ((with_reducible refine gate_dst (N := 2) rfl ?_); refine box_event ?hg (N := 2) ?hd (cs := #[.int .i64 0, .int .i64 0, .string ⟨#[]⟩, .string ⟨#[]⟩, .string ⟨#[]⟩, .string ⟨#[]⟩, .string ⟨#[]⟩, .string ⟨#[]⟩, .string ⟨#[]⟩, .slice none 0 0]) (t := 45) ?hr ?_; (case hd => rfl); (case hg => rfl); (case hr => (go_simp; try rfl)); intro gb164 hg w7 hbox hb; have BK164 := ka (hbox); have GW164 := ka (zG hg (zL HB.out)); have GE164 := ka (zG hg (zL HB.out)); replace HB := ka (below_step (zL HB.out) hb); clear hb hbox hg) | ((with_reducible refine gate_callee (f := 22) rfl ?_); refine goesL_ (some 11) rfl rfl Tryd.func22 (by kernel_rfl) rfl #[.string a0] rfl zA ?_; (with_reducible refine (text_Words.calls a0 t165 _ A2.out).mono ?_); rintro e w8 ⟨v166, rfl, ho0, hb⟩; refine ⟨_, rfl, ?_⟩; have HO167 := ka (Kd.R_lower ho0 (below_size (zL HB.out))); replace BK164 := ka (zB BK164.out hb); replace HB := ka (below_step (zL HB.out) hb); (try clear hb); (try clear hb2); (try clear hk); (try clear hi); (try clear ho0); obtain ⟨Ao9, co9, eo9⟩ := Kd.R_slice HO167.out; subst eo9; have p168 : 0 ≤ (0 : Int) := (by omega); have q168 : 0 < (t165.length : Int) := zD; obtain ⟨ad168, e168, hx168_0⟩ := Kd.at_string (Kd.R_reads' HO167.out).2.2 0 p168 q168; cases e168; have qi168 : (0 < t165.length) = True := eq_true (by omega); (try rw [show ((0 : Int)).toNat = 0 from rfl] at hx168_0); (try rw [Addr.add_zero'] at hx168_0); replace p168 := eq_true p168; replace q168 := eq_true q168) | ((with_reducible refine gate_callee (f := 43) rfl ?_); refine goesL_ (some 16) rfl rfl Tryd.func43 (by kernel_rfl) rfl #[.string a0, .string (rdOf ByteArray.empty t165 0)] rfl zA ?_; (with_reducible refine (strings_TrimPrefix.calls a0 (rdOf ByteArray.empty t165 0) t169 _ A4.out).mono ?_); rintro e w' ⟨rfl, ⟨nd, rfl⟩⟩; refine ⟨_, rfl, ?_⟩) | ((with_reducible refine gate_callee (f := 24) rfl ?_); refine goesL_ (some 17) rfl rfl Tryd.func24 (by kernel_rfl) rfl #[.string t169] rfl zA ?_; (with_reducible refine (text_Trim.calls t169 t170 _ A5.out).mono ?_); rintro e w10 ⟨rfl, hb⟩; refine ⟨_, rfl, ?_⟩; replace HO167 := ka (Kd.R_below (zR HO167.out) hb); replace BK164 := ka (zB BK164.out hb); replace HB := ka (below_step (zL HB.out) hb); (try clear hb); (try clear hb2); (try clear hk); (try clear hi)))
 (try simp only [Act.put, List.setIfInBounds_toArray, List.set_cons_zero, List.set_cons_succ])
 go_cut [19] (fun v19 wc => ∃ (kq : Nat) (x19_5 : Bool), v19 = .bool x19_5 ∧ Aside0 (parse_node.j0 kq a0 (rdOf ByteArray.empty t165 0) t170 (rdOf ByteArray.empty t165 0) x19_5 = some (r1, r2, r3, r4, r5, r6, r7, r8, r9, r10, r11)) ∧ Aside0 (kq ≤ k) ∧ Aside0 (wc.heap[gb164]? = some (.cells #[.int .i64 0, .int .i64 0, .string ⟨#[]⟩, .string ⟨#[]⟩, .string ⟨#[]⟩, .string ⟨#[]⟩, .string ⟨#[]⟩, .string ⟨#[]⟩, .string ⟨#[]⟩, (.slice none 0 0)] 45 (0, 0))) ∧ Aside0 (Below w.heap.size w wc))
 case first =>
  have H := HC6.out
  clear HC6
  by_cases c11 : (rdOf ByteArray.empty t165 0).toList = ([105, 102, 101, 113] : List UInt8)
  ·rw [if_pos c11] at H
   have c11b0 := zb0 c11
   have c11b1 := zb1 c11
   clear c11
   (first | rw [c11b0] | (simp only [i64_w, i32_w]; rw [c11b0]) | rw [isE_ c11b0] | skip)
   have H' := ka H
   clear H
   go_wp2
   go_meet
   case rel => exact ⟨_, (((rdOf ByteArray.empty t165 0).toList == ([105, 102, 101, 113] : List UInt8))), zS, H', ⟨by first | omega | exact Nat.le_refl _⟩, ⟨zK BK164.out⟩, ⟨zL HB.out⟩⟩
  rw [if_neg c11] at H
  have c11b0 := zn0 c11
  have c11b1 := zn1 c11
  (first | rw [c11b0] | (simp only [i64_w, i32_w]; rw [c11b0]) | rw [isE_ c11b0] | skip)
  by_cases c12 : (rdOf ByteArray.empty t165 0).toList = ([105, 102, 110, 101, 113] : List UInt8)
  ·rw [if_pos c12] at H
   have c12b0 := zb0 c12
   have c12b1 := zb1 c12
   clear c12
   have H' := ka H
   clear H
   go_wp2
   go_meet
   case rel => exact ⟨_, (((rdOf ByteArray.empty t165 0).toList == ([105, 102, 110, 101, 113] : List UInt8))), zS, H', ⟨by first | omega | exact Nat.le_refl _⟩, ⟨zK BK164.out⟩, ⟨zL HB.out⟩⟩
  rw [if_neg c12] at H
  have c12b0 := zn0 c12
  have c12b1 := zn1 c12
  by_cases c13 : (rdOf ByteArray.empty t165 0).toList = ([105, 102, 100, 101, 102] : List UInt8)
  ·rw [if_pos c13] at H
   have c13b0 := zb0 c13
   have c13b1 := zb1 c13
   clear c13
   have H' := ka H
   clear H
   go_wp2
   go_meet
   case rel => exact ⟨_, (((rdOf ByteArray.empty t165 0).toList == ([105, 102, 100, 101, 102] : List UInt8))), zS, H', ⟨by first | omega | exact Nat.le_refl _⟩, ⟨zK BK164.out⟩, ⟨zL HB.out⟩⟩
  rw [if_neg c13] at H
  have c13b0 := zn0 c13
  have c13b1 := zn1 c13
  have H' := ka H
  clear H
  go_wp2
  go_meet
  case rel => exact ⟨_, (((rdOf ByteArray.empty t165 0).toList == ([105, 102, 110, 100, 101, 102] : List UInt8))), zS, H', ⟨by first | omega | exact Nat.le_refl _⟩, ⟨zK BK164.out⟩, ⟨zL HB.out⟩⟩
 case rest =>
  clear HC6
  try clear c3
  try clear c3b0
  try clear c3b1
  try clear hx168_0
  try clear p168
  try clear q168
  obtain ⟨kq, x19_5, rfl, HA, HJ5, BK164, HB⟩ := hcut
  cases kq with
  | zero => exact absurd HA.out (by simp [parse_node.j0])
  | succ kj5 =>
   have H := HA.out
   clear HA
   simp only [parse_node.j0] at H
   by_cases c14 : x19_5 = true
   case pos =>
    subst c14
    rw [if_pos rfl] at H
    replace H := Option.bind_eq_some_iff.mp H
    obtain ⟨⟨t171, t172, t173, t174, t175, t176, t177, t178, t179, t180, t183⟩, A150, H⟩ := H
    try dsimp only at H
    have A15 := ka A150
    clear A150
    replace H := zs11 H
    obtain ⟨rfl, rfl, rfl, rfl, rfl, rfl, rfl, rfl, rfl, rfl, rfl⟩ := H
    go_wp2_with (first | ((with_reducible refine gate_callee (f := 44) rfl ?_); refine goesL_ (some 26) rfl rfl Tryd.func44 (by kernel_rfl) rfl #[.string (rdOf ByteArray.empty t165 0), .string t170] rfl zA ?_; (with_reducible refine (parse_conditional.calls kj5 (rdOf ByteArray.empty t165 0) t170 t171 t172 t173 t174 t175 t176 t177 t178 t179 t180 t183 _ A15.out).mono ?_); rintro e w16 ⟨v181, rfl, ho0, hb⟩; refine ⟨_, rfl, ?_⟩; have HO182 := ka (Kd.R_lower ho0 (below_size (zL HB.out))); replace BK164 := ka (zB BK164.out hb); replace HB := ka (below_step (zL HB.out) hb); (try clear hb); (try clear hb2); (try clear hk); (try clear hi); (try clear ho0); obtain ⟨z17_0, z17_1, z17_2, z17_3, z17_4, z17_5, z17_6, z17_7, z17_8, z17_9, y17_0, y17_1, y17_2, y17_3, y17_4, y17_5, y17_6, y17_7, y17_8, y17_9⟩ := zC10 BK164.out; obtain ⟨Ao18, co18, eo18⟩ := Kd.R_slice HO182.out; subst eo18))
    refine bodyPost_ret (results_ct rfl _ _ gb164 45 #[.int .i64 t171, .int .i64 t172, .string t173, .string t174, .string t175, .string t176, .string t177, .string t178, .string t179, .slice Ao18 t180.length co18] (0, 0) _ rfl (zP10 BK164.out) Tryd.underlying45 rfl (by kernel_rfl)) rfl ?_
    exact ⟨_, zE, by (with_reducible repeat (first | apply Kd.R_alloc | apply Kd.R_drewN | apply Kd.R_drew)); exact Kd.R_mono (zNT HO182.out BK164.out) (fun _ hk => trivial), zL HB.out⟩
   case' neg =>
    replace c14 := Bool.eq_false_iff.mpr c14
    subst c14
    rw [if_neg (show ¬ (false = true) by decide)] at H
    by_cases c19 : (rdOf ByteArray.empty t165 0).toList = ([101, 108, 115, 101] : List UInt8)
    case pos =>
     rw [if_pos c19] at H
     have c19b0 := zb0 c19
     have c19b1 := zb1 c19
     clear c19
     replace H := zs11 H
     obtain ⟨rfl, rfl, rfl, rfl, rfl, rfl, rfl, rfl, rfl, rfl, rfl⟩ := H
     obtain ⟨z20_0, z20_1, z20_2, z20_3, z20_4, z20_5, z20_6, z20_7, z20_8, z20_9, y20_0, y20_1, y20_2, y20_3, y20_4, y20_5, y20_6, y20_7, y20_8, y20_9⟩ := zC10 BK164.out
     go_wp2
     refine bodyPost_ret (results_ct rfl _ _ gb164 45 #[.int .i64 4, .int .i64 0, .string ⟨#[]⟩, .string ⟨#[]⟩, .string ⟨#[]⟩, .string ⟨#[]⟩, .string ⟨#[]⟩, .string ⟨#[]⟩, .string ⟨#[]⟩, .slice none 0 0] (0, 0) _ rfl (zP10 BK164.out) Tryd.underlying45 rfl (by kernel_rfl)) rfl ?_
     exact ⟨_, zE, zNl, zL HB.out⟩
    case' neg =>
     rw [if_neg c19] at H
     have c19b0 := zn0 c19
     have c19b1 := zn1 c19
     by_cases c21 : (rdOf ByteArray.empty t165 0).toList = ([101, 110, 100, 105, 102] : List UInt8)
     case pos =>
      rw [if_pos c21] at H
      have c21b0 := zb0 c21
      have c21b1 := zb1 c21
      clear c21
      replace H := zs11 H
      obtain ⟨rfl, rfl, rfl, rfl, rfl, rfl, rfl, rfl, rfl, rfl, rfl⟩ := H
      obtain ⟨z22_0, z22_1, z22_2, z22_3, z22_4, z22_5, z22_6, z22_7, z22_8, z22_9, y22_0, y22_1, y22_2, y22_3, y22_4, y22_5, y22_6, y22_7, y22_8, y22_9⟩ := zC10 BK164.out
      go_wp2
      refine bodyPost_ret (results_ct rfl _ _ gb164 45 #[.int .i64 5, .int .i64 0, .string ⟨#[]⟩, .string ⟨#[]⟩, .string ⟨#[]⟩, .string ⟨#[]⟩, .string ⟨#[]⟩, .string ⟨#[]⟩, .string ⟨#[]⟩, .slice none 0 0] (0, 0) _ rfl (zP10 BK164.out) Tryd.underlying45 rfl (by kernel_rfl)) rfl ?_
      exact ⟨_, zE, zNl, zL HB.out⟩
     case' neg =>
      rw [if_neg c21] at H
      have c21b0 := zn0 c21
      have c21b1 := zn1 c21
      by_cases c23 : (rdOf ByteArray.empty t165 0).toList = ([105, 110, 99, 108, 117, 100, 101] : List UInt8)
      case' pos =>
       rw [if_pos c23] at H
       have c23b0 := zb0 c23
       have c23b1 := zb1 c23
       clear c23
      case' neg =>
       rw [if_neg c23] at H
       have c23b0 := zn0 c23
       have c23b1 := zn1 c23
       by_cases c25 : (rdOf ByteArray.empty t165 0).toList = ([45, 105, 110, 99, 108, 117, 100, 101] : List UInt8)
       case neg =>
        rw [if_neg c25] at H
        have c25b0 := zn0 c25
        have c25b1 := zn1 c25
        obtain ⟨y184, hy184⟩ : ∃ y_ : List ByteArray, y_ = (([(⟨#[58, 61]⟩ : ByteArray), (⟨#[63, 61]⟩ : ByteArray), (⟨#[43, 61]⟩ : ByteArray), (⟨#[61]⟩ : ByteArray), (⟨#[58]⟩ : ByteArray)] : List ByteArray)) := ⟨_, rfl⟩
        replace H : ((parse_Cut.f kj5 a0 y184).bind fun bt187 => (if bt187.2.1.toList = ([] : List UInt8) then (some (0, 0, (⟨#[]⟩ : ByteArray), (⟨#[]⟩ : ByteArray), (⟨#[]⟩ : ByteArray), (⟨#[]⟩ : ByteArray), (⟨#[]⟩ : ByteArray), (⟨#[]⟩ : ByteArray), (⟨#[]⟩ : ByteArray), ([] : List ByteArray), false)) else (if bt187.2.1.toList = ([58] : List UInt8) then ((parse_rule.f kj5 bt187.1 bt187.2.2).bind fun bt190 => (some (bt190.1, bt190.2.1, bt190.2.2.1, bt190.2.2.2.1, bt190.2.2.2.2.1, bt190.2.2.2.2.2.1, bt190.2.2.2.2.2.2.1, bt190.2.2.2.2.2.2.2.1, bt190.2.2.2.2.2.2.2.2.1, bt190.2.2.2.2.2.2.2.2.2.1, bt190.2.2.2.2.2.2.2.2.2.2))) else ((text_Trim.f bt187.1).bind fun t203 => ((text_Trim.f bt187.2.2).bind fun t204 => ((parse_Name.f kj5 t203).bind fun t206 => (some (1, 0, bt187.2.1, t203, t204, (⟨#[]⟩ : ByteArray), (⟨#[]⟩ : ByteArray), (⟨#[]⟩ : ByteArray), (⟨#[]⟩ : ByteArray), ([] : List ByteArray), t206)))))))) = some (r1, r2, r3, r4, r5, r6, r7, r8, r9, r10, r11) := zH hy184 H
        have Ny184 := ka hy184
        clear hy184
        replace H := Option.bind_eq_some_iff.mp H
        obtain ⟨⟨t187, t188, t189⟩, A270, H⟩ := H
        try dsimp only at H
        have A27 := ka A270
        clear A270
        by_cases c28 : t188.toList = ([] : List UInt8)
        ·rw [if_pos c28] at H
         have c28b0 := zb0 c28
         have c28b1 := zb1 c28
         clear c28
         replace H := zs11 H
         obtain ⟨rfl, rfl, rfl, rfl, rfl, rfl, rfl, rfl, rfl, rfl, rfl⟩ := H
         go_wp2_with (first | ((with_reducible refine gate_dst (N := 49) rfl ?_); refine Kd.R_lit Kd.string _ 9 ?hg (N := 49) ?hd (xs := ([(⟨#[58, 61]⟩ : ByteArray), (⟨#[63, 61]⟩ : ByteArray), (⟨#[43, 61]⟩ : ByteArray), (⟨#[61]⟩ : ByteArray), (⟨#[58]⟩ : ByteArray)] : List ByteArray)) (inner := [.string ⟨#[58, 61]⟩, .string ⟨#[63, 61]⟩, .string ⟨#[43, 61]⟩, .string ⟨#[61]⟩, .string ⟨#[58]⟩]) (ok := fun _ => True) (okp := fun _ => True) ?hr ?hp (fun _ hk => hk) trivial (Below.refl _ _) (Nat.le_refl _) (by simp) ?_; (case hd => rfl); (case hg => rfl); (case hr => (go_simp; try rfl)); (case hp => exact (Reps.one (show Kd.M Kd.string _ _ _ (⟨#[58, 61]⟩ : ByteArray) [.string ⟨#[58, 61]⟩] from rfl) (Reps.one (show Kd.M Kd.string _ _ _ (⟨#[63, 61]⟩ : ByteArray) [.string ⟨#[63, 61]⟩] from rfl) (Reps.one (show Kd.M Kd.string _ _ _ (⟨#[43, 61]⟩ : ByteArray) [.string ⟨#[43, 61]⟩] from rfl) (Reps.one (show Kd.M Kd.string _ _ _ (⟨#[61]⟩ : ByteArray) [.string ⟨#[61]⟩] from rfl) (Reps.one (show Kd.M Kd.string _ _ _ (⟨#[58]⟩ : ByteArray) [.string ⟨#[58]⟩] from rfl) (Reps.none _ _))))))); intro v185 w29 ho30 hb hg_ hnew_; clear hg_ hnew_; (first | rw [← Ny184.out] at ho30 | (simp only [Int.reduceToNat] at ho30; rw [← Ny184.out] at ho30)); have HO186 := ka (Kd.R_lower ho30 (below_size (zL HB.out))); replace BK164 := ka (zB BK164.out hb); replace HB := ka (below_step (zL HB.out) hb); clear hb ho30; obtain ⟨Ao31, co31, eo31⟩ := Kd.R_slice HO186.out; subst eo31) | ((with_reducible refine gate_callee (f := 17) rfl ?_); refine goesL_ (some 50) rfl rfl Tryd.func17 (by kernel_rfl) rfl #[.string a0, .slice Ao31 y184.length co31] rfl zA ?_; (with_reducible refine (parse_Cut.calls kj5 a0 _ _ y184 t187 t188 t189 _ ?side1 ?side2 A27.out).mono ?_); (case side1 => exact zCS (Kd.R_reads' HO186.out).2.2); (case side2 => exact (Kd.R_reads' HO186.out).2.1); rintro e w32 ⟨rfl, hb⟩; refine ⟨_, rfl, ?_⟩; replace HO186 := ka (Kd.R_below (zR HO186.out) hb); replace BK164 := ka (zB BK164.out hb); replace HB := ka (below_step (zL HB.out) hb); (try clear hb); (try clear hb2); (try clear hk); (try clear hi); obtain ⟨z33_0, z33_1, z33_2, z33_3, z33_4, z33_5, z33_6, z33_7, z33_8, z33_9, y33_0, y33_1, y33_2, y33_3, y33_4, y33_5, y33_6, y33_7, y33_8, y33_9⟩ := zC10 BK164.out))
         refine bodyPost_ret (results_ct rfl _ _ gb164 45 #[.int .i64 0, .int .i64 0, .string ⟨#[]⟩, .string ⟨#[]⟩, .string ⟨#[]⟩, .string ⟨#[]⟩, .string ⟨#[]⟩, .string ⟨#[]⟩, .string ⟨#[]⟩, .slice none 0 0] (0, 0) _ rfl (zP10 BK164.out) Tryd.underlying45 rfl (by kernel_rfl)) rfl ?_
         exact ⟨_, zE, zNl, zL HB.out⟩
        ·rw [if_neg c28] at H
         have c28b0 := zn0 c28
         have c28b1 := zn1 c28
         by_cases c34 : t188.toList = ([58] : List UInt8)
         ·rw [if_pos c34] at H
          have c34b0 := zb0 c34
          have c34b1 := zb1 c34
          clear c34
          replace H := Option.bind_eq_some_iff.mp H
          obtain ⟨⟨t190, t191, t192, t193, t194, t195, t196, t197, t198, t199, t202⟩, A350, H⟩ := H
          try dsimp only at H
          have A35 := ka A350
          clear A350
          replace H := zs11 H
          obtain ⟨rfl, rfl, rfl, rfl, rfl, rfl, rfl, rfl, rfl, rfl, rfl⟩ := H
          go_wp2_with (first | ((with_reducible refine gate_dst (N := 49) rfl ?_); refine Kd.R_lit Kd.string _ 9 ?hg (N := 49) ?hd (xs := ([(⟨#[58, 61]⟩ : ByteArray), (⟨#[63, 61]⟩ : ByteArray), (⟨#[43, 61]⟩ : ByteArray), (⟨#[61]⟩ : ByteArray), (⟨#[58]⟩ : ByteArray)] : List ByteArray)) (inner := [.string ⟨#[58, 61]⟩, .string ⟨#[63, 61]⟩, .string ⟨#[43, 61]⟩, .string ⟨#[61]⟩, .string ⟨#[58]⟩]) (ok := fun _ => True) (okp := fun _ => True) ?hr ?hp (fun _ hk => hk) trivial (Below.refl _ _) (Nat.le_refl _) (by simp) ?_; (case hd => rfl); (case hg => rfl); (case hr => (go_simp; try rfl)); (case hp => exact (Reps.one (show Kd.M Kd.string _ _ _ (⟨#[58, 61]⟩ : ByteArray) [.string ⟨#[58, 61]⟩] from rfl) (Reps.one (show Kd.M Kd.string _ _ _ (⟨#[63, 61]⟩ : ByteArray) [.string ⟨#[63, 61]⟩] from rfl) (Reps.one (show Kd.M Kd.string _ _ _ (⟨#[43, 61]⟩ : ByteArray) [.string ⟨#[43, 61]⟩] from rfl) (Reps.one (show Kd.M Kd.string _ _ _ (⟨#[61]⟩ : ByteArray) [.string ⟨#[61]⟩] from rfl) (Reps.one (show Kd.M Kd.string _ _ _ (⟨#[58]⟩ : ByteArray) [.string ⟨#[58]⟩] from rfl) (Reps.none _ _))))))); intro v185 w36 ho37 hb hg_ hnew_; clear hg_ hnew_; (first | rw [← Ny184.out] at ho37 | (simp only [Int.reduceToNat] at ho37; rw [← Ny184.out] at ho37)); have HO186 := ka (Kd.R_lower ho37 (below_size (zL HB.out))); replace BK164 := ka (zB BK164.out hb); replace HB := ka (below_step (zL HB.out) hb); clear hb ho37; obtain ⟨Ao38, co38, eo38⟩ := Kd.R_slice HO186.out; subst eo38) | ((with_reducible refine gate_callee (f := 17) rfl ?_); refine goesL_ (some 50) rfl rfl Tryd.func17 (by kernel_rfl) rfl #[.string a0, .slice Ao38 y184.length co38] rfl zA ?_; (with_reducible refine (parse_Cut.calls kj5 a0 _ _ y184 t187 t188 t189 _ ?side1 ?side2 A27.out).mono ?_); (case side1 => exact zCS (Kd.R_reads' HO186.out).2.2); (case side2 => exact (Kd.R_reads' HO186.out).2.1); rintro e w39 ⟨rfl, hb⟩; refine ⟨_, rfl, ?_⟩; replace HO186 := ka (Kd.R_below (zR HO186.out) hb); replace BK164 := ka (zB BK164.out hb); replace HB := ka (below_step (zL HB.out) hb); (try clear hb); (try clear hb2); (try clear hk); (try clear hi)) | ((with_reducible refine gate_callee (f := 45) rfl ?_); refine goesL_ (some 62) rfl rfl Tryd.func45 (by kernel_rfl) rfl #[.string t187, .string t189] rfl zA ?_; (with_reducible refine (parse_rule.calls kj5 t187 t189 t190 t191 t192 t193 t194 t195 t196 t197 t198 t199 t202 _ A35.out).mono ?_); rintro e w40 ⟨v200, rfl, ho0, hb⟩; refine ⟨_, rfl, ?_⟩; have HO201 := ka (Kd.R_lower (Kd.R_new' ho0 (Kd.R_lt (zR HO186.out))) (below_size (zL HB.out))); replace HO186 := ka (Kd.R_elder' (zR HO186.out) (Kd.R_base ho0) hb); replace BK164 := ka (zB BK164.out hb); replace HB := ka (below_step (zL HB.out) hb); (try clear hb); (try clear hb2); (try clear hk); (try clear hi); (try clear ho0); obtain ⟨z41_0, z41_1, z41_2, z41_3, z41_4, z41_5, z41_6, z41_7, z41_8, z41_9, y41_0, y41_1, y41_2, y41_3, y41_4, y41_5, y41_6, y41_7, y41_8, y41_9⟩ := zC10 BK164.out; obtain ⟨Ao42, co42, eo42⟩ := Kd.R_slice HO201.out; subst eo42))
          refine bodyPost_ret (results_ct rfl _ _ gb164 45 #[.int .i64 t190, .int .i64 t191, .string t192, .string t193, .string t194, .string t195, .string t196, .string t197, .string t198, .slice Ao42 t199.length co42] (0, 0) _ rfl (zP10 BK164.out) Tryd.underlying45 rfl (by kernel_rfl)) rfl ?_
          exact ⟨_, zE, by (with_reducible repeat (first | apply Kd.R_alloc | apply Kd.R_drewN | apply Kd.R_drew)); exact Kd.R_mono (zNT HO201.out BK164.out) (fun _ hk => trivial), zL HB.out⟩
         ·rw [if_neg c34] at H
          have c34b0 := zn0 c34
          have c34b1 := zn1 c34
          replace H := Option.bind_eq_some_iff.mp H
          obtain ⟨t203, A430, H⟩ := H
          try dsimp only at H
          have A43 := ka A430
          clear A430
          replace H := Option.bind_eq_some_iff.mp H
          obtain ⟨t204, A440, H⟩ := H
          try dsimp only at H
          have A44 := ka A440
          clear A440
          replace H := Option.bind_eq_some_iff.mp H
          obtain ⟨t206, A450, H⟩ := H
          try dsimp only at H
          have A45 := ka A450
          clear A450
          replace H := zs11 H
          obtain ⟨rfl, rfl, rfl, rfl, rfl, rfl, rfl, rfl, rfl, rfl, rfl⟩ := H
          try go_wp2_with (first | ((with_reducible refine gate_dst (N := 49) rfl ?_); refine Kd.R_lit Kd.string _ 9 ?hg (N := 49) ?hd (xs := ([(⟨#[58, 61]⟩ : ByteArray), (⟨#[63, 61]⟩ : ByteArray), (⟨#[43, 61]⟩ : ByteArray), (⟨#[61]⟩ : ByteArray), (⟨#[58]⟩ : ByteArray)] : List ByteArray)) (inner := [.string ⟨#[58, 61]⟩, .string ⟨#[63, 61]⟩, .string ⟨#[43, 61]⟩, .string ⟨#[61]⟩, .string ⟨#[58]⟩]) (ok := fun _ => True) (okp := fun _ => True) ?hr ?hp (fun _ hk => hk) trivial (Below.refl _ _) (Nat.le_refl _) (by simp) ?_; (case hd => rfl); (case hg => rfl); (case hr => (go_simp; try rfl)); (case hp => exact (Reps.one (show Kd.M Kd.string _ _ _ (⟨#[58, 61]⟩ : ByteArray) [.string ⟨#[58, 61]⟩] from rfl) (Reps.one (show Kd.M Kd.string _ _ _ (⟨#[63, 61]⟩ : ByteArray) [.string ⟨#[63, 61]⟩] from rfl) (Reps.one (show Kd.M Kd.string _ _ _ (⟨#[43, 61]⟩ : ByteArray) [.string ⟨#[43, 61]⟩] from rfl) (Reps.one (show Kd.M Kd.string _ _ _ (⟨#[61]⟩ : ByteArray) [.string ⟨#[61]⟩] from rfl) (Reps.one (show Kd.M Kd.string _ _ _ (⟨#[58]⟩ : ByteArray) [.string ⟨#[58]⟩] from rfl) (Reps.none _ _))))))); intro v185 w46 ho47 hb hg_ hnew_; clear hg_ hnew_; (first | rw [← Ny184.out] at ho47 | (simp only [Int.reduceToNat] at ho47; rw [← Ny184.out] at ho47)); have HO186 := ka (Kd.R_lower ho47 (below_size (zL HB.out))); replace BK164 := ka (zB BK164.out hb); replace HB := ka (below_step (zL HB.out) hb); clear hb ho47; obtain ⟨Ao48, co48, eo48⟩ := Kd.R_slice HO186.out; subst eo48) | ((with_reducible refine gate_callee (f := 17) rfl ?_); refine goesL_ (some 50) rfl rfl Tryd.func17 (by kernel_rfl) rfl #[.string a0, .slice Ao48 y184.length co48] rfl zA ?_; (with_reducible refine (parse_Cut.calls kj5 a0 _ _ y184 t187 t188 t189 _ ?side1 ?side2 A27.out).mono ?_); (case side1 => exact zCS (Kd.R_reads' HO186.out).2.2); (case side2 => exact (Kd.R_reads' HO186.out).2.1); rintro e w49 ⟨rfl, hb⟩; refine ⟨_, rfl, ?_⟩; replace HO186 := ka (Kd.R_below (zR HO186.out) hb); replace BK164 := ka (zB BK164.out hb); replace HB := ka (below_step (zL HB.out) hb); (try clear hb); (try clear hb2); (try clear hk); (try clear hi)) | ((with_reducible refine gate_callee (f := 24) rfl ?_); refine goesL_ (some 67) rfl rfl Tryd.func24 (by kernel_rfl) rfl #[.string t187] rfl zA ?_; (with_reducible refine (text_Trim.calls t187 t203 _ A43.out).mono ?_); rintro e w50 ⟨rfl, hb⟩; refine ⟨_, rfl, ?_⟩; replace HO186 := ka (Kd.R_below (zR HO186.out) hb); replace BK164 := ka (zB BK164.out hb); replace HB := ka (below_step (zL HB.out) hb); (try clear hb); (try clear hb2); (try clear hk); (try clear hi)) | ((with_reducible refine gate_callee (f := 24) rfl ?_); refine goesL_ (some 69) rfl rfl Tryd.func24 (by kernel_rfl) rfl #[.string t189] rfl zA ?_; (with_reducible refine (text_Trim.calls t189 t204 _ A44.out).mono ?_); rintro e w51 ⟨rfl, hb⟩; refine ⟨_, rfl, ?_⟩; replace HO186 := ka (Kd.R_below (zR HO186.out) hb); replace BK164 := ka (zB BK164.out hb); replace HB := ka (below_step (zL HB.out) hb); (try clear hb); (try clear hb2); (try clear hk); (try clear hi)) | ((with_reducible refine gate_dst (N := 9) rfl ?_); refine box_event ?hg (N := 9) ?hd (cs := #[.int .i64 0, .int .i64 0, .string ⟨#[]⟩, .string ⟨#[]⟩, .string ⟨#[]⟩, .string ⟨#[]⟩, .string ⟨#[]⟩, .string ⟨#[]⟩, .string ⟨#[]⟩, .slice none 0 0]) (t := 45) ?hr ?_; (case hd => rfl); (case hg => rfl); (case hr => (go_simp; try rfl)); intro gb205 hg w52 hbox hb; replace HO186 := ka (Kd.R_below (zR HO186.out) hb); have BK205 := ka (hbox); have GW205 := ka (zG hg (zL HB.out)); have GE205 := ka (zG hg (zL HB.out)); replace HB := ka (below_step (zL HB.out) hb); have NB164_205 := ka (zNK hg BK164.out); have NB205_164 := ka (zOK hg BK164.out); replace BK164 := ka (zB BK164.out hb); clear hb hbox hg; have hnb53 := NB205_164.out; have hnc53 := NB164_205.out; obtain ⟨z54_0, z54_1, z54_2, z54_3, z54_4, z54_5, z54_6, z54_7, z54_8, z54_9, y54_0, y54_1, y54_2, y54_3, y54_4, y54_5, y54_6, y54_7, y54_8, y54_9⟩ := zC10 BK205.out))
          replace HO186 : Aside0 (Kd.R Kd.string 9 ((((((((((w52.setCell ⟨gb205, 0, none⟩ (.int .i64 1)).setCell ⟨gb205, 1, none⟩ (.int .i64 0)).setCell ⟨gb205, 2, none⟩ (.string t188)).setCell ⟨gb205, 3, none⟩ (.string t203)).setCell ⟨gb205, 4, none⟩ (.string t204)).setCell ⟨gb205, 5, none⟩ (.string ⟨#[]⟩)).setCell ⟨gb205, 6, none⟩ (.string ⟨#[]⟩)).setCell ⟨gb205, 7, none⟩ (.string ⟨#[]⟩)).setCell ⟨gb205, 8, none⟩ (.string ⟨#[]⟩)).setCell ⟨gb205, 9, none⟩ (.slice none 0 0)) w.heap.size (fun _ => True) (.slice Ao48 y184.length co48) y184) := ⟨by (with_reducible repeat (first | apply Kd.R_alloc | apply Kd.R_drewN | apply Kd.R_drew)); exact Kd.R_mono (zNT HO186.out BK205.out) (fun _ hk => trivial)⟩
          replace BK164 : Aside0 (((((((((((w52.setCell ⟨gb205, 0, none⟩ (.int .i64 1)).setCell ⟨gb205, 1, none⟩ (.int .i64 0)).setCell ⟨gb205, 2, none⟩ (.string t188)).setCell ⟨gb205, 3, none⟩ (.string t203)).setCell ⟨gb205, 4, none⟩ (.string t204)).setCell ⟨gb205, 5, none⟩ (.string ⟨#[]⟩)).setCell ⟨gb205, 6, none⟩ (.string ⟨#[]⟩)).setCell ⟨gb205, 7, none⟩ (.string ⟨#[]⟩)).setCell ⟨gb205, 8, none⟩ (.string ⟨#[]⟩)).setCell ⟨gb205, 9, none⟩ (.slice none 0 0)).heap[gb164]? = some (.cells #[.int .i64 0, .int .i64 0, .string ⟨#[]⟩, .string ⟨#[]⟩, .string ⟨#[]⟩, .string ⟨#[]⟩, .string ⟨#[]⟩, .string ⟨#[]⟩, .string ⟨#[]⟩, .slice none 0 0] 45 (0, 0))) := ⟨zK BK164.out⟩
          replace BK205 : Aside0 (((((((((((w52.setCell ⟨gb205, 0, none⟩ (.int .i64 1)).setCell ⟨gb205, 1, none⟩ (.int .i64 0)).setCell ⟨gb205, 2, none⟩ (.string t188)).setCell ⟨gb205, 3, none⟩ (.string t203)).setCell ⟨gb205, 4, none⟩ (.string t204)).setCell ⟨gb205, 5, none⟩ (.string ⟨#[]⟩)).setCell ⟨gb205, 6, none⟩ (.string ⟨#[]⟩)).setCell ⟨gb205, 7, none⟩ (.string ⟨#[]⟩)).setCell ⟨gb205, 8, none⟩ (.string ⟨#[]⟩)).setCell ⟨gb205, 9, none⟩ (.slice none 0 0)).heap[gb205]? = some (.cells #[.int .i64 1, .int .i64 0, .string t188, .string t203, .string t204, .string ⟨#[]⟩, .string ⟨#[]⟩, .string ⟨#[]⟩, .string ⟨#[]⟩, .slice none 0 0] 45 (0, 0))) := ⟨zP10 BK205.out⟩
          replace HB : Aside0 (Below w.heap.size w ((((((((((w52.setCell ⟨gb205, 0, none⟩ (.int .i64 1)).setCell ⟨gb205, 1, none⟩ (.int .i64 0)).setCell ⟨gb205, 2, none⟩ (.string t188)).setCell ⟨gb205, 3, none⟩ (.string t203)).setCell ⟨gb205, 4, none⟩ (.string t204)).setCell ⟨gb205, 5, none⟩ (.string ⟨#[]⟩)).setCell ⟨gb205, 6, none⟩ (.string ⟨#[]⟩)).setCell ⟨gb205, 7, none⟩ (.string ⟨#[]⟩)).setCell ⟨gb205, 8, none⟩ (.string ⟨#[]⟩)).setCell ⟨gb205, 9, none⟩ (.slice none 0 0))) := ⟨zL HB.out⟩
          repeat rw [zDC]
          repeat rw [zDD]
          generalize ((((((((((w52.setCell ⟨gb205, 0, none⟩ (.int .i64 1)).setCell ⟨gb205, 1, none⟩ (.int .i64 0)).setCell ⟨gb205, 2, none⟩ (.string t188)).setCell ⟨gb205, 3, none⟩ (.string t203)).setCell ⟨gb205, 4, none⟩ (.string t204)).setCell ⟨gb205, 5, none⟩ (.string ⟨#[]⟩)).setCell ⟨gb205, 6, none⟩ (.string ⟨#[]⟩)).setCell ⟨gb205, 7, none⟩ (.string ⟨#[]⟩)).setCell ⟨gb205, 8, none⟩ (.string ⟨#[]⟩)).setCell ⟨gb205, 9, none⟩ (.slice none 0 0)) = w55 at HO186 BK164 BK205 HB ⊢
          replace HO186 := ka (Kd.R_drew HO186.out)
          replace BK164 := ka (blk_drew BK164.out)
          replace BK205 := ka (blk_drew BK205.out)
          replace HB := ka (below_drew1 HB.out)
          refine start_ (n := 6) (S := fun w' => w'.cell? ⟨gb205, 0, none⟩ = some (.int .i64 1) ∧ w'.cell? ⟨gb205, 1, none⟩ = some (.int .i64 0) ∧ w'.cell? ⟨gb205, 2, none⟩ = some (.string t188) ∧ w'.cell? ⟨gb205, 3, none⟩ = some (.string t203) ∧ w'.cell? ⟨gb205, 4, none⟩ = some (.string t204) ∧ w'.cell? ⟨gb205, 5, none⟩ = some (.string ⟨#[]⟩) ∧ w'.cell? ⟨gb205, 6, none⟩ = some (.string ⟨#[]⟩) ∧ w'.cell? ⟨gb205, 7, none⟩ = some (.string ⟨#[]⟩) ∧ w'.cell? ⟨gb205, 8, none⟩ = some (.string ⟨#[]⟩) ∧ w'.cell? ⟨gb205, 9, none⟩ = some (.slice none 0 0)) (ds := []) #[false, false, false, false, false, false] (by kernel_rfl) rfl rfl ⟨zc BK205.out 0, zc BK205.out 1, zc BK205.out 2, zc BK205.out 3, zc BK205.out 4, zc BK205.out 5, zc BK205.out 6, zc BK205.out 7, zc BK205.out 8, zc BK205.out 9⟩ (fun hHeld => ?_)
          generalize w55.drew = w56 at HO186 BK164 BK205 HB hHeld ⊢
          refine zkp 1 (N := some 72) (h := ?_)
          refine zkt 0 (N := some 71) hHeld (h := ?_)
          refine zkt 2 (N := some 73) hHeld (h := ?_)
          refine one_ (i := 3) (N := some 74) #[true, true, true, true, false, false] rfl rfl (by kernel_rfl) (by decide) (fun K hK => ?_)
          refine goes_ Tryd.func15 (by kernel_rfl) rfl #[.string t203] (by rfl) rfl rfl zA ?_
          with_reducible refine (parse_Name.calls kj5 t203 t206 _ A45.out).mono ?_
          rintro e w57 ⟨rfl, hb⟩
          refine ⟨_, rfl, ?_⟩
          replace HO186 := ka (Kd.R_below (zR HO186.out) hb)
          replace BK164 := ka (zB BK164.out hb)
          replace BK205 := ka (zB BK205.out hb)
          replace HB := ka (below_step (zL HB.out) hb)
          (try clear hb)
          (try clear hb2)
          (try clear hk)
          (try clear hi)
          refine hK.out _ _ ⟨zc BK205.out 0, zc BK205.out 1, zc BK205.out 2, zc BK205.out 3, zc BK205.out 4, zc BK205.out 5, zc BK205.out 6, zc BK205.out 7, zc BK205.out 8, zc BK205.out 9⟩ (fun hHeld => ?_)
          clear hK K
          refine znm (N := some 74) (h := ?_)
          refine one_ (i := 4) (N := none) #[true, true, true, true, true, false] rfl rfl (by kernel_rfl) (by decide) (fun K hK => ?_)
          have hs58 : w57.cell? ⟨gb164, 0, none⟩ = some (.int .i64 0) := zc BK164.out 0
          have hfs58 := blk_frozen BK164.out 0
          have hns58_1 := NB205_164.out
          have hms58_1 := NB164_205.out
          have hs59 : w57.cell? ⟨gb164, 1, none⟩ = some (.int .i64 0) := zc BK164.out 1
          have hfs59 := blk_frozen BK164.out 1
          have hns59_1 := NB205_164.out
          have hms59_1 := NB164_205.out
          have hs60 : w57.cell? ⟨gb164, 2, none⟩ = some (.string ⟨#[]⟩) := zc BK164.out 2
          have hfs60 := blk_frozen BK164.out 2
          have hns60_1 := NB205_164.out
          have hms60_1 := NB164_205.out
          have hs61 : w57.cell? ⟨gb164, 3, none⟩ = some (.string ⟨#[]⟩) := zc BK164.out 3
          have hfs61 := blk_frozen BK164.out 3
          have hns61_1 := NB205_164.out
          have hms61_1 := NB164_205.out
          have hs62 : w57.cell? ⟨gb164, 4, none⟩ = some (.string ⟨#[]⟩) := zc BK164.out 4
          have hfs62 := blk_frozen BK164.out 4
          have hns62_1 := NB205_164.out
          have hms62_1 := NB164_205.out
          have hs63 : w57.cell? ⟨gb164, 5, none⟩ = some (.string ⟨#[]⟩) := zc BK164.out 5
          have hfs63 := blk_frozen BK164.out 5
          have hns63_1 := NB205_164.out
          have hms63_1 := NB164_205.out
          have hs64 : w57.cell? ⟨gb164, 6, none⟩ = some (.string ⟨#[]⟩) := zc BK164.out 6
          have hfs64 := blk_frozen BK164.out 6
          have hns64_1 := NB205_164.out
          have hms64_1 := NB164_205.out
          have hs65 : w57.cell? ⟨gb164, 7, none⟩ = some (.string ⟨#[]⟩) := zc BK164.out 7
          have hfs65 := blk_frozen BK164.out 7
          have hns65_1 := NB205_164.out
          have hms65_1 := NB164_205.out
          have hs66 : w57.cell? ⟨gb164, 8, none⟩ = some (.string ⟨#[]⟩) := zc BK164.out 8
          have hfs66 := blk_frozen BK164.out 8
          have hns66_1 := NB205_164.out
          have hms66_1 := NB164_205.out
          have hs67 : w57.cell? ⟨gb164, 9, none⟩ = some (.slice none 0 0) := zc BK164.out 9
          have hfs67 := blk_frozen BK164.out 9
          have hns67_1 := NB205_164.out
          have hms67_1 := NB164_205.out
          refine skip_ (w1 := ?_) (by rfl) rfl ?_ ?_
          rotate_left
          ·go_simp
           rfl
          refine hK.out _ _ ⟨(zW NB205_164.out hHeld.1), (zW NB205_164.out hHeld.2.1), (zW NB205_164.out hHeld.2.2.1), (zW NB205_164.out hHeld.2.2.2.1), (zW NB205_164.out hHeld.2.2.2.2.1), (zW NB205_164.out hHeld.2.2.2.2.2.1), (zW NB205_164.out hHeld.2.2.2.2.2.2.1), (zW NB205_164.out hHeld.2.2.2.2.2.2.2.1), (zW NB205_164.out hHeld.2.2.2.2.2.2.2.2.1), (zW NB205_164.out hHeld.2.2.2.2.2.2.2.2.2)⟩ (fun hHeld => ?_)
          clear hK K
          refine zkp 5 (N := some 3) (h := ?_)
          refine done_ (by kernel_rfl) ?_
          try go_wp2
          refine bodyPost_ret (results_ct rfl _ _ gb164 45 #[.int .i64 1, .int .i64 0, .string t188, .string t203, .string t204, .string ⟨#[]⟩, .string ⟨#[]⟩, .string ⟨#[]⟩, .string ⟨#[]⟩, .slice none 0 0] (0, 0) _ rfl (zP10 BK164.out) Tryd.underlying45 rfl (by kernel_rfl)) rfl ?_
          exact ⟨_, zE, zNl, zL HB.out⟩
       case' pos =>
        rw [if_pos c25] at H
        have c25b0 := zb0 c25
        have c25b1 := zb1 c25
        clear c25
   all_goals
    replace H := zs11 H
    obtain ⟨rfl, rfl, rfl, rfl, rfl, rfl, rfl, rfl, rfl, rfl, rfl⟩ := H
    obtain ⟨z24_0, z24_1, z24_2, z24_3, z24_4, z24_5, z24_6, z24_7, z24_8, z24_9, y24_0, y24_1, y24_2, y24_3, y24_4, y24_5, y24_6, y24_7, y24_8, y24_9⟩ := zC10 BK164.out
    go_wp2
    refine bodyPost_ret (results_ct rfl _ _ gb164 45 #[.int .i64 6, .int .i64 0, .string (rdOf ByteArray.empty t165 0), .string ⟨#[]⟩, .string t170, .string ⟨#[]⟩, .string ⟨#[]⟩, .string ⟨#[]⟩, .string ⟨#[]⟩, .slice none 0 0] (0, 0) _ rfl (zP10 BK164.out) Tryd.underlying45 rfl (by kernel_rfl)) rfl ?_
    exact ⟨_, zE, zNl, zL HB.out⟩

/-! ### parse_nest_take: function 25 -/
mutual
def parse_nest_take.j0 : Nat → List Bool → Int → Int → Bool → Option (List Bool × Int)
 | 0, _, _, _, _ => none
 | k + 1, x0, x1, x6, x9 => if x9 = true then (some (x0, 15)) else (if x1 = 3 then (if x0.length < 140737488355328 then (some ((x0 ++ [false]), 0)) else (none)) else (if x1 = 4 then (parse_nest_take.j1 k x0 x1 x6 false) else (parse_nest_take.j1 k x0 x1 x6 (x1 != 5))))
def parse_nest_take.j1 : Nat → List Bool → Int → Int → Bool → Option (List Bool × Int)
 | 0, _, _, _, _ => none
 | k + 1, x0, x1, x6, x23 => if x23 = true then (some (x0, 0)) else (if x6 = 0 then (parse_nest_take.j2 k x0 x1 x6 true) else (if x1 = 4 then (if 0 ≤ (wrap64 (x6 - 1)) then (if (wrap64 (x6 - 1)) < (x0.length : Int) then (parse_nest_take.j2 k x0 x1 x6 (rdOf false x0 (wrap64 (x6 - 1)))) else (none)) else (none)) else (parse_nest_take.j2 k x0 x1 x6 false)))
def parse_nest_take.j2 : Nat → List Bool → Int → Int → Bool → Option (List Bool × Int)
 | 0, _, _, _, _ => none
 | k + 1, x0, x1, x6, x31 => if x31 = true then (some (x0, 2)) else (if x1 = 4 then (if 0 ≤ (wrap64 (x6 - 1)) then (if (wrap64 (x6 - 1)) < (x0.length : Int) then (some ((x0.set ((wrap64 (x6 - 1)) : Int).toNat true), 0)) else (none)) else (none)) else (if 0 ≤ (wrap64 (x6 - 1)) then (if (wrap64 (x6 - 1)) ≤ (x0.length : Int) then (some ((x0.take ((wrap64 (x6 - 1)) : Int).toNat), 0)) else (none)) else (none)))
end
def parse_nest_take.f (k : Nat) (l0 : List Bool) (a1 : Int) : Option (List Bool × Int) := if a1 = 3 then (parse_nest_take.j0 k l0 a1 (l0.length : Int) ((l0.length : Int) == 20)) else (parse_nest_take.j0 k l0 a1 (l0.length : Int) false)
theorem parse_nest_take.mono_l : ∀ k, (∀ y0 y1 y2 y3, LeO (parse_nest_take.j0 k y0 y1 y2 y3) (parse_nest_take.j0 (k + 1) y0 y1 y2 y3)) ∧ (∀ y0 y1 y2 y3, LeO (parse_nest_take.j1 k y0 y1 y2 y3) (parse_nest_take.j1 (k + 1) y0 y1 y2 y3)) ∧ (∀ y0 y1 y2 y3, LeO (parse_nest_take.j2 k y0 y1 y2 y3) (parse_nest_take.j2 (k + 1) y0 y1 y2 y3))
 | 0 => ⟨fun _ _ _ _ r h => by simp [parse_nest_take.j0] at h, fun _ _ _ _ r h => by simp [parse_nest_take.j1] at h, fun _ _ _ _ r h => by simp [parse_nest_take.j2] at h⟩
 | k + 1 => by
  obtain ⟨ih0, ih1, ih2⟩ := parse_nest_take.mono_l k
  refine ⟨?_, ?_, ?_⟩
  ·intros
   unfold parse_nest_take.j0
   exact zLe
  ·intros
   unfold parse_nest_take.j1
   exact zLe
  ·intros
   unfold parse_nest_take.j2
   exact zLe
theorem parse_nest_take.mono : ∀ a0 a1 k, LeO (parse_nest_take.f k a0 a1) (parse_nest_take.f (k + 1) a0 a1) := by
 intro a0 a1 k
 obtain ⟨ih0, ih1, ih2⟩ := parse_nest_take.mono_l k
 unfold parse_nest_take.f
 exact zLe
theorem parse_nest_take.calls (k : Nat) (P0_ : Nat → Prop) (u9000_ : Value) (l0 : List Bool) (a1 : Int) (r1 : List Bool) (r2 : Int) (w0 w : World) (hB : Below w0.heap.size w0 w) (ho0 : Kd.R Kd.bool 4 w w0.heap.size P0_ u9000_ l0) (h : parse_nest_take.f k l0 a1 = some (r1, r2)) :
  Calls Tryd.prog 25 #[u9000_, .int .i64 a1] w fun e w' => ∃ v0_ : Value, e = .returned (.tuple #[v0_, .int .i64 r2]) ∧ Kd.R Kd.bool 4 w' w0.heap.size (fun k_ => (P0_ k_ ∨ w.heap.size ≤ k_)) v0_ r1 ∧ Below w0.heap.size w0 w' ∧ Kept w w' (fun k_ => P0_ k_) := by
 have HO0 := ka (show Kd.R Kd.bool 4 w w0.heap.size (fun k_ => (P0_ k_ ∨ w.heap.size ≤ k_)) u9000_ l0 from Kd.R_mono ho0 (fun k_ hk => (.inl hk)))
 have HK := ka (Kept.refl w (fun k_ => P0_ k_))
 have HW0 := ka hB.size
 have HB := ka hB
 clear hB
 have H : (if a1 = 3 then (parse_nest_take.j0 k l0 a1 (l0.length : Int) ((l0.length : Int) == 20)) else (parse_nest_take.j0 k l0 a1 (l0.length : Int) false)) = some (r1, r2) := h
 clear h
 have HC3 := ka H
 clear H
 obtain ⟨Ao4, co4, eo4⟩ := Kd.R_slice HO0.out
 subst eo4
 go_enter Tryd.func25, Tryd.ntmps25
 go_upto_region 2 with (fail)
 go_cut [9] (fun v9 wc => ∃ (kq : Nat) (x9_2 : Bool), v9 = .bool x9_2 ∧ Aside0 (parse_nest_take.j0 kq l0 a1 (l0.length : Int) x9_2 = some (r1, r2)) ∧ Aside0 (kq ≤ k) ∧ Aside0 (Kd.R Kd.bool 4 wc w0.heap.size (fun k_ => (P0_ k_ ∨ w.heap.size ≤ k_)) (.slice Ao4 l0.length co4) l0) ∧ Aside0 (Kept w wc (fun k_ => P0_ k_)) ∧ Aside0 (Below w0.heap.size w0 wc))
 case first =>
  have H := HC3.out
  clear HC3
  by_cases c5 : a1 = 3
  ·rw [if_pos c5] at H
   have c5b0 := zb0 c5
   have c5b1 := zb1 c5
   clear c5
   (first | rw [c5b0] | (simp only [i64_w, i32_w]; rw [c5b0]) | rw [isE_ c5b0] | skip)
   have H' := ka H
   clear H
   go_wp2
   go_meet
   case rel => exact ⟨_, (((l0.length : Int) == 20)), zS, H', ⟨by first | omega | exact Nat.le_refl _⟩, ⟨zR HO0.out⟩, ⟨by repeat (first | (with_reducible first | exact HK.out | apply Kept.alloc | apply Kept.drewN | apply Kept.drew) | exact HK.out)⟩, ⟨zL HB.out⟩⟩
  rw [if_neg c5] at H
  have c5b0 := zn0 c5
  have c5b1 := zn1 c5
  (first | rw [c5b0] | (simp only [i64_w, i32_w]; rw [c5b0]) | rw [isE_ c5b0] | skip)
  have H' := ka H
  clear H
  go_wp2
  go_meet
  case rel => exact ⟨_, (false), zS, H', ⟨by first | omega | exact Nat.le_refl _⟩, ⟨zR HO0.out⟩, ⟨by repeat (first | (with_reducible first | exact HK.out | apply Kept.alloc | apply Kept.drewN | apply Kept.drew) | exact HK.out)⟩, ⟨zL HB.out⟩⟩
 case rest =>
  clear HC3
  obtain ⟨kq, x9_2, rfl, HA, HJ2, HO_0, HK, HB⟩ := hcut
  cases kq with
  | zero => exact absurd HA.out (by simp [parse_nest_take.j0])
  | succ kj2 =>
   have H := HA.out
   clear HA
   simp only [parse_nest_take.j0] at H
   by_cases c6 : x9_2 = true
   ·subst c6
    rw [if_pos rfl] at H
    replace H := zs2 H
    obtain ⟨rfl, rfl⟩ := H
    go_wp2
    go_ret2
    exact ⟨_, zE, by (with_reducible repeat (first | apply Kd.R_alloc | apply Kd.R_drewN | apply Kd.R_drew)); exact HO_0.out, zL HB.out, by repeat (first | (with_reducible first | exact HK.out | apply Kept.alloc | apply Kept.drewN | apply Kept.drew) | exact HK.out)⟩
   replace c6 := Bool.eq_false_iff.mpr c6
   subst c6
   rw [if_neg (show ¬ (false = true) by decide)] at H
   by_cases c7 : a1 = 3
   ·rw [if_pos c7] at H
    have c7b0 := zb0 c7
    have c7b1 := zb1 c7
    clear c7
    replace H := zif H
    obtain ⟨c8, H⟩ := H
    have LMc8 := ka c8
    clear c8
    obtain ⟨y207, hy207⟩ : ∃ y_ : List Bool, y_ = (l0 ++ [false]) := ⟨_, rfl⟩
    replace H : (some (y207, 0)) = some (r1, r2) := zH hy207 H
    have Ny207 := ka hy207
    clear hy207
    replace H := zs2 H
    obtain ⟨rfl, rfl⟩ := H
    go_wp2_with (first | ((with_reducible refine gate_builtin (b := .append) (xs := #[.tmp 20, .tmp 21]) rfl ?_); at_builtin; refine Kd.R_append Kd.bool (w0 := w0) w0.heap.size rfl (.tmp 20) (.tmp 21) 55 4 (.bool false) 1 rfl Tryd.underlying55 info4 rfl (by decide) (by omega) (.slice Ao4 l0.length co4) l0 false [.bool false] (fun k_ => (P0_ k_ ∨ w.heap.size ≤ k_)) (fun _ => False) rfl rfl ?aP (fun _ hk => hk.elim) ?aF ?aO ?aB ?aS ?aL ?_; (case aP => exact rfl); (case aB => exact (zL HB.out)); (case aF => exact (fun k_ hk => (.inr (Nat.le_trans (by first | exact HK.out.1 | exact (show Kept w _ (fun k_ => P0_ k_) from by repeat (first | (with_reducible first | exact HK.out | apply Kept.alloc | apply Kept.drewN | apply Kept.drew) | exact HK.out)).1) hk)))); (case aO => exact (zR HO_0.out)); (case aS => exact (below_size (zL HB.out))); (case aL => have := LMc8.out; omega); intro v208 w9 ho hb hg hat; rw [← Ny207.out] at ho; replace HB := ka (hb); replace HK := ka (Kept.of_grown (S := (fun k_ => P0_ k_)) hg (by repeat (first | (with_reducible first | exact HK.out | apply Kept.alloc | apply Kept.drewN | apply Kept.drew) | exact HK.out)) (fun k_ e_ => (HO_0.out.1 k_ e_))); have HO209 := ka (ho); clear HO_0; clear ho hb hg hat))
    go_ret2
    exact ⟨_, zE, by (with_reducible repeat (first | apply Kd.R_alloc | apply Kd.R_drewN | apply Kd.R_drew)); exact HO209.out, zL HB.out, by repeat (first | (with_reducible first | exact HK.out | apply Kept.alloc | apply Kept.drewN | apply Kept.drew) | exact HK.out)⟩
   rw [if_neg c7] at H
   have c7b0 := zn0 c7
   have c7b1 := zn1 c7
   have HC10 := ka H
   clear H
   go_upto_region 6 with (fail)
   go_cut [23] (fun v23 wc => ∃ (kq : Nat) (x23_9 : Bool), v23 = .bool x23_9 ∧ Aside0 (parse_nest_take.j1 kq l0 a1 (l0.length : Int) x23_9 = some (r1, r2)) ∧ Aside0 (kq ≤ kj2) ∧ Aside0 (Kd.R Kd.bool 4 wc w0.heap.size (fun k_ => (P0_ k_ ∨ w.heap.size ≤ k_)) (.slice Ao4 l0.length co4) l0) ∧ Aside0 (Kept w wc (fun k_ => P0_ k_)) ∧ Aside0 (Below w0.heap.size w0 wc))
   case first =>
    have H := HC10.out
    clear HC10
    by_cases c11 : a1 = 4
    ·rw [if_pos c11] at H
     have c11b0 := zb0 c11
     have c11b1 := zb1 c11
     clear c11
     (first | rw [c11b0] | (simp only [i64_w, i32_w]; rw [c11b0]) | rw [isE_ c11b0] | skip)
     have H' := ka H
     clear H
     go_wp2
     go_meet
     case rel => exact ⟨_, (false), zS, H', ⟨by have := HJ2.out; first | omega | exact Nat.le_refl _⟩, ⟨zR HO_0.out⟩, ⟨by repeat (first | (with_reducible first | exact HK.out | apply Kept.alloc | apply Kept.drewN | apply Kept.drew) | exact HK.out)⟩, ⟨zL HB.out⟩⟩
    rw [if_neg c11] at H
    have c11b0 := zn0 c11
    have c11b1 := zn1 c11
    (first | rw [c11b0] | (simp only [i64_w, i32_w]; rw [c11b0]) | rw [isE_ c11b0] | skip)
    have H' := ka H
    clear H
    go_wp2
    go_meet
    case rel => exact ⟨_, ((a1 != 5)), zS, H', ⟨by have := HJ2.out; first | omega | exact Nat.le_refl _⟩, ⟨zR HO_0.out⟩, ⟨by repeat (first | (with_reducible first | exact HK.out | apply Kept.alloc | apply Kept.drewN | apply Kept.drew) | exact HK.out)⟩, ⟨zL HB.out⟩⟩
   case rest =>
    clear HC10
    try clear c6
    try clear c7
    try clear c7b0
    try clear c7b1
    obtain ⟨kq, x23_9, rfl, HA, HJ9, HO_0, HK, HB⟩ := hcut
    cases kq with
    | zero => exact absurd HA.out (by simp [parse_nest_take.j1])
    | succ kj9 =>
     have H := HA.out
     clear HA
     simp only [parse_nest_take.j1] at H
     by_cases c12 : x23_9 = true
     ·subst c12
      rw [if_pos rfl] at H
      replace H := zs2 H
      obtain ⟨rfl, rfl⟩ := H
      go_wp2
      go_ret2
      exact ⟨_, zE, by (with_reducible repeat (first | apply Kd.R_alloc | apply Kd.R_drewN | apply Kd.R_drew)); exact HO_0.out, zL HB.out, by repeat (first | (with_reducible first | exact HK.out | apply Kept.alloc | apply Kept.drewN | apply Kept.drew) | exact HK.out)⟩
     replace c12 := Bool.eq_false_iff.mpr c12
     subst c12
     rw [if_neg (show ¬ (false = true) by decide)] at H
     have HC13 := ka H
     clear H
     go_upto_region 8 with (fail)
     go_cut [31] (fun v31 wc => ∃ (kq : Nat) (x31_12 : Bool), v31 = .bool x31_12 ∧ Aside0 (parse_nest_take.j2 kq l0 a1 (l0.length : Int) x31_12 = some (r1, r2)) ∧ Aside0 (kq ≤ kj9) ∧ Aside0 (Kd.R Kd.bool 4 wc w0.heap.size (fun k_ => (P0_ k_ ∨ w.heap.size ≤ k_)) (.slice Ao4 l0.length co4) l0) ∧ Aside0 (Kept w wc (fun k_ => P0_ k_)) ∧ Aside0 (Below w0.heap.size w0 wc))
     case first =>
      have H := HC13.out
      clear HC13
      by_cases c14 : (l0.length : Int) = 0
      ·rw [if_pos c14] at H
       have c14b0 := zb0 c14
       have c14b1 := zb1 c14
       clear c14
       (first | rw [c14b0] | (simp only [i64_w, i32_w]; rw [c14b0]) | rw [isE_ c14b0] | skip)
       have H' := ka H
       clear H
       go_wp2
       go_meet
       case rel => exact ⟨_, (true), zS, H', ⟨by have := HJ2.out; have := HJ9.out; first | omega | exact Nat.le_refl _⟩, ⟨zR HO_0.out⟩, ⟨by repeat (first | (with_reducible first | exact HK.out | apply Kept.alloc | apply Kept.drewN | apply Kept.drew) | exact HK.out)⟩, ⟨zL HB.out⟩⟩
      rw [if_neg c14] at H
      have c14b0 := zn0 c14
      have c14b1 := zn1 c14
      have c14b2 : ¬ (l0 = []) := fun h_ => c14 (by rw [h_]; rfl)
      (first | rw [c14b0] | (simp only [i64_w, i32_w]; rw [c14b0]) | rw [isE_ c14b0] | skip)
      by_cases c15 : a1 = 4
      ·rw [if_pos c15] at H
       have c15b0 := zb0 c15
       have c15b1 := zb1 c15
       clear c15
       obtain ⟨ji16, hji16⟩ : ∃ j_ : Int, (wrap64 ((l0.length : Int) - 1)) = j_ := ⟨_, rfl⟩
       replace H : (if 0 ≤ (ji16) then (if (ji16) < (l0.length : Int) then (parse_nest_take.j2 kj9 l0 a1 (l0.length : Int) (rdOf false l0 (ji16))) else (none)) else (none)) = some (r1, r2) := by first | (rw [hji16] at H; exact H) | (simp only [hji16] at H ⊢; exact H)
       have hji16w : (IntKind.i64.wrap ((l0.length : Int) - 1)) = ji16 := (i64_w _).trans hji16
       replace H := zif H
       obtain ⟨c17, H⟩ := H
       have c17b0 := zdt c17
       clear c17
       replace H := zif H
       obtain ⟨c18, H⟩ := H
       have c18b0 := zdt c18
       clear c18
       have H' := ka H
       clear H
       have p210 : 0 ≤ ((ji16) : Int) := zD
       have q210 : (ji16) < (l0.length : Int) := zD
       obtain ⟨ad210, e210, hx210_0⟩ := Kd.at_bool (Kd.R_reads' HO_0.out).2.2 (ji16) p210 q210
       cases e210
       replace p210 := eq_true p210
       replace q210 := eq_true q210
       go_wp2
       go_meet
       case rel => exact ⟨_, (rdOf false l0 (ji16)), (by first | rfl | (simp; done) | (simp only [← hji16] <;> (first | rfl | simp)) | (simp [*]; done)), H', ⟨by have := HJ2.out; have := HJ9.out; first | omega | exact Nat.le_refl _⟩, ⟨zR HO_0.out⟩, ⟨by repeat (first | (with_reducible first | exact HK.out | apply Kept.alloc | apply Kept.drewN | apply Kept.drew) | exact HK.out)⟩, ⟨zL HB.out⟩⟩
      rw [if_neg c15] at H
      have c15b0 := zn0 c15
      have c15b1 := zn1 c15
      have H' := ka H
      clear H
      go_wp2
      go_meet
      case rel => exact ⟨_, (false), zS, H', ⟨by have := HJ2.out; have := HJ9.out; first | omega | exact Nat.le_refl _⟩, ⟨zR HO_0.out⟩, ⟨by repeat (first | (with_reducible first | exact HK.out | apply Kept.alloc | apply Kept.drewN | apply Kept.drew) | exact HK.out)⟩, ⟨zL HB.out⟩⟩
     case rest =>
      clear HC13
      try clear c6
      try clear c7
      try clear c7b0
      try clear c7b1
      try clear c12
      obtain ⟨kq, x31_12, rfl, HA, HJ12, HO_0, HK, HB⟩ := hcut
      cases kq with
      | zero => exact absurd HA.out (by simp [parse_nest_take.j2])
      | succ kj12 =>
       have H := HA.out
       clear HA
       simp only [parse_nest_take.j2] at H
       by_cases c19 : x31_12 = true
       ·subst c19
        rw [if_pos rfl] at H
        replace H := zs2 H
        obtain ⟨rfl, rfl⟩ := H
        go_wp2
        go_ret2
        exact ⟨_, zE, by (with_reducible repeat (first | apply Kd.R_alloc | apply Kd.R_drewN | apply Kd.R_drew)); exact HO_0.out, zL HB.out, by repeat (first | (with_reducible first | exact HK.out | apply Kept.alloc | apply Kept.drewN | apply Kept.drew) | exact HK.out)⟩
       replace c19 := Bool.eq_false_iff.mpr c19
       subst c19
       rw [if_neg (show ¬ (false = true) by decide)] at H
       by_cases c20 : a1 = 4
       ·rw [if_pos c20] at H
        have c20b0 := zb0 c20
        have c20b1 := zb1 c20
        clear c20
        obtain ⟨ji21, hji21⟩ : ∃ j_ : Int, (wrap64 ((l0.length : Int) - 1)) = j_ := ⟨_, rfl⟩
        replace H : (if 0 ≤ (ji21) then (if (ji21) < (l0.length : Int) then (some ((l0.set ((ji21) : Int).toNat true), 0)) else (none)) else (none)) = some (r1, r2) := by first | (rw [hji21] at H; exact H) | (simp only [hji21] at H ⊢; exact H)
        have hji21w : (IntKind.i64.wrap ((l0.length : Int) - 1)) = ji21 := (i64_w _).trans hji21
        replace H := zif H
        obtain ⟨c22, H⟩ := H
        have c22b0 := zdt c22
        clear c22
        replace H := zif H
        obtain ⟨c23, H⟩ := H
        have c23b0 := zdt c23
        clear c23
        obtain ⟨y211, hy211⟩ : ∃ y_ : List Bool, y_ = (l0.set ((ji21) : Int).toNat true) := ⟨_, rfl⟩
        replace H : (some (y211, 0)) = some (r1, r2) := zH hy211 H
        have Ny211 := ka hy211
        clear hy211
        replace H := zs2 H
        obtain ⟨rfl, rfl⟩ := H
        have p24 : 0 ≤ ((ji21) : Int) := zD
        have q24 : ((ji21) : Int) < ((l0.length : Int) : Int) := zD
        obtain ⟨go24, co24, eo24, gb24, gl24, cl24, HG24⟩ := Kd.R_form HO_0.out (by omega)
        (first | cases eo24 | (injection eo24 with ea_ en_ ec_; (first | subst ea_ | (injection ea_ with ea_; subst ea_)); subst ec_; clear en_))
        have GB24 := ka gb24
        have GG24 := ka HG24
        clear gb24 gl24 HG24
        have HMgo24 := ka (show (P0_ go24 ∨ w.heap.size ≤ go24) from (HO_0.out.1 _ rfl))
        obtain ⟨hx24_0, hf24_0⟩ := Kd.R_celln false HO_0.out ((ji21) : Int) p24 q24
        replace p24 := eq_true p24
        replace q24 := eq_true q24
        have HP25 := Kd.R_putg HO_0.out ((ji21) : Int) true
        go_wp2_with (first | ((with_reducible refine gate_store (t := 4) (p := 52) rfl ?_); refine store_event (t := 4) (p := 52) (v := ?vo_w26) (w1 := (wc.setCell ⟨go24, ((ji21) : Int).toNat, none⟩ (.bool true))) ?hg ?ho ?hn ?hr ?_; (case ho => rfl); (case hg => rfl); (case hn => rfl); (case hr => (go_simp; try rfl)); intro w26 hw; have hg : wc.grownBy w26 (some go24) := (by rw [hw]; exact HP25.2); have hp_ : Kd.R Kd.bool 4 w26 w0.heap.size (fun k_ => (P0_ k_ ∨ w.heap.size ≤ k_)) (.slice (some ⟨go24, 0, none⟩) l0.length co4) y211 := (by rw [hw, Ny211.out]; exact HP25.1); clear HP25; replace HB := ka ((by rw [hw]; exact below_set (HB.out) GB24.out : Below w0.heap.size w0 w26)); replace HK := ka (Kept.of_grown (S := (fun k_ => P0_ k_)) hg (by repeat (first | (with_reducible first | exact HK.out | apply Kept.alloc | apply Kept.drewN | apply Kept.drew) | exact HK.out)) (fun k_ e_ => (HO_0.out.1 k_ e_))); replace HO_0 := ka (hp_); clear hg hw hp_))
        go_ret2
        exact ⟨_, by first | rfl | (simp [errW_none, errW_some] <;> rfl) | (simp only [← hji21]; first | rfl | (simp [errW_none, errW_some] <;> rfl)) | (simp [*, errW_none, errW_some] <;> rfl), by (with_reducible repeat (first | apply Kd.R_alloc | apply Kd.R_drewN | apply Kd.R_drew)); exact HO_0.out, zL HB.out, by repeat (first | (with_reducible first | exact HK.out | apply Kept.alloc | apply Kept.drewN | apply Kept.drew) | exact HK.out)⟩
       rw [if_neg c20] at H
       have c20b0 := zn0 c20
       have c20b1 := zn1 c20
       obtain ⟨ji27, hji27⟩ : ∃ j_ : Int, (wrap64 ((l0.length : Int) - 1)) = j_ := ⟨_, rfl⟩
       replace H : (if 0 ≤ (ji27) then (if (ji27) ≤ (l0.length : Int) then (some ((l0.take ((ji27) : Int).toNat), 0)) else (none)) else (none)) = some (r1, r2) := by first | (rw [hji27] at H; exact H) | (simp only [hji27] at H ⊢; exact H)
       have hji27w : (IntKind.i64.wrap ((l0.length : Int) - 1)) = ji27 := (i64_w _).trans hji27
       replace H := zif H
       obtain ⟨c28, H⟩ := H
       have c28b0 := eq_true c28
       have c28b1 := zdt c28
       clear c28
       replace H := zif H
       obtain ⟨c29, H⟩ := H
       have c29b0 := eq_true c29
       have c29b1 := zdt c29
       clear c29
       obtain ⟨y212, hy212⟩ : ∃ y_ : List Bool, y_ = (l0.take ((ji27) : Int).toNat) := ⟨_, rfl⟩
       replace H : (some (y212, 0)) = some (r1, r2) := zH hy212 H
       have Ny212 := ka hy212
       clear hy212
       replace H := zs2 H
       obtain ⟨rfl, rfl⟩ := H
       have q30 : ((ji27) : Int) ≤ ((l0.length : Int) : Int) := zD
       obtain ⟨i030, hi030, _, hsz30, _⟩ := info_parts info4
       have hcut30 := cut_to (P := Tryd.prog) 55 4 .i64 Tryd.underlying55 hi030 Ao4 l0.length co4 (ji27) zD q30 (Kd.R_reads' HO_0.out).2.1
       have hr30 := Kd.R_take (m := ((ji27) : Int).toNat) HO_0.out (by omega)
       have hy30 : y212.length = ((ji27) : Int).toNat := (by rw [Ny212.out, List.length_take]; omega)
       rw [← Ny212.out] at hr30
       rw [← hy30] at hr30 hcut30
       clear hy30 hi030 hsz30 HO_0
       have HO214 := ka hr30
       clear hr30
       replace q30 := eq_true q30
       go_wp2
       go_ret2
       exact ⟨_, by first | rfl | (simp [errW_none, errW_some] <;> rfl) | (simp only [← hji27]; first | rfl | (simp [errW_none, errW_some] <;> rfl)) | (simp [*, errW_none, errW_some] <;> rfl), by (with_reducible repeat (first | apply Kd.R_alloc | apply Kd.R_drewN | apply Kd.R_drew)); exact HO214.out, zL HB.out, by repeat (first | (with_reducible first | exact HK.out | apply Kept.alloc | apply Kept.drewN | apply Kept.drew) | exact HK.out)⟩

end Go.Proofs.YthnholondnfjoaaDoor.PParse
