-- Written by a program of this session (wip/tools/ext.py, over the kit's printer); not trusted: Lean checks it.
import Derived.Test.YthnholondnfjoaaDoorPParsex0
import Derived.Test.YthnholondnfjoaaDoorPParsex7
import Derived.Test.YthnholondnfjoaaDoorPParsex8
import Derived.Test.YthnholondnfjoaaDoorPParsex13
import Derived.Test.YthnholondnfjoaaDoorPParsex14
import Derived.Test.YthnholondnfjoaaDoorPParsex15
import Derived.Test.YthnholondnfjoaaDoorPParsex17
namespace Go.Proofs.YthnholondnfjoaaDoor.PParse
open Go.RowKit Go.Proofs.YthnholondnfjoaaDoorW.PrintWords Go.Proofs.YthnholondnfjoaaDoorW.PrintLast Go.Proofs.YthnholondnfjoaaDoorW.PrintMore
attribute [local go_sem] max2_int min2_int max_two min_two max_three min_three max_four min_four
set_option linter.unusedVariables false
set_option linter.unusedSimpArgs false
set_option maxHeartbeats 8000000
set_option maxRecDepth 100000

/-! ### cooperagelaw9_ParseNodes: function 9 -/
def cooperagelaw9_ParseNodes.j0 : Nat → ByteArray → Bool → Bool → Option (Bool)
 | 0, _, _, _ => none
 | k + 1, x0, x3, x23 => if x23 = true then (some x3) else ((lex_Lex.f k x0).bind fun bt475 => (if bt475.2.1 = 0 then ((parse_Parse.f k bt475.1).bind fun bt480 => ((cooperageref8_Lex.f k x0).bind fun bt485 => ((cooperageref9_Parse.f k bt485.1).bind fun bt490 => (if bt485.2.1 = 0 then ((cooperagelaw9_same.f k bt480.1 bt490.1).bind fun t495 => (if t495 = true then (if bt480.2.1 = bt490.2.1 then (some (bt480.2.2 == bt490.2.2)) else (some false)) else (some false))) else (some false))))) else (some true)))
def cooperagelaw9_ParseNodes.f (k : Nat) (a0 : ByteArray) : Option (Bool) := (cooperagelaw9_shown.f k).bind fun t474 => (if t474 = true then (cooperagelaw9_ParseNodes.j0 k a0 t474 (decide ((a0.size : Int) > 2000))) else (cooperagelaw9_ParseNodes.j0 k a0 t474 true))
theorem cooperagelaw9_ParseNodes.mono_l : ∀ k, (∀ y0 y1 y2, LeO (cooperagelaw9_ParseNodes.j0 k y0 y1 y2) (cooperagelaw9_ParseNodes.j0 (k + 1) y0 y1 y2))
 | 0 => fun _ _ _ r h => by simp [cooperagelaw9_ParseNodes.j0] at h
 | k + 1 => by
  have ih0 := cooperagelaw9_ParseNodes.mono_l k
  ·intro y0 y1 y2
   unfold cooperagelaw9_ParseNodes.j0
   have m0 := @cooperagelaw9_same.mono
   have m1 := @cooperagelaw9_shown.mono
   have m2 := @cooperageref8_Lex.mono
   have m3 := @cooperageref9_Parse.mono
   have m4 := @lex_Lex.mono
   have m5 := @parse_Parse.mono
   exact zLe
theorem cooperagelaw9_ParseNodes.mono : ∀ a0 k, LeO (cooperagelaw9_ParseNodes.f k a0) (cooperagelaw9_ParseNodes.f (k + 1) a0) := by
 intro a0 k
 have ih0 := cooperagelaw9_ParseNodes.mono_l k
 unfold cooperagelaw9_ParseNodes.f
 have m0 := @cooperagelaw9_same.mono
 have m1 := @cooperagelaw9_shown.mono
 have m2 := @cooperageref8_Lex.mono
 have m3 := @cooperageref9_Parse.mono
 have m4 := @lex_Lex.mono
 have m5 := @parse_Parse.mono
 exact zLe
theorem cooperagelaw9_ParseNodes.calls (k : Nat) (a0 : ByteArray) (r : Bool) (w : World) (h : cooperagelaw9_ParseNodes.f k a0 = some r) :
  Calls Tryd.prog 9 #[.string a0] w fun e w' => e = .returned (.bool r) ∧ Below w.heap.size w w' := by
 have HB := ka (Below.refl w.heap.size w)
 have H : ((cooperagelaw9_shown.f k).bind fun t474 => (if t474 = true then (cooperagelaw9_ParseNodes.j0 k a0 t474 (decide ((a0.size : Int) > 2000))) else (cooperagelaw9_ParseNodes.j0 k a0 t474 true))) = some r := h
 clear h
 replace H := Option.bind_eq_some_iff.mp H
 obtain ⟨t474, A20, H⟩ := H
 try dsimp only at H
 have A2 := ka A20
 clear A20
 have HC3 := ka H
 clear H
 go_enter Tryd.func9, Tryd.ntmps9
 go_upto_region 2 with (first | ((with_reducible refine gate_callee (f := 10) rfl ?_); refine goesL_ (some 16) rfl rfl Tryd.func10 (by kernel_rfl) rfl #[] rfl zA ?_; (with_reducible refine (cooperagelaw9_shown.calls k  t474 _ A2.out).mono ?_); rintro e w4 ⟨rfl, hb⟩; refine ⟨_, rfl, ?_⟩; replace HB := ka (below_step (zL HB.out) hb); (try clear hb); (try clear hb2); (try clear hk); (try clear hi)))
 (try simp only [Act.put, List.setIfInBounds_toArray, List.set_cons_zero, List.set_cons_succ])
 go_cut [23] (fun v23 wc => ∃ (kq : Nat) (x23_2 : Bool), v23 = .bool x23_2 ∧ Aside0 (cooperagelaw9_ParseNodes.j0 kq a0 t474 x23_2 = some r) ∧ Aside0 (kq ≤ k) ∧ Aside0 (Below w.heap.size w wc))
 case first =>
  have H := HC3.out
  clear HC3
  by_cases c5 : t474 = true
  ·subst c5
   rw [if_pos rfl] at H
   have H' := ka H
   clear H
   go_wp2
   go_meet
   case rel => exact ⟨_, (decide ((a0.size : Int) > 2000)), zS, H', ⟨by first | omega | exact Nat.le_refl _⟩, ⟨zL HB.out⟩⟩
  replace c5 := Bool.eq_false_iff.mpr c5
  subst c5
  rw [if_neg (show ¬ (false = true) by decide)] at H
  have H' := ka H
  clear H
  go_wp2
  go_meet
  case rel => exact ⟨_, (true), zS, H', ⟨by first | omega | exact Nat.le_refl _⟩, ⟨zL HB.out⟩⟩
 case rest =>
  clear HC3
  obtain ⟨kq, x23_2, rfl, HA, HJ2, HB⟩ := hcut
  cases kq with
  | zero => exact absurd HA.out (by simp [cooperagelaw9_ParseNodes.j0])
  | succ kj2 =>
   have H := HA.out
   clear HA
   simp only [cooperagelaw9_ParseNodes.j0] at H
   by_cases c6 : x23_2 = true
   case pos =>
    subst c6
    rw [if_pos rfl] at H
    obtain rfl := Option.some.inj H
    go_wp2
    go_ret
    exact ⟨zE, zL HB.out⟩
   case' neg =>
    replace c6 := Bool.eq_false_iff.mpr c6
    subst c6
    rw [if_neg (show ¬ (false = true) by decide)] at H
    replace H := Option.bind_eq_some_iff.mp H
    obtain ⟨⟨t475, t476, t477⟩, A70, H⟩ := H
    try dsimp only at H
    have A7 := ka A70
    clear A70
    by_cases c8 : t476 = 0
    case neg =>
     rw [if_neg c8] at H
     have c8b0 := zn0 c8
     have c8b1 := zn1 c8
     obtain rfl := Option.some.inj H
     go_wp2_with (first | ((with_reducible refine gate_callee (f := 20) rfl ?_); refine goesL_ (some 27) rfl rfl Tryd.func20 (by kernel_rfl) rfl #[.string a0] rfl zA ?_; (with_reducible refine (lex_Lex.calls kj2 a0 t475 t476 t477 _ A7.out).mono ?_); rintro e w49 ⟨v478, rfl, ho0, hb⟩; refine ⟨_, rfl, ?_⟩; have HO479 := ka (Kd.R_lower ho0 (below_size (zL HB.out))); replace HB := ka (below_step (zL HB.out) hb); (try clear hb); (try clear hb2); (try clear hk); (try clear hi); (try clear ho0)))
     go_ret
     exact ⟨zE, zL HB.out⟩
    case' pos =>
     rw [if_pos c8] at H
     have c8b0 := zb0 c8
     have c8b1 := zb1 c8
     clear c8
     replace H := Option.bind_eq_some_iff.mp H
     obtain ⟨⟨t480, t481, t482⟩, A90, H⟩ := H
     try dsimp only at H
     have A9 := ka A90
     clear A90
     replace H := Option.bind_eq_some_iff.mp H
     obtain ⟨⟨t485, t486, t487⟩, A100, H⟩ := H
     try dsimp only at H
     have A10 := ka A100
     clear A100
     replace H := Option.bind_eq_some_iff.mp H
     obtain ⟨⟨t490, t491, t492⟩, A110, H⟩ := H
     try dsimp only at H
     have A11 := ka A110
     clear A110
     by_cases c12 : t486 = 0
     case neg =>
      rw [if_neg c12] at H
      have c12b0 := zn0 c12
      have c12b1 := zn1 c12
      obtain rfl := Option.some.inj H
      go_wp2_with (first | ((with_reducible refine gate_callee (f := 20) rfl ?_); refine goesL_ (some 27) rfl rfl Tryd.func20 (by kernel_rfl) rfl #[.string a0] rfl zA ?_; (with_reducible refine (lex_Lex.calls kj2 a0 t475 t476 t477 _ A7.out).mono ?_); rintro e w43 ⟨v478, rfl, ho0, hb⟩; refine ⟨_, rfl, ?_⟩; have HO479 := ka (Kd.R_lower ho0 (below_size (zL HB.out))); replace HB := ka (below_step (zL HB.out) hb); (try clear hb); (try clear hb2); (try clear hk); (try clear hi); (try clear ho0); obtain ⟨Ao44, co44, eo44⟩ := Kd.R_slice HO479.out; subst eo44) | ((with_reducible refine gate_callee (f := 12) rfl ?_); refine goesL_ (some 35) rfl rfl Tryd.func12 (by kernel_rfl) rfl #[.slice Ao44 t475.length co44] rfl zA ?_; (with_reducible refine (parse_Parse.calls kj2 _ _ t475 t480 t481 t482 _ ?side1 ?side2 A9.out).mono ?_); (case side1 => exact zCS (Kd.R_reads' HO479.out).2.2); (case side2 => exact (Kd.R_reads' HO479.out).2.1); rintro e w45 ⟨v483, rfl, ho0, hb⟩; refine ⟨_, rfl, ?_⟩; replace HO479 := ka (Kd.R_below (zR HO479.out) hb); have HO484 := ka (Kd.S_lower ho0 (below_size (zL HB.out))); replace HB := ka (below_step (zL HB.out) hb); (try clear hb); (try clear hb2); (try clear hk); (try clear hi); (try clear ho0)) | ((with_reducible refine gate_callee (f := 21) rfl ?_); refine goesL_ (some 41) rfl rfl Tryd.func21 (by kernel_rfl) rfl #[.string a0] rfl zA ?_; (with_reducible refine (cooperageref8_Lex.calls kj2 a0 t485 t486 t487 _ A10.out).mono ?_); rintro e w46 ⟨v488, rfl, ho0, hb⟩; refine ⟨_, rfl, ?_⟩; replace HO479 := ka (Kd.R_below (zR HO479.out) hb); replace HO484 := ka (Kd.S_below (zRS HO484.out) hb); have HO489 := ka (Kd.R_lower ho0 (below_size (zL HB.out))); replace HB := ka (below_step (zL HB.out) hb); (try clear hb); (try clear hb2); (try clear hk); (try clear hi); (try clear ho0); obtain ⟨Ao47, co47, eo47⟩ := Kd.R_slice HO489.out; subst eo47) | ((with_reducible refine gate_callee (f := 13) rfl ?_); refine goesL_ (some 47) rfl rfl Tryd.func13 (by kernel_rfl) rfl #[.slice Ao47 t485.length co47] rfl zA ?_; (with_reducible refine (cooperageref9_Parse.calls kj2 _ _ t485 t490 t491 t492 _ ?side1 ?side2 A11.out).mono ?_); (case side1 => exact zCS (Kd.R_reads' HO489.out).2.2); (case side2 => exact (Kd.R_reads' HO489.out).2.1); rintro e w48 ⟨v493, rfl, ho0, hb⟩; refine ⟨_, rfl, ?_⟩; replace HO479 := ka (Kd.R_below (zR HO479.out) hb); replace HO484 := ka (Kd.S_below (zRS HO484.out) hb); replace HO489 := ka (Kd.R_below (zR HO489.out) hb); have HO494 := ka (Kd.S_lower ho0 (below_size (zL HB.out))); replace HB := ka (below_step (zL HB.out) hb); (try clear hb); (try clear hb2); (try clear hk); (try clear hi); (try clear ho0)))
      go_ret
      exact ⟨zE, zL HB.out⟩
     case' pos =>
      rw [if_pos c12] at H
      have c12b0 := zb0 c12
      have c12b1 := zb1 c12
      clear c12
      replace H := Option.bind_eq_some_iff.mp H
      obtain ⟨t495, A130, H⟩ := H
      try dsimp only at H
      have A13 := ka A130
      clear A130
      by_cases c14 : t495 = true
      case neg =>
       replace c14 := Bool.eq_false_iff.mpr c14
       subst c14
       rw [if_neg (show ¬ (false = true) by decide)] at H
       obtain rfl := Option.some.inj H
       go_wp2_with (first | ((with_reducible refine gate_callee (f := 20) rfl ?_); refine goesL_ (some 27) rfl rfl Tryd.func20 (by kernel_rfl) rfl #[.string a0] rfl zA ?_; (with_reducible refine (lex_Lex.calls kj2 a0 t475 t476 t477 _ A7.out).mono ?_); rintro e w34 ⟨v478, rfl, ho0, hb⟩; refine ⟨_, rfl, ?_⟩; have HO479 := ka (Kd.R_lower ho0 (below_size (zL HB.out))); replace HB := ka (below_step (zL HB.out) hb); (try clear hb); (try clear hb2); (try clear hk); (try clear hi); (try clear ho0); obtain ⟨Ao35, co35, eo35⟩ := Kd.R_slice HO479.out; subst eo35) | ((with_reducible refine gate_callee (f := 12) rfl ?_); refine goesL_ (some 35) rfl rfl Tryd.func12 (by kernel_rfl) rfl #[.slice Ao35 t475.length co35] rfl zA ?_; (with_reducible refine (parse_Parse.calls kj2 _ _ t475 t480 t481 t482 _ ?side1 ?side2 A9.out).mono ?_); (case side1 => exact zCS (Kd.R_reads' HO479.out).2.2); (case side2 => exact (Kd.R_reads' HO479.out).2.1); rintro e w36 ⟨v483, rfl, ho0, hb⟩; refine ⟨_, rfl, ?_⟩; replace HO479 := ka (Kd.R_below (zR HO479.out) hb); have HO484 := ka (Kd.S_lower ho0 (below_size (zL HB.out))); replace HB := ka (below_step (zL HB.out) hb); (try clear hb); (try clear hb2); (try clear hk); (try clear hi); (try clear ho0)) | ((with_reducible refine gate_callee (f := 21) rfl ?_); refine goesL_ (some 41) rfl rfl Tryd.func21 (by kernel_rfl) rfl #[.string a0] rfl zA ?_; (with_reducible refine (cooperageref8_Lex.calls kj2 a0 t485 t486 t487 _ A10.out).mono ?_); rintro e w37 ⟨v488, rfl, ho0, hb⟩; refine ⟨_, rfl, ?_⟩; replace HO479 := ka (Kd.R_below (zR HO479.out) hb); replace HO484 := ka (Kd.S_below (zRS HO484.out) hb); have HO489 := ka (Kd.R_lower ho0 (below_size (zL HB.out))); replace HB := ka (below_step (zL HB.out) hb); (try clear hb); (try clear hb2); (try clear hk); (try clear hi); (try clear ho0); obtain ⟨Ao38, co38, eo38⟩ := Kd.R_slice HO489.out; subst eo38) | ((with_reducible refine gate_callee (f := 13) rfl ?_); refine goesL_ (some 47) rfl rfl Tryd.func13 (by kernel_rfl) rfl #[.slice Ao38 t485.length co38] rfl zA ?_; (with_reducible refine (cooperageref9_Parse.calls kj2 _ _ t485 t490 t491 t492 _ ?side1 ?side2 A11.out).mono ?_); (case side1 => exact zCS (Kd.R_reads' HO489.out).2.2); (case side2 => exact (Kd.R_reads' HO489.out).2.1); rintro e w39 ⟨v493, rfl, ho0, hb⟩; refine ⟨_, rfl, ?_⟩; replace HO479 := ka (Kd.R_below (zR HO479.out) hb); replace HO484 := ka (Kd.S_below (zRS HO484.out) hb); replace HO489 := ka (Kd.R_below (zR HO489.out) hb); have HO494 := ka (Kd.S_lower ho0 (below_size (zL HB.out))); replace HB := ka (below_step (zL HB.out) hb); (try clear hb); (try clear hb2); (try clear hk); (try clear hi); (try clear ho0); obtain ⟨Ao40, co40, eo40⟩ := Kd.S_slice HO484.out; subst eo40; obtain ⟨Ao41, co41, eo41⟩ := Kd.S_slice HO494.out; subst eo41) | (go_at_call 14; (with_reducible refine (cooperagelaw9_same.calls kj2 _ _ t480 _ _ t490 false _ ?side1 ?side2 ?side3 ?side4 A13.out).mono ?_); (case side1 => exact zCS (Kd.S_reads' HO484.out).2.2); (case side2 => exact (Kd.S_reads' HO484.out).2.1); (case side3 => exact zCS (Kd.S_reads' HO494.out).2.2); (case side4 => exact (Kd.S_reads' HO494.out).2.1); rintro e w42 ⟨rfl, hb⟩; replace HO479 := ka (Kd.R_below (zR HO479.out) hb); replace HO484 := ka (Kd.S_below (zRS HO484.out) hb); replace HO489 := ka (Kd.R_below (zR HO489.out) hb); replace HO494 := ka (Kd.S_below (zRS HO494.out) hb); replace HB := ka (below_step (zL HB.out) hb); (try clear hb); (try clear hb2); (try clear hk); (try clear hi)))
       go_ret
       exact ⟨zE, zL HB.out⟩
      case' pos =>
       subst c14
       rw [if_pos rfl] at H
       by_cases c15 : t481 = t491
       case' pos =>
        rw [if_pos c15] at H
        have c15b0 := zb0 c15
        have c15b1 := zb1 c15
        clear c15
       case' neg =>
        rw [if_neg c15] at H
        have c15b0 := zn0 c15
        have c15b1 := zn1 c15
   all_goals
    obtain rfl := Option.some.inj H
    go_wp2_with (first | ((with_reducible refine gate_callee (f := 20) rfl ?_); refine goesL_ (some 27) rfl rfl Tryd.func20 (by kernel_rfl) rfl #[.string a0] rfl zA ?_; (with_reducible refine (lex_Lex.calls kj2 a0 t475 t476 t477 _ A7.out).mono ?_); rintro e w16 ⟨v478, rfl, ho0, hb⟩; refine ⟨_, rfl, ?_⟩; have HO479 := ka (Kd.R_lower ho0 (below_size (zL HB.out))); replace HB := ka (below_step (zL HB.out) hb); (try clear hb); (try clear hb2); (try clear hk); (try clear hi); (try clear ho0); obtain ⟨Ao17, co17, eo17⟩ := Kd.R_slice HO479.out; subst eo17) | ((with_reducible refine gate_callee (f := 12) rfl ?_); refine goesL_ (some 35) rfl rfl Tryd.func12 (by kernel_rfl) rfl #[.slice Ao17 t475.length co17] rfl zA ?_; (with_reducible refine (parse_Parse.calls kj2 _ _ t475 t480 t481 t482 _ ?side1 ?side2 A9.out).mono ?_); (case side1 => exact zCS (Kd.R_reads' HO479.out).2.2); (case side2 => exact (Kd.R_reads' HO479.out).2.1); rintro e w18 ⟨v483, rfl, ho0, hb⟩; refine ⟨_, rfl, ?_⟩; replace HO479 := ka (Kd.R_below (zR HO479.out) hb); have HO484 := ka (Kd.S_lower ho0 (below_size (zL HB.out))); replace HB := ka (below_step (zL HB.out) hb); (try clear hb); (try clear hb2); (try clear hk); (try clear hi); (try clear ho0)) | ((with_reducible refine gate_callee (f := 21) rfl ?_); refine goesL_ (some 41) rfl rfl Tryd.func21 (by kernel_rfl) rfl #[.string a0] rfl zA ?_; (with_reducible refine (cooperageref8_Lex.calls kj2 a0 t485 t486 t487 _ A10.out).mono ?_); rintro e w19 ⟨v488, rfl, ho0, hb⟩; refine ⟨_, rfl, ?_⟩; replace HO479 := ka (Kd.R_below (zR HO479.out) hb); replace HO484 := ka (Kd.S_below (zRS HO484.out) hb); have HO489 := ka (Kd.R_lower ho0 (below_size (zL HB.out))); replace HB := ka (below_step (zL HB.out) hb); (try clear hb); (try clear hb2); (try clear hk); (try clear hi); (try clear ho0); obtain ⟨Ao20, co20, eo20⟩ := Kd.R_slice HO489.out; subst eo20) | ((with_reducible refine gate_callee (f := 13) rfl ?_); refine goesL_ (some 47) rfl rfl Tryd.func13 (by kernel_rfl) rfl #[.slice Ao20 t485.length co20] rfl zA ?_; (with_reducible refine (cooperageref9_Parse.calls kj2 _ _ t485 t490 t491 t492 _ ?side1 ?side2 A11.out).mono ?_); (case side1 => exact zCS (Kd.R_reads' HO489.out).2.2); (case side2 => exact (Kd.R_reads' HO489.out).2.1); rintro e w21 ⟨v493, rfl, ho0, hb⟩; refine ⟨_, rfl, ?_⟩; replace HO479 := ka (Kd.R_below (zR HO479.out) hb); replace HO484 := ka (Kd.S_below (zRS HO484.out) hb); replace HO489 := ka (Kd.R_below (zR HO489.out) hb); have HO494 := ka (Kd.S_lower ho0 (below_size (zL HB.out))); replace HB := ka (below_step (zL HB.out) hb); (try clear hb); (try clear hb2); (try clear hk); (try clear hi); (try clear ho0); obtain ⟨Ao22, co22, eo22⟩ := Kd.S_slice HO484.out; subst eo22; obtain ⟨Ao23, co23, eo23⟩ := Kd.S_slice HO494.out; subst eo23) | (go_at_call 14; (with_reducible refine (cooperagelaw9_same.calls kj2 _ _ t480 _ _ t490 true _ ?side1 ?side2 ?side3 ?side4 A13.out).mono ?_); (case side1 => exact zCS (Kd.S_reads' HO484.out).2.2); (case side2 => exact (Kd.S_reads' HO484.out).2.1); (case side3 => exact zCS (Kd.S_reads' HO494.out).2.2); (case side4 => exact (Kd.S_reads' HO494.out).2.1); rintro e w24 ⟨rfl, hb⟩; replace HO479 := ka (Kd.R_below (zR HO479.out) hb); replace HO484 := ka (Kd.S_below (zRS HO484.out) hb); replace HO489 := ka (Kd.R_below (zR HO489.out) hb); replace HO494 := ka (Kd.S_below (zRS HO494.out) hb); replace HB := ka (below_step (zL HB.out) hb); (try clear hb); (try clear hb2); (try clear hk); (try clear hi)))
    go_ret
    exact ⟨zE, zL HB.out⟩

/-- THE ONE PURE STATEMENT of cooperagelaw9_ParseNodes. -/
def cooperagelaw9_ParseNodes.Pure : Prop := ∀ (a0 : ByteArray), a0.size ≤ 140737488351232 → ∃ k, cooperagelaw9_ParseNodes.f k a0 = some true
theorem cooperagelaw9_ParseNodes.walk (P : cooperagelaw9_ParseNodes.Pure) (a0 : ByteArray) (w : World) (w0 : a0.size ≤ 140737488351232) :
  Calls Tryd.prog 9 #[.string a0] w fun e w' => e = .returned (.bool true) ∧ Below w.heap.size w w' := by
 obtain ⟨k, h⟩ := P a0 w0
 refine (cooperagelaw9_ParseNodes.calls k a0 true w h).mono ?_
 rintro e w' ⟨rfl, hd⟩
 exact ⟨rfl, hd⟩

end Go.Proofs.YthnholondnfjoaaDoor.PParse
