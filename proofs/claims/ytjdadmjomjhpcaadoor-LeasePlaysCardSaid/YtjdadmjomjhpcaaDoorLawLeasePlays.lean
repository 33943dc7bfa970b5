-- Written by a program of this session (wip/tools/ext.py, over the kit's printer); not trusted: Lean checks it.
import Derived.Test.YtjdadmjomjhpcaaDoorRows
import Derived.Test.YtjdadmjomjhpcaaDoorPLeasex18
import Derived.Test.YtjdadmjomjhpcaaDoorPureLeasePlays
import Derived.Test.YtjdadmjomjhpcaaDoorRowOpen
import Derived.WalkKit
import Derived.ProofKit
import Derived.OpenShut
import Derived.ShutString
import Derived.ChangeOld
import Derived.Below
import Derived.SizedLaws
import Derived.LaidMore
import Derived.Lay
import Derived.Stop.Joined
import Derived.SevenTiedAt
import Derived.Test.YtjdadmjomjhpcaaDoorTie
import Derived.Test.YtjdadmjomjhpcaaDoorCards
namespace Go.Proofs.YtjdadmjomjhpcaaDoor.leasePlays
open Go.ChangeShapes Go.WideShapes Go.ChangeAt Go.RowKit Go.Proofs.YtjdadmjomjhpcaaDoorW.PrintWords
open Go.Proofs.YtjdadmjomjhpcaaDoor.PLease
open Go.ChangeMaps (open_string shut_string)
set_option linter.unusedVariables false
set_option linter.unusedSimpArgs false
theorem own : ownKnob Tryd.prog.godebug = none := by kernel_rfl
theorem laidOut : laidOutB Tryd.prog = true := by kernel_rfl
set_option maxRecDepth 100000 in
theorem read34 {H : Type} {enc : TypeId × Value → H} {W : World} {base : Nat} {spare : Nat → Bool} {held : Bool} (n : Nat) (cs : List Value) (y : DataW H × List MemPlace) (h : DataW.trod enc Tryd.prog W base spare held n 34 cs = some y) : ∃ x : S34, k34.K W x cs ∧ ((Lit.int .i64 x.f0).wf = true ∧ (Lit.int .i64 x.f1).wf = true ∧ (Lit.int .i64 x.f2).wf = true ∧ (Lit.int .i64 x.f3).wf = true ∧ (Lit.int .i64 x.f4).wf = true ∧ x.f5.size ≤ 9223372036854775807) := by
  obtain ⟨xs, m, _, _, hl, hlen, hf⟩ := DataW.trod_struct Tryd.underlying34 h
  have hl' : cs.length = 7 := hl.trans (by kernel_rfl)
  match cs, hl' with
  | [c0, c1, c2, c3, c4, c5, c6], _ =>
    have g0 := hf 0 _ rfl
    obtain ⟨y0, hy0⟩ : ∃ z, xs[0]? = some z := ⟨_, List.getElem?_eq_getElem (show 0 < xs.length by rw [hlen]; decide)⟩
    rw [hy0] at g0
    obtain ⟨v0, e0, _, q0⟩ := DataW.trod_int Tryd.underlying3 g0
    obtain rfl : c0 = .int .i64 v0 := (List.cons.inj e0).1
    have g1 := hf 1 _ rfl
    obtain ⟨y1, hy1⟩ : ∃ z, xs[1]? = some z := ⟨_, List.getElem?_eq_getElem (show 1 < xs.length by rw [hlen]; decide)⟩
    rw [hy1] at g1
    obtain ⟨v1, e1, _, q1⟩ := DataW.trod_int Tryd.underlying3 g1
    obtain rfl : c1 = .int .i64 v1 := (List.cons.inj e1).1
    have g2 := hf 2 _ rfl
    obtain ⟨y2, hy2⟩ : ∃ z, xs[2]? = some z := ⟨_, List.getElem?_eq_getElem (show 2 < xs.length by rw [hlen]; decide)⟩
    rw [hy2] at g2
    obtain ⟨v2, e2, _, q2⟩ := DataW.trod_int Tryd.underlying3 g2
    obtain rfl : c2 = .int .i64 v2 := (List.cons.inj e2).1
    have g3 := hf 3 _ rfl
    obtain ⟨y3, hy3⟩ : ∃ z, xs[3]? = some z := ⟨_, List.getElem?_eq_getElem (show 3 < xs.length by rw [hlen]; decide)⟩
    rw [hy3] at g3
    obtain ⟨v3, e3, _, q3⟩ := DataW.trod_int Tryd.underlying3 g3
    obtain rfl : c3 = .int .i64 v3 := (List.cons.inj e3).1
    have g4 := hf 4 _ rfl
    obtain ⟨y4, hy4⟩ : ∃ z, xs[4]? = some z := ⟨_, List.getElem?_eq_getElem (show 4 < xs.length by rw [hlen]; decide)⟩
    rw [hy4] at g4
    obtain ⟨v4, e4, _, q4⟩ := DataW.trod_int Tryd.underlying3 g4
    obtain rfl : c4 = .int .i64 v4 := (List.cons.inj e4).1
    have g5 := hf 5 _ rfl
    obtain ⟨y5, hy5⟩ : ∃ z, xs[5]? = some z := ⟨_, List.getElem?_eq_getElem (show 5 < xs.length by rw [hlen]; decide)⟩
    rw [hy5] at g5
    obtain ⟨v5, e5, _, q5⟩ := DataW.trod_string Tryd.underlying9 g5
    obtain rfl : c5 = .string v5 := (List.cons.inj e5).1
    have g6 := hf 6 _ rfl
    obtain ⟨y6, hy6⟩ : ∃ z, xs[6]? = some z := ⟨_, List.getElem?_eq_getElem (show 6 < xs.length by rw [hlen]; decide)⟩
    rw [hy6] at g6
    obtain ⟨v6, e6, _⟩ := DataW.trod_bool Tryd.underlying4 g6
    obtain rfl : c6 = .bool v6 := (List.cons.inj e6).1
    exact ⟨⟨v0, v1, v2, v3, v4, v5, v6⟩, k34_mk W ⟨v0, v1, v2, v3, v4, v5, v6⟩, q0, q1, q2, q3, q4, q5⟩
set_option maxRecDepth 100000 in
theorem lifted (os : Os) (started : os.Started) (H : Type) (enc : TypeId × Value → H) :
    ReturnsInHanded {} Tryd.checked os 3 .any (fun w args => (Rows.leasePlaysSpec.pre enc Tryd.prog Tryd.f3 Rows.leasePlaysRow.domain false w args ∧ laidMetH Tryd.prog Rows.leasePlaysRow.laid w) ∧ sizedMet enc Tryd.prog Tryd.f3 (OpenSpec.ofChange Rows.leasePlaysSpec) false w args) (Rows.leasePlaysSpec.post enc Tryd.prog Tryd.f3 false true false false) := by
  refine returnsInHanded_of_change_and (C := Tryd.checked) (X := fun w _ => laidMetH Tryd.prog Rows.leasePlaysRow.laid w) (fun _ _ _ hh h => h.of_heap hh) own started (by kernel_rfl) Tryd.func3
    (ChangeSpec.witness_shaped (enc := enc) (C := Tryd.checked) (os := os) (X := fun w _ => laidMetH Tryd.prog Rows.leasePlaysRow.laid w) false (World.laidAll Tryd.prog os Rows.leasePlaysRow.laid) #[.slice none 0 0] 8 (World.laidAll_os _ _ _)
      (World.shaped_of_ZipB (by kernel_rfl) (by kernel_rfl)) (by kernel_rfl) (by kernel_rfl) (by kernel_rfl)
      (by rw [MakeChecks.laidMetH_plain _ _ _ (by kernel_rfl)]; exact laidMet_laidAll _ (by kernel_rfl) (by kernel_rfl))) ?_
  intro W base args ds gs before hval0 hW hcnd hsz0 _ _
  have hsz : (DataW.weightsEach Tryd.prog (Tryd.f3.params.toList ++ Rows.leasePlaysSpec.plain.varTypes Tryd.prog) (ds ++ gs)).all (· ≤ reachBytes) = true := hsz0
  have hval : ∀ (j : Nat) t v, Tryd.f3.params[j]? = some t → args[j]? = some v → Value.okWide Tryd.prog W .any base t v := hval0
  have hW' := hW
  obtain ⟨p, q, hA0, hV, rfl, hfz, hnd⟩ := hW
  have hA : DataW.TrodAll enc Tryd.prog W 0 (fun _ => true) true Tryd.f3.params.toList args.toList ds p := hA0
  rw [Tryd.params3] at hA hval hsz
  obtain ⟨v0, vs0, d0, ds0, p0, q0, hargs, rfl, rfl, h0, r0⟩ := trodAll_cons hA
  obtain ⟨rfl, rfl, rfl⟩ := trodAll_nil r0
  obtain rfl : args = #[v0] := by cases args; simp_all
  obtain ⟨rfl, rfl⟩ := trodVars_none hV
  obtain ⟨a0, len0, cap0, rfl⟩ := okWide_slice Tryd.underlying22 (hval 0 22 v0 rfl rfl)
  have k0 := h0
  have lt0 : ∀ x ∈ p0, x.block < W.heap.size := by obtain ⟨m, hm⟩ := k0; exact DataW.trod_lt m _ _ _ hm
  have y0 : len0 * 64 ≤ 140737488351232 := Pl.sized_len hsz (j := 0) (t := 22) rfl rfl Tryd.underlying22 (by kernel_rfl) h0
  obtain ⟨l0, rfl, rd0, lc0, lm0, le0⟩ := Pl.open_row_C k34 (fun x => (Lit.int .i64 x.f0).wf = true ∧ (Lit.int .i64 x.f1).wf = true ∧ (Lit.int .i64 x.f2).wf = true ∧ (Lit.int .i64 x.f3).wf = true ∧ (Lit.int .i64 x.f4).wf = true ∧ x.f5.size ≤ 9223372036854775807) Tryd.underlying22 (by kernel_rfl) (fun n cs y h_ => read34 n cs y h_) h0
  clear hA0 hval0 hsz0 hsz
  refine (PLease.cooperagelaw16_LeasePlays.walk Pure.LeasePlays a0 cap0 l0 W rd0 lc0 lm0 y0 le0).mono fun e W' ⟨he, bel⟩ => ?_
  subst he
  exact ⟨_, rfl, _, _, _, [], _, [], hW', trodAll_mk1 (shut_bool Tryd.underlying4 _), (trodAll_cons_mk (Below.trod laidOut (by kernel_rfl) (of_decide_eq_true (by kernel_rfl)) k0 bel lt0) trodAll_mk0), rfl, bel.frame _, fun h => by cases h⟩
theorem over : Rows.leasePlaysRow.holds Tryd.pinned (OpenSpec.ofChange Rows.leasePlaysSpec) :=
  OpenClaim.holds_of_wide 3 Tryd.f3 rfl rfl rfl rfl rfl rfl rfl ⟨rfl, rfl, rfl, rfl, rfl⟩ rfl rfl rfl rfl rfl (by kernel_rfl) Tryd.func3 (by kernel_rfl)
    (of_decide_eq_true (by kernel_rfl)) (by unfold Func.isWrapper; first | (rw [if_pos (by decide +kernel)]; kernel_rfl) | (rw [if_neg (by decide +kernel)]; exact ⟨rfl, rfl⟩))
    (fun os started H enc _ => lifted os started H enc)
theorem proved : Rows.LeasePlaysSaid := over
end Go.Proofs.YtjdadmjomjhpcaaDoor.leasePlays
namespace Go.Proofs.YtjdadmjomjhpcaaDoor
/-- The row, under a short name, for the claim. -/
theorem leasePlays_holds : Rows.LeasePlaysSaid := leasePlays.proved
end Go.Proofs.YtjdadmjomjhpcaaDoor
namespace Go.Proofs.YtjdadmjomjhpcaaDoor
open Go
/-- The row, tied: the card. -/
theorem leasePlays_card : Rows.LeasePlaysCardSaid :=
  Claim7.holds_tied_plain_at .later [] [.data, .pinned] true (true, "0a6530a503cf641fd172ef21e345139f95e371baab1e48e23750d7b0a58ac041") false
    leasePlays.proved (fun _ h => by cases h) (by kernel_rfl) (fun _ h => by cases h) leasePlays_row_tie rfl ⟨rfl, rfl⟩ (by kernel_rfl) rfl
    (fun f fn hf hfn => by
      obtain rfl : f = 3 := Option.some.inj ((show Tryd.prog.funcNamed "cooperage/cooperagelaw16.LeasePlays" = some 3 by kernel_rfl).symm.trans hf) |>.symm
      obtain rfl : fn = Tryd.f3 := (Option.some.inj (Tryd.func3.symm.trans hfn)).symm
      exact ⟨by kernel_rfl, fun j t ht => by
        rw [Tryd.params3] at ht
        have hm : t ∈ [22] := by simpa using Array.mem_of_getElem? ht
        have hall : ([22].all fun u => !Tryd.prog.wantsStandIn u) = true := by kernel_rfl
        exact (show Tryd.prog.wantsStandIn t = false by simpa using List.all_eq_true.1 hall t hm)⟩)
    (by kernel_rfl)
end Go.Proofs.YtjdadmjomjhpcaaDoor