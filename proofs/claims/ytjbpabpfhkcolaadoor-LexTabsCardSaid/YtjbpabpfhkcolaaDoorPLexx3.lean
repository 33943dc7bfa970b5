-- Written by a program of this session (wip/tools/ext.py, over the kit's printer); not trusted: Lean checks it.
import Derived.Test.YtjbpabpfhkcolaaDoorPLexx0
import Derived.Test.YtjbpabpfhkcolaaDoorPLexx1
import Derived.Test.YtjbpabpfhkcolaaDoorPLexx2
namespace Go.Proofs.YtjbpabpfhkcolaaDoor.PLex
open Go.RowKit Go.Proofs.YtjbpabpfhkcolaaDoorW.PrintWords Go.Proofs.YtjbpabpfhkcolaaDoorW.PrintLast Go.Proofs.YtjbpabpfhkcolaaDoorW.PrintMore
attribute [local go_sem] max2_int min2_int max_two min_two max_three min_three max_four min_four   -- for this text's walks alone
set_option linter.unusedVariables false
set_option linter.unusedSimpArgs false

attribute [local go_sem high] eqA28
/-! ### lex_Lex: function 9 -/
mutual
def lex_Lex.l0 : Nat → List (S28) → List ByteArray → Int → Option ((List (S28)) × Int × Int)
 | 0, _, _, _ => none
 | k + 1, x5, x6, x7 => if x7 < (x6.length : Int) then (if 0 ≤ x7 then ((strings_HasPrefix.f (rdOf ByteArray.empty x6 x7) (⟨#[9]⟩ : ByteArray)).bind fun t112 => ((lex_goes.f (rdOf ByteArray.empty x6 x7)).bind fun bt115 => (lex_Lex.l1 k x5 x6 x7 bt115.1 bt115.2 (wrap64 (x7 + 1)) t112 (⟨#[]⟩ : ByteArray)))) else (none)) else (some (x5, 0, 0))
def lex_Lex.l1 : Nat → List (S28) → List ByteArray → Int → ByteArray → Bool → Int → Bool → ByteArray → Option ((List (S28)) × Int × Int)
 | 0, _, _, _, _, _, _, _, _ => none
 | k + 1, x5, x6, x7, x9, x10, x114000, x114001, x114002 => if x10 = true then (lex_Lex.j2 k x5 x6 x7 x9 (decide ((wrap64 (x7 + 1)) < (x6.length : Int))) x114000 x114001 x114002) else (lex_Lex.j2 k x5 x6 x7 x9 false x114000 x114001 x114002)
def lex_Lex.j2 : Nat → List (S28) → List ByteArray → Int → ByteArray → Bool → Int → Bool → ByteArray → Option ((List (S28)) × Int × Int)
 | 0, _, _, _, _, _, _, _, _ => none
 | k + 1, x5, x6, x7, x9, x43, x114000, x114001, x114002 => if x43 = true then (if 0 ≤ (wrap64 (x7 + 1)) then (if (wrap64 (x7 + 1)) < (x6.length : Int) then ((strings_TrimLeft.f (rdOf ByteArray.empty x6 (wrap64 (x7 + 1))) (⟨#[32, 9]⟩ : ByteArray)).bind fun t118 => ((lex_goes.f t118).bind fun bt119 => ((strings_TrimRight.f x9 (⟨#[32, 9]⟩ : ByteArray)).bind fun t121 => (if t121.size + 1 ≤ 9223372036854775807 then (if (t121 ++ (⟨#[32]⟩ : ByteArray)).size + bt119.1.size ≤ 9223372036854775807 then (lex_Lex.l1 k x5 x6 (wrap64 (x7 + 1)) ((t121 ++ (⟨#[32]⟩ : ByteArray)) ++ bt119.1) bt119.2 x114000 x114001 x114002) else (none)) else (none))))) else (none)) else (none)) else (if x114001 = true then (lex_Lex.j3 k x5 x6 x7 x9 x114000 x114001 x114002) else ((strings_Cut.f x9 (⟨#[35]⟩ : ByteArray)).bind fun bt122 => (lex_Lex.j3 k x5 x6 x7 bt122.1 x114000 x114001 x114002)))
def lex_Lex.j3 : Nat → List (S28) → List ByteArray → Int → ByteArray → Int → Bool → ByteArray → Option ((List (S28)) × Int × Int)
 | 0, _, _, _, _, _, _, _ => none
 | k + 1, x5, x6, x7, x9, x114000, x114001, x114002 => (text_Trim.f x9).bind fun t125 => (if t125.toList = ([] : List UInt8) then (lex_Lex.l0 k x5 x6 (wrap64 (x7 + 1))) else (if (t125.size : Int) > 1000 then (some (([] : List (S28)), 3, x114000)) else (if (x5.length : Int) ≥ 300 then (some (([] : List (S28)), 3, x114000)) else (if x5.length < 4398046511104 then (lex_Lex.l0 k (x5 ++ [(⟨x114000, x114001, t125⟩ : S28)]) x6 (wrap64 (x7 + 1))) else (none)))))
end
def lex_Lex.f (k : Nat) (a0 : ByteArray) : Option ((List (S28)) × Int × Int) := (text_Lines.f a0).bind fun t108 => (lex_Lex.l0 k ([] : List (S28)) t108 0)
theorem lex_Lex.mono_l : ∀ k, (∀ y0 y1 y2, LeO (lex_Lex.l0 k y0 y1 y2) (lex_Lex.l0 (k + 1) y0 y1 y2)) ∧ (∀ y0 y1 y2 y3 y4 y5 y6 y7, LeO (lex_Lex.l1 k y0 y1 y2 y3 y4 y5 y6 y7) (lex_Lex.l1 (k + 1) y0 y1 y2 y3 y4 y5 y6 y7)) ∧ (∀ y0 y1 y2 y3 y4 y5 y6 y7, LeO (lex_Lex.j2 k y0 y1 y2 y3 y4 y5 y6 y7) (lex_Lex.j2 (k + 1) y0 y1 y2 y3 y4 y5 y6 y7)) ∧ (∀ y0 y1 y2 y3 y4 y5 y6, LeO (lex_Lex.j3 k y0 y1 y2 y3 y4 y5 y6) (lex_Lex.j3 (k + 1) y0 y1 y2 y3 y4 y5 y6))
 | 0 => ⟨fun _ _ _ r h => by simp [lex_Lex.l0] at h, fun _ _ _ _ _ _ _ _ r h => by simp [lex_Lex.l1] at h, fun _ _ _ _ _ _ _ _ r h => by simp [lex_Lex.j2] at h, fun _ _ _ _ _ _ _ r h => by simp [lex_Lex.j3] at h⟩
 | k + 1 => by
  obtain ⟨ih0, ih1, ih2, ih3⟩ := lex_Lex.mono_l k
  refine ⟨?_, ?_, ?_, ?_⟩
  ·intro y0 y1 y2
   unfold lex_Lex.l0
   repeat' first
   | (with_reducible exact ih0 _ _ _)
   | (with_reducible exact ih1 _ _ _ _ _ _ _ _)
   | (with_reducible exact ih2 _ _ _ _ _ _ _ _)
   | (with_reducible exact ih3 _ _ _ _ _ _ _)
   | (with_reducible exact LeO.refl _)
   | (with_reducible exact LeO.none _)
   | (with_reducible refine LeO.ite ?_ ?_)
   | (with_reducible refine LeO.bind ?_ (fun _ => ?_))
   | exact ih0 _ _ _
   | exact ih1 _ _ _ _ _ _ _ _
   | exact ih2 _ _ _ _ _ _ _ _
   | exact ih3 _ _ _ _ _ _ _
   | exact LeO.none _
   | refine LeO.ite ?_ ?_
   | refine LeO.bind ?_ (fun _ => ?_)
  ·intro y0 y1 y2 y3 y4 y5 y6 y7
   unfold lex_Lex.l1
   repeat' first
   | (with_reducible exact ih0 _ _ _)
   | (with_reducible exact ih1 _ _ _ _ _ _ _ _)
   | (with_reducible exact ih2 _ _ _ _ _ _ _ _)
   | (with_reducible exact ih3 _ _ _ _ _ _ _)
   | (with_reducible exact LeO.refl _)
   | (with_reducible exact LeO.none _)
   | (with_reducible refine LeO.ite ?_ ?_)
   | (with_reducible refine LeO.bind ?_ (fun _ => ?_))
   | exact ih0 _ _ _
   | exact ih1 _ _ _ _ _ _ _ _
   | exact ih2 _ _ _ _ _ _ _ _
   | exact ih3 _ _ _ _ _ _ _
   | exact LeO.none _
   | refine LeO.ite ?_ ?_
   | refine LeO.bind ?_ (fun _ => ?_)
  ·intro y0 y1 y2 y3 y4 y5 y6 y7
   unfold lex_Lex.j2
   repeat' first
   | (with_reducible exact ih0 _ _ _)
   | (with_reducible exact ih1 _ _ _ _ _ _ _ _)
   | (with_reducible exact ih2 _ _ _ _ _ _ _ _)
   | (with_reducible exact ih3 _ _ _ _ _ _ _)
   | (with_reducible exact LeO.refl _)
   | (with_reducible exact LeO.none _)
   | (with_reducible refine LeO.ite ?_ ?_)
   | (with_reducible refine LeO.bind ?_ (fun _ => ?_))
   | exact ih0 _ _ _
   | exact ih1 _ _ _ _ _ _ _ _
   | exact ih2 _ _ _ _ _ _ _ _
   | exact ih3 _ _ _ _ _ _ _
   | exact LeO.none _
   | refine LeO.ite ?_ ?_
   | refine LeO.bind ?_ (fun _ => ?_)
  ·intro y0 y1 y2 y3 y4 y5 y6
   unfold lex_Lex.j3
   repeat' first
   | (with_reducible exact ih0 _ _ _)
   | (with_reducible exact ih1 _ _ _ _ _ _ _ _)
   | (with_reducible exact ih2 _ _ _ _ _ _ _ _)
   | (with_reducible exact ih3 _ _ _ _ _ _ _)
   | (with_reducible exact LeO.refl _)
   | (with_reducible exact LeO.none _)
   | (with_reducible refine LeO.ite ?_ ?_)
   | (with_reducible refine LeO.bind ?_ (fun _ => ?_))
   | exact ih0 _ _ _
   | exact ih1 _ _ _ _ _ _ _ _
   | exact ih2 _ _ _ _ _ _ _ _
   | exact ih3 _ _ _ _ _ _ _
   | exact LeO.none _
   | refine LeO.ite ?_ ?_
   | refine LeO.bind ?_ (fun _ => ?_)
theorem lex_Lex.mono : ∀ a0 k, LeO (lex_Lex.f k a0) (lex_Lex.f (k + 1) a0) := by
 intro a0 k
 obtain ⟨ih0, ih1, ih2, ih3⟩ := lex_Lex.mono_l k
 unfold lex_Lex.f
 repeat' first
   | (with_reducible exact ih0 _ _ _)
   | (with_reducible exact ih1 _ _ _ _ _ _ _ _)
   | (with_reducible exact ih2 _ _ _ _ _ _ _ _)
   | (with_reducible exact ih3 _ _ _ _ _ _ _)
   | (with_reducible exact LeO.refl _)
   | (with_reducible exact LeO.none _)
   | (with_reducible refine LeO.ite ?_ ?_)
   | (with_reducible refine LeO.bind ?_ (fun _ => ?_))
   | exact ih0 _ _ _
   | exact ih1 _ _ _ _ _ _ _ _
   | exact ih2 _ _ _ _ _ _ _ _
   | exact ih3 _ _ _ _ _ _ _
   | exact LeO.none _
   | refine LeO.ite ?_ ?_
   | refine LeO.bind ?_ (fun _ => ?_)
set_option maxHeartbeats 8000000 in
set_option maxRecDepth 100000 in
theorem lex_Lex.calls (k : Nat) (a0 : ByteArray) (r1 : List (S28)) (r2 : Int) (r3 : Int) (w : World) (h : lex_Lex.f k a0 = some (r1, r2, r3)) :
  Calls Tryd.prog 9 #[.string a0] w fun e w' => ∃ v0_ : Value, e = .returned (.tuple #[v0_, .int .i64 r2, .int .i64 r3]) ∧ Kd.R k28 28 w' w.heap.size (fun _ => True) v0_ r1 ∧ Below w.heap.size w w' := by
 have hu28 := Tryd.underlying28
 have HB := Aside0.mk (Below.refl w.heap.size w)
 have H : ((text_Lines.f a0).bind fun t108 => (lex_Lex.l0 k ([] : List (S28)) t108 0)) = some (r1, r2, r3) := h
 clear h
 replace H := Option.bind_eq_some_iff.mp H
 obtain ⟨t108, A20, H⟩ := H
 replace H : (lex_Lex.l0 k ([] : List (S28)) t108 0) = some (r1, r2, r3) := H
 have A2 := Aside0.mk A20
 clear A20
 have H' := Aside0.mk H
 clear H
 go_enter Tryd.func9, Tryd.ntmps9
 go_wp2
 apply wp_scope_straight
 go_wp2_with (first | (go_at_call 11; (with_reducible refine (text_Lines.calls a0 t108 _ A2.out).mono ?_); rintro e w3 ⟨v109, rfl, ho0, hb⟩; have n0_ := Aside0.mk (Kd.R_lower ho0 (below_size (zL HB.out))); have n1_ := Aside0.mk (below_step (zL HB.out) hb); revert n0_ n1_; clear HB; intro HO110 HB; (try clear hb); (try clear hb2); (try clear hk); (try clear hi); (try clear ho0)))
 apply wp_label
 go_wp2
 repeat (go_quiet (first | (go_at_call 11; (with_reducible refine (text_Lines.calls a0 t108 _ A2.out).mono ?_); rintro e w3 ⟨v109, rfl, ho0, hb⟩; have n0_ := Aside0.mk (Kd.R_lower ho0 (below_size (zL HB.out))); have n1_ := Aside0.mk (below_step (zL HB.out) hb); revert n0_ n1_; clear HB; intro HO110 HB; (try clear hb); (try clear hb2); (try clear hk); (try clear hi); (try clear ho0))); try go_wp2_with (first | (go_at_call 11; (with_reducible refine (text_Lines.calls a0 t108 _ A2.out).mono ?_); rintro e w3 ⟨v109, rfl, ho0, hb⟩; have n0_ := Aside0.mk (Kd.R_lower ho0 (below_size (zL HB.out))); have n1_ := Aside0.mk (below_step (zL HB.out) hb); revert n0_ n1_; clear HB; intro HO110 HB; (try clear hb); (try clear hb2); (try clear hk); (try clear hi); (try clear ho0))))
 go_loopg [5, 7] k (fun kq v5 v7 w' => ∃ (x5_1 : List (S28)) (x7_1 : Int), v7 = .int .i64 x7_1 ∧ Aside0 (lex_Lex.l0 kq x5_1 t108 x7_1 = some (r1, r2, r3)) ∧ Aside0 (kq ≤ k) ∧ Aside0 (Kd.R k28 28 w' w.heap.size (fun _ => True) v5 x5_1) ∧ Aside0 (Kd.R Kd.string 9 w' w.heap.size (fun _ => True) v109 t108) ∧ Aside0 (Below w.heap.size w w'))
 case atStart => exact ⟨(([] : List (S28))), (0), zS, H', ⟨Nat.le_refl _⟩, ⟨by first | exact Kd.R_nil _ _ _ _ _ | exact Kd.N_nil _ _ _ _ _ | exact Kd.V_nil _ _ _ _ _ | exact Kd.Q_nil _ _ _ _ _ | exact Kd.S_nil _ _ _ _ _⟩, ⟨by (with_reducible repeat (first | apply Kd.R_alloc | apply Kd.R_drewN | apply Kd.R_drew)); exact HO110.out⟩, ⟨zL HB.out⟩⟩
 case round =>
  clear H'
  try clear p2
  obtain ⟨x5_1, x7_1, rfl, HA, HK1, HO_5, HO_6, HB⟩ := hrel
  cases gk with
  | zero => exact absurd HA.out (by simp [lex_Lex.l0])
  | succ k1 =>
   have H := HA.out
   clear HA
   simp only [lex_Lex.l0] at H
   by_cases c4 : x7_1 < (t108.length : Int)
   ·rw [if_pos c4] at H
    have c4b0 : decide (x7_1 < (t108.length : Int)) = true := decide_eq_true c4
    clear c4
    by_cases c5 : 0 ≤ x7_1
    ·rw [if_pos c5] at H
     have c5b0 : decide (0 ≤ x7_1) = true := decide_eq_true c5
     clear c5
     replace H := Option.bind_eq_some_iff.mp H
     obtain ⟨t112, A60, H⟩ := H
     replace H : ((lex_goes.f (rdOf ByteArray.empty t108 x7_1)).bind fun bt115 => (lex_Lex.l1 k1 x5_1 t108 x7_1 bt115.1 bt115.2 (wrap64 (x7_1 + 1)) t112 (⟨#[]⟩ : ByteArray))) = some (r1, r2, r3) := H
     have A6 := Aside0.mk A60
     clear A60
     replace H := Option.bind_eq_some_iff.mp H
     obtain ⟨⟨t115, t116⟩, A70, H⟩ := H
     replace H : (lex_Lex.l1 k1 x5_1 t108 x7_1 t115 t116 (wrap64 (x7_1 + 1)) t112 (⟨#[]⟩ : ByteArray)) = some (r1, r2, r3) := H
     have A7 := Aside0.mk A70
     clear A70
     have H' := Aside0.mk H
     clear H
     obtain ⟨Ao8, co8, eo8⟩ := Kd.R_slice HO_6.out
     subst eo8
     have p111 : 0 ≤ (x7_1 : Int) := zD
     have q111 : x7_1 < (t108.length : Int) := zD
     obtain ⟨ad111, e111, hx111_0⟩ := Kd.at_string (Kd.R_reads' HO_6.out).2.2 x7_1 p111 q111
     cases e111
     replace p111 := eq_true p111
     replace q111 := eq_true q111
     go_wp2_with (first | (go_at_call 12; (with_reducible refine (strings_HasPrefix.calls (rdOf ByteArray.empty t108 x7_1) (⟨#[9]⟩ : ByteArray) t112 _ A6.out).mono ?_); rintro e w' ⟨rfl, ⟨nd, rfl⟩⟩; (try first | exact ⟨rfl, _, World.drewN_drewN _ _ _⟩ | exact ⟨rfl, _, Eq.trans (World.drewN_drewN _ _ _) (congrArg (World.drewN _) (Nat.add_assoc _ _ _))⟩)) | ((with_reducible refine gate_dst (N := 8) rfl ?_); (try (refine gate_guard (by rfl) ?_; dsimp only)); refine box_event ?hg (N := 8) ?hd (cs := #[.int .i64 0, .bool false, .string (⟨#[]⟩ : ByteArray)]) (t := 28) ?hr ?_; (case hd => rfl); (case hg => rfl); (case hr => first | (go_simp; done) | (go_simp; rfl)); intro gb113 hg w9 hbox hb; have n0_ := Aside0.mk (Kd.R_below (Kd.R_elderB (zR HO_5.out) gb113 (Nat.le_of_eq hg.symm)) hb); have n1_ := Aside0.mk (Kd.R_below (zR HO_6.out) hb); have n2_ := Aside0.mk (below_step (zL HB.out) hb); have n3_ := Aside0.mk (hbox); have n4_ := Aside0.mk (zG hg (zL HB.out)); have n5_ := Aside0.mk (zG hg (zL HB.out)); revert n0_ n1_ n2_ n3_ n4_ n5_; clear HO_5 HO_6 HB; intro HO_5 HO_6 HB BK113 GW113 GE113; clear hb hbox hg; obtain ⟨hcz10_0, hcz10_1, hcz10_2, hfz10_0, hfz10_1, hfz10_2⟩ := zC3 BK113.out; have p114 : 0 ≤ (x7_1 : Int) := zD; have q114 : x7_1 < (t108.length : Int) := zD; obtain ⟨ad114, e114, hx114_0⟩ := Kd.at_string (Kd.R_reads' HO_6.out).2.2 x7_1 p114 q114; obtain rfl : ad111 = ad114 := (by injection e114); have hn114_0 : ad111.block ≠ gb113 := Kd.own_blk (Kd.R_ne HO_6.out BK113.out (by decide)); have hn114_1 : ad111.block ≠ gb113 := Kd.own_blk (Kd.R_ne HO_6.out BK113.out (by decide)); have hn114_2 : ad111.block ≠ gb113 := Kd.own_blk (Kd.R_ne HO_6.out BK113.out (by decide)); replace hx114_0 := (cell_far (p := ⟨gb113, 0, none⟩) (by first | (rw [add_block]; exact hn114_0) | (show (Addr.add _ _).block ≠ _; rw [add_block]; exact hn114_0) | exact hn114_0) (.int .i64 (wrap64 (x7_1 + 1)))).trans hx114_0; replace hx114_0 := (cell_far (p := ⟨gb113, 1, none⟩) (by first | (rw [add_block]; exact hn114_1) | (show (Addr.add _ _).block ≠ _; rw [add_block]; exact hn114_1) | exact hn114_1) (.bool t112)).trans hx114_0; replace hx114_0 := (cell_far (p := ⟨gb113, 2, none⟩) (by first | (rw [add_block]; exact hn114_2) | (show (Addr.add _ _).block ≠ _; rw [add_block]; exact hn114_2) | exact hn114_2) (.string (⟨#[]⟩ : ByteArray))).trans hx114_0; (try have hy114_0 := fun (n_ : Nat) => (show (((((w9.drewN n_).setCell ⟨gb113, 0, none⟩ (.int .i64 (wrap64 (x7_1 + 1)))).setCell ⟨gb113, 1, none⟩ (.bool t112)).setCell ⟨gb113, 2, none⟩ (.string (⟨#[]⟩ : ByteArray)))).cell? _ = some _ from hx114_0)); clear hn114_0; clear hn114_1; clear hn114_2; replace p114 := eq_true p114; replace q114 := eq_true q114) | (go_at_call 13; (with_reducible refine (lex_goes.calls (rdOf ByteArray.empty t108 x7_1) t115 t116 _ A7.out).mono ?_); rintro e w11 ⟨rfl, hb⟩; have n0_ := Aside0.mk (Kd.R_below (zM HO_5.out (g := gb113) (fun _ hk => hk.2)) hb); have n1_ := Aside0.mk (Kd.R_below (zT HO_6.out BK113.out) hb); have n2_ := Aside0.mk (blk_below (g := gb113) (o := .cells #[.int .i64 (wrap64 (x7_1 + 1)), .bool t112, .string (⟨#[]⟩ : ByteArray)] 28 (0, 0)) (zP3 BK113.out) hb); have n3_ := Aside0.mk (below_step (zL HB.out) hb); revert n0_ n1_ n2_ n3_; clear HO_5 HO_6 BK113 HB; intro HO_5 HO_6 BK113 HB; (try clear hb); (try clear hb2); (try clear hk); (try clear hi)))
     repeat (go_quiet (first | (go_at_call 12; (with_reducible refine (strings_HasPrefix.calls (rdOf ByteArray.empty t108 x7_1) (⟨#[9]⟩ : ByteArray) t112 _ A6.out).mono ?_); rintro e w' ⟨rfl, ⟨nd, rfl⟩⟩; (try first | exact ⟨rfl, _, World.drewN_drewN _ _ _⟩ | exact ⟨rfl, _, Eq.trans (World.drewN_drewN _ _ _) (congrArg (World.drewN _) (Nat.add_assoc _ _ _))⟩)) | ((with_reducible refine gate_dst (N := 8) rfl ?_); (try (refine gate_guard (by rfl) ?_; dsimp only)); refine box_event ?hg (N := 8) ?hd (cs := #[.int .i64 0, .bool false, .string (⟨#[]⟩ : ByteArray)]) (t := 28) ?hr ?_; (case hd => rfl); (case hg => rfl); (case hr => first | (go_simp; done) | (go_simp; rfl)); intro gb113 hg w9 hbox hb; have n0_ := Aside0.mk (Kd.R_below (Kd.R_elderB (zR HO_5.out) gb113 (Nat.le_of_eq hg.symm)) hb); have n1_ := Aside0.mk (Kd.R_below (zR HO_6.out) hb); have n2_ := Aside0.mk (below_step (zL HB.out) hb); have n3_ := Aside0.mk (hbox); have n4_ := Aside0.mk (zG hg (zL HB.out)); have n5_ := Aside0.mk (zG hg (zL HB.out)); revert n0_ n1_ n2_ n3_ n4_ n5_; clear HO_5 HO_6 HB; intro HO_5 HO_6 HB BK113 GW113 GE113; clear hb hbox hg; obtain ⟨hcz10_0, hcz10_1, hcz10_2, hfz10_0, hfz10_1, hfz10_2⟩ := zC3 BK113.out; have p114 : 0 ≤ (x7_1 : Int) := zD; have q114 : x7_1 < (t108.length : Int) := zD; obtain ⟨ad114, e114, hx114_0⟩ := Kd.at_string (Kd.R_reads' HO_6.out).2.2 x7_1 p114 q114; obtain rfl : ad111 = ad114 := (by injection e114); have hn114_0 : ad111.block ≠ gb113 := Kd.own_blk (Kd.R_ne HO_6.out BK113.out (by decide)); have hn114_1 : ad111.block ≠ gb113 := Kd.own_blk (Kd.R_ne HO_6.out BK113.out (by decide)); have hn114_2 : ad111.block ≠ gb113 := Kd.own_blk (Kd.R_ne HO_6.out BK113.out (by decide)); replace hx114_0 := (cell_far (p := ⟨gb113, 0, none⟩) (by first | (rw [add_block]; exact hn114_0) | (show (Addr.add _ _).block ≠ _; rw [add_block]; exact hn114_0) | exact hn114_0) (.int .i64 (wrap64 (x7_1 + 1)))).trans hx114_0; replace hx114_0 := (cell_far (p := ⟨gb113, 1, none⟩) (by first | (rw [add_block]; exact hn114_1) | (show (Addr.add _ _).block ≠ _; rw [add_block]; exact hn114_1) | exact hn114_1) (.bool t112)).trans hx114_0; replace hx114_0 := (cell_far (p := ⟨gb113, 2, none⟩) (by first | (rw [add_block]; exact hn114_2) | (show (Addr.add _ _).block ≠ _; rw [add_block]; exact hn114_2) | exact hn114_2) (.string (⟨#[]⟩ : ByteArray))).trans hx114_0; (try have hy114_0 := fun (n_ : Nat) => (show (((((w9.drewN n_).setCell ⟨gb113, 0, none⟩ (.int .i64 (wrap64 (x7_1 + 1)))).setCell ⟨gb113, 1, none⟩ (.bool t112)).setCell ⟨gb113, 2, none⟩ (.string (⟨#[]⟩ : ByteArray)))).cell? _ = some _ from hx114_0)); clear hn114_0; clear hn114_1; clear hn114_2; replace p114 := eq_true p114; replace q114 := eq_true q114) | (go_at_call 13; (with_reducible refine (lex_goes.calls (rdOf ByteArray.empty t108 x7_1) t115 t116 _ A7.out).mono ?_); rintro e w11 ⟨rfl, hb⟩; have n0_ := Aside0.mk (Kd.R_below (zM HO_5.out (g := gb113) (fun _ hk => hk.2)) hb); have n1_ := Aside0.mk (Kd.R_below (zT HO_6.out BK113.out) hb); have n2_ := Aside0.mk (blk_below (g := gb113) (o := .cells #[.int .i64 (wrap64 (x7_1 + 1)), .bool t112, .string (⟨#[]⟩ : ByteArray)] 28 (0, 0)) (zP3 BK113.out) hb); have n3_ := Aside0.mk (below_step (zL HB.out) hb); revert n0_ n1_ n2_ n3_; clear HO_5 HO_6 BK113 HB; intro HO_5 HO_6 BK113 HB; (try clear hb); (try clear hb2); (try clear hk); (try clear hi))); try go_wp2_with (first | (go_at_call 12; (with_reducible refine (strings_HasPrefix.calls (rdOf ByteArray.empty t108 x7_1) (⟨#[9]⟩ : ByteArray) t112 _ A6.out).mono ?_); rintro e w' ⟨rfl, ⟨nd, rfl⟩⟩; (try first | exact ⟨rfl, _, World.drewN_drewN _ _ _⟩ | exact ⟨rfl, _, Eq.trans (World.drewN_drewN _ _ _) (congrArg (World.drewN _) (Nat.add_assoc _ _ _))⟩)) | ((with_reducible refine gate_dst (N := 8) rfl ?_); (try (refine gate_guard (by rfl) ?_; dsimp only)); refine box_event ?hg (N := 8) ?hd (cs := #[.int .i64 0, .bool false, .string (⟨#[]⟩ : ByteArray)]) (t := 28) ?hr ?_; (case hd => rfl); (case hg => rfl); (case hr => first | (go_simp; done) | (go_simp; rfl)); intro gb113 hg w9 hbox hb; have n0_ := Aside0.mk (Kd.R_below (Kd.R_elderB (zR HO_5.out) gb113 (Nat.le_of_eq hg.symm)) hb); have n1_ := Aside0.mk (Kd.R_below (zR HO_6.out) hb); have n2_ := Aside0.mk (below_step (zL HB.out) hb); have n3_ := Aside0.mk (hbox); have n4_ := Aside0.mk (zG hg (zL HB.out)); have n5_ := Aside0.mk (zG hg (zL HB.out)); revert n0_ n1_ n2_ n3_ n4_ n5_; clear HO_5 HO_6 HB; intro HO_5 HO_6 HB BK113 GW113 GE113; clear hb hbox hg; obtain ⟨hcz10_0, hcz10_1, hcz10_2, hfz10_0, hfz10_1, hfz10_2⟩ := zC3 BK113.out; have p114 : 0 ≤ (x7_1 : Int) := zD; have q114 : x7_1 < (t108.length : Int) := zD; obtain ⟨ad114, e114, hx114_0⟩ := Kd.at_string (Kd.R_reads' HO_6.out).2.2 x7_1 p114 q114; obtain rfl : ad111 = ad114 := (by injection e114); have hn114_0 : ad111.block ≠ gb113 := Kd.own_blk (Kd.R_ne HO_6.out BK113.out (by decide)); have hn114_1 : ad111.block ≠ gb113 := Kd.own_blk (Kd.R_ne HO_6.out BK113.out (by decide)); have hn114_2 : ad111.block ≠ gb113 := Kd.own_blk (Kd.R_ne HO_6.out BK113.out (by decide)); replace hx114_0 := (cell_far (p := ⟨gb113, 0, none⟩) (by first | (rw [add_block]; exact hn114_0) | (show (Addr.add _ _).block ≠ _; rw [add_block]; exact hn114_0) | exact hn114_0) (.int .i64 (wrap64 (x7_1 + 1)))).trans hx114_0; replace hx114_0 := (cell_far (p := ⟨gb113, 1, none⟩) (by first | (rw [add_block]; exact hn114_1) | (show (Addr.add _ _).block ≠ _; rw [add_block]; exact hn114_1) | exact hn114_1) (.bool t112)).trans hx114_0; replace hx114_0 := (cell_far (p := ⟨gb113, 2, none⟩) (by first | (rw [add_block]; exact hn114_2) | (show (Addr.add _ _).block ≠ _; rw [add_block]; exact hn114_2) | exact hn114_2) (.string (⟨#[]⟩ : ByteArray))).trans hx114_0; (try have hy114_0 := fun (n_ : Nat) => (show (((((w9.drewN n_).setCell ⟨gb113, 0, none⟩ (.int .i64 (wrap64 (x7_1 + 1)))).setCell ⟨gb113, 1, none⟩ (.bool t112)).setCell ⟨gb113, 2, none⟩ (.string (⟨#[]⟩ : ByteArray)))).cell? _ = some _ from hx114_0)); clear hn114_0; clear hn114_1; clear hn114_2; replace p114 := eq_true p114; replace q114 := eq_true q114) | (go_at_call 13; (with_reducible refine (lex_goes.calls (rdOf ByteArray.empty t108 x7_1) t115 t116 _ A7.out).mono ?_); rintro e w11 ⟨rfl, hb⟩; have n0_ := Aside0.mk (Kd.R_below (zM HO_5.out (g := gb113) (fun _ hk => hk.2)) hb); have n1_ := Aside0.mk (Kd.R_below (zT HO_6.out BK113.out) hb); have n2_ := Aside0.mk (blk_below (g := gb113) (o := .cells #[.int .i64 (wrap64 (x7_1 + 1)), .bool t112, .string (⟨#[]⟩ : ByteArray)] 28 (0, 0)) (zP3 BK113.out) hb); have n3_ := Aside0.mk (below_step (zL HB.out) hb); revert n0_ n1_ n2_ n3_; clear HO_5 HO_6 BK113 HB; intro HO_5 HO_6 BK113 HB; (try clear hb); (try clear hb2); (try clear hk); (try clear hi))))
     go_loopg [7, 9, 10] k1 (fun kq v7 v9 v10 w' => ∃ (x7_2 : Int) (x9_2 : ByteArray) (x10_2 : Bool), v7 = .int .i64 x7_2 ∧ v9 = .string x9_2 ∧ v10 = .bool x10_2 ∧ Aside0 (lex_Lex.l1 kq x5_1 t108 x7_2 x9_2 x10_2 (wrap64 (x7_1 + 1)) t112 (⟨#[]⟩ : ByteArray) = some (r1, r2, r3)) ∧ Aside0 (kq ≤ k1) ∧ Aside0 (Kd.R k28 28 w' w.heap.size (fun k_ => k_ ≠ gb113) u5 x5_1) ∧ Aside0 (Kd.R Kd.string 9 w' w.heap.size (fun _ => True) (.slice (some ad111) t108.length co8) t108) ∧ Aside0 (w'.heap[gb113]? = some (.cells #[.int .i64 (wrap64 (x7_1 + 1)), .bool t112, .string (⟨#[]⟩ : ByteArray)] 28 (0, 0))) ∧ Aside0 (Below w.heap.size w w'))
     case atStart => exact ⟨(x7_1), (t115), (t116), zS, zS, zS, H', ⟨Nat.le_refl _⟩, ⟨by (with_reducible repeat (first | apply Kd.R_alloc | apply Kd.R_drewN | apply Kd.R_drew)); exact Kd.R_mono HO_5.out (fun _ hk => hk.2)⟩, ⟨by (with_reducible repeat (first | apply Kd.R_alloc | apply Kd.R_drewN | apply Kd.R_drew)); exact HO_6.out⟩, ⟨zK BK113.out⟩, ⟨zL HB.out⟩⟩
     case round =>
      clear H'
      try clear p1
      try clear q1
      try clear hx1
      try clear p2
      try clear c4
      try clear c4b0
      try clear c5
      try clear c5b0
      try clear p6
      try clear c9
      try clear p11
      try clear q11
      try clear hx11
      try clear hcz10_0
      try clear hcz10_1
      try clear hcz10_2
      try clear hfz10_0
      try clear hfz10_1
      try clear hfz10_2
      try clear hx111_0
      try clear hx114_0
      try clear p111
      try clear p114
      try clear p2
      try clear q111
      try clear q114
      obtain ⟨x7_2, x9_2, x10_2, rfl, rfl, rfl, HA, HK2, HO_5, HO_6, BK113, HB⟩ := hrel
      cases gk with
      | zero => exact absurd HA.out (by simp [lex_Lex.l1])
      | succ k2 =>
       have H := HA.out
       clear HA
       simp only [lex_Lex.l1] at H
       have HC12 := Aside0.mk H
       clear H
       go_upto_region 8 with (fail)
       repeat (go_quiet (fail); go_upto_region 8 with (fail))
       go_cut [43] (fun v43 wc => ∃ (kq : Nat) (x43_11 : Bool), v43 = .bool x43_11 ∧ Aside0 (lex_Lex.j2 kq x5_1 t108 x7_2 x9_2 x43_11 (wrap64 (x7_1 + 1)) t112 (⟨#[]⟩ : ByteArray) = some (r1, r2, r3)) ∧ Aside0 (kq ≤ k2) ∧ Aside0 (Kd.R k28 28 wc w.heap.size (fun k_ => k_ ≠ gb113) u5 x5_1) ∧ Aside0 (Kd.R Kd.string 9 wc w.heap.size (fun _ => True) (.slice (some ad111) t108.length co8) t108) ∧ Aside0 (wc.heap[gb113]? = some (.cells #[.int .i64 (wrap64 (x7_1 + 1)), .bool t112, .string (⟨#[]⟩ : ByteArray)] 28 (0, 0))) ∧ Aside0 (Below w.heap.size w wc))
       case first =>
        have H := HC12.out
        clear HC12
        by_cases c13 : x10_2 = true
        ·subst c13
         have H1 : (lex_Lex.j2 k2 x5_1 t108 x7_2 x9_2 (decide ((wrap64 (x7_2 + 1)) < (t108.length : Int))) (wrap64 (x7_1 + 1)) t112 (⟨#[]⟩ : ByteArray)) = some (r1, r2, r3) := by rw [if_pos rfl] at H; exact H
         clear H
         have H := H1
         clear H1
         have H' := Aside0.mk H
         clear H
         go_wp2
         repeat (go_quiet (fail); try go_wp2)
         go_meet
         case rel => exact ⟨_, (decide ((wrap64 (x7_2 + 1)) < (t108.length : Int))), zS, H', ⟨by have := HK1.out; have := HK2.out; first | omega | exact Nat.le_refl _⟩, ⟨by (with_reducible repeat (first | apply Kd.R_alloc | apply Kd.R_drewN | apply Kd.R_drew)); exact HO_5.out⟩, ⟨by (with_reducible repeat (first | apply Kd.R_alloc | apply Kd.R_drewN | apply Kd.R_drew)); exact HO_6.out⟩, ⟨zK BK113.out⟩, ⟨zL HB.out⟩⟩
        ·replace c13 := Bool.eq_false_iff.mpr c13
         subst c13
         have H1 : (lex_Lex.j2 k2 x5_1 t108 x7_2 x9_2 false (wrap64 (x7_1 + 1)) t112 (⟨#[]⟩ : ByteArray)) = some (r1, r2, r3) := by rw [if_neg (show ¬ (false = true) by decide)] at H; exact H
         clear H
         have H := H1
         clear H1
         have H' := Aside0.mk H
         clear H
         go_wp2
         repeat (go_quiet (fail); try go_wp2)
         go_meet
         case rel => exact ⟨_, (false), zS, H', ⟨by have := HK1.out; have := HK2.out; first | omega | exact Nat.le_refl _⟩, ⟨by (with_reducible repeat (first | apply Kd.R_alloc | apply Kd.R_drewN | apply Kd.R_drew)); exact HO_5.out⟩, ⟨by (with_reducible repeat (first | apply Kd.R_alloc | apply Kd.R_drewN | apply Kd.R_drew)); exact HO_6.out⟩, ⟨zK BK113.out⟩, ⟨zL HB.out⟩⟩
       case rest =>
        clear HC12
        try clear c1
        try clear p1
        try clear q1
        try clear hx1
        try clear p2
        try clear c4
        try clear c4b0
        try clear c5
        try clear c5b0
        try clear p6
        try clear c9
        try clear p11
        try clear q11
        try clear hx11
        try clear c13
        try clear hcz10_0
        try clear hcz10_1
        try clear hcz10_2
        try clear hfz10_0
        try clear hfz10_1
        try clear hfz10_2
        try clear hx111_0
        try clear hx114_0
        try clear p1
        try clear p11
        try clear p111
        try clear p114
        try clear p2
        try clear p6
        try clear q1
        try clear q11
        try clear q111
        try clear q114
        obtain ⟨kq, x43_11, rfl, HA, HJ11, HO_5, HO_6, BK113, HB⟩ := hcut
        cases kq with
        | zero => exact absurd HA.out (by simp [lex_Lex.j2])
        | succ kj11 =>
         have H := HA.out
         clear HA
         simp only [lex_Lex.j2] at H
         by_cases c14 : x43_11 = true
         ·subst c14
          have H1 : (if 0 ≤ (wrap64 (x7_2 + 1)) then (if (wrap64 (x7_2 + 1)) < (t108.length : Int) then ((strings_TrimLeft.f (rdOf ByteArray.empty t108 (wrap64 (x7_2 + 1))) (⟨#[32, 9]⟩ : ByteArray)).bind fun t118 => ((lex_goes.f t118).bind fun bt119 => ((strings_TrimRight.f x9_2 (⟨#[32, 9]⟩ : ByteArray)).bind fun t121 => (if t121.size + 1 ≤ 9223372036854775807 then (if (t121 ++ (⟨#[32]⟩ : ByteArray)).size + bt119.1.size ≤ 9223372036854775807 then (lex_Lex.l1 kj11 x5_1 t108 (wrap64 (x7_2 + 1)) ((t121 ++ (⟨#[32]⟩ : ByteArray)) ++ bt119.1) bt119.2 (wrap64 (x7_1 + 1)) t112 (⟨#[]⟩ : ByteArray)) else (none)) else (none))))) else (none)) else (none)) = some (r1, r2, r3) := by rw [if_pos rfl] at H; exact H
          clear H
          have H := H1
          clear H1
          obtain ⟨ji15, hji15⟩ : ∃ j_ : Int, (wrap64 (x7_2 + 1)) = j_ := ⟨_, rfl⟩
          replace H : (if 0 ≤ (ji15) then (if (ji15) < (t108.length : Int) then ((strings_TrimLeft.f (rdOf ByteArray.empty t108 (ji15)) (⟨#[32, 9]⟩ : ByteArray)).bind fun t118 => ((lex_goes.f t118).bind fun bt119 => ((strings_TrimRight.f x9_2 (⟨#[32, 9]⟩ : ByteArray)).bind fun t121 => (if t121.size + 1 ≤ 9223372036854775807 then (if (t121 ++ (⟨#[32]⟩ : ByteArray)).size + bt119.1.size ≤ 9223372036854775807 then (lex_Lex.l1 kj11 x5_1 t108 ji15 ((t121 ++ (⟨#[32]⟩ : ByteArray)) ++ bt119.1) bt119.2 (wrap64 (x7_1 + 1)) t112 (⟨#[]⟩ : ByteArray)) else (none)) else (none))))) else (none)) else (none)) = some (r1, r2, r3) := by first | (rw [hji15] at H; exact H) | (simp only [hji15] at H ⊢; exact H)
          have hji15w : (IntKind.i64.wrap (x7_2 + 1)) = ji15 := (i64_w _).trans hji15
          by_cases c16 : 0 ≤ (ji15)
          ·rw [if_pos c16] at H
           have c16b0 : decide (0 ≤ (ji15)) = true := decide_eq_true c16
           clear c16
           by_cases c17 : (ji15) < (t108.length : Int)
           ·rw [if_pos c17] at H
            have c17b0 : decide ((ji15) < (t108.length : Int)) = true := decide_eq_true c17
            clear c17
            replace H := Option.bind_eq_some_iff.mp H
            obtain ⟨t118, A180, H⟩ := H
            replace H : ((lex_goes.f t118).bind fun bt119 => ((strings_TrimRight.f x9_2 (⟨#[32, 9]⟩ : ByteArray)).bind fun t121 => (if t121.size + 1 ≤ 9223372036854775807 then (if (t121 ++ (⟨#[32]⟩ : ByteArray)).size + bt119.1.size ≤ 9223372036854775807 then (lex_Lex.l1 kj11 x5_1 t108 ji15 ((t121 ++ (⟨#[32]⟩ : ByteArray)) ++ bt119.1) bt119.2 (wrap64 (x7_1 + 1)) t112 (⟨#[]⟩ : ByteArray)) else (none)) else (none)))) = some (r1, r2, r3) := H
            have A18 := Aside0.mk A180
            clear A180
            replace H := Option.bind_eq_some_iff.mp H
            obtain ⟨⟨t119, t120⟩, A190, H⟩ := H
            replace H : ((strings_TrimRight.f x9_2 (⟨#[32, 9]⟩ : ByteArray)).bind fun t121 => (if t121.size + 1 ≤ 9223372036854775807 then (if (t121 ++ (⟨#[32]⟩ : ByteArray)).size + t119.size ≤ 9223372036854775807 then (lex_Lex.l1 kj11 x5_1 t108 ji15 ((t121 ++ (⟨#[32]⟩ : ByteArray)) ++ t119) t120 (wrap64 (x7_1 + 1)) t112 (⟨#[]⟩ : ByteArray)) else (none)) else (none))) = some (r1, r2, r3) := H
            have A19 := Aside0.mk A190
            clear A190
            replace H := Option.bind_eq_some_iff.mp H
            obtain ⟨t121, A200, H⟩ := H
            replace H : (if t121.size + 1 ≤ 9223372036854775807 then (if (t121 ++ (⟨#[32]⟩ : ByteArray)).size + t119.size ≤ 9223372036854775807 then (lex_Lex.l1 kj11 x5_1 t108 ji15 ((t121 ++ (⟨#[32]⟩ : ByteArray)) ++ t119) t120 (wrap64 (x7_1 + 1)) t112 (⟨#[]⟩ : ByteArray)) else (none)) else (none)) = some (r1, r2, r3) := H
            have A20 := Aside0.mk A200
            clear A200
            by_cases c21 : t121.size + 1 ≤ 9223372036854775807
            ·rw [if_pos c21] at H
             have c21b0 := eq_true c21
             have c21b1 : decide (t121.size + 1 ≤ 9223372036854775807) = true := decide_eq_true c21
             try have c21b2 : (9223372036854775807 < t121.size + 1) = False := eq_false (Nat.not_lt.2 c21)
             by_cases c22 : (t121 ++ (⟨#[32]⟩ : ByteArray)).size + t119.size ≤ 9223372036854775807
             ·rw [if_pos c22] at H
              have c22b0 := eq_true c22
              try (have c22b0s := c22b0; simp only [ByteArray.size_append, Int.natCast_add, Int.toNat_natCast] at c22b0s)
              try (have c22b0l := c22b0; simp only [ByteArray.size_append, Pl.lit_size, List.size_toArray, List.length_cons, List.length_nil, Nat.reduceAdd, Int.natCast_add, Int.toNat_natCast] at c22b0l)
              have c22b1 : decide ((t121 ++ (⟨#[32]⟩ : ByteArray)).size + t119.size ≤ 9223372036854775807) = true := decide_eq_true c22
              try (have c22b1s := c22b1; simp only [ByteArray.size_append, Int.natCast_add, Int.toNat_natCast] at c22b1s)
              try (have c22b1l := c22b1; simp only [ByteArray.size_append, Pl.lit_size, List.size_toArray, List.length_cons, List.length_nil, Nat.reduceAdd, Int.natCast_add, Int.toNat_natCast] at c22b1l)
              try have c22b2 : (9223372036854775807 < (t121 ++ (⟨#[32]⟩ : ByteArray)).size + t119.size) = False := eq_false (Nat.not_lt.2 c22)
              try (have c22b2s := c22b2; simp only [ByteArray.size_append, Int.natCast_add, Int.toNat_natCast] at c22b2s)
              try (have c22b2l := c22b2; simp only [ByteArray.size_append, Pl.lit_size, List.size_toArray, List.length_cons, List.length_nil, Nat.reduceAdd, Int.natCast_add, Int.toNat_natCast] at c22b2l)
              have H' := Aside0.mk H
              clear H
              have p117 : 0 ≤ ((ji15) : Int) := zD
              have q117 : (ji15) < (t108.length : Int) := zD
              obtain ⟨ad117, e117, hx117_0⟩ := Kd.at_string (Kd.R_reads' HO_6.out).2.2 (ji15) p117 q117
              obtain rfl : ad111 = ad117 := (by injection e117)
              replace p117 := eq_true p117
              replace q117 := eq_true q117
              go_wp2_with (first | (go_at_call 14; (with_reducible refine (strings_TrimLeft.calls (rdOf ByteArray.empty t108 (ji15)) (⟨#[32, 9]⟩ : ByteArray) t118 _ A18.out).mono ?_); rintro e w23 ⟨rfl, hb⟩; have n0_ := Aside0.mk (Kd.R_below (zR HO_5.out) hb); have n1_ := Aside0.mk (Kd.R_below (zR HO_6.out) hb); have n2_ := Aside0.mk (blk_below (g := gb113) (o := .cells #[.int .i64 (wrap64 (x7_1 + 1)), .bool t112, .string (⟨#[]⟩ : ByteArray)] 28 (0, 0)) (zK BK113.out) hb); have n3_ := Aside0.mk (below_step (zL HB.out) hb); revert n0_ n1_ n2_ n3_; clear HO_5 HO_6 BK113 HB; intro HO_5 HO_6 BK113 HB; (try clear hb); (try clear hb2); (try clear hk); (try clear hi)) | (go_at_call 13; (with_reducible refine (lex_goes.calls t118 t119 t120 _ A19.out).mono ?_); rintro e w24 ⟨rfl, hb⟩; have n0_ := Aside0.mk (Kd.R_below (zR HO_5.out) hb); have n1_ := Aside0.mk (Kd.R_below (zR HO_6.out) hb); have n2_ := Aside0.mk (blk_below (g := gb113) (o := .cells #[.int .i64 (wrap64 (x7_1 + 1)), .bool t112, .string (⟨#[]⟩ : ByteArray)] 28 (0, 0)) (zK BK113.out) hb); have n3_ := Aside0.mk (below_step (zL HB.out) hb); revert n0_ n1_ n2_ n3_; clear HO_5 HO_6 BK113 HB; intro HO_5 HO_6 BK113 HB; (try clear hb); (try clear hb2); (try clear hk); (try clear hi)) | (go_at_call 15; (with_reducible refine (strings_TrimRight.calls x9_2 (⟨#[32, 9]⟩ : ByteArray) t121 _ A20.out).mono ?_); rintro e w25 ⟨rfl, hb⟩; have n0_ := Aside0.mk (Kd.R_below (zR HO_5.out) hb); have n1_ := Aside0.mk (Kd.R_below (zR HO_6.out) hb); have n2_ := Aside0.mk (blk_below (g := gb113) (o := .cells #[.int .i64 (wrap64 (x7_1 + 1)), .bool t112, .string (⟨#[]⟩ : ByteArray)] 28 (0, 0)) (zK BK113.out) hb); have n3_ := Aside0.mk (below_step (zL HB.out) hb); revert n0_ n1_ n2_ n3_; clear HO_5 HO_6 BK113 HB; intro HO_5 HO_6 BK113 HB; (try clear hb); (try clear hb2); (try clear hk); (try clear hi)))
              repeat (go_quiet (first | (go_at_call 14; (with_reducible refine (strings_TrimLeft.calls (rdOf ByteArray.empty t108 (ji15)) (⟨#[32, 9]⟩ : ByteArray) t118 _ A18.out).mono ?_); rintro e w23 ⟨rfl, hb⟩; have n0_ := Aside0.mk (Kd.R_below (zR HO_5.out) hb); have n1_ := Aside0.mk (Kd.R_below (zR HO_6.out) hb); have n2_ := Aside0.mk (blk_below (g := gb113) (o := .cells #[.int .i64 (wrap64 (x7_1 + 1)), .bool t112, .string (⟨#[]⟩ : ByteArray)] 28 (0, 0)) (zK BK113.out) hb); have n3_ := Aside0.mk (below_step (zL HB.out) hb); revert n0_ n1_ n2_ n3_; clear HO_5 HO_6 BK113 HB; intro HO_5 HO_6 BK113 HB; (try clear hb); (try clear hb2); (try clear hk); (try clear hi)) | (go_at_call 13; (with_reducible refine (lex_goes.calls t118 t119 t120 _ A19.out).mono ?_); rintro e w24 ⟨rfl, hb⟩; have n0_ := Aside0.mk (Kd.R_below (zR HO_5.out) hb); have n1_ := Aside0.mk (Kd.R_below (zR HO_6.out) hb); have n2_ := Aside0.mk (blk_below (g := gb113) (o := .cells #[.int .i64 (wrap64 (x7_1 + 1)), .bool t112, .string (⟨#[]⟩ : ByteArray)] 28 (0, 0)) (zK BK113.out) hb); have n3_ := Aside0.mk (below_step (zL HB.out) hb); revert n0_ n1_ n2_ n3_; clear HO_5 HO_6 BK113 HB; intro HO_5 HO_6 BK113 HB; (try clear hb); (try clear hb2); (try clear hk); (try clear hi)) | (go_at_call 15; (with_reducible refine (strings_TrimRight.calls x9_2 (⟨#[32, 9]⟩ : ByteArray) t121 _ A20.out).mono ?_); rintro e w25 ⟨rfl, hb⟩; have n0_ := Aside0.mk (Kd.R_below (zR HO_5.out) hb); have n1_ := Aside0.mk (Kd.R_below (zR HO_6.out) hb); have n2_ := Aside0.mk (blk_below (g := gb113) (o := .cells #[.int .i64 (wrap64 (x7_1 + 1)), .bool t112, .string (⟨#[]⟩ : ByteArray)] 28 (0, 0)) (zK BK113.out) hb); have n3_ := Aside0.mk (below_step (zL HB.out) hb); revert n0_ n1_ n2_ n3_; clear HO_5 HO_6 BK113 HB; intro HO_5 HO_6 BK113 HB; (try clear hb); (try clear hb2); (try clear hk); (try clear hi))); try go_wp2_with (first | (go_at_call 14; (with_reducible refine (strings_TrimLeft.calls (rdOf ByteArray.empty t108 (ji15)) (⟨#[32, 9]⟩ : ByteArray) t118 _ A18.out).mono ?_); rintro e w23 ⟨rfl, hb⟩; have n0_ := Aside0.mk (Kd.R_below (zR HO_5.out) hb); have n1_ := Aside0.mk (Kd.R_below (zR HO_6.out) hb); have n2_ := Aside0.mk (blk_below (g := gb113) (o := .cells #[.int .i64 (wrap64 (x7_1 + 1)), .bool t112, .string (⟨#[]⟩ : ByteArray)] 28 (0, 0)) (zK BK113.out) hb); have n3_ := Aside0.mk (below_step (zL HB.out) hb); revert n0_ n1_ n2_ n3_; clear HO_5 HO_6 BK113 HB; intro HO_5 HO_6 BK113 HB; (try clear hb); (try clear hb2); (try clear hk); (try clear hi)) | (go_at_call 13; (with_reducible refine (lex_goes.calls t118 t119 t120 _ A19.out).mono ?_); rintro e w24 ⟨rfl, hb⟩; have n0_ := Aside0.mk (Kd.R_below (zR HO_5.out) hb); have n1_ := Aside0.mk (Kd.R_below (zR HO_6.out) hb); have n2_ := Aside0.mk (blk_below (g := gb113) (o := .cells #[.int .i64 (wrap64 (x7_1 + 1)), .bool t112, .string (⟨#[]⟩ : ByteArray)] 28 (0, 0)) (zK BK113.out) hb); have n3_ := Aside0.mk (below_step (zL HB.out) hb); revert n0_ n1_ n2_ n3_; clear HO_5 HO_6 BK113 HB; intro HO_5 HO_6 BK113 HB; (try clear hb); (try clear hb2); (try clear hk); (try clear hi)) | (go_at_call 15; (with_reducible refine (strings_TrimRight.calls x9_2 (⟨#[32, 9]⟩ : ByteArray) t121 _ A20.out).mono ?_); rintro e w25 ⟨rfl, hb⟩; have n0_ := Aside0.mk (Kd.R_below (zR HO_5.out) hb); have n1_ := Aside0.mk (Kd.R_below (zR HO_6.out) hb); have n2_ := Aside0.mk (blk_below (g := gb113) (o := .cells #[.int .i64 (wrap64 (x7_1 + 1)), .bool t112, .string (⟨#[]⟩ : ByteArray)] 28 (0, 0)) (zK BK113.out) hb); have n3_ := Aside0.mk (below_step (zL HB.out) hb); revert n0_ n1_ n2_ n3_; clear HO_5 HO_6 BK113 HB; intro HO_5 HO_6 BK113 HB; (try clear hb); (try clear hb2); (try clear hk); (try clear hi))))
              go_roundg kj11
              case measure => have := HK1.out; have := HK2.out; have := HJ11.out; omega
              case rel => exact ⟨(ji15), ((t121 ++ (⟨#[32]⟩ : ByteArray)) ++ t119), (t120), (by first | rfl | (simp; done) | (simp only [← hji15] <;> (first | rfl | simp)) | (simp [*]; done)), zS, zS, H', ⟨by have := HK1.out; have := HK2.out; have := HJ11.out; omega⟩, ⟨by (with_reducible repeat (first | apply Kd.R_alloc | apply Kd.R_drewN | apply Kd.R_drew)); exact HO_5.out⟩, ⟨by (with_reducible repeat (first | apply Kd.R_alloc | apply Kd.R_drewN | apply Kd.R_drew)); exact HO_6.out⟩, ⟨zK BK113.out⟩, ⟨zL HB.out⟩⟩
             ·rw [if_neg c22] at H
              exact absurd H (by simp)
            ·rw [if_neg c21] at H
             exact absurd H (by simp)
           ·rw [if_neg c17] at H
            exact absurd H (by simp)
          ·rw [if_neg c16] at H
           exact absurd H (by simp)
         ·replace c14 := Bool.eq_false_iff.mpr c14
          subst c14
          have H1 : (if t112 = true then (lex_Lex.j3 kj11 x5_1 t108 x7_2 x9_2 (wrap64 (x7_1 + 1)) t112 (⟨#[]⟩ : ByteArray)) else ((strings_Cut.f x9_2 (⟨#[35]⟩ : ByteArray)).bind fun bt122 => (lex_Lex.j3 kj11 x5_1 t108 x7_2 bt122.1 (wrap64 (x7_1 + 1)) t112 (⟨#[]⟩ : ByteArray)))) = some (r1, r2, r3) := by rw [if_neg (show ¬ (false = true) by decide)] at H; exact H
          clear H
          have H := H1
          clear H1
          have HC26 := Aside0.mk H
          clear H
          obtain ⟨hcz27_0, hcz27_1, hcz27_2, hfz27_0, hfz27_1, hfz27_2⟩ := zC3 BK113.out
          go_upto_if 62 with (fail)
          repeat (go_quiet (fail); go_upto_if 62 with (fail))
          go_cut [9] (fun v9 wc => ∃ (kq : Nat) (x9_25 : ByteArray), v9 = .string x9_25 ∧ Aside0 (lex_Lex.j3 kq x5_1 t108 x7_2 x9_25 (wrap64 (x7_1 + 1)) t112 (⟨#[]⟩ : ByteArray) = some (r1, r2, r3)) ∧ Aside0 (kq ≤ kj11) ∧ Aside0 (Kd.R k28 28 wc w.heap.size (fun k_ => k_ ≠ gb113) u5 x5_1) ∧ Aside0 (Kd.R Kd.string 9 wc w.heap.size (fun _ => True) (.slice (some ad111) t108.length co8) t108) ∧ Aside0 (wc.heap[gb113]? = some (.cells #[.int .i64 (wrap64 (x7_1 + 1)), .bool t112, .string (⟨#[]⟩ : ByteArray)] 28 (0, 0))) ∧ Aside0 (Below w.heap.size w wc))
          case first =>
           have H := HC26.out
           clear HC26
           by_cases c28 : t112 = true
           ·subst c28
            have H1 : (lex_Lex.j3 kj11 x5_1 t108 x7_2 x9_2 (wrap64 (x7_1 + 1)) true (⟨#[]⟩ : ByteArray)) = some (r1, r2, r3) := by rw [if_pos rfl] at H; exact H
            clear H
            have H := H1
            clear H1
            have H' := Aside0.mk H
            clear H
            go_wp2
            repeat (go_quiet (fail); try go_wp2)
            go_meet
            case rel => exact ⟨_, (x9_2), zS, H', ⟨by have := HK1.out; have := HK2.out; have := HJ11.out; first | omega | exact Nat.le_refl _⟩, ⟨by (with_reducible repeat (first | apply Kd.R_alloc | apply Kd.R_drewN | apply Kd.R_drew)); exact HO_5.out⟩, ⟨by (with_reducible repeat (first | apply Kd.R_alloc | apply Kd.R_drewN | apply Kd.R_drew)); exact HO_6.out⟩, ⟨zK BK113.out⟩, ⟨zL HB.out⟩⟩
           ·replace c28 := Bool.eq_false_iff.mpr c28
            subst c28
            have H1 : ((strings_Cut.f x9_2 (⟨#[35]⟩ : ByteArray)).bind fun bt122 => (lex_Lex.j3 kj11 x5_1 t108 x7_2 bt122.1 (wrap64 (x7_1 + 1)) false (⟨#[]⟩ : ByteArray))) = some (r1, r2, r3) := by rw [if_neg (show ¬ (false = true) by decide)] at H; exact H
            clear H
            have H := H1
            clear H1
            replace H := Option.bind_eq_some_iff.mp H
            obtain ⟨⟨t122, t123, t124⟩, A290, H⟩ := H
            replace H : (lex_Lex.j3 kj11 x5_1 t108 x7_2 t122 (wrap64 (x7_1 + 1)) false (⟨#[]⟩ : ByteArray)) = some (r1, r2, r3) := H
            have A29 := Aside0.mk A290
            clear A290
            have H' := Aside0.mk H
            clear H
            go_wp2_with (first | (go_at_call 16; (with_reducible refine (strings_Cut.calls x9_2 (⟨#[35]⟩ : ByteArray) t122 t123 t124 _ A29.out).mono ?_); rintro e w' ⟨rfl, ⟨nd, rfl⟩⟩; (try first | exact ⟨rfl, _, World.drewN_drewN _ _ _⟩ | exact ⟨rfl, _, Eq.trans (World.drewN_drewN _ _ _) (congrArg (World.drewN _) (Nat.add_assoc _ _ _))⟩)))
            repeat (go_quiet (first | (go_at_call 16; (with_reducible refine (strings_Cut.calls x9_2 (⟨#[35]⟩ : ByteArray) t122 t123 t124 _ A29.out).mono ?_); rintro e w' ⟨rfl, ⟨nd, rfl⟩⟩; (try first | exact ⟨rfl, _, World.drewN_drewN _ _ _⟩ | exact ⟨rfl, _, Eq.trans (World.drewN_drewN _ _ _) (congrArg (World.drewN _) (Nat.add_assoc _ _ _))⟩))); try go_wp2_with (first | (go_at_call 16; (with_reducible refine (strings_Cut.calls x9_2 (⟨#[35]⟩ : ByteArray) t122 t123 t124 _ A29.out).mono ?_); rintro e w' ⟨rfl, ⟨nd, rfl⟩⟩; (try first | exact ⟨rfl, _, World.drewN_drewN _ _ _⟩ | exact ⟨rfl, _, Eq.trans (World.drewN_drewN _ _ _) (congrArg (World.drewN _) (Nat.add_assoc _ _ _))⟩))))
            go_meet
            case rel => exact ⟨_, (t122), zS, H', ⟨by have := HK1.out; have := HK2.out; have := HJ11.out; first | omega | exact Nat.le_refl _⟩, ⟨by (with_reducible repeat (first | apply Kd.R_alloc | apply Kd.R_drewN | apply Kd.R_drew)); exact HO_5.out⟩, ⟨by (with_reducible repeat (first | apply Kd.R_alloc | apply Kd.R_drewN | apply Kd.R_drew)); exact HO_6.out⟩, ⟨zK BK113.out⟩, ⟨zL HB.out⟩⟩
          case rest =>
           clear HC26
           try clear c1
           try clear p1
           try clear q1
           try clear hx1
           try clear c2
           try clear p2
           try clear c4
           try clear c4b0
           try clear c5
           try clear c5b0
           try clear p6
           try clear c9
           try clear p11
           try clear q11
           try clear hx11
           try clear c13
           try clear c14
           try clear c16
           try clear c16b0
           try clear c17
           try clear c17b0
           try clear c21
           try clear c21b0
           try clear c21b1
           try clear c21b2
           try clear c22
           try clear c22b0
           try clear c22b1
           try clear c22b2
           try clear c28
           try clear hcz10_0
           try clear hcz10_1
           try clear hcz10_2
           try clear hcz27_0
           try clear hcz27_1
           try clear hcz27_2
           try clear hfz10_0
           try clear hfz10_1
           try clear hfz10_2
           try clear hfz27_0
           try clear hfz27_1
           try clear hfz27_2
           try clear hx111_0
           try clear hx114_0
           try clear hx117_0
           try clear p1
           try clear p11
           try clear p111
           try clear p114
           try clear p117
           try clear p2
           try clear p6
           try clear q1
           try clear q11
           try clear q111
           try clear q114
           try clear q117
           obtain ⟨kq, x9_25, rfl, HA, HJ25, HO_5, HO_6, BK113, HB⟩ := hcut
           cases kq with
           | zero => exact absurd HA.out (by simp [lex_Lex.j3])
           | succ kj25 =>
            have H := HA.out
            clear HA
            simp only [lex_Lex.j3] at H
            replace H := Option.bind_eq_some_iff.mp H
            obtain ⟨t125, A300, H⟩ := H
            replace H : (if t125.toList = ([] : List UInt8) then (lex_Lex.l0 kj25 x5_1 t108 (wrap64 (x7_2 + 1))) else (if (t125.size : Int) > 1000 then (some (([] : List (S28)), 3, (wrap64 (x7_1 + 1)))) else (if (x5_1.length : Int) ≥ 300 then (some (([] : List (S28)), 3, (wrap64 (x7_1 + 1)))) else (if x5_1.length < 4398046511104 then (lex_Lex.l0 kj25 (x5_1 ++ [(⟨(wrap64 (x7_1 + 1)), t112, t125⟩ : S28)]) t108 (wrap64 (x7_2 + 1))) else (none))))) = some (r1, r2, r3) := H
            have A30 := Aside0.mk A300
            clear A300
            by_cases c31 : t125.toList = ([] : List UInt8)
            ·rw [if_pos c31] at H
             have c31b0 : (t125.toList == ([] : List UInt8)) = true := beq_iff_eq.mpr c31
             have c31b1 : (t125.toList != ([] : List UInt8)) = false := bne_eq_false_iff_eq.mpr c31
             clear c31
             have H' := Aside0.mk H
             clear H
             go_wp2_with (first | (go_at_call 17; (with_reducible refine (text_Trim.calls x9_25 t125 _ A30.out).mono ?_); rintro e w32 ⟨rfl, hb⟩; have n0_ := Aside0.mk (Kd.R_below (zR HO_5.out) hb); have n1_ := Aside0.mk (Kd.R_below (zR HO_6.out) hb); have n2_ := Aside0.mk (blk_below (g := gb113) (o := .cells #[.int .i64 (wrap64 (x7_1 + 1)), .bool t112, .string (⟨#[]⟩ : ByteArray)] 28 (0, 0)) (zK BK113.out) hb); have n3_ := Aside0.mk (below_step (zL HB.out) hb); revert n0_ n1_ n2_ n3_; clear HO_5 HO_6 BK113 HB; intro HO_5 HO_6 BK113 HB; (try clear hb); (try clear hb2); (try clear hk); (try clear hi); obtain ⟨hcz33_0, hcz33_1, hcz33_2, hfz33_0, hfz33_1, hfz33_2⟩ := zC3 BK113.out))
             repeat (go_quiet (first | (go_at_call 17; (with_reducible refine (text_Trim.calls x9_25 t125 _ A30.out).mono ?_); rintro e w32 ⟨rfl, hb⟩; have n0_ := Aside0.mk (Kd.R_below (zR HO_5.out) hb); have n1_ := Aside0.mk (Kd.R_below (zR HO_6.out) hb); have n2_ := Aside0.mk (blk_below (g := gb113) (o := .cells #[.int .i64 (wrap64 (x7_1 + 1)), .bool t112, .string (⟨#[]⟩ : ByteArray)] 28 (0, 0)) (zK BK113.out) hb); have n3_ := Aside0.mk (below_step (zL HB.out) hb); revert n0_ n1_ n2_ n3_; clear HO_5 HO_6 BK113 HB; intro HO_5 HO_6 BK113 HB; (try clear hb); (try clear hb2); (try clear hk); (try clear hi); obtain ⟨hcz33_0, hcz33_1, hcz33_2, hfz33_0, hfz33_1, hfz33_2⟩ := zC3 BK113.out)); try go_wp2_with (first | (go_at_call 17; (with_reducible refine (text_Trim.calls x9_25 t125 _ A30.out).mono ?_); rintro e w32 ⟨rfl, hb⟩; have n0_ := Aside0.mk (Kd.R_below (zR HO_5.out) hb); have n1_ := Aside0.mk (Kd.R_below (zR HO_6.out) hb); have n2_ := Aside0.mk (blk_below (g := gb113) (o := .cells #[.int .i64 (wrap64 (x7_1 + 1)), .bool t112, .string (⟨#[]⟩ : ByteArray)] 28 (0, 0)) (zK BK113.out) hb); have n3_ := Aside0.mk (below_step (zL HB.out) hb); revert n0_ n1_ n2_ n3_; clear HO_5 HO_6 BK113 HB; intro HO_5 HO_6 BK113 HB; (try clear hb); (try clear hb2); (try clear hk); (try clear hi); obtain ⟨hcz33_0, hcz33_1, hcz33_2, hfz33_0, hfz33_1, hfz33_2⟩ := zC3 BK113.out)))
             go_roundg kj25
             case measure => have := HK1.out; have := HK2.out; have := HJ11.out; have := HJ25.out; omega
             case rel => exact ⟨(x5_1), (wrap64 (x7_2 + 1)), zS, H', ⟨by have := HK1.out; have := HK2.out; have := HJ11.out; have := HJ25.out; omega⟩, ⟨by (with_reducible repeat (first | apply Kd.R_alloc | apply Kd.R_drewN | apply Kd.R_drew)); exact Kd.R_mono (zNM HO_5.out (g := gb113) (fun _ hk => hk)) (fun _ hk => trivial)⟩, ⟨by (with_reducible repeat (first | apply Kd.R_alloc | apply Kd.R_drewN | apply Kd.R_drew)); exact Kd.R_mono (zNT HO_6.out BK113.out) (fun _ hk => trivial)⟩, ⟨zL HB.out⟩⟩
            ·rw [if_neg c31] at H
             have c31b0 : (t125.toList == ([] : List UInt8)) = false := beq_eq_false_iff_ne.mpr c31
             have c31b1 : (t125.toList != ([] : List UInt8)) = true := bne_iff_ne.mpr c31
             by_cases c34 : (t125.size : Int) > 1000
             ·rw [if_pos c34] at H
              have c34b0 : decide (1000 < (t125.size : Int)) = true := decide_eq_true c34
              have c34b1 : decide (1000 < t125.size) = true := decide_eq_true (by omega)
              clear c34
              simp only [Option.some.injEq, Prod.mk.injEq] at H
              obtain ⟨rfl, rfl, rfl⟩ := H
              go_wp2_with (first | (go_at_call 17; (with_reducible refine (text_Trim.calls x9_25 t125 _ A30.out).mono ?_); rintro e w35 ⟨rfl, hb⟩; have n0_ := Aside0.mk (Kd.R_below (zR HO_5.out) hb); have n1_ := Aside0.mk (Kd.R_below (zR HO_6.out) hb); have n2_ := Aside0.mk (blk_below (g := gb113) (o := .cells #[.int .i64 (wrap64 (x7_1 + 1)), .bool t112, .string (⟨#[]⟩ : ByteArray)] 28 (0, 0)) (zK BK113.out) hb); have n3_ := Aside0.mk (below_step (zL HB.out) hb); revert n0_ n1_ n2_ n3_; clear HO_5 HO_6 BK113 HB; intro HO_5 HO_6 BK113 HB; (try clear hb); (try clear hb2); (try clear hk); (try clear hi); obtain ⟨hcz36_0, hcz36_1, hcz36_2, hfz36_0, hfz36_1, hfz36_2⟩ := zC3 BK113.out))
              repeat (go_quiet (first | (go_at_call 17; (with_reducible refine (text_Trim.calls x9_25 t125 _ A30.out).mono ?_); rintro e w35 ⟨rfl, hb⟩; have n0_ := Aside0.mk (Kd.R_below (zR HO_5.out) hb); have n1_ := Aside0.mk (Kd.R_below (zR HO_6.out) hb); have n2_ := Aside0.mk (blk_below (g := gb113) (o := .cells #[.int .i64 (wrap64 (x7_1 + 1)), .bool t112, .string (⟨#[]⟩ : ByteArray)] 28 (0, 0)) (zK BK113.out) hb); have n3_ := Aside0.mk (below_step (zL HB.out) hb); revert n0_ n1_ n2_ n3_; clear HO_5 HO_6 BK113 HB; intro HO_5 HO_6 BK113 HB; (try clear hb); (try clear hb2); (try clear hk); (try clear hi); obtain ⟨hcz36_0, hcz36_1, hcz36_2, hfz36_0, hfz36_1, hfz36_2⟩ := zC3 BK113.out)); try go_wp2_with (first | (go_at_call 17; (with_reducible refine (text_Trim.calls x9_25 t125 _ A30.out).mono ?_); rintro e w35 ⟨rfl, hb⟩; have n0_ := Aside0.mk (Kd.R_below (zR HO_5.out) hb); have n1_ := Aside0.mk (Kd.R_below (zR HO_6.out) hb); have n2_ := Aside0.mk (blk_below (g := gb113) (o := .cells #[.int .i64 (wrap64 (x7_1 + 1)), .bool t112, .string (⟨#[]⟩ : ByteArray)] 28 (0, 0)) (zK BK113.out) hb); have n3_ := Aside0.mk (below_step (zL HB.out) hb); revert n0_ n1_ n2_ n3_; clear HO_5 HO_6 BK113 HB; intro HO_5 HO_6 BK113 HB; (try clear hb); (try clear hb2); (try clear hk); (try clear hi); obtain ⟨hcz36_0, hcz36_1, hcz36_2, hfz36_0, hfz36_1, hfz36_2⟩ := zC3 BK113.out)))
              (try simp only [Exit.noGoto_ret])
              go_ret3
              exact ⟨_, zE, by first | exact Kd.R_nil _ _ _ _ _ | exact Kd.N_nil _ _ _ _ _ | exact Kd.V_nil _ _ _ _ _ | exact Kd.Q_nil _ _ _ _ _ | exact Kd.S_nil _ _ _ _ _, zL HB.out⟩
             ·rw [if_neg c34] at H
              have c34b0 : decide (1000 < (t125.size : Int)) = false := decide_eq_false c34
              have c34b1 : decide (1000 < t125.size) = false := decide_eq_false (by omega)
              clear c34
              by_cases c37 : (x5_1.length : Int) ≥ 300
              ·rw [if_pos c37] at H
               have c37b0 : decide (300 ≤ (x5_1.length : Int)) = true := decide_eq_true c37
               have c37b1 : decide (300 ≤ x5_1.length) = true := decide_eq_true (by omega)
               clear c37
               simp only [Option.some.injEq, Prod.mk.injEq] at H
               obtain ⟨rfl, rfl, rfl⟩ := H
               go_wp2_with (first | (go_at_call 17; (with_reducible refine (text_Trim.calls x9_25 t125 _ A30.out).mono ?_); rintro e w38 ⟨rfl, hb⟩; have n0_ := Aside0.mk (Kd.R_below (zR HO_5.out) hb); have n1_ := Aside0.mk (Kd.R_below (zR HO_6.out) hb); have n2_ := Aside0.mk (blk_below (g := gb113) (o := .cells #[.int .i64 (wrap64 (x7_1 + 1)), .bool t112, .string (⟨#[]⟩ : ByteArray)] 28 (0, 0)) (zK BK113.out) hb); have n3_ := Aside0.mk (below_step (zL HB.out) hb); revert n0_ n1_ n2_ n3_; clear HO_5 HO_6 BK113 HB; intro HO_5 HO_6 BK113 HB; (try clear hb); (try clear hb2); (try clear hk); (try clear hi); obtain ⟨hcz39_0, hcz39_1, hcz39_2, hfz39_0, hfz39_1, hfz39_2⟩ := zC3 BK113.out; obtain ⟨Ao40, co40, eo40⟩ := Kd.R_slice HO_5.out; subst eo40))
               repeat (go_quiet (first | (go_at_call 17; (with_reducible refine (text_Trim.calls x9_25 t125 _ A30.out).mono ?_); rintro e w38 ⟨rfl, hb⟩; have n0_ := Aside0.mk (Kd.R_below (zR HO_5.out) hb); have n1_ := Aside0.mk (Kd.R_below (zR HO_6.out) hb); have n2_ := Aside0.mk (blk_below (g := gb113) (o := .cells #[.int .i64 (wrap64 (x7_1 + 1)), .bool t112, .string (⟨#[]⟩ : ByteArray)] 28 (0, 0)) (zK BK113.out) hb); have n3_ := Aside0.mk (below_step (zL HB.out) hb); revert n0_ n1_ n2_ n3_; clear HO_5 HO_6 BK113 HB; intro HO_5 HO_6 BK113 HB; (try clear hb); (try clear hb2); (try clear hk); (try clear hi); obtain ⟨hcz39_0, hcz39_1, hcz39_2, hfz39_0, hfz39_1, hfz39_2⟩ := zC3 BK113.out; obtain ⟨Ao40, co40, eo40⟩ := Kd.R_slice HO_5.out; subst eo40)); try go_wp2_with (first | (go_at_call 17; (with_reducible refine (text_Trim.calls x9_25 t125 _ A30.out).mono ?_); rintro e w38 ⟨rfl, hb⟩; have n0_ := Aside0.mk (Kd.R_below (zR HO_5.out) hb); have n1_ := Aside0.mk (Kd.R_below (zR HO_6.out) hb); have n2_ := Aside0.mk (blk_below (g := gb113) (o := .cells #[.int .i64 (wrap64 (x7_1 + 1)), .bool t112, .string (⟨#[]⟩ : ByteArray)] 28 (0, 0)) (zK BK113.out) hb); have n3_ := Aside0.mk (below_step (zL HB.out) hb); revert n0_ n1_ n2_ n3_; clear HO_5 HO_6 BK113 HB; intro HO_5 HO_6 BK113 HB; (try clear hb); (try clear hb2); (try clear hk); (try clear hi); obtain ⟨hcz39_0, hcz39_1, hcz39_2, hfz39_0, hfz39_1, hfz39_2⟩ := zC3 BK113.out; obtain ⟨Ao40, co40, eo40⟩ := Kd.R_slice HO_5.out; subst eo40)))
               (try simp only [Exit.noGoto_ret])
               go_ret3
               exact ⟨_, zE, by first | exact Kd.R_nil _ _ _ _ _ | exact Kd.N_nil _ _ _ _ _ | exact Kd.V_nil _ _ _ _ _ | exact Kd.Q_nil _ _ _ _ _ | exact Kd.S_nil _ _ _ _ _, zL HB.out⟩
              ·rw [if_neg c37] at H
               have c37b0 : decide (300 ≤ (x5_1.length : Int)) = false := decide_eq_false c37
               have c37b1 : decide (300 ≤ x5_1.length) = false := decide_eq_false (by omega)
               clear c37
               by_cases c41 : x5_1.length < 4398046511104
               ·rw [if_pos c41] at H
                have LMc41 := Aside0.mk c41
                clear c41
                obtain ⟨y126, hy126⟩ : ∃ y_ : List (S28), y_ = (x5_1 ++ [(⟨(wrap64 (x7_1 + 1)), t112, t125⟩ : S28)]) := ⟨_, rfl⟩
                replace H : (lex_Lex.l0 kj25 y126 t108 (wrap64 (x7_2 + 1))) = some (r1, r2, r3) := zH hy126 H
                have Ny126 := Aside0.mk hy126
                clear hy126
                have H' := Aside0.mk H
                clear H
                go_wp2_with (first | (go_at_call 17; (with_reducible refine (text_Trim.calls x9_25 t125 _ A30.out).mono ?_); rintro e w42 ⟨rfl, hb⟩; have n0_ := Aside0.mk (Kd.R_below (zR HO_5.out) hb); have n1_ := Aside0.mk (Kd.R_below (zR HO_6.out) hb); have n2_ := Aside0.mk (blk_below (g := gb113) (o := .cells #[.int .i64 (wrap64 (x7_1 + 1)), .bool t112, .string (⟨#[]⟩ : ByteArray)] 28 (0, 0)) (zK BK113.out) hb); have n3_ := Aside0.mk (below_step (zL HB.out) hb); revert n0_ n1_ n2_ n3_; clear HO_5 HO_6 BK113 HB; intro HO_5 HO_6 BK113 HB; (try clear hb); (try clear hb2); (try clear hk); (try clear hi); obtain ⟨hcz43_0, hcz43_1, hcz43_2, hfz43_0, hfz43_1, hfz43_2⟩ := zC3 BK113.out; obtain ⟨Ao44, co44, eo44⟩ := Kd.R_slice HO_5.out; subst eo44) | ((with_reducible refine gate_builtin (b := .append) (xs := #[.tmp 88, .tmp 90]) rfl ?_); (try (refine gate_guard (by rfl) ?_; dsimp only)); at_builtin; refine Kd.R_append k28 (w0 := w) w.heap.size rfl (.tmp 88) (.tmp 90) 23 28 (.agg #[(.int .i64 0), (.bool false), (.string ⟨#[]⟩)]) 32 rfl Tryd.underlying23 info28 rfl (by decide) (by omega) (.slice Ao44 x5_1.length co44) x5_1 (⟨(wrap64 (x7_1 + 1)), t112, t125⟩ : S28) [.int .i64 (wrap64 (x7_1 + 1)), .bool t112, .string t125] (fun k_ => k_ ≠ gb113) (fun _ => False) rfl (by first | (go_simp; done) | (go_simp; rfl)) ?aP (fun _ hk => hk.elim) ?aF ?aO ?aB ?aS ?aL ?_; (case aP => exact k28_mkM _ _ _ (⟨(wrap64 (x7_1 + 1)), t112, t125⟩ : S28)); (case aB => exact (zL HB.out)); (case aF => exact (fun k_ hk => Kd.freshB (g := gb113) (o := .cells #[.int .i64 (wrap64 (x7_1 + 1)), .bool t112, .string t125] 28 (0, 0)) (by (with_reducible repeat (first | refine blk_drewN ?_ _ | refine blk_drew ?_ | refine blk_alloc ?_ _)); refine blk_put (cs := #[.int .i64 (wrap64 (x7_1 + 1)), .bool t112, .string (⟨#[]⟩ : ByteArray)]) ?_ 2 _ rfl; (with_reducible repeat (first | refine blk_drewN ?_ _ | refine blk_drew ?_ | refine blk_alloc ?_ _)); exact BK113.out) k_ hk)); (case aO => exact (by (with_reducible repeat (first | apply Kd.R_alloc | apply Kd.R_drewN | apply Kd.R_drew)); exact Kd.R_mono (zNM HO_5.out (g := gb113) (fun _ hk => hk)) (fun _ hk => hk.1))); (case aS => exact (below_size (zL HB.out))); (case aL => have := LMc41.out; omega); intro v127 w45 ho hb hg hat; rw [← Ny126.out] at ho; have n0_ := Aside0.mk (Kd.R_over' (zT HO_6.out BK113.out) (Kd.R_typed (zM HO_5.out (g := gb113) (fun _ hk => hk))) (by decide) hg); have n1_ := Aside0.mk (blk_grown (g := gb113) (o := .cells #[.int .i64 (wrap64 (x7_1 + 1)), .bool t112, .string t125] 28 (0, 0)) (by (with_reducible repeat (first | refine blk_drewN ?_ _ | refine blk_drew ?_ | refine blk_alloc ?_ _)); refine blk_put (cs := #[.int .i64 (wrap64 (x7_1 + 1)), .bool t112, .string (⟨#[]⟩ : ByteArray)]) ?_ 2 _ rfl; (with_reducible repeat (first | refine blk_drewN ?_ _ | refine blk_drew ?_ | refine blk_alloc ?_ _)); exact BK113.out) hg (Kd.R_away HO_5.out (fun _ hk => hk))); have n2_ := Aside0.mk (hb); have n3_ := Aside0.mk (ho); revert n0_ n1_ n2_ n3_; clear HO_6 BK113 HB HO_5; intro HO_6 BK113 HB HO128; clear ho hb hg hat))
                repeat (go_quiet (first | (go_at_call 17; (with_reducible refine (text_Trim.calls x9_25 t125 _ A30.out).mono ?_); rintro e w42 ⟨rfl, hb⟩; have n0_ := Aside0.mk (Kd.R_below (zR HO_5.out) hb); have n1_ := Aside0.mk (Kd.R_below (zR HO_6.out) hb); have n2_ := Aside0.mk (blk_below (g := gb113) (o := .cells #[.int .i64 (wrap64 (x7_1 + 1)), .bool t112, .string (⟨#[]⟩ : ByteArray)] 28 (0, 0)) (zK BK113.out) hb); have n3_ := Aside0.mk (below_step (zL HB.out) hb); revert n0_ n1_ n2_ n3_; clear HO_5 HO_6 BK113 HB; intro HO_5 HO_6 BK113 HB; (try clear hb); (try clear hb2); (try clear hk); (try clear hi); obtain ⟨hcz43_0, hcz43_1, hcz43_2, hfz43_0, hfz43_1, hfz43_2⟩ := zC3 BK113.out; obtain ⟨Ao44, co44, eo44⟩ := Kd.R_slice HO_5.out; subst eo44) | ((with_reducible refine gate_builtin (b := .append) (xs := #[.tmp 88, .tmp 90]) rfl ?_); (try (refine gate_guard (by rfl) ?_; dsimp only)); at_builtin; refine Kd.R_append k28 (w0 := w) w.heap.size rfl (.tmp 88) (.tmp 90) 23 28 (.agg #[(.int .i64 0), (.bool false), (.string ⟨#[]⟩)]) 32 rfl Tryd.underlying23 info28 rfl (by decide) (by omega) (.slice Ao44 x5_1.length co44) x5_1 (⟨(wrap64 (x7_1 + 1)), t112, t125⟩ : S28) [.int .i64 (wrap64 (x7_1 + 1)), .bool t112, .string t125] (fun k_ => k_ ≠ gb113) (fun _ => False) rfl (by first | (go_simp; done) | (go_simp; rfl)) ?aP (fun _ hk => hk.elim) ?aF ?aO ?aB ?aS ?aL ?_; (case aP => exact k28_mkM _ _ _ (⟨(wrap64 (x7_1 + 1)), t112, t125⟩ : S28)); (case aB => exact (zL HB.out)); (case aF => exact (fun k_ hk => Kd.freshB (g := gb113) (o := .cells #[.int .i64 (wrap64 (x7_1 + 1)), .bool t112, .string t125] 28 (0, 0)) (by (with_reducible repeat (first | refine blk_drewN ?_ _ | refine blk_drew ?_ | refine blk_alloc ?_ _)); refine blk_put (cs := #[.int .i64 (wrap64 (x7_1 + 1)), .bool t112, .string (⟨#[]⟩ : ByteArray)]) ?_ 2 _ rfl; (with_reducible repeat (first | refine blk_drewN ?_ _ | refine blk_drew ?_ | refine blk_alloc ?_ _)); exact BK113.out) k_ hk)); (case aO => exact (by (with_reducible repeat (first | apply Kd.R_alloc | apply Kd.R_drewN | apply Kd.R_drew)); exact Kd.R_mono (zNM HO_5.out (g := gb113) (fun _ hk => hk)) (fun _ hk => hk.1))); (case aS => exact (below_size (zL HB.out))); (case aL => have := LMc41.out; omega); intro v127 w45 ho hb hg hat; rw [← Ny126.out] at ho; have n0_ := Aside0.mk (Kd.R_over' (zT HO_6.out BK113.out) (Kd.R_typed (zM HO_5.out (g := gb113) (fun _ hk => hk))) (by decide) hg); have n1_ := Aside0.mk (blk_grown (g := gb113) (o := .cells #[.int .i64 (wrap64 (x7_1 + 1)), .bool t112, .string t125] 28 (0, 0)) (by (with_reducible repeat (first | refine blk_drewN ?_ _ | refine blk_drew ?_ | refine blk_alloc ?_ _)); refine blk_put (cs := #[.int .i64 (wrap64 (x7_1 + 1)), .bool t112, .string (⟨#[]⟩ : ByteArray)]) ?_ 2 _ rfl; (with_reducible repeat (first | refine blk_drewN ?_ _ | refine blk_drew ?_ | refine blk_alloc ?_ _)); exact BK113.out) hg (Kd.R_away HO_5.out (fun _ hk => hk))); have n2_ := Aside0.mk (hb); have n3_ := Aside0.mk (ho); revert n0_ n1_ n2_ n3_; clear HO_6 BK113 HB HO_5; intro HO_6 BK113 HB HO128; clear ho hb hg hat)); try go_wp2_with (first | (go_at_call 17; (with_reducible refine (text_Trim.calls x9_25 t125 _ A30.out).mono ?_); rintro e w42 ⟨rfl, hb⟩; have n0_ := Aside0.mk (Kd.R_below (zR HO_5.out) hb); have n1_ := Aside0.mk (Kd.R_below (zR HO_6.out) hb); have n2_ := Aside0.mk (blk_below (g := gb113) (o := .cells #[.int .i64 (wrap64 (x7_1 + 1)), .bool t112, .string (⟨#[]⟩ : ByteArray)] 28 (0, 0)) (zK BK113.out) hb); have n3_ := Aside0.mk (below_step (zL HB.out) hb); revert n0_ n1_ n2_ n3_; clear HO_5 HO_6 BK113 HB; intro HO_5 HO_6 BK113 HB; (try clear hb); (try clear hb2); (try clear hk); (try clear hi); obtain ⟨hcz43_0, hcz43_1, hcz43_2, hfz43_0, hfz43_1, hfz43_2⟩ := zC3 BK113.out; obtain ⟨Ao44, co44, eo44⟩ := Kd.R_slice HO_5.out; subst eo44) | ((with_reducible refine gate_builtin (b := .append) (xs := #[.tmp 88, .tmp 90]) rfl ?_); (try (refine gate_guard (by rfl) ?_; dsimp only)); at_builtin; refine Kd.R_append k28 (w0 := w) w.heap.size rfl (.tmp 88) (.tmp 90) 23 28 (.agg #[(.int .i64 0), (.bool false), (.string ⟨#[]⟩)]) 32 rfl Tryd.underlying23 info28 rfl (by decide) (by omega) (.slice Ao44 x5_1.length co44) x5_1 (⟨(wrap64 (x7_1 + 1)), t112, t125⟩ : S28) [.int .i64 (wrap64 (x7_1 + 1)), .bool t112, .string t125] (fun k_ => k_ ≠ gb113) (fun _ => False) rfl (by first | (go_simp; done) | (go_simp; rfl)) ?aP (fun _ hk => hk.elim) ?aF ?aO ?aB ?aS ?aL ?_; (case aP => exact k28_mkM _ _ _ (⟨(wrap64 (x7_1 + 1)), t112, t125⟩ : S28)); (case aB => exact (zL HB.out)); (case aF => exact (fun k_ hk => Kd.freshB (g := gb113) (o := .cells #[.int .i64 (wrap64 (x7_1 + 1)), .bool t112, .string t125] 28 (0, 0)) (by (with_reducible repeat (first | refine blk_drewN ?_ _ | refine blk_drew ?_ | refine blk_alloc ?_ _)); refine blk_put (cs := #[.int .i64 (wrap64 (x7_1 + 1)), .bool t112, .string (⟨#[]⟩ : ByteArray)]) ?_ 2 _ rfl; (with_reducible repeat (first | refine blk_drewN ?_ _ | refine blk_drew ?_ | refine blk_alloc ?_ _)); exact BK113.out) k_ hk)); (case aO => exact (by (with_reducible repeat (first | apply Kd.R_alloc | apply Kd.R_drewN | apply Kd.R_drew)); exact Kd.R_mono (zNM HO_5.out (g := gb113) (fun _ hk => hk)) (fun _ hk => hk.1))); (case aS => exact (below_size (zL HB.out))); (case aL => have := LMc41.out; omega); intro v127 w45 ho hb hg hat; rw [← Ny126.out] at ho; have n0_ := Aside0.mk (Kd.R_over' (zT HO_6.out BK113.out) (Kd.R_typed (zM HO_5.out (g := gb113) (fun _ hk => hk))) (by decide) hg); have n1_ := Aside0.mk (blk_grown (g := gb113) (o := .cells #[.int .i64 (wrap64 (x7_1 + 1)), .bool t112, .string t125] 28 (0, 0)) (by (with_reducible repeat (first | refine blk_drewN ?_ _ | refine blk_drew ?_ | refine blk_alloc ?_ _)); refine blk_put (cs := #[.int .i64 (wrap64 (x7_1 + 1)), .bool t112, .string (⟨#[]⟩ : ByteArray)]) ?_ 2 _ rfl; (with_reducible repeat (first | refine blk_drewN ?_ _ | refine blk_drew ?_ | refine blk_alloc ?_ _)); exact BK113.out) hg (Kd.R_away HO_5.out (fun _ hk => hk))); have n2_ := Aside0.mk (hb); have n3_ := Aside0.mk (ho); revert n0_ n1_ n2_ n3_; clear HO_6 BK113 HB HO_5; intro HO_6 BK113 HB HO128; clear ho hb hg hat)))
                go_roundg kj25
                case measure => have := HK1.out; have := HK2.out; have := HJ11.out; have := HJ25.out; omega
                case rel => exact ⟨(y126), (wrap64 (x7_2 + 1)), zS, H', ⟨by have := HK1.out; have := HK2.out; have := HJ11.out; have := HJ25.out; omega⟩, ⟨by (with_reducible repeat (first | apply Kd.R_alloc | apply Kd.R_drewN | apply Kd.R_drew)); exact Kd.R_mono HO128.out (fun _ hk => trivial)⟩, ⟨by (with_reducible repeat (first | apply Kd.R_alloc | apply Kd.R_drewN | apply Kd.R_drew)); exact HO_6.out⟩, ⟨zL HB.out⟩⟩
               ·rw [if_neg c41] at H
                exact absurd H (by simp)
    ·rw [if_neg c5] at H
     exact absurd H (by simp)
   ·rw [if_neg c4] at H
    have c4b0 : decide (x7_1 < (t108.length : Int)) = false := decide_eq_false c4
    clear c4
    simp only [Option.some.injEq, Prod.mk.injEq] at H
    obtain ⟨rfl, rfl, rfl⟩ := H
    obtain ⟨Ao46, co46, eo46⟩ := Kd.R_slice HO_6.out
    subst eo46
    go_wp2
    repeat (go_quiet (fail); try go_wp2)
    (try simp only [Exit.noGoto_ret])
    go_ret3
    exact ⟨_, zE, by (with_reducible repeat (first | apply Kd.R_alloc | apply Kd.R_drewN | apply Kd.R_drew)); exact HO_5.out, zL HB.out⟩

/-! ### cooperagelaw8_shown: function 8 -/
def cooperagelaw8_shown.f (k : Nat)  : Option (Bool) := (lex_Lex.f k (⟨#[97, 32, 61, 32, 98, 32, 92, 10, 9, 99, 32, 35, 32, 100, 10, 9, 114, 117, 110, 32, 35, 10]⟩ : ByteArray)).bind fun bt129 => (if bt129.2.1 = 0 then (if bt129.2.2 = 0 then (if (bt129.1.length : Int) = 2 then (if 0 < (bt129.1.length : Int) then (if (((rd_T28 bt129.1 0).f0) == 1 && (!((rd_T28 bt129.1 0).f1) && ((((rd_T28 bt129.1 0).f2).toList) == ([97, 32, 61, 32, 98, 32, 99] : List UInt8)))) = true then (if 1 < (bt129.1.length : Int) then (some (((rd_T28 bt129.1 1).f0) == 3 && (((rd_T28 bt129.1 1).f1) && ((((rd_T28 bt129.1 1).f2).toList) == ([114, 117, 110, 32, 35] : List UInt8))))) else (none)) else (some false)) else (none)) else (some false)) else (some false)) else (some false))
theorem cooperagelaw8_shown.mono : ∀ k, LeO (cooperagelaw8_shown.f k ) (cooperagelaw8_shown.f (k + 1) ) := by
 intro  k
 unfold cooperagelaw8_shown.f
 repeat' first
   | (with_reducible exact lex_Lex.mono _ _)
   | (with_reducible exact LeO.refl _)
   | (with_reducible exact LeO.none _)
   | (with_reducible refine LeO.ite ?_ ?_)
   | (with_reducible refine LeO.bind ?_ (fun _ => ?_))
   | exact lex_Lex.mono _ _
   | exact LeO.none _
   | refine LeO.ite ?_ ?_
   | refine LeO.bind ?_ (fun _ => ?_)
set_option maxHeartbeats 8000000 in
set_option maxRecDepth 100000 in
theorem cooperagelaw8_shown.calls (k : Nat)  (r : Bool) (w : World) (h : cooperagelaw8_shown.f k  = some r) :
  Calls Tryd.prog 8 #[] w fun e w' => e = .returned (.bool r) ∧ Below w.heap.size w w' := by
 have hu28 := Tryd.underlying28
 have HB := Aside0.mk (Below.refl w.heap.size w)
 have H : ((lex_Lex.f k (⟨#[97, 32, 61, 32, 98, 32, 92, 10, 9, 99, 32, 35, 32, 100, 10, 9, 114, 117, 110, 32, 35, 10]⟩ : ByteArray)).bind fun bt129 => (if bt129.2.1 = 0 then (if bt129.2.2 = 0 then (if (bt129.1.length : Int) = 2 then (if 0 < (bt129.1.length : Int) then (if (((rd_T28 bt129.1 0).f0) == 1 && (!((rd_T28 bt129.1 0).f1) && ((((rd_T28 bt129.1 0).f2).toList) == ([97, 32, 61, 32, 98, 32, 99] : List UInt8)))) = true then (if 1 < (bt129.1.length : Int) then (some (((rd_T28 bt129.1 1).f0) == 3 && (((rd_T28 bt129.1 1).f1) && ((((rd_T28 bt129.1 1).f2).toList) == ([114, 117, 110, 32, 35] : List UInt8))))) else (none)) else (some false)) else (none)) else (some false)) else (some false)) else (some false))) = some r := h
 clear h
 replace H := Option.bind_eq_some_iff.mp H
 obtain ⟨⟨t129, t130, t131⟩, A10, H⟩ := H
 replace H : (if t130 = 0 then (if t131 = 0 then (if (t129.length : Int) = 2 then (if 0 < (t129.length : Int) then (if (((rd_T28 t129 0).f0) == 1 && (!((rd_T28 t129 0).f1) && ((((rd_T28 t129 0).f2).toList) == ([97, 32, 61, 32, 98, 32, 99] : List UInt8)))) = true then (if 1 < (t129.length : Int) then (some (((rd_T28 t129 1).f0) == 3 && (((rd_T28 t129 1).f1) && ((((rd_T28 t129 1).f2).toList) == ([114, 117, 110, 32, 35] : List UInt8))))) else (none)) else (some false)) else (none)) else (some false)) else (some false)) else (some false)) = some r := H
 have A1 := Aside0.mk A10
 clear A10
 by_cases c2 : t130 = 0
 ·rw [if_pos c2] at H
  have c2b0 : (t130 == 0) = true := beq_iff_eq.mpr c2
  have c2b1 : (t130 != 0) = false := bne_eq_false_iff_eq.mpr c2
  clear c2
  by_cases c3 : t131 = 0
  ·rw [if_pos c3] at H
   have c3b0 : (t131 == 0) = true := beq_iff_eq.mpr c3
   have c3b1 : (t131 != 0) = false := bne_eq_false_iff_eq.mpr c3
   clear c3
   by_cases c4 : (t129.length : Int) = 2
   ·rw [if_pos c4] at H
    have c4b0 : ((t129.length : Int) == 2) = true := beq_iff_eq.mpr c4
    have c4b1 : ((t129.length : Int) != 2) = false := bne_eq_false_iff_eq.mpr c4
    clear c4
    by_cases c5 : 0 < (t129.length : Int)
    ·rw [if_pos c5] at H
     have c5b0 : decide (0 < (t129.length : Int)) = true := decide_eq_true c5
     have c5b1 : decide (0 < t129.length) = true := decide_eq_true (by omega)
     clear c5
     by_cases c6 : (((rd_T28 t129 0).f0) == 1 && (!((rd_T28 t129 0).f1) && ((((rd_T28 t129 0).f2).toList) == ([97, 32, 61, 32, 98, 32, 99] : List UInt8)))) = true
     ·rw [if_pos c6] at H
      have c6b0 : (((rd_T28 t129 0).f0) == 1 && (!((rd_T28 t129 0).f1) && ((((rd_T28 t129 0).f2).toList) == ([97, 32, 61, 32, 98, 32, 99] : List UInt8)))) = true := c6
      (try (have c6b1 : decide (((rd_T28 t129 0).f0) = 1 && (!((rd_T28 t129 0).f1) && ((((rd_T28 t129 0).f2).toList) == ([97, 32, 61, 32, 98, 32, 99] : List UInt8)))) = true := by simpa using c6))
      (try (have c6b2 : (((rd_T28 t129 0).f0) == 1 && (!((rd_T28 t129 0).f1) && ((((rd_T28 t129 0).f2).toList) == ([97, 32, 61, 32, 98, 32, 99] : List UInt8)))) = true := by simpa using c6))
      clear c6
      by_cases c7 : 1 < (t129.length : Int)
      ·rw [if_pos c7] at H
       have c7b0 : decide (1 < (t129.length : Int)) = true := decide_eq_true c7
       have c7b1 : decide (1 < t129.length) = true := decide_eq_true (by omega)
       clear c7
       obtain rfl := Option.some.inj H
       go_enter Tryd.func8, Tryd.ntmps8
       go_wp2_with (first | ((with_reducible refine gate_callee (f := 9) rfl ?_); refine goesL_ (some 5) rfl rfl Tryd.func9 (by kernel_rfl) rfl #[.string (⟨#[97, 32, 61, 32, 98, 32, 92, 10, 9, 99, 32, 35, 32, 100, 10, 9, 114, 117, 110, 32, 35, 10]⟩ : ByteArray)] rfl zA ?_; (with_reducible refine (lex_Lex.calls k (⟨#[97, 32, 61, 32, 98, 32, 92, 10, 9, 99, 32, 35, 32, 100, 10, 9, 114, 117, 110, 32, 35, 10]⟩ : ByteArray) t129 t130 t131 _ A1.out).mono ?_); rintro e w8 ⟨v132, rfl, ho0, hb⟩; refine ⟨_, rfl, ?_⟩; have n0_ := Aside0.mk (Kd.R_lower ho0 (below_size (zL HB.out))); have n1_ := Aside0.mk (below_step (zL HB.out) hb); revert n0_ n1_; clear HB; intro HO133 HB; (try clear hb); (try clear hb2); (try clear hk); (try clear hi); (try clear ho0); obtain ⟨Ao9, co9, eo9⟩ := Kd.R_slice HO133.out; subst eo9; have p134 : 0 ≤ (0 : Int) := (by omega); have q134 : 0 < (t129.length : Int) := zD; obtain ⟨ad134, e134, hx134_0, hx134_1, hx134_2⟩ := at_T28 (Kd.R_reads' HO133.out).2.2 0 p134 q134; cases e134; have qi134 : (0 < t129.length) = True := eq_true (by omega); (try rw [show ((0 : Int)).toNat = 0 from rfl] at hx134_0); (try rw [show 0 * 3 = 0 from rfl] at hx134_0); (try rw [Addr.add_zero'] at hx134_0); (try rw [show ((0 : Int)).toNat = 0 from rfl] at hx134_1); (try rw [show 0 * 3 = 0 from rfl] at hx134_1); (try rw [Addr.add_zero'] at hx134_1); (try rw [show ((0 : Int)).toNat = 0 from rfl] at hx134_2); (try rw [show 0 * 3 = 0 from rfl] at hx134_2); (try rw [Addr.add_zero'] at hx134_2); replace p134 := eq_true p134; replace q134 := eq_true q134; have p135 : 0 ≤ (1 : Int) := (by omega); have q135 : 1 < (t129.length : Int) := zD; obtain ⟨ad135, e135, hx135_0, hx135_1, hx135_2⟩ := at_T28 (Kd.R_reads' HO133.out).2.2 1 p135 q135; obtain rfl : ad134 = ad135 := (by injection e135); (try simp only [show (1 : Int).toNat = 1 from rfl, Nat.reduceMul, Nat.reduceEqDiff, Go.Addr.add, ↓reduceIte] at hx135_0); (try simp only [show (1 : Int).toNat = 1 from rfl, Nat.reduceMul, Nat.reduceEqDiff, Go.Addr.add, ↓reduceIte] at hx135_1); (try simp only [show (1 : Int).toNat = 1 from rfl, Nat.reduceMul, Nat.reduceEqDiff, Go.Addr.add, ↓reduceIte] at hx135_2); have qi135 : (1 < t129.length) = True := eq_true (by omega); (try rw [show ((1 : Int)).toNat = 1 from rfl] at hx135_0); (try rw [show 1 * 3 = 3 from rfl] at hx135_0); (try rw [show ((1 : Int)).toNat = 1 from rfl] at hx135_1); (try rw [show 1 * 3 = 3 from rfl] at hx135_1); (try rw [show ((1 : Int)).toNat = 1 from rfl] at hx135_2); (try rw [show 1 * 3 = 3 from rfl] at hx135_2); replace p135 := eq_true p135; replace q135 := eq_true q135))
       go_ret
       exact ⟨zE, zL HB.out⟩
      ·rw [if_neg c7] at H
       exact absurd H (by simp)
     ·rw [if_neg c6] at H
      have c6b0 : (((rd_T28 t129 0).f0) == 1 && (!((rd_T28 t129 0).f1) && ((((rd_T28 t129 0).f2).toList) == ([97, 32, 61, 32, 98, 32, 99] : List UInt8)))) = false := by simpa using c6
      (try (have c6b1 : decide (((rd_T28 t129 0).f0) = 1 && (!((rd_T28 t129 0).f1) && ((((rd_T28 t129 0).f2).toList) == ([97, 32, 61, 32, 98, 32, 99] : List UInt8)))) = false := by simpa using c6))
      (try (have c6b2 : (((rd_T28 t129 0).f0) == 1 && (!((rd_T28 t129 0).f1) && ((((rd_T28 t129 0).f2).toList) == ([97, 32, 61, 32, 98, 32, 99] : List UInt8)))) = false := by simpa using c6))
      (try (have c6b3 : ¬ (((rd_T28 t129 0).f0) = 1 && (!((rd_T28 t129 0).f1) && ((((rd_T28 t129 0).f2).toList) == ([97, 32, 61, 32, 98, 32, 99] : List UInt8)))) := by simpa using c6))
      clear c6
      obtain rfl := Option.some.inj H
      go_enter Tryd.func8, Tryd.ntmps8
      go_wp2_with (first | ((with_reducible refine gate_callee (f := 9) rfl ?_); refine goesL_ (some 5) rfl rfl Tryd.func9 (by kernel_rfl) rfl #[.string (⟨#[97, 32, 61, 32, 98, 32, 92, 10, 9, 99, 32, 35, 32, 100, 10, 9, 114, 117, 110, 32, 35, 10]⟩ : ByteArray)] rfl zA ?_; (with_reducible refine (lex_Lex.calls k (⟨#[97, 32, 61, 32, 98, 32, 92, 10, 9, 99, 32, 35, 32, 100, 10, 9, 114, 117, 110, 32, 35, 10]⟩ : ByteArray) t129 t130 t131 _ A1.out).mono ?_); rintro e w10 ⟨v132, rfl, ho0, hb⟩; refine ⟨_, rfl, ?_⟩; have n0_ := Aside0.mk (Kd.R_lower ho0 (below_size (zL HB.out))); have n1_ := Aside0.mk (below_step (zL HB.out) hb); revert n0_ n1_; clear HB; intro HO133 HB; (try clear hb); (try clear hb2); (try clear hk); (try clear hi); (try clear ho0); obtain ⟨Ao11, co11, eo11⟩ := Kd.R_slice HO133.out; subst eo11; have p134 : 0 ≤ (0 : Int) := (by omega); have q134 : 0 < (t129.length : Int) := zD; obtain ⟨ad134, e134, hx134_0, hx134_1, hx134_2⟩ := at_T28 (Kd.R_reads' HO133.out).2.2 0 p134 q134; cases e134; have qi134 : (0 < t129.length) = True := eq_true (by omega); (try rw [show ((0 : Int)).toNat = 0 from rfl] at hx134_0); (try rw [show 0 * 3 = 0 from rfl] at hx134_0); (try rw [Addr.add_zero'] at hx134_0); (try rw [show ((0 : Int)).toNat = 0 from rfl] at hx134_1); (try rw [show 0 * 3 = 0 from rfl] at hx134_1); (try rw [Addr.add_zero'] at hx134_1); (try rw [show ((0 : Int)).toNat = 0 from rfl] at hx134_2); (try rw [show 0 * 3 = 0 from rfl] at hx134_2); (try rw [Addr.add_zero'] at hx134_2); replace p134 := eq_true p134; replace q134 := eq_true q134))
      go_ret
      exact ⟨zE, zL HB.out⟩
    ·rw [if_neg c5] at H
     exact absurd H (by simp)
   ·rw [if_neg c4] at H
    have c4b0 : ((t129.length : Int) == 2) = false := beq_eq_false_iff_ne.mpr c4
    have c4b1 : ((t129.length : Int) != 2) = true := bne_iff_ne.mpr c4
    obtain rfl := Option.some.inj H
    go_enter Tryd.func8, Tryd.ntmps8
    go_wp2_with (first | ((with_reducible refine gate_callee (f := 9) rfl ?_); refine goesL_ (some 5) rfl rfl Tryd.func9 (by kernel_rfl) rfl #[.string (⟨#[97, 32, 61, 32, 98, 32, 92, 10, 9, 99, 32, 35, 32, 100, 10, 9, 114, 117, 110, 32, 35, 10]⟩ : ByteArray)] rfl zA ?_; (with_reducible refine (lex_Lex.calls k (⟨#[97, 32, 61, 32, 98, 32, 92, 10, 9, 99, 32, 35, 32, 100, 10, 9, 114, 117, 110, 32, 35, 10]⟩ : ByteArray) t129 t130 t131 _ A1.out).mono ?_); rintro e w12 ⟨v132, rfl, ho0, hb⟩; refine ⟨_, rfl, ?_⟩; have n0_ := Aside0.mk (Kd.R_lower ho0 (below_size (zL HB.out))); have n1_ := Aside0.mk (below_step (zL HB.out) hb); revert n0_ n1_; clear HB; intro HO133 HB; (try clear hb); (try clear hb2); (try clear hk); (try clear hi); (try clear ho0); obtain ⟨Ao13, co13, eo13⟩ := Kd.R_slice HO133.out; subst eo13))
    go_ret
    exact ⟨zE, zL HB.out⟩
  ·rw [if_neg c3] at H
   have c3b0 : (t131 == 0) = false := beq_eq_false_iff_ne.mpr c3
   have c3b1 : (t131 != 0) = true := bne_iff_ne.mpr c3
   obtain rfl := Option.some.inj H
   go_enter Tryd.func8, Tryd.ntmps8
   go_wp2_with (first | ((with_reducible refine gate_callee (f := 9) rfl ?_); refine goesL_ (some 5) rfl rfl Tryd.func9 (by kernel_rfl) rfl #[.string (⟨#[97, 32, 61, 32, 98, 32, 92, 10, 9, 99, 32, 35, 32, 100, 10, 9, 114, 117, 110, 32, 35, 10]⟩ : ByteArray)] rfl zA ?_; (with_reducible refine (lex_Lex.calls k (⟨#[97, 32, 61, 32, 98, 32, 92, 10, 9, 99, 32, 35, 32, 100, 10, 9, 114, 117, 110, 32, 35, 10]⟩ : ByteArray) t129 t130 t131 _ A1.out).mono ?_); rintro e w14 ⟨v132, rfl, ho0, hb⟩; refine ⟨_, rfl, ?_⟩; have n0_ := Aside0.mk (Kd.R_lower ho0 (below_size (zL HB.out))); have n1_ := Aside0.mk (below_step (zL HB.out) hb); revert n0_ n1_; clear HB; intro HO133 HB; (try clear hb); (try clear hb2); (try clear hk); (try clear hi); (try clear ho0)))
   go_ret
   exact ⟨zE, zL HB.out⟩
 ·rw [if_neg c2] at H
  have c2b0 : (t130 == 0) = false := beq_eq_false_iff_ne.mpr c2
  have c2b1 : (t130 != 0) = true := bne_iff_ne.mpr c2
  obtain rfl := Option.some.inj H
  go_enter Tryd.func8, Tryd.ntmps8
  go_wp2_with (first | ((with_reducible refine gate_callee (f := 9) rfl ?_); refine goesL_ (some 5) rfl rfl Tryd.func9 (by kernel_rfl) rfl #[.string (⟨#[97, 32, 61, 32, 98, 32, 92, 10, 9, 99, 32, 35, 32, 100, 10, 9, 114, 117, 110, 32, 35, 10]⟩ : ByteArray)] rfl zA ?_; (with_reducible refine (lex_Lex.calls k (⟨#[97, 32, 61, 32, 98, 32, 92, 10, 9, 99, 32, 35, 32, 100, 10, 9, 114, 117, 110, 32, 35, 10]⟩ : ByteArray) t129 t130 t131 _ A1.out).mono ?_); rintro e w15 ⟨v132, rfl, ho0, hb⟩; refine ⟨_, rfl, ?_⟩; have n0_ := Aside0.mk (Kd.R_lower ho0 (below_size (zL HB.out))); have n1_ := Aside0.mk (below_step (zL HB.out) hb); revert n0_ n1_; clear HB; intro HO133 HB; (try clear hb); (try clear hb2); (try clear hk); (try clear hi); (try clear ho0)))
  go_ret
  exact ⟨zE, zL HB.out⟩

end Go.Proofs.YtjbpabpfhkcolaaDoor.PLex
