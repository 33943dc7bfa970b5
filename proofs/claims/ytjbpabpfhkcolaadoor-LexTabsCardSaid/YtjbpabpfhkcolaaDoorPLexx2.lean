-- Written by a program of this session (wip/tools/ext.py, over the kit's printer); not trusted: Lean checks it.
import Derived.Test.YtjbpabpfhkcolaaDoorPLexx0
namespace Go.Proofs.YtjbpabpfhkcolaaDoor.PLex
open Go.RowKit Go.Proofs.YtjbpabpfhkcolaaDoorW.PrintWords Go.Proofs.YtjbpabpfhkcolaaDoorW.PrintLast Go.Proofs.YtjbpabpfhkcolaaDoorW.PrintMore
attribute [local go_sem] max2_int min2_int max_two min_two max_three min_three max_four min_four   -- for this text's walks alone
set_option linter.unusedVariables false
set_option linter.unusedSimpArgs false

/-! ### stringslite_IndexByte: function 39 -/
def stringslite_IndexByte.f (a0 : ByteArray) (a1 : Int) : Option (Int) := some (Lib.indexByte a0.data.toList a1.toNat.toUInt8)
set_option maxHeartbeats 1000000 in
set_option maxRecDepth 100000 in
theorem stringslite_IndexByte.calls (a0 : ByteArray) (a1 : Int) (r : Int) (w : World) (h : stringslite_IndexByte.f a0 a1 = some r) :
    Calls Tryd.prog 39 #[.string a0, .int .u8 a1] w fun e w' => e = .returned (.int .i64 r) ∧ Drawn0 w w' := by
  have H : (some (Lib.indexByte a0.data.toList a1.toNat.toUInt8)) = some r := h
  clear h
  obtain rfl := Option.some.inj H
  clear H
  go_enter Tryd.func39, Tryd.ntmps39
  go_wp2_with fail
  rw [run_callFunc_extern Tryd.func45 (by kernel_rfl) (by kernel_rfl) (by kernel_rfl) (e := Extern.BytealgIndexByte.indexByte) (by kernel_rfl), Lib.run_indexByteString]
  simp only [Result.andThen]
  rw [Oper.upon_value]
  go_wp2
  go_ret
  exact ⟨rfl, Drawn0.refl _⟩



/-! ### stringslite_Index: function 35 -/
/-- strings.Index at a sub of one byte: where it first is. -/
def stringslite_Index.f (a0 : ByteArray) (a1 : ByteArray) : Option (Int) := if a1.size = 1 then some (Lib.indexByte a0.data.toList (a1.data.toList.headD 0)) else none
theorem one_byte (a1 : ByteArray) (h : a1.size = 1) : ∃ c : UInt8, a1 = ⟨#[c]⟩ := by
  obtain ⟨d⟩ := a1
  obtain ⟨l⟩ := d
  match l, h with
  | [c], _ => exact ⟨c, rfl⟩
set_option maxHeartbeats 1000000 in
set_option maxRecDepth 100000 in
theorem stringslite_Index.one (a0 : ByteArray) (c : UInt8) (w : World) :
    Calls Tryd.prog 35 #[.string a0, .string ⟨#[c]⟩] w fun e w' => e = .returned (.int .i64 (Lib.indexByte a0.data.toList c)) ∧ Drawn0 w w' := by
  go_enter Tryd.func35, Tryd.ntmps35
  go_wp2_with (go_at_call 39; (with_reducible refine (stringslite_IndexByte.calls _ _ _ _ rfl).mono ?_); rintro e w' ⟨rfl, ⟨nd, rfl⟩⟩)
  · have h : ([c] == a0.toList) = true := by assumption
    go_ret
    refine ⟨?_, Drawn0.refl _⟩
    have e : a0.data.toList = [c] := by rw [← Lib.toList_data]; exact (beq_iff_eq.1 h).symm
    rw [e]
    simp [Lib.indexByte]
  · go_ret
    exact ⟨by first | rfl | (simp; rfl), by repeat (first | exact Drawn0.refl _ | apply Drawn0.step)⟩
theorem stringslite_Index.calls (a0 : ByteArray) (a1 : ByteArray) (r : Int) (w : World) (h : stringslite_Index.f a0 a1 = some r) :
    Calls Tryd.prog 35 #[.string a0, .string a1] w fun e w' => e = .returned (.int .i64 r) ∧ Drawn0 w w' := by
  unfold stringslite_Index.f at h
  by_cases c : a1.size = 1
  · rw [if_pos c] at h
    obtain rfl := Option.some.inj h
    obtain ⟨b, rfl⟩ := one_byte a1 c
    exact stringslite_Index.one a0 b w
  · rw [if_neg c] at h
    exact absurd h (by simp)



/-! ### stringslite_Cut: function 28 -/
def stringslite_Cut.f (a0 : ByteArray) (a1 : ByteArray) : Option (ByteArray × ByteArray × Bool) := (stringslite_Index.f a0 a1).bind fun t101 => (if t101 ≥ 0 then (if 0 ≤ t101 then (if t101 ≤ (a0.size : Int) then (if 0 ≤ (wrap64 (t101 + (a1.size : Int))) then (if (wrap64 (t101 + (a1.size : Int))) ≤ (a0.size : Int) then (some (a0.extract 0 (t101 : Int).toNat, a0.extract ((wrap64 (t101 + (a1.size : Int))) : Int).toNat a0.size, true)) else (none)) else (none)) else (none)) else (none)) else (some (a0, (⟨#[]⟩ : ByteArray), false)))
set_option maxHeartbeats 8000000 in
set_option maxRecDepth 100000 in
theorem stringslite_Cut.calls (a0 : ByteArray) (a1 : ByteArray) (r1 : ByteArray) (r2 : ByteArray) (r3 : Bool) (w : World) (h : stringslite_Cut.f a0 a1 = some (r1, r2, r3)) :
  Calls Tryd.prog 28 #[.string a0, .string a1] w fun e w' => e = .returned (.tuple #[.string r1, .string r2, .bool r3]) ∧ Drawn0 w w' := by
 have H : ((stringslite_Index.f a0 a1).bind fun t101 => (if t101 ≥ 0 then (if 0 ≤ t101 then (if t101 ≤ (a0.size : Int) then (if 0 ≤ (wrap64 (t101 + (a1.size : Int))) then (if (wrap64 (t101 + (a1.size : Int))) ≤ (a0.size : Int) then (some (a0.extract 0 (t101 : Int).toNat, a0.extract ((wrap64 (t101 + (a1.size : Int))) : Int).toNat a0.size, true)) else (none)) else (none)) else (none)) else (none)) else (some (a0, (⟨#[]⟩ : ByteArray), false)))) = some (r1, r2, r3) := h
 clear h
 replace H := Option.bind_eq_some_iff.mp H
 obtain ⟨t101, A30, H⟩ := H
 replace H : (if t101 ≥ 0 then (if 0 ≤ t101 then (if t101 ≤ (a0.size : Int) then (if 0 ≤ (wrap64 (t101 + (a1.size : Int))) then (if (wrap64 (t101 + (a1.size : Int))) ≤ (a0.size : Int) then (some (a0.extract 0 (t101 : Int).toNat, a0.extract ((wrap64 (t101 + (a1.size : Int))) : Int).toNat a0.size, true)) else (none)) else (none)) else (none)) else (none)) else (some (a0, (⟨#[]⟩ : ByteArray), false))) = some (r1, r2, r3) := H
 have A3 := Aside0.mk A30
 clear A30
 by_cases c4 : t101 ≥ 0
 ·rw [if_pos c4] at H
  have c4b0 : decide (0 ≤ t101) = true := decide_eq_true c4
  clear c4
  by_cases c5 : 0 ≤ t101
  ·rw [if_pos c5] at H
   have c5b0 := eq_true c5
   have c5b1 : decide (0 ≤ t101) = true := decide_eq_true c5
   clear c5
   by_cases c6 : t101 ≤ (a0.size : Int)
   ·rw [if_pos c6] at H
    have c6b0 := eq_true c6
    have c6b1 : decide (t101 ≤ (a0.size : Int)) = true := decide_eq_true c6
    clear c6
    obtain ⟨ji7, hji7⟩ : ∃ j_ : Int, (wrap64 (t101 + (a1.size : Int))) = j_ := ⟨_, rfl⟩
    replace H : (if 0 ≤ (ji7) then (if (ji7) ≤ (a0.size : Int) then (some (a0.extract 0 (t101 : Int).toNat, a0.extract ((ji7) : Int).toNat a0.size, true)) else (none)) else (none)) = some (r1, r2, r3) := by first | (rw [hji7] at H; exact H) | (simp only [hji7] at H ⊢; exact H)
    (try rw [hji7] at A3)
    have hji7w : (IntKind.i64.wrap (t101 + (a1.size : Int))) = ji7 := (i64_w _).trans hji7
    by_cases c8 : 0 ≤ (ji7)
    ·rw [if_pos c8] at H
     have c8b0 := eq_true c8
     have c8b1 : decide (0 ≤ (ji7)) = true := decide_eq_true c8
     clear c8
     by_cases c9 : (ji7) ≤ (a0.size : Int)
     ·rw [if_pos c9] at H
      have c9b0 := eq_true c9
      have c9b1 : decide ((ji7) ≤ (a0.size : Int)) = true := decide_eq_true c9
      clear c9
      simp only [Option.some.injEq, Prod.mk.injEq] at H
      obtain ⟨rfl, rfl, rfl⟩ := H
      go_enter Tryd.func28, Tryd.ntmps28
      go_wp2_with (first | (go_at_call 35; (with_reducible refine (stringslite_Index.calls a0 a1 t101 _ A3.out).mono ?_); rintro e w' ⟨rfl, ⟨nd, rfl⟩⟩; (try first | exact ⟨rfl, _, World.drewN_drewN _ _ _⟩ | exact ⟨rfl, _, Eq.trans (World.drewN_drewN _ _ _) (congrArg (World.drewN _) (Nat.add_assoc _ _ _))⟩)))
      repeat (go_quiet (first | (go_at_call 35; (with_reducible refine (stringslite_Index.calls a0 a1 t101 _ A3.out).mono ?_); rintro e w' ⟨rfl, ⟨nd, rfl⟩⟩; (try first | exact ⟨rfl, _, World.drewN_drewN _ _ _⟩ | exact ⟨rfl, _, Eq.trans (World.drewN_drewN _ _ _) (congrArg (World.drewN _) (Nat.add_assoc _ _ _))⟩))); try go_wp2_with (first | (go_at_call 35; (with_reducible refine (stringslite_Index.calls a0 a1 t101 _ A3.out).mono ?_); rintro e w' ⟨rfl, ⟨nd, rfl⟩⟩; (try first | exact ⟨rfl, _, World.drewN_drewN _ _ _⟩ | exact ⟨rfl, _, Eq.trans (World.drewN_drewN _ _ _) (congrArg (World.drewN _) (Nat.add_assoc _ _ _))⟩))))
      go_ret3
      exact ⟨by first | rfl | (simp; done) | (simp only [← hji7] <;> (first | rfl | simp)) | (simp [*]; done), by repeat (first | exact Drawn0.refl _ | apply Drawn0.step)⟩
     ·rw [if_neg c9] at H
      exact absurd H (by simp)
    ·rw [if_neg c8] at H
     exact absurd H (by simp)
   ·rw [if_neg c6] at H
    exact absurd H (by simp)
  ·rw [if_neg c5] at H
   exact absurd H (by simp)
 ·rw [if_neg c4] at H
  have c4b0 : decide (0 ≤ t101) = false := decide_eq_false c4
  clear c4
  simp only [Option.some.injEq, Prod.mk.injEq] at H
  obtain ⟨rfl, rfl, rfl⟩ := H
  go_enter Tryd.func28, Tryd.ntmps28
  go_wp2_with (first | (go_at_call 35; (with_reducible refine (stringslite_Index.calls a0 a1 t101 _ A3.out).mono ?_); rintro e w' ⟨rfl, ⟨nd, rfl⟩⟩; (try first | exact ⟨rfl, _, World.drewN_drewN _ _ _⟩ | exact ⟨rfl, _, Eq.trans (World.drewN_drewN _ _ _) (congrArg (World.drewN _) (Nat.add_assoc _ _ _))⟩)))
  repeat (go_quiet (first | (go_at_call 35; (with_reducible refine (stringslite_Index.calls a0 a1 t101 _ A3.out).mono ?_); rintro e w' ⟨rfl, ⟨nd, rfl⟩⟩; (try first | exact ⟨rfl, _, World.drewN_drewN _ _ _⟩ | exact ⟨rfl, _, Eq.trans (World.drewN_drewN _ _ _) (congrArg (World.drewN _) (Nat.add_assoc _ _ _))⟩))); try go_wp2_with (first | (go_at_call 35; (with_reducible refine (stringslite_Index.calls a0 a1 t101 _ A3.out).mono ?_); rintro e w' ⟨rfl, ⟨nd, rfl⟩⟩; (try first | exact ⟨rfl, _, World.drewN_drewN _ _ _⟩ | exact ⟨rfl, _, Eq.trans (World.drewN_drewN _ _ _) (congrArg (World.drewN _) (Nat.add_assoc _ _ _))⟩))))
  go_ret3
  exact ⟨by first | rfl | (simp; done) | (simp [*]; done), by repeat (first | exact Drawn0.refl _ | apply Drawn0.step)⟩

/-! ### strings_Cut: function 16 -/
def strings_Cut.f (a0 : ByteArray) (a1 : ByteArray) : Option (ByteArray × ByteArray × Bool) := (stringslite_Cut.f a0 a1).bind fun bt102 => (some (bt102.1, bt102.2.1, bt102.2.2))
set_option maxHeartbeats 8000000 in
set_option maxRecDepth 100000 in
theorem strings_Cut.calls (a0 : ByteArray) (a1 : ByteArray) (r1 : ByteArray) (r2 : ByteArray) (r3 : Bool) (w : World) (h : strings_Cut.f a0 a1 = some (r1, r2, r3)) :
  Calls Tryd.prog 16 #[.string a0, .string a1] w fun e w' => e = .returned (.tuple #[.string r1, .string r2, .bool r3]) ∧ Drawn0 w w' := by
 have H : ((stringslite_Cut.f a0 a1).bind fun bt102 => (some (bt102.1, bt102.2.1, bt102.2.2))) = some (r1, r2, r3) := h
 clear h
 replace H := Option.bind_eq_some_iff.mp H
 obtain ⟨⟨t102, t103, t104⟩, A30, H⟩ := H
 replace H : (some (t102, t103, t104)) = some (r1, r2, r3) := H
 have A3 := Aside0.mk A30
 clear A30
 simp only [Option.some.injEq, Prod.mk.injEq] at H
 obtain ⟨rfl, rfl, rfl⟩ := H
 go_enter Tryd.func16, Tryd.ntmps16
 go_wp2_with (first | ((with_reducible refine gate_callee (f := 28) rfl ?_); refine goesL_ (some 9) rfl rfl Tryd.func28 (by kernel_rfl) rfl #[.string a0, .string a1] rfl zA ?_; (with_reducible refine (stringslite_Cut.calls a0 a1 t102 t103 t104 _ A3.out).mono ?_); rintro e w' ⟨rfl, ⟨nd, rfl⟩⟩; refine ⟨_, rfl, ?_⟩))
 go_ret3
 exact ⟨by first | rfl | (simp; done) | (simp [*]; done), by repeat (first | exact Drawn0.refl _ | apply Drawn0.step)⟩

/-! ### text_Lines: function 11 -/
/-- strings.Cut at one byte. -/
theorem text_cut (c : UInt8) (p : ByteArray) (hp : p.size ≤ 1000000000) :
    (c ∉ Pl.bl p ∧ strings_Cut.f p ⟨#[c]⟩ = some (p, ⟨#[]⟩, false)) ∨ (∃ a b, Pl.bl p = a ++ c :: b ∧ c ∉ a ∧ strings_Cut.f p ⟨#[c]⟩ = some (Pl.ofL a, Pl.ofL b, true)) := by
  unfold strings_Cut.f stringslite_Cut.f stringslite_Index.f
  rw [if_pos (show (⟨#[c]⟩ : ByteArray).size = 1 from rfl)]
  simp only [Option.bind_some]
  rw [show Lib.indexByte p.data.toList ((⟨#[c]⟩ : ByteArray).data.toList.headD 0) = Lib.indexByte (Pl.bl p) c from rfl]
  rcases Pl.ib_cases c (Pl.bl p) with ⟨e, hn⟩ | ⟨a, b, hl, ha, e⟩
  · rw [e, if_neg (by omega)]
    exact .inl ⟨hn, rfl⟩
  · refine .inr ⟨a, b, hl, ha, ?_⟩
    have hlen : p.size = a.length + (b.length + 1) := by rw [Pl.bl_size, hl]; simp
    have hw : wrap64 ((a.length : Int) + ((⟨#[c]⟩ : ByteArray).size : Int)) = (a.length : Int) + 1 := Pl.wrap_sm (by show _ ≤ (a.length : Int) + 1; omega) (by show (a.length : Int) + 1 ≤ _; omega)
    rw [e, hw, if_pos (by omega), if_pos (by omega), if_pos (by omega), if_pos (by omega), if_pos (by omega)]
    simp only [Option.bind_some]
    have e1 : p.extract 0 ((a.length : Int)).toNat = Pl.ofL a := Pl.bl_inj (by rw [Pl.bl_extract_from, Pl.bl_ofL, hl, Int.toNat_natCast, List.take_left])
    have e2 : p.extract ((a.length : Int) + 1).toNat p.size = Pl.ofL b := Pl.bl_inj (by rw [Pl.bl_extract_to, Pl.bl_ofL, hl, show ((a.length : Int) + 1).toNat = (a ++ [c]).length by simp; done, show a ++ c :: b = (a ++ [c]) ++ b by simp, List.drop_left])
    rw [e1, e2]
/-- text.Lines: the lines of a text. -/
def text_Lines.f (a0 : ByteArray) : Option (List ByteArray) := if a0.size ≤ 1000000 then some ((Pl.linesL (Pl.bl a0)).map Pl.ofL) else none
/-- How many lines the text in a box has. -/
def text_Lines.left (B : Nat) (w : World) : Nat := match w.cell? ⟨B, 0, none⟩ with
  | some (.string s) => (Pl.linesL (Pl.bl s)).length
  | _ => 0
theorem text_Lines.left_eq {B : Nat} {w : World} {s : ByteArray} (h : Go.Boxed w B 9 (.string s)) : text_Lines.left B w = (Pl.linesL (Pl.bl s)).length := by
  unfold text_Lines.left
  rw [h.cell]
section
attribute [local go_sem] Oper.semAt_some
/-- One line off the front, as strings.Cut does it. -/
theorem text_Lines.one (c : ByteArray) (hc : c.size ≤ 1000000) (h0 : Pl.bl c ≠ []) : ∃ x y t, strings_Cut.f c ⟨#[10]⟩ = some (x, y, t) ∧ Pl.linesL (Pl.bl c) = Pl.bl x :: Pl.linesL (Pl.bl y) ∧ y.size ≤ 1000000 := by
  rcases text_cut 10 c (by omega) with ⟨hn, e⟩ | ⟨a, b, hl, ha, e⟩
  · exact ⟨_, _, _, e, by rw [Pl.linesL_last _ hn h0]; rfl, by show (0 : Nat) ≤ 1000000; omega⟩
  · refine ⟨_, _, _, e, by rw [hl, Pl.linesL_feed a b ha, Pl.bl_ofL, Pl.bl_ofL], ?_⟩
    have := Pl.bl_size c
    rw [hl] at this
    rw [Pl.bl_size, Pl.bl_ofL]
    simp at this
    omega
set_option maxHeartbeats 2000000 in
set_option maxRecDepth 100000 in
/-- The iterator: whatever the loop's body is, if it keeps the text's box. -/
theorem text_Lines.iter (n : Nat) (hn : 1 ≤ n) (l Bs : Nat) (s : ByteArray) (hs : s.size ≤ 1000000) (J : List ByteArray → World → Prop)
    (hY : ∀ pre x W, J pre W → pre.length < (Pl.linesL (Pl.bl s)).length → YieldAt Fence.wide (n - 1) Tryd.prog l #[.string x] W fun e W' => e = .returned (.bool true) ∧ J (pre ++ [x]) W' ∧ ∀ v, Go.Boxed W Bs 9 v → Go.Boxed W' Bs 9 v)
    (hset : ∀ pre W u v, J pre W → Go.Boxed W Bs 9 u → J pre (W.setCell ⟨Bs, 0, none⟩ v))
    (hbl : ∀ pre W W', J pre W → Below W.heap.size W W' → J pre W')
    (W : World) (hb : Go.Boxed W Bs 9 (.string s)) (h0 : J [] W) :
    CallsIn Fence.wide n Tryd.prog 30 (#[.func (.yield l) #[] #[]] ++ #[.pointer (some ⟨Bs, 0, none⟩)]) W fun e W' => (∃ v, e = .returned v) ∧ J ((Pl.linesL (Pl.bl s)).map Pl.ofL) W' := by
  refine callsIn_of_wp Tryd.func30 rfl trivial ?_ rfl
  simp only [Tryd.ntmps30, List.append_toArray, List.cons_append, List.nil_append, List.size_toArray, List.length_cons, List.length_nil, Nat.reduceAdd, Nat.reduceSub, Array.replicate_succ, Array.replicate_zero, List.push_toArray]
  gi_wp2
  gi_loopw [3] (fun _ wr => ∃ (pre : List ByteArray) (c : ByteArray), c.size ≤ 1000000 ∧ (Pl.linesL (Pl.bl s)).map Pl.ofL = pre ++ (Pl.linesL (Pl.bl c)).map Pl.ofL ∧ Go.Boxed wr Bs 9 (.string c) ∧ J pre wr) (fun _ wr => text_Lines.left Bs wr)
  case atStart => exact ⟨[], s, hs, rfl, hb, h0⟩
  case round =>
    obtain ⟨pre, c, hc, hL, hbx, hJ⟩ := hrel
    have hcell := hbx.cell
    have hfr := hbx.frozen
    by_cases e0 : Pl.bl c = []
    · obtain rfl : c = ⟨#[]⟩ := Pl.bl_inj e0
      gi_wp2
      go_end0
      rw [e0, Pl.linesL_nil, List.map_nil, List.append_nil] at hL
      exact ⟨⟨_, rfl⟩, by rw [hL]; exact hJ⟩
    · have e1 : (c.toList == ([] : List UInt8)) = false := by rw [Pl.bl_toList]; exact beq_eq_false_iff_ne.2 e0
      have e2 : (c.toList != ([] : List UInt8)) = true := by rw [Pl.bl_toList]; exact bne_iff_ne.2 e0
      obtain ⟨x, y, t, hcut, hl1, hy⟩ := text_Lines.one c hc e0
      have hlen : pre.length < (Pl.linesL (Pl.bl s)).length := by
        have := congrArg List.length hL
        rw [hl1] at this
        simp at this
        omega
      have hx : Pl.ofL (Pl.bl x) = x := Pl.ofL_bl x
      gi_wp2_with ((refine ⟨trivial, ?_⟩; gi_at_call 16; refine (callsIn_wide.2 (strings_Cut.calls c _ x y t _ hcut)).mono ?_; rintro e w' ⟨rfl, ⟨nd, rfl⟩⟩; obtain ⟨fn, tmps, assign, body, hyy, hR⟩ := hY pre x (wr.drewN nd) (hbl _ _ _ hJ ⟨rfl, rfl, rfl, Nat.le_refl _, fun _ _ => rfl⟩) hlen))
      refine hR.mono ?_
      rintro e W' ⟨rfl, hJ', hk⟩
      have hb' := hk _ (show Go.Boxed (wr.drewN nd) Bs 9 (.string c) from hbx)
      have hcell' := hb'.cell
      have hfr' := hb'.frozen
      gi_wp2
      have hb'' := hb'.set (.string y)
      have hms : text_Lines.left Bs wr = (Pl.linesL (Pl.bl c)).length := text_Lines.left_eq hbx
      go_roundw
      case rel => exact ⟨pre ++ [x], y, hy, by rw [hL, hl1, List.map_cons, hx]; simp, hb'', hset _ _ _ _ hJ' hb'⟩
      case measure => rw [text_Lines.left_eq hb'', hms, hl1]; simp
/-- A loop over an iterator that is told whole: St: what the iterator does between two rounds; Kp: what a round keeps for it. -/
theorem range_told {P : Program} {g : Operand} {p : Tmp} {assign body : Code} {Q : Exit → Act → World → Prop} {a : Act} {w : World} (n : Nat) (hn : 3 ≤ n) {gf : Nat} {lb : Array Value}
    (hg : a.eval g = .func (.func gf) #[] lb) (eg : ∀ args w, (callFunc gf args).run P w = .ok (.enter gf args) w)
    (xs : List ByteArray) (St Kp : World → World → Prop) (Kb : World → Prop) (I : List ByteArray → World → Prop) (a₁ : ByteArray → Act)
    (hseq : ∀ (l : Nat) (J : List ByteArray → World → Prop),
      (∀ pre x W, J pre W → pre.length < xs.length → YieldAt Fence.wide (n - 1 - 1) P l #[.string x] W fun e W' => e = .returned (.bool true) ∧ J (pre ++ [x]) W' ∧ Kp W W') →
      (∀ pre W W', J pre W → St W W' → J pre W') → ∀ W, Kb W → J [] W →
      CallsIn Fence.wide (n - 1) P gf (#[.func (.yield l) #[] #[]] ++ lb) W fun e W' => (∃ v, e = .returned v) ∧ J xs W')
    (hSt : ∀ W W', St W W' → ∀ (r : Nat) (o : Obj), w.heap.size ≤ r → W.heap[r]? = some o → o.isCells = false → W'.heap[r]? = some o) (hISt : ∀ pre W W', I pre W → St W W' → I pre W')
    (hIb : ∀ pre W W', I pre W → Below W.heap.size W W' → I pre W') (hIp : ∀ pre W (r : Nat) (o o' : Obj), I pre W → w.heap.size ≤ r → W.heap[r]? = some o → o.isCells = false → I pre (W.putObj r o'))
    (hKb : ∀ W', Below w.heap.size w W' → Kb W') (hKt : ∀ {A B C : World}, Kp A B → Kp B C → Kp A C) (hKp : ∀ W (r : Nat) (o' : Obj), w.heap.size ≤ r → Kp W (W.putObj r o'))
    (h0 : I [] w)
    (hassign : ∀ (l : Nat) (x : ByteArray) (W : World) (K : Act → World → Prop), K (a₁ x) W →
      assign.wpIn (Fence.wide.inRound l) (n - 1 - 1) P (Exit.then K (fun _ _ _ => False)) { tmps := (#[p].zip #[Value.string x]).foldl (fun t (q, v) => t.setIfInBounds q v) a.tmps, defers := [] } W)
    (hbody : ∀ (l : Nat) (pre : List ByteArray) (x : ByteArray) (W : World), I pre W → pre.length < xs.length →
      body.wpIn (Fence.wide.inRound l) (n - 1 - 1) P (fun e _ W' => e = .normal ∧ KeepsFrom w.heap.size W W' ∧ I (pre ++ [x]) W' ∧ Kp W W') (a₁ x) W)
    (hdone : ∀ (D : Nat) (W : World), w.heap.size ≤ D → I xs W → W.heap[D]? = some (.deferred (some [])) → Q .normal { a with defers := { target := .collected D, args := #[] } :: a.defers } W) :
    (Code.rangeFunc g #[p] assign body).wpIn Fence.wide n P Q a w := by
  refine wpIn_rangeFunc ?_
  intro fn hfn
  obtain ⟨rec, hrec⟩ : ∃ rec : LoopState → Loop, rec = fun st => { state := st, pending := none, fn, tmps := a.tmps, params := #[p], assign, body, defers := w.heap.size } := ⟨_, rfl⟩
  obtain ⟨W1, hW1⟩ : ∃ W1, (w.alloc (.deferred (some []))).alloc (.loop (rec .ready)) = W1 := ⟨_, rfl⟩
  have hb1 : Below w.heap.size w W1 := by rw [← hW1]; exact ((Below.refl _ w).alloc (Nat.le_refl _) _).alloc (by simp) _
  have hL1 : W1.heap[w.heap.size + 1]? = some (.loop (rec .ready)) := by
    rw [← hW1]
    have h := World.alloc_heap_new (w.alloc (.deferred (some []))) (.loop (rec .ready))
    rwa [World.size_alloc] at h
  have hK1 : W1.heap[w.heap.size]? = some (.deferred (some [])) := by
    rw [← hW1]; exact (Below.heap_alloc _ _ _ (by simp)).trans (World.alloc_heap_new w _)
  refine ⟨w.heap.size + 1, [{ target := .collected w.heap.size, args := #[] }], W1, { target := .fn (.func gf) lb, args := #[.func (.yield (w.heap.size + 1)) #[] #[]] }, W1, gf,
    #[.func (.yield (w.heap.size + 1)) #[] #[]] ++ lb, W1, by rw [← hW1, hrec]; exact run_enterLoop_outer _ _ _ _ _, ?_, fun _ _ => trivial, ?_, fun _ => by omega, ?_⟩
  · simp only [resolve, hg]
    simp [go_sem]
  · simp [invoke, go_sem, eg]
  · refine (hseq (w.heap.size + 1) (fun pre W => I pre W ∧ W.heap[w.heap.size + 1]? = some (.loop (rec .ready)) ∧ W.heap[w.heap.size]? = some (.deferred (some []))) ?_ ?_ W1 (hKb _ hb1) ⟨hIb _ _ _ h0 hb1, hL1, hK1⟩).mono ?_
    · rintro pre x W ⟨hi, hl, hk⟩ hlen
      have hlt : w.heap.size + 1 < W.heap.size := (Array.getElem?_eq_some_iff.1 hl).1
      have hy := run_yield (P := P) (args := #[.string x]) hl (by rw [hrec]; rfl)
      rw [hrec] at hy
      refine ⟨fn, _, assign, body, hy, roundIn_of_wpIn hfn ?_⟩
      refine hassign _ x W _ ?_
      refine ⟨_, run_beginRound hl (by rw [hrec]), ?_⟩
      have hl2 : (W.putObj (w.heap.size + 1) (.loop { rec .ready with state := .busy })).heap[w.heap.size + 1]? = some (.loop { rec .ready with state := .busy }) := World.putObj_heap_same hlt
      have hk2 : (W.putObj (w.heap.size + 1) (.loop { rec .ready with state := .busy })).heap[w.heap.size]? = some (.deferred (some [])) := (World.putObj_heap_other (by omega)).trans hk
      refine wpIn_mono (hbody _ pre x _ (hIp _ _ _ _ _ hi (by omega) hl rfl) hlen) ?_
      rintro e a3 W3 ⟨rfl, hkf, hi3, hkp⟩
      have hl3 := hkf.same _ _ (by omega) hl2 rfl
      have hk3 := hkf.same _ _ (Nat.le_refl _) hk2 rfl
      have hre : ({ { rec .ready with state := .busy } with state := if (none : Option Code).isNone then LoopState.ready else .done, pending := none } : Loop) = rec .ready := by rw [hrec]; rfl
      refine ⟨_, _, run_endRound none hl3, rfl, ⟨hIp _ _ _ _ _ hi3 (by omega) hl3 rfl, ?_, ?_⟩, hKt (hKp _ _ _ (by omega)) (hKt hkp (hKp _ _ _ (by omega)))⟩
      · rw [hre]; exact World.putObj_heap_same (Array.getElem?_eq_some_iff.1 hl3).1
      · exact (World.putObj_heap_other (by omega)).trans hk3
    · rintro pre W W' ⟨hi, hl, hk⟩ hs
      exact ⟨hISt _ _ _ hi hs, hSt _ _ hs _ _ (by omega) hl rfl, hSt _ _ hs _ _ (Nat.le_refl _) hk rfl⟩
    · rintro e W2 ⟨⟨v, rfl⟩, hi, hl, hk⟩
      have hr := run_endLoop (P := P) hl (by rw [hrec]; simp)
      rw [show (rec .ready).pending = none by rw [hrec]] at hr
      exact ⟨none, _, hr, hdone _ _ (Nat.le_refl _) (hIp _ _ _ _ _ hi (by omega) hl rfl) ((World.putObj_heap_other (by omega)).trans hk)⟩
/-- What an iterator does between two rounds: it stores in its own box, and lays new blocks. -/
def StepB (Bs : Nat) (W W' : World) : Prop := Below W.heap.size W W' ∨ ∃ u v, Go.Boxed W Bs 9 u ∧ W' = W.setCell ⟨Bs, 0, none⟩ v
set_option maxHeartbeats 2000000 in
set_option maxRecDepth 100000 in
/-- The loop that gathers what an iterator tells, whose text lies in box Bs. -/
theorem text_gather.calls {gf : Nat} (n₀ Bs : Nat) (ptr : Value) (L : List ByteArray) (hL : L.length ≤ 1000000) (eg : ∀ args w, (callFunc gf args).run Tryd.prog w = .ok (.enter gf args) w) (v0 : Value) (w : World) (hn₀ : n₀ ≤ Bs) (hb : Go.Boxed w Bs 9 v0)
    (hseq : ∀ (l : Nat) (J : List ByteArray → World → Prop),
      (∀ pre x W, J pre W → pre.length < L.length → YieldAt Fence.wide 3 Tryd.prog l #[.string x] W fun e W' => e = .returned (.bool true) ∧ J (pre ++ [x]) W' ∧ ∀ v, Go.Boxed W Bs 9 v → Go.Boxed W' Bs 9 v) →
      (∀ pre W W', J pre W → StepB Bs W W' → J pre W') → ∀ W, Go.Boxed W Bs 9 v0 → J [] W →
      CallsIn Fence.wide 4 Tryd.prog gf (#[.func (.yield l) #[] #[]] ++ #[ptr]) W fun e W' => (∃ v, e = .returned v) ∧ J L W') :
    Calls Tryd.prog 18 #[.func (.func gf) #[] #[ptr]] w fun e w' => ∃ v0_ : Value, e = .returned (v0_) ∧ Kd.R Kd.string 9 w' w.heap.size (fun _ => True) v0_ L ∧ Below n₀ w w' := by
  obtain ⟨i0, hi, hz0, hz1, hz2⟩ := info_parts (show (Tryd.prog.info? 9).map (fun i => (i.zero, i.size, i.bytes)) = some (some (.string ⟨#[]⟩), 1, 16) by kernel_rfl)
  refine (callsIn_wide (n := 5)).1 ?_
  refine callsIn_of_wp_marks Tryd.func18 rfl trivial ?_ rfl
  simp only [Tryd.ntmps18, List.append_toArray, List.cons_append, List.nil_append, List.size_toArray, List.length_cons, List.length_nil, Nat.reduceAdd, Nat.reduceSub, Array.replicate_succ, Array.replicate_zero, List.push_toArray]
  gi_wp2
  have hlt := hb.lt
  have bO : Go.Boxed (w.alloc (.cells #[.slice none 0 0] 34)) w.heap.size 34 (.slice none 0 0) := Boxed.new _ _ _
  have hB0 : Below w.heap.size w (w.alloc (.cells #[.slice none 0 0] 34)) := (Below.refl _ w).alloc (Nat.le_refl _) _
  refine range_told 5 (by omega) (gf := gf) (lb := #[ptr]) rfl eg L (StepB Bs) (fun W W' => ∀ v, Go.Boxed W Bs 9 v → Go.Boxed W' Bs 9 v) (fun W => Go.Boxed W Bs 9 v0)
    (fun pre W => (∃ v, Go.Boxed W w.heap.size 34 v ∧ W.ownsRow w.heap.size 9 1 v pre.length (pre.map Value.string)) ∧ Below n₀ w W ∧ w.heap.size < W.heap.size) ?a1 hseq ?st ?ist ?ib ?ip ?kb ?kt ?kp ?i0 ?assign ?body ?done
  case a1 => exact fun x => { tmps := #[.func (.func gf) #[] #[ptr], undef, .slice none 0 0, .pointer (some ⟨w.heap.size, 0, none⟩), .string x, .func (.func gf) #[] #[ptr], .string x, undef, undef, undef, undef, undef], defers := [] }
  case assign =>
    intro l x W K hK
    gi_wp2
    exact hK
  case st =>
    rintro W W' (h | ⟨u, v, hu, rfl⟩) r o hr ho hc
    · exact (h.block r (Array.getElem?_eq_some_iff.1 ho).1).trans ho
    · refine (Below.heap_setCell _ _ _ _ ?_).trans ho
      simp only [World.size_alloc] at hr
      show r ≠ Bs
      omega
  case ist =>
    rintro pre W W' ⟨⟨v, hv, hrow⟩, hB, hsz⟩ (h | ⟨u, v', hu, rfl⟩)
    · exact ⟨⟨v, (h.block _ hv.lt).trans hv, pw_own_below hrow h⟩, hB.trans (h.mono (by omega)), Nat.lt_of_lt_of_le hsz h.size⟩
    · exact ⟨⟨v, hv.other (by omega) _, ownsRow_setCell_below hrow hlt _⟩, hB.setCell (p := ⟨Bs, 0, none⟩) hn₀ _, by simpa [World.setCell] using hsz⟩
  case ib =>
    rintro pre W W' ⟨⟨v, hv, hrow⟩, hB, hsz⟩ h
    exact ⟨⟨v, (h.block _ hv.lt).trans hv, pw_own_below hrow h⟩, hB.trans (h.mono (by omega)), Nat.lt_of_lt_of_le hsz h.size⟩
  case ip =>
    rintro pre W r o o' ⟨⟨v, hv, hrow⟩, hB, hsz⟩ hr ho hc
    simp only [World.size_alloc] at hr
    exact ⟨⟨v, (World.putObj_heap_other (by omega)).trans hv, ownsRow_putObj hrow _ ho hc⟩, hB.trans ⟨rfl, rfl, rfl, by simp, fun k hk => World.putObj_heap_other (by omega)⟩, by simpa using hsz⟩
  case kb => exact fun W' h => (h.block _ (by simp; omega)).trans (hb.alloc _)
  case kt => exact fun h k v hv => k v (h v hv)
  case kp =>
    intro W r o' hr v hv
    simp only [World.size_alloc] at hr
    exact (World.putObj_heap_other (by omega)).trans hv
  case i0 => exact ⟨⟨_, bO, World.ownsRow_nil _ _ _ _⟩, hB0.mono (by omega), by simp⟩
  case body =>
    rintro l pre x W ⟨⟨v, hv, hrow⟩, hB, hsz⟩ hlt2
    have hc := hv.cell
    have hf := hv.frozen
    have hm : pre.length + 1 ≤ maxLen := by unfold maxLen; omega
    gi_wp2_with (gi_at_builtin; refine wpListIn_append_own _ rfl _ _ 34 rfl w.heap.size 9 i0 (.string ⟨#[]⟩) 1 16 Tryd.underlying34 hi hz0 hz1 hz2 rfl (by decide) _ _ _ rfl (hrow.alloc _) ⟨W.heap.size, 0, none⟩ 1 1 [.string x] rfl rfl (cell_one_new _ _ _) (by simp [Value.oneCell']) (by omega) (by omega) (by simp; omega) ?_; intro v' w1 hown' hgrow _; obtain ⟨g', cap', rfl⟩ := ownsRow_succ hown'; obtain ⟨hv1, hv2, hr2, hk2, hb2⟩ := hv.appended (by decide) hrow (by omega) (Nat.le_refl _) hown' hgrow; have hc1 := hv1.cell; have hf1 := hv1.frozen)
    exact ⟨hk2.from _, ⟨⟨_, hv2, by simpa using hr2⟩, hB.trans (hb2.mono (by omega)), by have h := hb2.size; simp [World.setCell] at h ⊢; omega⟩, fun u hu => (hb2.block _ hlt).trans hu⟩
  case done =>
    rintro D W hD ⟨⟨v, hv, hrow⟩, hB, hsz⟩ hK
    have hc := hv.cell
    have hf := hv.frozen
    simp only [World.size_alloc] at hD
    gi_wp2
    refine ⟨by simp, .inl ⟨_, _, rfl, run_takeDeferred hK, ?_⟩⟩
    exact ⟨_, results_tmp rfl _ _ _, v, rfl, Kd.R_of_own (ownsRow_putObj hrow _ hK rfl) (fun _ _ => trivial), hB.trans ⟨rfl, rfl, rfl, by simp, fun k hk => World.putObj_heap_other (by omega)⟩⟩
end
set_option maxHeartbeats 2000000 in
set_option maxRecDepth 100000 in
theorem text_Lines.calls (a0 : ByteArray) (r : List ByteArray) (w : World) (h : text_Lines.f a0 = some r) :
    Calls Tryd.prog 11 #[.string a0] w fun e w' => ∃ v0_ : Value, e = .returned (v0_) ∧ Kd.R Kd.string 9 w' w.heap.size (fun _ => True) v0_ r ∧ Below w.heap.size w w' := by
  unfold text_Lines.f at h
  by_cases c : a0.size ≤ 1000000
  · rw [if_pos c] at h
    obtain rfl := Option.some.inj h
    clear h
    have hlen : ((Pl.linesL (Pl.bl a0)).map Pl.ofL).length ≤ 1000000 := by
      have h1 := Pl.linesL_len (Pl.bl a0)
      rw [← Pl.bl_size] at h1
      rw [List.length_map]
      omega
    have hlines : Calls Tryd.prog 19 #[.string a0] w fun e w' => e = .returned (.func (.func 30) #[] #[.pointer (some ⟨w.heap.size, 0, none⟩)]) ∧ w' = w.alloc (.cells #[.string a0] 9) := by
      go_enter Tryd.func19, Tryd.ntmps19
      go_wp2
      go_ret
      exact ⟨rfl, rfl⟩
    have hg := text_gather.calls (gf := 30) w.heap.size w.heap.size (.pointer (some ⟨w.heap.size, 0, none⟩)) _ hlen (enters_of Tryd.func30 (by kernel_rfl) rfl) (.string a0) (w.alloc (.cells #[.string a0] 9)) (Nat.le_refl _) (Boxed.new _ _ _)
      (fun l J hY hS W hb h0 => text_Lines.iter 4 (by omega) l w.heap.size a0 c J (by simpa using hY) (fun pre W u v hj hb => hS _ _ _ hj (.inr ⟨u, v, hb, rfl⟩)) (fun pre W W' hj hb => hS _ _ _ hj (.inl hb)) W hb h0)
    generalize (Pl.linesL (Pl.bl a0)).map Pl.ofL = L at hg hlen
    go_enter Tryd.func11, Tryd.ntmps11
    go_wp2_with (first | (go_at_call 19; refine hlines.mono ?_; rintro e w' ⟨rfl, rfl⟩) | (go_at_call 18; refine hg.mono ?_; rintro e w' ⟨v, rfl, hR, hB⟩))
    go_ret
    exact ⟨v, rfl, Kd.R_lower hR (by simp), ((Below.refl _ w).alloc (Nat.le_refl _) _).trans hB⟩
  · rw [if_neg c] at h
    exact absurd h (by simp)


/-! ### stringslite_HasPrefix: function 20 -/
def stringslite_HasPrefix.f (a0 : ByteArray) (a1 : ByteArray) : Option (Bool) := if (a0.size : Int) ≥ (a1.size : Int) then (if 0 ≤ (a1.size : Int) then (if (a1.size : Int) ≤ (a0.size : Int) then (some ((a0.extract 0 ((a1.size : Int) : Int).toNat).toList == a1.toList)) else (none)) else (none)) else (some false)
set_option maxHeartbeats 8000000 in
set_option maxRecDepth 100000 in
theorem stringslite_HasPrefix.calls (a0 : ByteArray) (a1 : ByteArray) (r : Bool) (w : World) (h : stringslite_HasPrefix.f a0 a1 = some r) :
  Calls Tryd.prog 20 #[.string a0, .string a1] w fun e w' => e = .returned (.bool r) ∧ Drawn0 w w' := by
 have H : (if (a0.size : Int) ≥ (a1.size : Int) then (if 0 ≤ (a1.size : Int) then (if (a1.size : Int) ≤ (a0.size : Int) then (some ((a0.extract 0 ((a1.size : Int) : Int).toNat).toList == a1.toList)) else (none)) else (none)) else (some false)) = some r := h
 clear h
 by_cases c3 : (a0.size : Int) ≥ (a1.size : Int)
 ·rw [if_pos c3] at H
  have c3b0 : decide ((a1.size : Int) ≤ (a0.size : Int)) = true := decide_eq_true c3
  have c3b1 : decide (a1.size ≤ a0.size) = true := decide_eq_true (Int.ofNat_le.mp c3)
  clear c3
  by_cases c4 : 0 ≤ (a1.size : Int)
  ·rw [if_pos c4] at H
   have c4b0 := eq_true c4
   have c4b1 : decide (0 ≤ (a1.size : Int)) = true := decide_eq_true c4
   clear c4
   by_cases c5 : (a1.size : Int) ≤ (a0.size : Int)
   ·rw [if_pos c5] at H
    have c5b0 := eq_true c5
    have c5b1 : decide ((a1.size : Int) ≤ (a0.size : Int)) = true := decide_eq_true c5
    clear c5
    obtain rfl := Option.some.inj H
    go_enter Tryd.func20, Tryd.ntmps20
    go_wp2
    go_ret
    exact ⟨by first | rfl | (simp; done) | (simp [*]; done), by repeat (first | exact Drawn0.refl _ | apply Drawn0.step)⟩
   ·rw [if_neg c5] at H
    exact absurd H (by simp)
  ·rw [if_neg c4] at H
   exact absurd H (by simp)
 ·rw [if_neg c3] at H
  have c3b0 : decide ((a1.size : Int) ≤ (a0.size : Int)) = false := decide_eq_false c3
  have c3b1 : decide (a1.size ≤ a0.size) = false := decide_eq_false (fun h => c3 (Int.ofNat_le.mpr h))
  clear c3
  obtain rfl := Option.some.inj H
  go_enter Tryd.func20, Tryd.ntmps20
  go_wp2
  go_ret
  exact ⟨by first | rfl | (simp; done) | (simp [*]; done), by repeat (first | exact Drawn0.refl _ | apply Drawn0.step)⟩

/-! ### strings_HasPrefix: function 12 -/
def strings_HasPrefix.f (a0 : ByteArray) (a1 : ByteArray) : Option (Bool) := (stringslite_HasPrefix.f a0 a1).bind fun t105 => (some t105)
set_option maxHeartbeats 8000000 in
set_option maxRecDepth 100000 in
theorem strings_HasPrefix.calls (a0 : ByteArray) (a1 : ByteArray) (r : Bool) (w : World) (h : strings_HasPrefix.f a0 a1 = some r) :
  Calls Tryd.prog 12 #[.string a0, .string a1] w fun e w' => e = .returned (.bool r) ∧ Drawn0 w w' := by
 have H : ((stringslite_HasPrefix.f a0 a1).bind fun t105 => (some t105)) = some r := h
 clear h
 replace H := Option.bind_eq_some_iff.mp H
 obtain ⟨t105, A30, H⟩ := H
 replace H : (some t105) = some r := H
 have A3 := Aside0.mk A30
 clear A30
 obtain rfl := Option.some.inj H
 go_enter Tryd.func12, Tryd.ntmps12
 go_wp2_with (first | ((with_reducible refine gate_callee (f := 20) rfl ?_); refine goesL_ (some 7) rfl rfl Tryd.func20 (by kernel_rfl) rfl #[.string a0, .string a1] rfl zA ?_; (with_reducible refine (stringslite_HasPrefix.calls a0 a1 t105 _ A3.out).mono ?_); rintro e w' ⟨rfl, ⟨nd, rfl⟩⟩; refine ⟨_, rfl, ?_⟩))
 go_ret
 exact ⟨by first | rfl | (simp; done) | (simp [*]; done), by repeat (first | exact Drawn0.refl _ | apply Drawn0.step)⟩

/-! ### strings_TrimRight: function 15 -/
/-- strings.TrimRight at a short cutset of ASCII bytes. -/
def strings_TrimRight.f (a0 : ByteArray) (a1 : ByteArray) : Option (ByteArray) := if a0.size ≤ 9223372036854775807 ∧ a1.size < 100 ∧ a1.data.toList.all (fun b => decide (b.toNat < 128)) = true then some ⟨(Lib.trimRightS a0.data.toList a1.data.toList).toArray⟩ else none
def lays162_ren : Go.Shelf.Ren := ⟨fun | 162 => 15 | 232 => 25 | 227 => 22 | 234 => 26 | 236 => 27 | 228 => 31 | 271 => 34 | 151 => 33 | 120 => 38 | 197 => 32 | 152 => 37 | 260 => 36 | 137 => 43 | 119 => 44 | 224 => 41 | 225 => 40 | 217 => 39 | 266 => 45 | n => n, fun | 9 => 9 | 4 => 4 | 3 => 3 | 5 => 5 | 117 => 49 | 116 => 48 | 0 => 0 | 124 => 52 | 21 => 21 | 105 => 54 | 46 => 61 | 119 => 62 | 139 => 65 | 138 => 64 | n => n, fun | 3 => 1 | 4 => 2 | n => n⟩
theorem lays162 : Lays.n162 Tryd.prog lays162_ren := {
  mixed := by kernel_rfl,
  f119 := Tryd.func44.trans (congrArg some (by kernel_rfl)),
  f120 := Tryd.func38.trans (congrArg some (by kernel_rfl)),
  f137 := Tryd.func43.trans (congrArg some (by kernel_rfl)),
  f151 := Tryd.func33.trans (congrArg some (by kernel_rfl)),
  f152 := Tryd.func37.trans (congrArg some (by kernel_rfl)),
  f162 := Tryd.func15.trans (congrArg some (by kernel_rfl)),
  f197 := Tryd.func32.trans (congrArg some (by kernel_rfl)),
  f217 := Tryd.func39.trans (congrArg some (by kernel_rfl)),
  f224 := Tryd.func41.trans (congrArg some (by kernel_rfl)),
  f225 := Tryd.func40.trans (congrArg some (by kernel_rfl)),
  f227 := Tryd.func22.trans (congrArg some (by kernel_rfl)),
  f228 := Tryd.func31.trans (congrArg some (by kernel_rfl)),
  f232 := Tryd.func25.trans (congrArg some (by kernel_rfl)),
  f234 := Tryd.func26.trans (congrArg some (by kernel_rfl)),
  f236 := Tryd.func27.trans (congrArg some (by kernel_rfl)),
  f260 := Tryd.func36.trans (congrArg some (by kernel_rfl)),
  f266 := Tryd.func45.trans (congrArg some (by kernel_rfl)),
  f271 := Tryd.func34.trans (congrArg some (by kernel_rfl)),
  t0 := Tryd.underlying0,
  a0 := Tryd.isAgg0,
  z0 := Tryd.sizeOf0,
  v0 := Tryd.zeroValue0,
  t3 := Tryd.underlying3,
  a3 := Tryd.isAgg3,
  z3 := Tryd.sizeOf3,
  v3 := Tryd.zeroValue3,
  t4 := Tryd.underlying4,
  a4 := Tryd.isAgg4,
  z4 := Tryd.sizeOf4,
  v4 := Tryd.zeroValue4,
  t5 := Tryd.underlying5,
  a5 := Tryd.isAgg5,
  z5 := Tryd.sizeOf5,
  v5 := Tryd.zeroValue5,
  t9 := Tryd.underlying9,
  a9 := Tryd.isAgg9,
  z9 := Tryd.sizeOf9,
  v9 := Tryd.zeroValue9,
  t21 := Tryd.underlying21,
  a21 := Tryd.isAgg21,
  z21 := Tryd.sizeOf21,
  v21 := Tryd.zeroValue21,
  t46 := Tryd.underlying61,
  a46 := Tryd.isAgg61,
  z46 := Tryd.sizeOf61,
  v46 := Tryd.zeroValue61,
  t105 := Tryd.underlying54,
  a105 := Tryd.isAgg54,
  z105 := Tryd.sizeOf54,
  v105 := Tryd.zeroValue54,
  t116 := Tryd.underlying48,
  a116 := Tryd.isAgg48,
  z116 := Tryd.sizeOf48,
  t117 := Tryd.underlying49,
  a117 := Tryd.isAgg49,
  z117 := Tryd.sizeOf49,
  v117 := Tryd.zeroValue49,
  t119 := Tryd.underlying62,
  a119 := Tryd.isAgg62,
  z119 := Tryd.sizeOf62,
  t124 := Tryd.underlying52,
  a124 := Tryd.isAgg52,
  z124 := Tryd.sizeOf52,
  v124 := Tryd.zeroValue52,
  t138 := Tryd.underlying64,
  a138 := Tryd.isAgg64,
  z138 := Tryd.sizeOf64,
  v138 := Tryd.zeroValue64,
  t139 := Tryd.underlying65,
  a139 := Tryd.isAgg65,
  z139 := Tryd.sizeOf65,
  v139 := Tryd.zeroValue65,
  g3 := by kernel_rfl,
  g4 := by kernel_rfl }
set_option maxHeartbeats 1000000 in
theorem strings_TrimRight.calls (a0 : ByteArray) (a1 : ByteArray) (r : ByteArray) (w : World) (h : strings_TrimRight.f a0 a1 = some r) :
    Calls Tryd.prog 15 #[.string a0, .string a1] w fun e w' => e = .returned (.string r) ∧ Below w.heap.size w w' := by
  unfold strings_TrimRight.f at h
  by_cases c : a0.size ≤ 9223372036854775807 ∧ a1.size < 100 ∧ a1.data.toList.all (fun b => decide (b.toNat < 128)) = true
  · rw [if_pos c] at h
    obtain rfl := Option.some.inj h
    have hcon := Any.strings_TrimRight_laid lays162 (by kernel_rfl) a0 a1 w c.1 (by omega) (ascii_of_all c.2.2)
    exact hcon
  · rw [if_neg c] at h
    exact absurd h (by simp)



/-! ### lex_goes: function 13 -/
def lex_goes.f (a0 : ByteArray) : Option (ByteArray × Bool) := (strings_TrimRight.f a0 (⟨#[92]⟩ : ByteArray)).bind fun t106 => (if (Int.tmod (wrap64 ((a0.size : Int) - (t106.size : Int))) 2) = 0 then (some (a0, false)) else (if 0 ≤ (wrap64 ((a0.size : Int) - 1)) then (if (wrap64 ((a0.size : Int) - 1)) ≤ (a0.size : Int) then (some (a0.extract 0 ((wrap64 ((a0.size : Int) - 1)) : Int).toNat, true)) else (none)) else (none)))
set_option maxHeartbeats 8000000 in
set_option maxRecDepth 100000 in
theorem lex_goes.calls (a0 : ByteArray) (r1 : ByteArray) (r2 : Bool) (w : World) (h : lex_goes.f a0 = some (r1, r2)) :
  Calls Tryd.prog 13 #[.string a0] w fun e w' => e = .returned (.tuple #[.string r1, .bool r2]) ∧ Below w.heap.size w w' := by
 have HB := Aside0.mk (Below.refl w.heap.size w)
 have H : ((strings_TrimRight.f a0 (⟨#[92]⟩ : ByteArray)).bind fun t106 => (if (Int.tmod (wrap64 ((a0.size : Int) - (t106.size : Int))) 2) = 0 then (some (a0, false)) else (if 0 ≤ (wrap64 ((a0.size : Int) - 1)) then (if (wrap64 ((a0.size : Int) - 1)) ≤ (a0.size : Int) then (some (a0.extract 0 ((wrap64 ((a0.size : Int) - 1)) : Int).toNat, true)) else (none)) else (none)))) = some (r1, r2) := h
 clear h
 replace H := Option.bind_eq_some_iff.mp H
 obtain ⟨t106, A20, H⟩ := H
 replace H : (if (Int.tmod (wrap64 ((a0.size : Int) - (t106.size : Int))) 2) = 0 then (some (a0, false)) else (if 0 ≤ (wrap64 ((a0.size : Int) - 1)) then (if (wrap64 ((a0.size : Int) - 1)) ≤ (a0.size : Int) then (some (a0.extract 0 ((wrap64 ((a0.size : Int) - 1)) : Int).toNat, true)) else (none)) else (none))) = some (r1, r2) := H
 have A2 := Aside0.mk A20
 clear A20
 by_cases c3 : (Int.tmod (wrap64 ((a0.size : Int) - (t106.size : Int))) 2) = 0
 ·rw [if_pos c3] at H
  have c3b0 : ((Int.tmod (wrap64 ((a0.size : Int) - (t106.size : Int))) 2) == 0) = true := beq_iff_eq.mpr c3
  have c3b1 : ((Int.tmod (wrap64 ((a0.size : Int) - (t106.size : Int))) 2) != 0) = false := bne_eq_false_iff_eq.mpr c3
  clear c3
  simp only [Option.some.injEq, Prod.mk.injEq] at H
  obtain ⟨rfl, rfl⟩ := H
  go_enter Tryd.func13, Tryd.ntmps13
  go_wp2_with (first | ((with_reducible refine gate_callee (f := 15) rfl ?_); refine goesL_ (some 6) rfl rfl Tryd.func15 (by kernel_rfl) rfl #[.string a0, .string (⟨#[92]⟩ : ByteArray)] rfl zA ?_; (with_reducible refine (strings_TrimRight.calls a0 (⟨#[92]⟩ : ByteArray) t106 _ A2.out).mono ?_); rintro e w4 ⟨rfl, hb⟩; refine ⟨_, rfl, ?_⟩; have n0_ := Aside0.mk (below_step (zL HB.out) hb); revert n0_; clear HB; intro HB; (try clear hb); (try clear hb2); (try clear hk); (try clear hi)))
  go_ret2
  exact ⟨zE, zL HB.out⟩
 ·rw [if_neg c3] at H
  have c3b0 : ((Int.tmod (wrap64 ((a0.size : Int) - (t106.size : Int))) 2) == 0) = false := beq_eq_false_iff_ne.mpr c3
  have c3b1 : ((Int.tmod (wrap64 ((a0.size : Int) - (t106.size : Int))) 2) != 0) = true := bne_iff_ne.mpr c3
  obtain ⟨ji5, hji5⟩ : ∃ j_ : Int, (wrap64 ((a0.size : Int) - 1)) = j_ := ⟨_, rfl⟩
  replace H : (if 0 ≤ (ji5) then (if (ji5) ≤ (a0.size : Int) then (some (a0.extract 0 ((ji5) : Int).toNat, true)) else (none)) else (none)) = some (r1, r2) := by first | (rw [hji5] at H; exact H) | (simp only [hji5] at H ⊢; exact H)
  (try rw [hji5] at A2)
  have hji5w : (IntKind.i64.wrap ((a0.size : Int) - 1)) = ji5 := (i64_w _).trans hji5
  by_cases c6 : 0 ≤ (ji5)
  ·rw [if_pos c6] at H
   have c6b0 := eq_true c6
   have c6b1 : decide (0 ≤ (ji5)) = true := decide_eq_true c6
   clear c6
   by_cases c7 : (ji5) ≤ (a0.size : Int)
   ·rw [if_pos c7] at H
    have c7b0 := eq_true c7
    have c7b1 : decide ((ji5) ≤ (a0.size : Int)) = true := decide_eq_true c7
    clear c7
    simp only [Option.some.injEq, Prod.mk.injEq] at H
    obtain ⟨rfl, rfl⟩ := H
    go_enter Tryd.func13, Tryd.ntmps13
    go_wp2_with (first | ((with_reducible refine gate_callee (f := 15) rfl ?_); refine goesL_ (some 6) rfl rfl Tryd.func15 (by kernel_rfl) rfl #[.string a0, .string (⟨#[92]⟩ : ByteArray)] rfl zA ?_; (with_reducible refine (strings_TrimRight.calls a0 (⟨#[92]⟩ : ByteArray) t106 _ A2.out).mono ?_); rintro e w8 ⟨rfl, hb⟩; refine ⟨_, rfl, ?_⟩; have n0_ := Aside0.mk (below_step (zL HB.out) hb); revert n0_; clear HB; intro HB; (try clear hb); (try clear hb2); (try clear hk); (try clear hi)))
    go_ret2
    exact ⟨by first | rfl | (simp [errW_none, errW_some] <;> rfl) | (simp only [← hji5]; first | rfl | (simp [errW_none, errW_some] <;> rfl)) | (simp [*, errW_none, errW_some] <;> rfl), zL HB.out⟩
   ·rw [if_neg c7] at H
    exact absurd H (by simp)
  ·rw [if_neg c6] at H
   exact absurd H (by simp)

/-! ### strings_TrimLeft: function 14 -/
/-- strings.TrimLeft at a short cutset of ASCII bytes. -/
def strings_TrimLeft.f (a0 : ByteArray) (a1 : ByteArray) : Option (ByteArray) := if a1.size < 100 ∧ a1.data.toList.all (fun b => decide (b.toNat < 128)) = true then some ⟨(Lib.trimLeftS a0.data.toList a1.data.toList).toArray⟩ else none
def lays161_ren : Go.Shelf.Ren := ⟨fun | 161 => 14 | 231 => 21 | 227 => 22 | 233 => 23 | 235 => 24 | 228 => 31 | 197 => 32 | 151 => 33 | 260 => 36 | 152 => 37 | 137 => 43 | 119 => 44 | 224 => 41 | 225 => 40 | 217 => 39 | 266 => 45 | n => n, fun | 9 => 9 | 4 => 4 | 3 => 3 | 5 => 5 | 117 => 49 | 116 => 48 | 0 => 0 | 124 => 52 | 105 => 54 | 21 => 21 | 119 => 62 | 46 => 61 | 139 => 65 | 138 => 64 | n => n, fun | 3 => 1 | 4 => 2 | n => n⟩
theorem lays161 : Lays.n161 Tryd.prog lays161_ren := {
  mixed := by kernel_rfl,
  f119 := Tryd.func44.trans (congrArg some (by kernel_rfl)),
  f137 := Tryd.func43.trans (congrArg some (by kernel_rfl)),
  f151 := Tryd.func33.trans (congrArg some (by kernel_rfl)),
  f152 := Tryd.func37.trans (congrArg some (by kernel_rfl)),
  f161 := Tryd.func14.trans (congrArg some (by kernel_rfl)),
  f197 := Tryd.func32.trans (congrArg some (by kernel_rfl)),
  f217 := Tryd.func39.trans (congrArg some (by kernel_rfl)),
  f224 := Tryd.func41.trans (congrArg some (by kernel_rfl)),
  f225 := Tryd.func40.trans (congrArg some (by kernel_rfl)),
  f227 := Tryd.func22.trans (congrArg some (by kernel_rfl)),
  f228 := Tryd.func31.trans (congrArg some (by kernel_rfl)),
  f231 := Tryd.func21.trans (congrArg some (by kernel_rfl)),
  f233 := Tryd.func23.trans (congrArg some (by kernel_rfl)),
  f235 := Tryd.func24.trans (congrArg some (by kernel_rfl)),
  f260 := Tryd.func36.trans (congrArg some (by kernel_rfl)),
  f266 := Tryd.func45.trans (congrArg some (by kernel_rfl)),
  t0 := Tryd.underlying0,
  a0 := Tryd.isAgg0,
  z0 := Tryd.sizeOf0,
  v0 := Tryd.zeroValue0,
  t3 := Tryd.underlying3,
  a3 := Tryd.isAgg3,
  z3 := Tryd.sizeOf3,
  v3 := Tryd.zeroValue3,
  t4 := Tryd.underlying4,
  a4 := Tryd.isAgg4,
  z4 := Tryd.sizeOf4,
  v4 := Tryd.zeroValue4,
  t5 := Tryd.underlying5,
  a5 := Tryd.isAgg5,
  z5 := Tryd.sizeOf5,
  v5 := Tryd.zeroValue5,
  t9 := Tryd.underlying9,
  a9 := Tryd.isAgg9,
  z9 := Tryd.sizeOf9,
  v9 := Tryd.zeroValue9,
  t21 := Tryd.underlying21,
  a21 := Tryd.isAgg21,
  z21 := Tryd.sizeOf21,
  v21 := Tryd.zeroValue21,
  t46 := Tryd.underlying61,
  a46 := Tryd.isAgg61,
  z46 := Tryd.sizeOf61,
  v46 := Tryd.zeroValue61,
  t105 := Tryd.underlying54,
  a105 := Tryd.isAgg54,
  z105 := Tryd.sizeOf54,
  v105 := Tryd.zeroValue54,
  t116 := Tryd.underlying48,
  a116 := Tryd.isAgg48,
  z116 := Tryd.sizeOf48,
  t117 := Tryd.underlying49,
  a117 := Tryd.isAgg49,
  z117 := Tryd.sizeOf49,
  v117 := Tryd.zeroValue49,
  t119 := Tryd.underlying62,
  a119 := Tryd.isAgg62,
  z119 := Tryd.sizeOf62,
  t124 := Tryd.underlying52,
  a124 := Tryd.isAgg52,
  z124 := Tryd.sizeOf52,
  v124 := Tryd.zeroValue52,
  t138 := Tryd.underlying64,
  a138 := Tryd.isAgg64,
  z138 := Tryd.sizeOf64,
  v138 := Tryd.zeroValue64,
  t139 := Tryd.underlying65,
  a139 := Tryd.isAgg65,
  z139 := Tryd.sizeOf65,
  v139 := Tryd.zeroValue65,
  g3 := by kernel_rfl,
  g4 := by kernel_rfl }
set_option maxHeartbeats 1000000 in
theorem strings_TrimLeft.calls (a0 : ByteArray) (a1 : ByteArray) (r : ByteArray) (w : World) (h : strings_TrimLeft.f a0 a1 = some r) :
    Calls Tryd.prog 14 #[.string a0, .string a1] w fun e w' => e = .returned (.string r) ∧ Below w.heap.size w w' := by
  unfold strings_TrimLeft.f at h
  by_cases c : a1.size < 100 ∧ a1.data.toList.all (fun b => decide (b.toNat < 128)) = true
  · rw [if_pos c] at h
    obtain rfl := Option.some.inj h
    have hcon := Any.strings_TrimLeft_laid lays161 (by kernel_rfl) a0 a1 w (by omega) (ascii_of_all c.2)
    exact hcon
  · rw [if_neg c] at h
    exact absurd h (by simp)



/-! ### strings_Trim: function 29 -/
/-- strings.Trim at a short cutset of ASCII bytes. -/
def strings_Trim.f (a0 : ByteArray) (a1 : ByteArray) : Option (ByteArray) := if a0.size ≤ 9223372036854775807 ∧ a1.size < 100 ∧ a1.data.toList.all (fun b => decide (b.toNat < 128)) = true then some ⟨(Lib.trimS a0.data.toList a1.data.toList).toArray⟩ else none
def lays160_ren : Go.Shelf.Ren := ⟨fun | 160 => 29 | 232 => 25 | 231 => 21 | 227 => 22 | 234 => 26 | 233 => 23 | 236 => 27 | 235 => 24 | 228 => 31 | 271 => 34 | 151 => 33 | 197 => 32 | 120 => 38 | 152 => 37 | 260 => 36 | 137 => 43 | 119 => 44 | 224 => 41 | 225 => 40 | 217 => 39 | 266 => 45 | n => n, fun | 9 => 9 | 4 => 4 | 3 => 3 | 5 => 5 | 117 => 49 | 116 => 48 | 0 => 0 | 124 => 52 | 21 => 21 | 105 => 54 | 46 => 61 | 119 => 62 | 139 => 65 | 138 => 64 | n => n, fun | 3 => 1 | 4 => 2 | n => n⟩
theorem lays160 : Lays.n160 Tryd.prog lays160_ren := {
  mixed := by kernel_rfl,
  f119 := Tryd.func44.trans (congrArg some (by kernel_rfl)),
  f120 := Tryd.func38.trans (congrArg some (by kernel_rfl)),
  f137 := Tryd.func43.trans (congrArg some (by kernel_rfl)),
  f151 := Tryd.func33.trans (congrArg some (by kernel_rfl)),
  f152 := Tryd.func37.trans (congrArg some (by kernel_rfl)),
  f160 := Tryd.func29.trans (congrArg some (by kernel_rfl)),
  f197 := Tryd.func32.trans (congrArg some (by kernel_rfl)),
  f217 := Tryd.func39.trans (congrArg some (by kernel_rfl)),
  f224 := Tryd.func41.trans (congrArg some (by kernel_rfl)),
  f225 := Tryd.func40.trans (congrArg some (by kernel_rfl)),
  f227 := Tryd.func22.trans (congrArg some (by kernel_rfl)),
  f228 := Tryd.func31.trans (congrArg some (by kernel_rfl)),
  f231 := Tryd.func21.trans (congrArg some (by kernel_rfl)),
  f232 := Tryd.func25.trans (congrArg some (by kernel_rfl)),
  f233 := Tryd.func23.trans (congrArg some (by kernel_rfl)),
  f234 := Tryd.func26.trans (congrArg some (by kernel_rfl)),
  f235 := Tryd.func24.trans (congrArg some (by kernel_rfl)),
  f236 := Tryd.func27.trans (congrArg some (by kernel_rfl)),
  f260 := Tryd.func36.trans (congrArg some (by kernel_rfl)),
  f266 := Tryd.func45.trans (congrArg some (by kernel_rfl)),
  f271 := Tryd.func34.trans (congrArg some (by kernel_rfl)),
  t0 := Tryd.underlying0,
  a0 := Tryd.isAgg0,
  z0 := Tryd.sizeOf0,
  v0 := Tryd.zeroValue0,
  t3 := Tryd.underlying3,
  a3 := Tryd.isAgg3,
  z3 := Tryd.sizeOf3,
  v3 := Tryd.zeroValue3,
  t4 := Tryd.underlying4,
  a4 := Tryd.isAgg4,
  z4 := Tryd.sizeOf4,
  v4 := Tryd.zeroValue4,
  t5 := Tryd.underlying5,
  a5 := Tryd.isAgg5,
  z5 := Tryd.sizeOf5,
  v5 := Tryd.zeroValue5,
  t9 := Tryd.underlying9,
  a9 := Tryd.isAgg9,
  z9 := Tryd.sizeOf9,
  v9 := Tryd.zeroValue9,
  t21 := Tryd.underlying21,
  a21 := Tryd.isAgg21,
  z21 := Tryd.sizeOf21,
  v21 := Tryd.zeroValue21,
  t46 := Tryd.underlying61,
  a46 := Tryd.isAgg61,
  z46 := Tryd.sizeOf61,
  v46 := Tryd.zeroValue61,
  t105 := Tryd.underlying54,
  a105 := Tryd.isAgg54,
  z105 := Tryd.sizeOf54,
  v105 := Tryd.zeroValue54,
  t116 := Tryd.underlying48,
  a116 := Tryd.isAgg48,
  z116 := Tryd.sizeOf48,
  t117 := Tryd.underlying49,
  a117 := Tryd.isAgg49,
  z117 := Tryd.sizeOf49,
  v117 := Tryd.zeroValue49,
  t119 := Tryd.underlying62,
  a119 := Tryd.isAgg62,
  z119 := Tryd.sizeOf62,
  t124 := Tryd.underlying52,
  a124 := Tryd.isAgg52,
  z124 := Tryd.sizeOf52,
  v124 := Tryd.zeroValue52,
  t138 := Tryd.underlying64,
  a138 := Tryd.isAgg64,
  z138 := Tryd.sizeOf64,
  v138 := Tryd.zeroValue64,
  t139 := Tryd.underlying65,
  a139 := Tryd.isAgg65,
  z139 := Tryd.sizeOf65,
  v139 := Tryd.zeroValue65,
  g3 := by kernel_rfl,
  g4 := by kernel_rfl }
set_option maxHeartbeats 1000000 in
theorem strings_Trim.calls (a0 : ByteArray) (a1 : ByteArray) (r : ByteArray) (w : World) (h : strings_Trim.f a0 a1 = some r) :
    Calls Tryd.prog 29 #[.string a0, .string a1] w fun e w' => e = .returned (.string r) ∧ Below w.heap.size w w' := by
  unfold strings_Trim.f at h
  by_cases c : a0.size ≤ 9223372036854775807 ∧ a1.size < 100 ∧ a1.data.toList.all (fun b => decide (b.toNat < 128)) = true
  · rw [if_pos c] at h
    obtain rfl := Option.some.inj h
    have hcon := Any.strings_Trim_laid lays160 (by kernel_rfl) a0 a1 w c.1 (by omega) (ascii_of_all c.2.2)
    exact hcon
  · rw [if_neg c] at h
    exact absurd h (by simp)



/-! ### text_Trim: function 17 -/
def text_Trim.f (a0 : ByteArray) : Option (ByteArray) := (strings_Trim.f a0 (⟨#[32, 9]⟩ : ByteArray)).bind fun t107 => (some t107)
set_option maxHeartbeats 8000000 in
set_option maxRecDepth 100000 in
theorem text_Trim.calls (a0 : ByteArray) (r : ByteArray) (w : World) (h : text_Trim.f a0 = some r) :
  Calls Tryd.prog 17 #[.string a0] w fun e w' => e = .returned (.string r) ∧ Below w.heap.size w w' := by
 have HB := Aside0.mk (Below.refl w.heap.size w)
 have H : ((strings_Trim.f a0 (⟨#[32, 9]⟩ : ByteArray)).bind fun t107 => (some t107)) = some r := h
 clear h
 replace H := Option.bind_eq_some_iff.mp H
 obtain ⟨t107, A20, H⟩ := H
 replace H : (some t107) = some r := H
 have A2 := Aside0.mk A20
 clear A20
 obtain rfl := Option.some.inj H
 go_enter Tryd.func17, Tryd.ntmps17
 go_wp2_with (first | ((with_reducible refine gate_callee (f := 29) rfl ?_); refine goesL_ (some 4) rfl rfl Tryd.func29 (by kernel_rfl) rfl #[.string a0, .string (⟨#[32, 9]⟩ : ByteArray)] rfl zA ?_; (with_reducible refine (strings_Trim.calls a0 (⟨#[32, 9]⟩ : ByteArray) t107 _ A2.out).mono ?_); rintro e w3 ⟨rfl, hb⟩; refine ⟨_, rfl, ?_⟩; have n0_ := Aside0.mk (below_step (zL HB.out) hb); revert n0_; clear HB; intro HB; (try clear hb); (try clear hb2); (try clear hk); (try clear hi)))
 go_ret
 exact ⟨zE, zL HB.out⟩

end Go.Proofs.YtjbpabpfhkcolaaDoor.PLex
