-- Written by a program of this session (wip/tools/ext.py, over the kit's printer); not trusted: Lean checks it.
import Derived.Test.YthnholondnfjoaaDoorPParsex0
namespace Go.Proofs.YthnholondnfjoaaDoor.PParse
open Go.RowKit Go.Proofs.YthnholondnfjoaaDoorW.PrintWords Go.Proofs.YthnholondnfjoaaDoorW.PrintLast Go.Proofs.YthnholondnfjoaaDoorW.PrintMore
attribute [local go_sem] max2_int min2_int max_two min_two max_three min_three max_four min_four   -- for this text's walks alone
set_option linter.unusedVariables false
set_option linter.unusedSimpArgs false

/-! ### strings_TrimLeft: function 32 -/
/-- strings.TrimLeft at a short cutset of ASCII bytes. -/
def strings_TrimLeft.f (a0 : ByteArray) (a1 : ByteArray) : Option (ByteArray) := if a1.size < 100 ∧ a1.data.toList.all (fun b => decide (b.toNat < 128)) = true then some ⟨(Lib.trimLeftS a0.data.toList a1.data.toList).toArray⟩ else none
def lays161_ren : Go.Shelf.Ren := ⟨fun | 161 => 32 | 231 => 53 | 227 => 54 | 233 => 55 | 235 => 56 | 228 => 70 | 197 => 71 | 151 => 72 | 260 => 79 | 152 => 75 | 137 => 85 | 119 => 86 | 224 => 83 | 225 => 82 | 217 => 81 | 266 => 88 | n => n, fun | 9 => 9 | 4 => 4 | 3 => 3 | 5 => 5 | 117 => 87 | 116 => 86 | 0 => 0 | 124 => 90 | 105 => 94 | 21 => 21 | 119 => 103 | 46 => 101 | 139 => 106 | 138 => 105 | n => n, fun | 3 => 1 | 4 => 2 | n => n⟩
theorem lays161 : Lays.n161 Tryd.prog lays161_ren := {
  mixed := by kernel_rfl,
  f119 := Tryd.func86.trans (congrArg some (by kernel_rfl)),
  f137 := Tryd.func85.trans (congrArg some (by kernel_rfl)),
  f151 := Tryd.func72.trans (congrArg some (by kernel_rfl)),
  f152 := Tryd.func75.trans (congrArg some (by kernel_rfl)),
  f161 := Tryd.func32.trans (congrArg some (by kernel_rfl)),
  f197 := Tryd.func71.trans (congrArg some (by kernel_rfl)),
  f217 := Tryd.func81.trans (congrArg some (by kernel_rfl)),
  f224 := Tryd.func83.trans (congrArg some (by kernel_rfl)),
  f225 := Tryd.func82.trans (congrArg some (by kernel_rfl)),
  f227 := Tryd.func54.trans (congrArg some (by kernel_rfl)),
  f228 := Tryd.func70.trans (congrArg some (by kernel_rfl)),
  f231 := Tryd.func53.trans (congrArg some (by kernel_rfl)),
  f233 := Tryd.func55.trans (congrArg some (by kernel_rfl)),
  f235 := Tryd.func56.trans (congrArg some (by kernel_rfl)),
  f260 := Tryd.func79.trans (congrArg some (by kernel_rfl)),
  f266 := Tryd.func88.trans (congrArg some (by kernel_rfl)),
  t0 := Tryd.underlying0,
  a0 := Tryd.isAgg0,
  z0 := Tryd.sizeOf0,
  v0 := Tryd.zeroValue0,
  t3 := Tryd.underlying3,
  a3 := Tryd.isAgg3,
  z3 := Tryd.sizeOf3,
  v3 := Tryd.zeroValue3,
  t4 := Tryd.underlying4,
  a4 := Tryd.isAgg4,
  z4 := Tryd.sizeOf4,
  v4 := Tryd.zeroValue4,
  t5 := Tryd.underlying5,
  a5 := Tryd.isAgg5,
  z5 := Tryd.sizeOf5,
  v5 := Tryd.zeroValue5,
  t9 := Tryd.underlying9,
  a9 := Tryd.isAgg9,
  z9 := Tryd.sizeOf9,
  v9 := Tryd.zeroValue9,
  t21 := Tryd.underlying21,
  a21 := Tryd.isAgg21,
  z21 := Tryd.sizeOf21,
  v21 := Tryd.zeroValue21,
  t46 := Tryd.underlying101,
  a46 := Tryd.isAgg101,
  z46 := Tryd.sizeOf101,
  v46 := Tryd.zeroValue101,
  t105 := Tryd.underlying94,
  a105 := Tryd.isAgg94,
  z105 := Tryd.sizeOf94,
  v105 := Tryd.zeroValue94,
  t116 := Tryd.underlying86,
  a116 := Tryd.isAgg86,
  z116 := Tryd.sizeOf86,
  t117 := Tryd.underlying87,
  a117 := Tryd.isAgg87,
  z117 := Tryd.sizeOf87,
  v117 := Tryd.zeroValue87,
  t119 := Tryd.underlying103,
  a119 := Tryd.isAgg103,
  z119 := Tryd.sizeOf103,
  t124 := Tryd.underlying90,
  a124 := Tryd.isAgg90,
  z124 := Tryd.sizeOf90,
  v124 := Tryd.zeroValue90,
  t138 := Tryd.underlying105,
  a138 := Tryd.isAgg105,
  z138 := Tryd.sizeOf105,
  v138 := Tryd.zeroValue105,
  t139 := Tryd.underlying106,
  a139 := Tryd.isAgg106,
  z139 := Tryd.sizeOf106,
  v139 := Tryd.zeroValue106,
  g3 := by kernel_rfl,
  g4 := by kernel_rfl }
set_option maxHeartbeats 1000000 in
theorem strings_TrimLeft.calls (a0 : ByteArray) (a1 : ByteArray) (r : ByteArray) (w : World) (h : strings_TrimLeft.f a0 a1 = some r) :
    Calls Tryd.prog 32 #[.string a0, .string a1] w fun e w' => e = .returned (.string r) ∧ Below w.heap.size w w' := by
  unfold strings_TrimLeft.f at h
  by_cases c : a1.size < 100 ∧ a1.data.toList.all (fun b => decide (b.toNat < 128)) = true
  · rw [if_pos c] at h
    obtain rfl := Option.some.inj h
    have hcon := Any.strings_TrimLeft_laid lays161 (by kernel_rfl) a0 a1 w (by omega) (ascii_of_all c.2)
    exact hcon
  · rw [if_neg c] at h
    exact absurd h (by simp)



/-! ### strings_IndexAny: function 63 -/
/-- strings.IndexAny at ASCII bytes and a short set of them. -/
def strings_IndexAny.f (a0 : ByteArray) (a1 : ByteArray) : Option (Int) := if a0.size < 4294967281 ∧ a1.size < 100 ∧ a0.data.toList.all (fun b => decide (b.toNat < 128)) = true ∧ a1.data.toList.all (fun b => decide (b.toNat < 128)) = true then some (Lib.indexAny a0.data.toList a1.data.toList) else none
def lays153_ren : Go.Shelf.Ren := ⟨fun | 153 => 63 | 152 => 75 | 226 => 76 | 227 => 54 | 228 => 70 | 137 => 85 | 119 => 86 | 224 => 83 | 225 => 82 | 217 => 81 | 266 => 88 | n => n, fun | 9 => 9 | 3 => 3 | 4 => 4 | 5 => 5 | 21 => 21 | 117 => 87 | 116 => 86 | 0 => 0 | 46 => 101 | 124 => 90 | n => n, fun | 3 => 1 | 4 => 2 | n => n⟩
theorem lays153 : Lays.n153 Tryd.prog lays153_ren := {
  mixed := by kernel_rfl,
  f119 := Tryd.func86.trans (congrArg some (by kernel_rfl)),
  f137 := Tryd.func85.trans (congrArg some (by kernel_rfl)),
  f152 := Tryd.func75.trans (congrArg some (by kernel_rfl)),
  f153 := Tryd.func63.trans (congrArg some (by kernel_rfl)),
  f217 := Tryd.func81.trans (congrArg some (by kernel_rfl)),
  f224 := Tryd.func83.trans (congrArg some (by kernel_rfl)),
  f225 := Tryd.func82.trans (congrArg some (by kernel_rfl)),
  f226 := Tryd.func76.trans (congrArg some (by kernel_rfl)),
  f227 := Tryd.func54.trans (congrArg some (by kernel_rfl)),
  f228 := Tryd.func70.trans (congrArg some (by kernel_rfl)),
  f266 := Tryd.func88.trans (congrArg some (by kernel_rfl)),
  t0 := Tryd.underlying0,
  a0 := Tryd.isAgg0,
  z0 := Tryd.sizeOf0,
  v0 := Tryd.zeroValue0,
  t3 := Tryd.underlying3,
  a3 := Tryd.isAgg3,
  z3 := Tryd.sizeOf3,
  v3 := Tryd.zeroValue3,
  t4 := Tryd.underlying4,
  a4 := Tryd.isAgg4,
  z4 := Tryd.sizeOf4,
  v4 := Tryd.zeroValue4,
  t5 := Tryd.underlying5,
  a5 := Tryd.isAgg5,
  z5 := Tryd.sizeOf5,
  v5 := Tryd.zeroValue5,
  t9 := Tryd.underlying9,
  a9 := Tryd.isAgg9,
  z9 := Tryd.sizeOf9,
  v9 := Tryd.zeroValue9,
  t21 := Tryd.underlying21,
  a21 := Tryd.isAgg21,
  z21 := Tryd.sizeOf21,
  v21 := Tryd.zeroValue21,
  t46 := Tryd.underlying101,
  a46 := Tryd.isAgg101,
  z46 := Tryd.sizeOf101,
  v46 := Tryd.zeroValue101,
  t116 := Tryd.underlying86,
  a116 := Tryd.isAgg86,
  z116 := Tryd.sizeOf86,
  t117 := Tryd.underlying87,
  a117 := Tryd.isAgg87,
  z117 := Tryd.sizeOf87,
  v117 := Tryd.zeroValue87,
  t124 := Tryd.underlying90,
  a124 := Tryd.isAgg90,
  z124 := Tryd.sizeOf90,
  v124 := Tryd.zeroValue90 }
set_option maxHeartbeats 1000000 in
theorem strings_IndexAny.calls (a0 : ByteArray) (a1 : ByteArray) (r : Int) (w : World) (h : strings_IndexAny.f a0 a1 = some r) :
    Calls Tryd.prog 63 #[.string a0, .string a1] w fun e w' => e = .returned (.int .i64 r) ∧ Below w.heap.size w w' := by
  unfold strings_IndexAny.f at h
  by_cases c : a0.size < 4294967281 ∧ a1.size < 100 ∧ a0.data.toList.all (fun b => decide (b.toNat < 128)) = true ∧ a1.data.toList.all (fun b => decide (b.toNat < 128)) = true
  · rw [if_pos c] at h
    obtain rfl := Option.some.inj h
    have hcon := Any.strings_IndexAny_laid lays153 (by kernel_rfl) a0 a1 w c.1 (by omega) (ascii_of_all c.2.2.1) (ascii_of_all c.2.2.2)
    exact hcon
  · rw [if_neg c] at h
    exact absurd h (by simp)



/-! ### text_Words: function 22 -/
/-- text.Words at ASCII bytes: DRAFT, not built: see text.Lines in lex.tpl. -/
def text_Words.f (a0 : ByteArray) : Option (List ByteArray) := if a0.size ≤ 1000000 ∧ a0.data.toList.all (fun b => decide (b.toNat < 128)) = true then some ((Pl.wordsL (Pl.bl a0)).map Pl.ofL) else none
/-- How many words the text in a box has. -/
def text_Words.left (B : Nat) (w : World) : Nat := match w.cell? ⟨B, 0, none⟩ with
  | some (.string s) => (Pl.wordsL (Pl.bl s)).length
  | _ => 0
theorem text_Words.left_eq {B : Nat} {w : World} {s : ByteArray} (h : Go.Boxed w B 9 (.string s)) : text_Words.left B w = (Pl.wordsL (Pl.bl s)).length := by
  unfold text_Words.left
  rw [h.cell]
section
attribute [local go_sem] Oper.semAt_some
theorem text_Words.ascii_suffix {l m : List UInt8} (h : l.all (fun b => decide (b.toNat < 128)) = true) (hs : m <:+ l) : m.all (fun b => decide (b.toNat < 128)) = true :=
  List.all_eq_true.2 fun x hx => List.all_eq_true.1 h x (hs.subset hx)
set_option maxHeartbeats 4000000 in
set_option maxRecDepth 100000 in
/-- The iterator: whatever the loop's body is, if it keeps the text's box. -/
theorem text_Words.iter (n : Nat) (hn : 1 ≤ n) (l Bs : Nat) (s : ByteArray) (hs : s.size ≤ 1000000) (hsa : (Pl.bl s).all (fun b => decide (b.toNat < 128)) = true) (J : List ByteArray → World → Prop)
    (hY : ∀ pre x W, J pre W → pre.length < (Pl.wordsL (Pl.bl s)).length → YieldAt Fence.wide (n - 1) Tryd.prog l #[.string x] W fun e W' => e = .returned (.bool true) ∧ J (pre ++ [x]) W' ∧ ∀ v, Go.Boxed W Bs 9 v → Go.Boxed W' Bs 9 v)
    (hset : ∀ pre W u v, J pre W → Go.Boxed W Bs 9 u → J pre (W.setCell ⟨Bs, 0, none⟩ v))
    (hbl : ∀ pre W W', J pre W → Below W.heap.size W W' → J pre W')
    (W : World) (hb : Go.Boxed W Bs 9 (.string s)) (h0 : J [] W) :
    CallsIn Fence.wide n Tryd.prog 62 (#[.func (.yield l) #[] #[]] ++ #[.pointer (some ⟨Bs, 0, none⟩)]) W fun e W' => (∃ v, e = .returned v) ∧ J ((Pl.wordsL (Pl.bl s)).map Pl.ofL) W' := by
  refine callsIn_of_wp Tryd.func62 rfl trivial ?_ rfl
  simp only [Tryd.ntmps62, List.append_toArray, List.cons_append, List.nil_append, List.size_toArray, List.length_cons, List.length_nil, Nat.reduceAdd, Nat.reduceSub, Array.replicate_succ, Array.replicate_zero, List.push_toArray]
  gi_wp2
  gi_loopw [3] (fun _ wr => ∃ (pre : List ByteArray) (c : ByteArray), c.size ≤ 1000000 ∧ (Pl.bl c).all (fun b => decide (b.toNat < 128)) = true ∧ (Pl.wordsL (Pl.bl s)).map Pl.ofL = pre ++ (Pl.wordsL (Pl.bl c)).map Pl.ofL ∧ Go.Boxed wr Bs 9 (.string c) ∧ J pre wr) (fun _ wr => text_Words.left Bs wr)
  case atStart => exact ⟨[], s, hs, hsa, rfl, hb, h0⟩
  case round =>
    obtain ⟨pre, c, hc, ha, hL, hbx, hJ⟩ := hrel
    have hcell := hbx.cell
    have hfr := hbx.frozen
    have hms := text_Words.left_eq hbx
    obtain ⟨c1, hc1⟩ : ∃ c1, c1 = Pl.ofL (Lib.trimLeftS (Pl.bl c) [32, 9]) := ⟨_, rfl⟩
    have hb1 : Pl.bl c1 = Lib.trimLeftS (Pl.bl c) [32, 9] := by rw [hc1, Pl.bl_ofL]
    have hsuf : Pl.bl c1 <:+ Pl.bl c := by rw [hb1]; exact List.dropWhile_suffix _
    have hsz1 : c1.size ≤ c.size := by rw [Pl.bl_size, Pl.bl_size]; exact hsuf.length_le
    have ha1 := text_Words.ascii_suffix ha hsuf
    have hw1 : Pl.wordsL (Pl.bl c) = Pl.wordsL (Pl.bl c1) := by rw [hb1, Pl.wordsL_trim]
    have htl : strings_TrimLeft.f c ⟨#[32, 9]⟩ = some c1 := by
      unfold strings_TrimLeft.f
      rw [if_pos (show _ ∧ _ from ⟨by decide, by decide⟩), hc1]
      rfl
    obtain ⟨ix, hix⟩ : ∃ ix, ix = Lib.indexAny (Pl.bl c1) [32, 9] := ⟨_, rfl⟩
    have hia : strings_IndexAny.f c1 ⟨#[32, 9]⟩ = some ix := by
      have hcnd : c1.size < 4294967281 ∧ (⟨#[32, 9]⟩ : ByteArray).size < 100 ∧ c1.data.toList.all (fun b => decide (b.toNat < 128)) = true ∧ (⟨#[32, 9]⟩ : ByteArray).data.toList.all (fun b => decide (b.toNat < 128)) = true := ⟨by omega, by decide, ha1, by decide⟩
      unfold strings_IndexAny.f
      rw [if_pos hcnd, hix]
      rfl
    clear hc1
    by_cases e0 : Pl.bl c1 = []
    · have hia' : strings_IndexAny.f c1 ⟨#[32, 9]⟩ = some (-1) := by rw [hia, hix, e0]; rfl
      clear hia hix
      have hia := hia'
      clear hia'
      obtain rfl : c1 = ⟨#[]⟩ := Pl.bl_inj e0
      gi_wp2_with (first
        | (refine ⟨trivial, ?_⟩; gi_at_call 32; refine (callsIn_wide.2 (strings_TrimLeft.calls c _ _ _ htl)).mono ?_; rintro e w1 ⟨rfl, hB1⟩; have hbw := (show Go.Boxed w1 Bs 9 (.string c) from (hB1.block _ hbx.lt).trans hbx); have hcw := hbw.cell; have hfw := hbw.frozen; have hJ1 := hset _ _ _ (.string ⟨#[]⟩) (hbl _ _ _ hJ hB1) hbw; have hbs := hbw.set (.string ⟨#[]⟩); have hcs := hbs.cell; have hfs := hbs.frozen)
        | (refine ⟨trivial, ?_⟩; gi_at_call 63; refine (callsIn_wide.2 (strings_IndexAny.calls _ _ _ _ hia)).mono ?_; rintro e w2 ⟨rfl, hB2⟩; have hb2 := (show Go.Boxed w2 Bs 9 (.string ⟨#[]⟩) from (hB2.block _ hbs.lt).trans hbs); have hc2 := hb2.cell; have hf2 := hb2.frozen; have hJ2 := hbl _ _ _ hJ1 hB2))
      refine ⟨fun _ h => (by cases h), ?_⟩
      gi_wp2
      refine bodyPost_ret (results_none rfl _ _ _) rfl ?_
      rw [hw1, e0, show Pl.wordsL [] = [] from rfl, List.map_nil, List.append_nil] at hL
      exact ⟨⟨_, rfl⟩, by rw [hL]; exact hJ2⟩
    · have hcl : (c1.toList == ([] : List UInt8)) = false := by rw [Pl.bl_toList]; exact beq_eq_false_iff_ne.2 e0
      have hcs1 := Pl.bl_size c1
      rcases Pl.words_step (Pl.bl c1) e0 (fun x hx => Pl.trim_head (Pl.bl c) x (hb1 ▸ hx)) with ⟨hi, hws⟩ | ⟨a, t, hsp, hne, hi, hws⟩
      · have hii : ix = -1 := by rw [hix, hi]
        clear hix hi
        subst hii
        have hx1 : c1.extract 0 c1.size = c1 := Pl.bl_inj (by rw [Pl.bl_extract_from, hcs1, List.take_length])
        have hx2 : c1.extract c1.size c1.size = (⟨#[]⟩ : ByteArray) := Pl.bl_inj (by rw [Pl.bl_extract_to, hcs1, List.drop_length]; rfl)
        have hlen : pre.length < (Pl.wordsL (Pl.bl s)).length := by
          have := congrArg List.length hL
          rw [hw1, hws] at this
          simp at this
          omega
        clear hcs1 hb1 hsuf
        gi_wp2_with (first
        | (refine ⟨trivial, ?_⟩; gi_at_call 32; refine (callsIn_wide.2 (strings_TrimLeft.calls c _ _ _ htl)).mono ?_; rintro e w1 ⟨rfl, hB1⟩; have hbw := (show Go.Boxed w1 Bs 9 (.string c) from (hB1.block _ hbx.lt).trans hbx); have hcw := hbw.cell; have hfw := hbw.frozen; have hJ1 := hset _ _ _ (.string c1) (hbl _ _ _ hJ hB1) hbw; have hbs := hbw.set (.string c1); have hcs := hbs.cell; have hfs := hbs.frozen)
        | (refine ⟨trivial, ?_⟩; gi_at_call 63; refine (callsIn_wide.2 (strings_IndexAny.calls _ _ _ _ hia)).mono ?_; rintro e w2 ⟨rfl, hB2⟩; have hb2 := (show Go.Boxed w2 Bs 9 (.string c1) from (hB2.block _ hbs.lt).trans hbs); have hc2 := hb2.cell; have hf2 := hb2.frozen; have hJ2 := hbl _ _ _ hJ1 hB2; obtain ⟨fn, tmps, assign, body, hyy, hR⟩ := hY pre c1 w2 hJ2 hlen))
        refine hR.mono ?_
        rintro e W' ⟨rfl, hJ', hk⟩
        have hb' := hk _ hb2
        have hcell' := hb'.cell
        have hfr' := hb'.frozen
        gi_wp2
        have hb'' := hb'.set (.string ByteArray.empty)
        have hem : Pl.wordsL (Pl.bl ByteArray.empty) = [] := rfl
        go_roundw
        case rel => exact ⟨pre ++ [c1], ByteArray.empty, by decide, rfl, by rw [hL, hw1, hws, hem, List.map_cons, List.map_nil, Pl.ofL_bl, List.append_nil], hb'', hset _ _ _ _ hJ' hb'⟩
        case measure => rw [text_Words.left_eq hb'', hms, hw1, hws, hem]; simp
      · have hii : ix = (a.length : Int) := by rw [hix, hi]
        clear hix hi
        subst hii
        have hal : a.length ≤ c1.size := by rw [hcs1, hsp]; simp
        have hx1 : c1.extract 0 a.length = Pl.ofL a := Pl.bl_inj (by rw [Pl.bl_extract_from, Pl.bl_ofL, hsp, List.take_left])
        have hx2 : c1.extract a.length c1.size = Pl.ofL t := Pl.bl_inj (by rw [Pl.bl_extract_to, Pl.bl_ofL, hsp, List.drop_left])
        have hlen : pre.length < (Pl.wordsL (Pl.bl s)).length := by
          have := congrArg List.length hL
          rw [hw1, hws] at this
          simp at this
          omega
        clear hcs1 hb1 hsuf
        gi_wp2_with (first
        | (refine ⟨trivial, ?_⟩; gi_at_call 32; refine (callsIn_wide.2 (strings_TrimLeft.calls c _ _ _ htl)).mono ?_; rintro e w1 ⟨rfl, hB1⟩; have hbw := (show Go.Boxed w1 Bs 9 (.string c) from (hB1.block _ hbx.lt).trans hbx); have hcw := hbw.cell; have hfw := hbw.frozen; have hJ1 := hset _ _ _ (.string c1) (hbl _ _ _ hJ hB1) hbw; have hbs := hbw.set (.string c1); have hcs := hbs.cell; have hfs := hbs.frozen)
        | (refine ⟨trivial, ?_⟩; gi_at_call 63; refine (callsIn_wide.2 (strings_IndexAny.calls _ _ _ _ hia)).mono ?_; rintro e w2 ⟨rfl, hB2⟩; have hb2 := (show Go.Boxed w2 Bs 9 (.string c1) from (hB2.block _ hbs.lt).trans hbs); have hc2 := hb2.cell; have hf2 := hb2.frozen; have hJ2 := hbl _ _ _ hJ1 hB2; obtain ⟨fn, tmps, assign, body, hyy, hR⟩ := hY pre (Pl.ofL a) w2 hJ2 hlen))
        refine hR.mono ?_
        rintro e W' ⟨rfl, hJ', hk⟩
        have hb' := hk _ hb2
        have hcell' := hb'.cell
        have hfr' := hb'.frozen
        gi_wp2
        have hb'' := hb'.set (.string (Pl.ofL t))
        have hcs2 := Pl.bl_size c1
        have hlt := congrArg List.length hsp
        rw [List.length_append] at hlt
        go_roundw
        case rel => exact ⟨pre ++ [Pl.ofL a], Pl.ofL t, by rw [Pl.bl_size, Pl.bl_ofL]; omega, text_Words.ascii_suffix ha1 (by rw [Pl.bl_ofL, hsp]; exact List.suffix_append _ _), by rw [hL, hw1, hws, List.map_cons, Pl.bl_ofL]; simp, hb'', hset _ _ _ _ hJ' hb'⟩
        case measure => rw [text_Words.left_eq hb'', hms, hw1, hws, Pl.bl_ofL]; simp
/-- A loop over an iterator that is told whole: St: what the iterator does between two rounds; Kp: what a round keeps for it. -/
theorem range_told {P : Program} {g : Operand} {p : Tmp} {assign body : Code} {Q : Exit → Act → World → Prop} {a : Act} {w : World} (n : Nat) (hn : 3 ≤ n) {gf : Nat} {lb : Array Value}
    (hg : a.eval g = .func (.func gf) #[] lb) (eg : ∀ args w, (callFunc gf args).run P w = .ok (.enter gf args) w)
    (xs : List ByteArray) (St Kp : World → World → Prop) (Kb : World → Prop) (I : List ByteArray → World → Prop) (a₁ : ByteArray → Act)
    (hseq : ∀ (l : Nat) (J : List ByteArray → World → Prop),
      (∀ pre x W, J pre W → pre.length < xs.length → YieldAt Fence.wide (n - 1 - 1) P l #[.string x] W fun e W' => e = .returned (.bool true) ∧ J (pre ++ [x]) W' ∧ Kp W W') →
      (∀ pre W W', J pre W → St W W' → J pre W') → ∀ W, Kb W → J [] W →
      CallsIn Fence.wide (n - 1) P gf (#[.func (.yield l) #[] #[]] ++ lb) W fun e W' => (∃ v, e = .returned v) ∧ J xs W')
    (hSt : ∀ W W', St W W' → ∀ (r : Nat) (o : Obj), w.heap.size ≤ r → W.heap[r]? = some o → o.isCells = false → W'.heap[r]? = some o) (hISt : ∀ pre W W', I pre W → St W W' → I pre W')
    (hIb : ∀ pre W W', I pre W → Below W.heap.size W W' → I pre W') (hIp : ∀ pre W (r : Nat) (o o' : Obj), I pre W → w.heap.size ≤ r → W.heap[r]? = some o → o.isCells = false → I pre (W.putObj r o'))
    (hKb : ∀ W', Below w.heap.size w W' → Kb W') (hKt : ∀ {A B C : World}, Kp A B → Kp B C → Kp A C) (hKp : ∀ W (r : Nat) (o' : Obj), w.heap.size ≤ r → Kp W (W.putObj r o'))
    (h0 : I [] w)
    (hassign : ∀ (l : Nat) (x : ByteArray) (W : World) (K : Act → World → Prop), K (a₁ x) W →
      assign.wpIn (Fence.wide.inRound l) (n - 1 - 1) P (Exit.then K (fun _ _ _ => False)) { tmps := (#[p].zip #[Value.string x]).foldl (fun t (q, v) => t.setIfInBounds q v) a.tmps, defers := [] } W)
    (hbody : ∀ (l : Nat) (pre : List ByteArray) (x : ByteArray) (W : World), I pre W → pre.length < xs.length →
      body.wpIn (Fence.wide.inRound l) (n - 1 - 1) P (fun e _ W' => e = .normal ∧ KeepsFrom w.heap.size W W' ∧ I (pre ++ [x]) W' ∧ Kp W W') (a₁ x) W)
    (hdone : ∀ (D : Nat) (W : World), w.heap.size ≤ D → I xs W → W.heap[D]? = some (.deferred (some [])) → Q .normal { a with defers := { target := .collected D, args := #[] } :: a.defers } W) :
    (Code.rangeFunc g #[p] assign body).wpIn Fence.wide n P Q a w := by
  refine wpIn_rangeFunc ?_
  intro fn hfn
  obtain ⟨rec, hrec⟩ : ∃ rec : LoopState → Loop, rec = fun st => { state := st, pending := none, fn, tmps := a.tmps, params := #[p], assign, body, defers := w.heap.size } := ⟨_, rfl⟩
  obtain ⟨W1, hW1⟩ : ∃ W1, (w.alloc (.deferred (some []))).alloc (.loop (rec .ready)) = W1 := ⟨_, rfl⟩
  have hb1 : Below w.heap.size w W1 := by rw [← hW1]; exact ((Below.refl _ w).alloc (Nat.le_refl _) _).alloc (by simp) _
  have hL1 : W1.heap[w.heap.size + 1]? = some (.loop (rec .ready)) := by
    rw [← hW1]
    have h := World.alloc_heap_new (w.alloc (.deferred (some []))) (.loop (rec .ready))
    rwa [World.size_alloc] at h
  have hK1 : W1.heap[w.heap.size]? = some (.deferred (some [])) := by
    rw [← hW1]; exact (Below.heap_alloc _ _ _ (by simp)).trans (World.alloc_heap_new w _)
  refine ⟨w.heap.size + 1, [{ target := .collected w.heap.size, args := #[] }], W1, { target := .fn (.func gf) lb, args := #[.func (.yield (w.heap.size + 1)) #[] #[]] }, W1, gf,
    #[.func (.yield (w.heap.size + 1)) #[] #[]] ++ lb, W1, by rw [← hW1, hrec]; exact run_enterLoop_outer _ _ _ _ _, ?_, fun _ _ => trivial, ?_, fun _ => by omega, ?_⟩
  · simp only [resolve, hg]
    simp [go_sem]
  · simp [invoke, go_sem, eg]
  · refine (hseq (w.heap.size + 1) (fun pre W => I pre W ∧ W.heap[w.heap.size + 1]? = some (.loop (rec .ready)) ∧ W.heap[w.heap.size]? = some (.deferred (some []))) ?_ ?_ W1 (hKb _ hb1) ⟨hIb _ _ _ h0 hb1, hL1, hK1⟩).mono ?_
    · rintro pre x W ⟨hi, hl, hk⟩ hlen
      have hlt : w.heap.size + 1 < W.heap.size := (Array.getElem?_eq_some_iff.1 hl).1
      have hy := run_yield (P := P) (args := #[.string x]) hl (by rw [hrec]; rfl)
      rw [hrec] at hy
      refine ⟨fn, _, assign, body, hy, roundIn_of_wpIn hfn ?_⟩
      refine hassign _ x W _ ?_
      refine ⟨_, run_beginRound hl (by rw [hrec]), ?_⟩
      have hl2 : (W.putObj (w.heap.size + 1) (.loop { rec .ready with state := .busy })).heap[w.heap.size + 1]? = some (.loop { rec .ready with state := .busy }) := World.putObj_heap_same hlt
      have hk2 : (W.putObj (w.heap.size + 1) (.loop { rec .ready with state := .busy })).heap[w.heap.size]? = some (.deferred (some [])) := (World.putObj_heap_other (by omega)).trans hk
      refine wpIn_mono (hbody _ pre x _ (hIp _ _ _ _ _ hi (by omega) hl rfl) hlen) ?_
      rintro e a3 W3 ⟨rfl, hkf, hi3, hkp⟩
      have hl3 := hkf.same _ _ (by omega) hl2 rfl
      have hk3 := hkf.same _ _ (Nat.le_refl _) hk2 rfl
      have hre : ({ { rec .ready with state := .busy } with state := if (none : Option Code).isNone then LoopState.ready else .done, pending := none } : Loop) = rec .ready := by rw [hrec]; rfl
      refine ⟨_, _, run_endRound none hl3, rfl, ⟨hIp _ _ _ _ _ hi3 (by omega) hl3 rfl, ?_, ?_⟩, hKt (hKp _ _ _ (by omega)) (hKt hkp (hKp _ _ _ (by omega)))⟩
      · rw [hre]; exact World.putObj_heap_same (Array.getElem?_eq_some_iff.1 hl3).1
      · exact (World.putObj_heap_other (by omega)).trans hk3
    · rintro pre W W' ⟨hi, hl, hk⟩ hs
      exact ⟨hISt _ _ _ hi hs, hSt _ _ hs _ _ (by omega) hl rfl, hSt _ _ hs _ _ (Nat.le_refl _) hk rfl⟩
    · rintro e W2 ⟨⟨v, rfl⟩, hi, hl, hk⟩
      have hr := run_endLoop (P := P) hl (by rw [hrec]; simp)
      rw [show (rec .ready).pending = none by rw [hrec]] at hr
      exact ⟨none, _, hr, hdone _ _ (Nat.le_refl _) (hIp _ _ _ _ _ hi (by omega) hl rfl) ((World.putObj_heap_other (by omega)).trans hk)⟩
/-- What an iterator does between two rounds: it stores in its own box, and lays new blocks. -/
def StepB (Bs : Nat) (W W' : World) : Prop := Below W.heap.size W W' ∨ ∃ u v, Go.Boxed W Bs 9 u ∧ W' = W.setCell ⟨Bs, 0, none⟩ v
set_option maxHeartbeats 2000000 in
set_option maxRecDepth 100000 in
/-- The loop that gathers what an iterator tells, whose text lies in box Bs. -/
theorem text_gather.calls {gf : Nat} (n₀ Bs : Nat) (ptr : Value) (L : List ByteArray) (hL : L.length ≤ 1000000) (eg : ∀ args w, (callFunc gf args).run Tryd.prog w = .ok (.enter gf args) w) (v0 : Value) (w : World) (hn₀ : n₀ ≤ Bs) (hb : Go.Boxed w Bs 9 v0)
    (hseq : ∀ (l : Nat) (J : List ByteArray → World → Prop),
      (∀ pre x W, J pre W → pre.length < L.length → YieldAt Fence.wide 3 Tryd.prog l #[.string x] W fun e W' => e = .returned (.bool true) ∧ J (pre ++ [x]) W' ∧ ∀ v, Go.Boxed W Bs 9 v → Go.Boxed W' Bs 9 v) →
      (∀ pre W W', J pre W → StepB Bs W W' → J pre W') → ∀ W, Go.Boxed W Bs 9 v0 → J [] W →
      CallsIn Fence.wide 4 Tryd.prog gf (#[.func (.yield l) #[] #[]] ++ #[ptr]) W fun e W' => (∃ v, e = .returned v) ∧ J L W') :
    Calls Tryd.prog 41 #[.func (.func gf) #[] #[ptr]] w fun e w' => ∃ v0_ : Value, e = .returned (v0_) ∧ Kd.R Kd.string 9 w' w.heap.size (fun _ => True) v0_ L ∧ Below n₀ w w' := by
  obtain ⟨i0, hi, hz0, hz1, hz2⟩ := info_parts (show (Tryd.prog.info? 9).map (fun i => (i.zero, i.size, i.bytes)) = some (some (.string ⟨#[]⟩), 1, 16) by kernel_rfl)
  refine (callsIn_wide (n := 5)).1 ?_
  refine callsIn_of_wp_marks Tryd.func41 rfl trivial ?_ rfl
  simp only [Tryd.ntmps41, List.append_toArray, List.cons_append, List.nil_append, List.size_toArray, List.length_cons, List.length_nil, Nat.reduceAdd, Nat.reduceSub, Array.replicate_succ, Array.replicate_zero, List.push_toArray]
  gi_wp2
  have hlt := hb.lt
  have bO : Go.Boxed (w.alloc (.cells #[.slice none 0 0] 37)) w.heap.size 37 (.slice none 0 0) := Boxed.new _ _ _
  have hB0 : Below w.heap.size w (w.alloc (.cells #[.slice none 0 0] 37)) := (Below.refl _ w).alloc (Nat.le_refl _) _
  refine range_told 5 (by omega) (gf := gf) (lb := #[ptr]) rfl eg L (StepB Bs) (fun W W' => ∀ v, Go.Boxed W Bs 9 v → Go.Boxed W' Bs 9 v) (fun W => Go.Boxed W Bs 9 v0)
    (fun pre W => (∃ v, Go.Boxed W w.heap.size 37 v ∧ W.ownsRow w.heap.size 9 1 v pre.length (pre.map Value.string)) ∧ Below n₀ w W ∧ w.heap.size < W.heap.size) ?a1 hseq ?st ?ist ?ib ?ip ?kb ?kt ?kp ?i0 ?assign ?body ?done
  case a1 => exact fun x => { tmps := #[.func (.func gf) #[] #[ptr], undef, .slice none 0 0, .pointer (some ⟨w.heap.size, 0, none⟩), .string x, .func (.func gf) #[] #[ptr], .string x, undef, undef, undef, undef, undef], defers := [] }
  case assign =>
    intro l x W K hK
    gi_wp2
    exact hK
  case st =>
    rintro W W' (h | ⟨u, v, hu, rfl⟩) r o hr ho hc
    · exact (h.block r (Array.getElem?_eq_some_iff.1 ho).1).trans ho
    · refine (Below.heap_setCell _ _ _ _ ?_).trans ho
      simp only [World.size_alloc] at hr
      show r ≠ Bs
      omega
  case ist =>
    rintro pre W W' ⟨⟨v, hv, hrow⟩, hB, hsz⟩ (h | ⟨u, v', hu, rfl⟩)
    · exact ⟨⟨v, (h.block _ hv.lt).trans hv, pw_own_below hrow h⟩, hB.trans (h.mono (by omega)), Nat.lt_of_lt_of_le hsz h.size⟩
    · exact ⟨⟨v, hv.other (by omega) _, ownsRow_setCell_below hrow hlt _⟩, hB.setCell (p := ⟨Bs, 0, none⟩) hn₀ _, by simpa [World.setCell] using hsz⟩
  case ib =>
    rintro pre W W' ⟨⟨v, hv, hrow⟩, hB, hsz⟩ h
    exact ⟨⟨v, (h.block _ hv.lt).trans hv, pw_own_below hrow h⟩, hB.trans (h.mono (by omega)), Nat.lt_of_lt_of_le hsz h.size⟩
  case ip =>
    rintro pre W r o o' ⟨⟨v, hv, hrow⟩, hB, hsz⟩ hr ho hc
    simp only [World.size_alloc] at hr
    exact ⟨⟨v, (World.putObj_heap_other (by omega)).trans hv, ownsRow_putObj hrow _ ho hc⟩, hB.trans ⟨rfl, rfl, rfl, by simp, fun k hk => World.putObj_heap_other (by omega)⟩, by simpa using hsz⟩
  case kb => exact fun W' h => (h.block _ (by simp; omega)).trans (hb.alloc _)
  case kt => exact fun h k v hv => k v (h v hv)
  case kp =>
    intro W r o' hr v hv
    simp only [World.size_alloc] at hr
    exact (World.putObj_heap_other (by omega)).trans hv
  case i0 => exact ⟨⟨_, bO, World.ownsRow_nil _ _ _ _⟩, hB0.mono (by omega), by simp⟩
  case body =>
    rintro l pre x W ⟨⟨v, hv, hrow⟩, hB, hsz⟩ hlt2
    have hc := hv.cell
    have hf := hv.frozen
    have hm : pre.length + 1 ≤ maxLen := by unfold maxLen; omega
    gi_wp2_with (gi_at_builtin; refine wpListIn_append_own _ rfl _ _ 37 rfl w.heap.size 9 i0 (.string ⟨#[]⟩) 1 16 Tryd.underlying37 hi hz0 hz1 hz2 rfl (by decide) _ _ _ rfl (hrow.alloc _) ⟨W.heap.size, 0, none⟩ 1 1 [.string x] rfl rfl (cell_one_new _ _ _) (by simp [Value.oneCell']) (by omega) (by omega) (by simp; omega) ?_; intro v' w1 hown' hgrow _; obtain ⟨g', cap', rfl⟩ := ownsRow_succ hown'; obtain ⟨hv1, hv2, hr2, hk2, hb2⟩ := hv.appended (by decide) hrow (by omega) (Nat.le_refl _) hown' hgrow; have hc1 := hv1.cell; have hf1 := hv1.frozen)
    exact ⟨hk2.from _, ⟨⟨_, hv2, by simpa using hr2⟩, hB.trans (hb2.mono (by omega)), by have h := hb2.size; simp [World.setCell] at h ⊢; omega⟩, fun u hu => (hb2.block _ hlt).trans hu⟩
  case done =>
    rintro D W hD ⟨⟨v, hv, hrow⟩, hB, hsz⟩ hK
    have hc := hv.cell
    have hf := hv.frozen
    simp only [World.size_alloc] at hD
    gi_wp2
    refine ⟨by simp, .inl ⟨_, _, rfl, run_takeDeferred hK, ?_⟩⟩
    exact ⟨_, results_tmp rfl _ _ _, v, rfl, Kd.R_of_own (ownsRow_putObj hrow _ hK rfl) (fun _ _ => trivial), hB.trans ⟨rfl, rfl, rfl, by simp, fun k hk => World.putObj_heap_other (by omega)⟩⟩
end
set_option maxHeartbeats 2000000 in
set_option maxRecDepth 100000 in
theorem text_Words.calls (a0 : ByteArray) (r : List ByteArray) (w : World) (h : text_Words.f a0 = some r) :
    Calls Tryd.prog 22 #[.string a0] w fun e w' => ∃ v0_ : Value, e = .returned (v0_) ∧ Kd.R Kd.string 9 w' w.heap.size (fun _ => True) v0_ r ∧ Below w.heap.size w w' := by
  unfold text_Words.f at h
  by_cases c : a0.size ≤ 1000000 ∧ a0.data.toList.all (fun b => decide (b.toNat < 128)) = true
  · rw [if_pos c] at h
    obtain rfl := Option.some.inj h
    clear h
    have hlen : ((Pl.wordsL (Pl.bl a0)).map Pl.ofL).length ≤ 1000000 := by
      have h1 := Pl.wordsL_len (Pl.bl a0)
      rw [← Pl.bl_size] at h1
      rw [List.length_map]
      omega
    have hlines : Calls Tryd.prog 42 #[.string a0] w fun e w' => e = .returned (.func (.func 62) #[] #[.pointer (some ⟨w.heap.size, 0, none⟩)]) ∧ w' = w.alloc (.cells #[.string a0] 9) := by
      go_enter Tryd.func42, Tryd.ntmps42
      go_wp2
      go_ret
      exact ⟨rfl, rfl⟩
    have hg := text_gather.calls (gf := 62) w.heap.size w.heap.size (.pointer (some ⟨w.heap.size, 0, none⟩)) _ hlen (enters_of Tryd.func62 (by kernel_rfl) rfl) (.string a0) (w.alloc (.cells #[.string a0] 9)) (Nat.le_refl _) (Boxed.new _ _ _)
      (fun l J hY hS W hb h0 => text_Words.iter 4 (by omega) l w.heap.size a0 c.1 c.2 J (by simpa using hY) (fun pre W u v hj hb => hS _ _ _ hj (.inr ⟨u, v, hb, rfl⟩)) (fun pre W W' hj hb => hS _ _ _ hj (.inl hb)) W hb h0)
    generalize (Pl.wordsL (Pl.bl a0)).map Pl.ofL = L at hg hlen
    go_enter Tryd.func22, Tryd.ntmps22
    go_wp2_with (first | (go_at_call 42; refine hlines.mono ?_; rintro e w' ⟨rfl, rfl⟩) | (go_at_call 41; refine hg.mono ?_; rintro e w' ⟨v, rfl, hR, hB⟩))
    go_ret
    exact ⟨v, rfl, Kd.R_lower hR (by simp), ((Below.refl _ w).alloc (Nat.le_refl _) _).trans hB⟩
  · rw [if_neg c] at h
    exact absurd h (by simp)



/-! ### parse_Name: function 15 -/
def parse_Name.ok (c : Int) : Bool := decide ((65 ≤ c ∧ c ≤ 90) ∨ (97 ≤ c ∧ c ≤ 122) ∨ (48 ≤ c ∧ c ≤ 57) ∨ c = 95 ∨ c = 45 ∨ c = 46)
def parse_Name.l0 : Nat → ByteArray → Int → Option (Bool)
  | 0, _, _ => none
  | k + 1, x0, x11 => if x11 < (x0.size : Int) then (if 0 ≤ x11 then (if parse_Name.ok (bt x0 x11) = true then (parse_Name.l0 k x0 (wrap64 (x11 + 1))) else (some false)) else (none)) else (some true)
/-- parse.Name: its loop, then its two tests. -/
def parse_Name.f (k : Nat) (a0 : ByteArray) : Option (Bool) := if a0.size ≤ 9223372036854775807 then ((parse_Name.l0 k a0 0).bind fun t1 => (if t1 = true then (if a0.toList = ([] : List UInt8) then (some false) else (some (decide ((a0.size : Int) ≤ 40)))) else (some false))) else (none)
theorem parse_Name.mono_l0 : ∀ k, (∀ y0 y1, LeO (parse_Name.l0 k y0 y1) (parse_Name.l0 (k + 1) y0 y1))
  | 0 => fun _ _ r h => by simp [parse_Name.l0] at h
  | k + 1 => by
    have ih0 := parse_Name.mono_l0 k
    intro y0 y1
    unfold parse_Name.l0
    repeat' first
    | (with_reducible exact ih0 _ _)
    | (with_reducible exact LeO.refl _)
    | (with_reducible exact LeO.none _)
    | (with_reducible refine LeO.ite ?_ ?_)
theorem parse_Name.mono : ∀ a0 k, LeO (parse_Name.f k a0) (parse_Name.f (k + 1) a0) := by
  intro a0 k
  have ih0 := parse_Name.mono_l0 k
  unfold parse_Name.f
  repeat' first
    | (with_reducible exact ih0 _ _)
    | (with_reducible exact LeO.refl _)
    | (with_reducible exact LeO.none _)
    | (with_reducible refine LeO.ite ?_ ?_)
    | (with_reducible refine LeO.bind ?_ (fun _ => ?_))
set_option maxHeartbeats 8000000 in
set_option maxRecDepth 100000 in
theorem parse_Name.calls (k : Nat) (a0 : ByteArray) (r : Bool) (w : World) (h : parse_Name.f k a0 = some r) :
    Calls Tryd.prog 15 #[.string a0] w fun e w' => e = .returned (.bool r) ∧ Below w.heap.size w w' := by
  unfold parse_Name.f at h
  by_cases hsz : a0.size ≤ 9223372036854775807
  case neg => rw [if_neg hsz] at h; exact absurd h (by simp)
  rw [if_pos hsz] at h
  replace h := Option.bind_eq_some_iff.mp h
  obtain ⟨t1, A10, H⟩ := h
  have A1 := Aside0.mk A10
  clear A10
  have H0 := Aside0.mk H
  clear H
  have hcv := print_bytes (P := Tryd.prog) 9 67 5 Tryd.underlying9 Tryd.underlying67 Tryd.underlying5 a0 w
  have hrd := Aside0.mk (bytes_reads w 5 a0 hsz)
  have hbl := Aside0.mk (bytes_below (Below.refl w.heap.size w) (Nat.le_refl _) 5 a0)
  obtain ⟨cp, hcp⟩ : ∃ cp, cp = grownCap w a0.size 0 5 := ⟨_, rfl⟩
  obtain ⟨W1, hW1⟩ : ∃ W1, W1 = Lib.bytesWorld w 5 a0 := ⟨_, rfl⟩
  rw [← hcp, ← hW1] at hcv
  rw [← hW1] at hrd hbl
  clear hcp hW1 hsz
  obtain ⟨bB, hbB⟩ : ∃ bB, bB = w.heap.size := ⟨_, rfl⟩
  rw [← hbB] at hcv hrd
  clear hbB
  go_enter Tryd.func15, Tryd.ntmps15
  go_wp2
  clear hcv
  go_loopg [8] k (fun kq v8 w' => ∃ (x11_1 : Int), v8 = .int .i64 x11_1 ∧ Aside0 (parse_Name.l0 kq a0 x11_1 = some t1) ∧ Aside0 (kq ≤ k) ∧ Drawn0 W1 w')
  case atStart => exact ⟨(0), rfl, A1, ⟨Nat.le_refl _⟩, Drawn0.refl _⟩
  case round =>
    clear A1
    obtain ⟨x11_1, rfl, HA, HK1, ⟨m1, rfl⟩⟩ := hrel
    cases gk with
    | zero => exact absurd HA.out (by simp [parse_Name.l0])
    | succ k1 =>
      have H := HA.out
      clear HA
      simp only [parse_Name.l0] at H
      by_cases c2 : x11_1 < (a0.size : Int)
      · rw [if_pos c2] at H
        have c2b0 : decide (x11_1 < (a0.size : Int)) = true := decide_eq_true c2
        by_cases c3 : 0 ≤ x11_1
        case neg => rw [if_neg c3] at H; exact absurd H (by simp)
        rw [if_pos c3] at H
        have c3b0 : decide (0 ≤ x11_1) = true := decide_eq_true c3
        obtain ⟨ad, e1, hx⟩ := hrd.out.at_ x11_1 c3 c2
        obtain rfl := Option.some.inj e1
        clear e1
        rw [rd_bytesOf, add_plain] at hx
        replace c2 := eq_true c2
        replace c3 := eq_true c3
        generalize bt a0 x11_1 = c at hx H
        have hreg : c < 45 ∨ c = 45 ∨ c = 46 ∨ c = 47 ∨ (48 ≤ c ∧ c ≤ 57) ∨ (58 ≤ c ∧ c ≤ 64) ∨ (65 ≤ c ∧ c ≤ 90) ∨ (91 ≤ c ∧ c ≤ 94) ∨ c = 95 ∨ c = 96 ∨ (97 ≤ c ∧ c ≤ 122) ∨ 123 ≤ c := by omega
        rcases hreg with g | g | g | g | g | g | g | g | g | g | g | g
        · -- c < 45
          have d0 : decide (65 ≤ c) = false := decide_eq_false (by omega)
          have d1 : decide (97 ≤ c) = false := decide_eq_false (by omega)
          have d2 : decide (48 ≤ c) = false := decide_eq_false (by omega)
          have u0 : decide (c ≤ 90) = true := decide_eq_true (by omega)
          have u1 : decide (c ≤ 122) = true := decide_eq_true (by omega)
          have u2 : decide (c ≤ 57) = true := decide_eq_true (by omega)
          have e0 : (c == 95) = false := beq_eq_false_iff_ne.mpr (by omega)
          have e1 : (c == 45) = false := beq_eq_false_iff_ne.mpr (by omega)
          have e2 : (c == 46) = false := beq_eq_false_iff_ne.mpr (by omega)
          have hok : parse_Name.ok c = false := by simp only [parse_Name.ok, decide_eq_true_eq, decide_eq_false_iff_not]; omega
          clear g
          rw [hok] at H
          rw [if_neg (show ¬ (false = true) by decide)] at H
          obtain rfl := Option.some.inj H
          clear H
          have H1 := H0.out
          clear H0
          rw [if_neg (show ¬ (false = true) by decide)] at H1
          obtain rfl := Option.some.inj H1
          clear H1
          go_wp2
          go_ret
          exact ⟨by first | rfl | (simp; done) | (simp [*]; done), by repeat (first | exact hbl.out | apply pw_below_drewN | apply below_drew1)⟩
        · -- c = 45
          have d0 : decide (65 ≤ c) = false := decide_eq_false (by omega)
          have d1 : decide (97 ≤ c) = false := decide_eq_false (by omega)
          have d2 : decide (48 ≤ c) = false := decide_eq_false (by omega)
          have u0 : decide (c ≤ 90) = true := decide_eq_true (by omega)
          have u1 : decide (c ≤ 122) = true := decide_eq_true (by omega)
          have u2 : decide (c ≤ 57) = true := decide_eq_true (by omega)
          have e0 : (c == 95) = false := beq_eq_false_iff_ne.mpr (by omega)
          have e1 : (c == 45) = true := beq_iff_eq.mpr (by omega)
          have e2 : (c == 46) = false := beq_eq_false_iff_ne.mpr (by omega)
          have hok : parse_Name.ok c = true := by simp only [parse_Name.ok, decide_eq_true_eq, decide_eq_false_iff_not]; omega
          clear g
          rw [hok] at H
          rw [if_pos rfl] at H
          have H' := Aside0.mk H
          clear H H0
          go_wp2
          go_roundg k1
          case measure => have := HK1.out; omega
          case rel => exact ⟨(wrap64 (x11_1 + 1)), (by first | rfl | (simp; done) | (simp [*]; done)), H', ⟨by have := HK1.out; omega⟩, by repeat (first | exact Drawn0.refl _ | apply Drawn0.step)⟩
        · -- c = 46
          have d0 : decide (65 ≤ c) = false := decide_eq_false (by omega)
          have d1 : decide (97 ≤ c) = false := decide_eq_false (by omega)
          have d2 : decide (48 ≤ c) = false := decide_eq_false (by omega)
          have u0 : decide (c ≤ 90) = true := decide_eq_true (by omega)
          have u1 : decide (c ≤ 122) = true := decide_eq_true (by omega)
          have u2 : decide (c ≤ 57) = true := decide_eq_true (by omega)
          have e0 : (c == 95) = false := beq_eq_false_iff_ne.mpr (by omega)
          have e1 : (c == 45) = false := beq_eq_false_iff_ne.mpr (by omega)
          have e2 : (c == 46) = true := beq_iff_eq.mpr (by omega)
          have hok : parse_Name.ok c = true := by simp only [parse_Name.ok, decide_eq_true_eq, decide_eq_false_iff_not]; omega
          clear g
          rw [hok] at H
          rw [if_pos rfl] at H
          have H' := Aside0.mk H
          clear H H0
          go_wp2
          go_roundg k1
          case measure => have := HK1.out; omega
          case rel => exact ⟨(wrap64 (x11_1 + 1)), (by first | rfl | (simp; done) | (simp [*]; done)), H', ⟨by have := HK1.out; omega⟩, by repeat (first | exact Drawn0.refl _ | apply Drawn0.step)⟩
        · -- c = 47
          have d0 : decide (65 ≤ c) = false := decide_eq_false (by omega)
          have d1 : decide (97 ≤ c) = false := decide_eq_false (by omega)
          have d2 : decide (48 ≤ c) = false := decide_eq_false (by omega)
          have u0 : decide (c ≤ 90) = true := decide_eq_true (by omega)
          have u1 : decide (c ≤ 122) = true := decide_eq_true (by omega)
          have u2 : decide (c ≤ 57) = true := decide_eq_true (by omega)
          have e0 : (c == 95) = false := beq_eq_false_iff_ne.mpr (by omega)
          have e1 : (c == 45) = false := beq_eq_false_iff_ne.mpr (by omega)
          have e2 : (c == 46) = false := beq_eq_false_iff_ne.mpr (by omega)
          have hok : parse_Name.ok c = false := by simp only [parse_Name.ok, decide_eq_true_eq, decide_eq_false_iff_not]; omega
          clear g
          rw [hok] at H
          rw [if_neg (show ¬ (false = true) by decide)] at H
          obtain rfl := Option.some.inj H
          clear H
          have H1 := H0.out
          clear H0
          rw [if_neg (show ¬ (false = true) by decide)] at H1
          obtain rfl := Option.some.inj H1
          clear H1
          go_wp2
          go_ret
          exact ⟨by first | rfl | (simp; done) | (simp [*]; done), by repeat (first | exact hbl.out | apply pw_below_drewN | apply below_drew1)⟩
        · -- 48 ≤ c ∧ c ≤ 57
          have d0 : decide (65 ≤ c) = false := decide_eq_false (by omega)
          have d1 : decide (97 ≤ c) = false := decide_eq_false (by omega)
          have d2 : decide (48 ≤ c) = true := decide_eq_true (by omega)
          have u0 : decide (c ≤ 90) = true := decide_eq_true (by omega)
          have u1 : decide (c ≤ 122) = true := decide_eq_true (by omega)
          have u2 : decide (c ≤ 57) = true := decide_eq_true (by omega)
          have e0 : (c == 95) = false := beq_eq_false_iff_ne.mpr (by omega)
          have e1 : (c == 45) = false := beq_eq_false_iff_ne.mpr (by omega)
          have e2 : (c == 46) = false := beq_eq_false_iff_ne.mpr (by omega)
          have hok : parse_Name.ok c = true := by simp only [parse_Name.ok, decide_eq_true_eq, decide_eq_false_iff_not]; omega
          clear g
          rw [hok] at H
          rw [if_pos rfl] at H
          have H' := Aside0.mk H
          clear H H0
          go_wp2
          go_roundg k1
          case measure => have := HK1.out; omega
          case rel => exact ⟨(wrap64 (x11_1 + 1)), (by first | rfl | (simp; done) | (simp [*]; done)), H', ⟨by have := HK1.out; omega⟩, by repeat (first | exact Drawn0.refl _ | apply Drawn0.step)⟩
        · -- 58 ≤ c ∧ c ≤ 64
          have d0 : decide (65 ≤ c) = false := decide_eq_false (by omega)
          have d1 : decide (97 ≤ c) = false := decide_eq_false (by omega)
          have d2 : decide (48 ≤ c) = true := decide_eq_true (by omega)
          have u0 : decide (c ≤ 90) = true := decide_eq_true (by omega)
          have u1 : decide (c ≤ 122) = true := decide_eq_true (by omega)
          have u2 : decide (c ≤ 57) = false := decide_eq_false (by omega)
          have e0 : (c == 95) = false := beq_eq_false_iff_ne.mpr (by omega)
          have e1 : (c == 45) = false := beq_eq_false_iff_ne.mpr (by omega)
          have e2 : (c == 46) = false := beq_eq_false_iff_ne.mpr (by omega)
          have hok : parse_Name.ok c = false := by simp only [parse_Name.ok, decide_eq_true_eq, decide_eq_false_iff_not]; omega
          clear g
          rw [hok] at H
          rw [if_neg (show ¬ (false = true) by decide)] at H
          obtain rfl := Option.some.inj H
          clear H
          have H1 := H0.out
          clear H0
          rw [if_neg (show ¬ (false = true) by decide)] at H1
          obtain rfl := Option.some.inj H1
          clear H1
          go_wp2
          go_ret
          exact ⟨by first | rfl | (simp; done) | (simp [*]; done), by repeat (first | exact hbl.out | apply pw_below_drewN | apply below_drew1)⟩
        · -- 65 ≤ c ∧ c ≤ 90
          have d0 : decide (65 ≤ c) = true := decide_eq_true (by omega)
          have d1 : decide (97 ≤ c) = false := decide_eq_false (by omega)
          have d2 : decide (48 ≤ c) = true := decide_eq_true (by omega)
          have u0 : decide (c ≤ 90) = true := decide_eq_true (by omega)
          have u1 : decide (c ≤ 122) = true := decide_eq_true (by omega)
          have u2 : decide (c ≤ 57) = false := decide_eq_false (by omega)
          have e0 : (c == 95) = false := beq_eq_false_iff_ne.mpr (by omega)
          have e1 : (c == 45) = false := beq_eq_false_iff_ne.mpr (by omega)
          have e2 : (c == 46) = false := beq_eq_false_iff_ne.mpr (by omega)
          have hok : parse_Name.ok c = true := by simp only [parse_Name.ok, decide_eq_true_eq, decide_eq_false_iff_not]; omega
          clear g
          rw [hok] at H
          rw [if_pos rfl] at H
          have H' := Aside0.mk H
          clear H H0
          go_wp2
          go_roundg k1
          case measure => have := HK1.out; omega
          case rel => exact ⟨(wrap64 (x11_1 + 1)), (by first | rfl | (simp; done) | (simp [*]; done)), H', ⟨by have := HK1.out; omega⟩, by repeat (first | exact Drawn0.refl _ | apply Drawn0.step)⟩
        · -- 91 ≤ c ∧ c ≤ 94
          have d0 : decide (65 ≤ c) = true := decide_eq_true (by omega)
          have d1 : decide (97 ≤ c) = false := decide_eq_false (by omega)
          have d2 : decide (48 ≤ c) = true := decide_eq_true (by omega)
          have u0 : decide (c ≤ 90) = false := decide_eq_false (by omega)
          have u1 : decide (c ≤ 122) = true := decide_eq_true (by omega)
          have u2 : decide (c ≤ 57) = false := decide_eq_false (by omega)
          have e0 : (c == 95) = false := beq_eq_false_iff_ne.mpr (by omega)
          have e1 : (c == 45) = false := beq_eq_false_iff_ne.mpr (by omega)
          have e2 : (c == 46) = false := beq_eq_false_iff_ne.mpr (by omega)
          have hok : parse_Name.ok c = false := by simp only [parse_Name.ok, decide_eq_true_eq, decide_eq_false_iff_not]; omega
          clear g
          rw [hok] at H
          rw [if_neg (show ¬ (false = true) by decide)] at H
          obtain rfl := Option.some.inj H
          clear H
          have H1 := H0.out
          clear H0
          rw [if_neg (show ¬ (false = true) by decide)] at H1
          obtain rfl := Option.some.inj H1
          clear H1
          go_wp2
          go_ret
          exact ⟨by first | rfl | (simp; done) | (simp [*]; done), by repeat (first | exact hbl.out | apply pw_below_drewN | apply below_drew1)⟩
        · -- c = 95
          have d0 : decide (65 ≤ c) = true := decide_eq_true (by omega)
          have d1 : decide (97 ≤ c) = false := decide_eq_false (by omega)
          have d2 : decide (48 ≤ c) = true := decide_eq_true (by omega)
          have u0 : decide (c ≤ 90) = false := decide_eq_false (by omega)
          have u1 : decide (c ≤ 122) = true := decide_eq_true (by omega)
          have u2 : decide (c ≤ 57) = false := decide_eq_false (by omega)
          have e0 : (c == 95) = true := beq_iff_eq.mpr (by omega)
          have e1 : (c == 45) = false := beq_eq_false_iff_ne.mpr (by omega)
          have e2 : (c == 46) = false := beq_eq_false_iff_ne.mpr (by omega)
          have hok : parse_Name.ok c = true := by simp only [parse_Name.ok, decide_eq_true_eq, decide_eq_false_iff_not]; omega
          clear g
          rw [hok] at H
          rw [if_pos rfl] at H
          have H' := Aside0.mk H
          clear H H0
          go_wp2
          go_roundg k1
          case measure => have := HK1.out; omega
          case rel => exact ⟨(wrap64 (x11_1 + 1)), (by first | rfl | (simp; done) | (simp [*]; done)), H', ⟨by have := HK1.out; omega⟩, by repeat (first | exact Drawn0.refl _ | apply Drawn0.step)⟩
        · -- c = 96
          have d0 : decide (65 ≤ c) = true := decide_eq_true (by omega)
          have d1 : decide (97 ≤ c) = false := decide_eq_false (by omega)
          have d2 : decide (48 ≤ c) = true := decide_eq_true (by omega)
          have u0 : decide (c ≤ 90) = false := decide_eq_false (by omega)
          have u1 : decide (c ≤ 122) = true := decide_eq_true (by omega)
          have u2 : decide (c ≤ 57) = false := decide_eq_false (by omega)
          have e0 : (c == 95) = false := beq_eq_false_iff_ne.mpr (by omega)
          have e1 : (c == 45) = false := beq_eq_false_iff_ne.mpr (by omega)
          have e2 : (c == 46) = false := beq_eq_false_iff_ne.mpr (by omega)
          have hok : parse_Name.ok c = false := by simp only [parse_Name.ok, decide_eq_true_eq, decide_eq_false_iff_not]; omega
          clear g
          rw [hok] at H
          rw [if_neg (show ¬ (false = true) by decide)] at H
          obtain rfl := Option.some.inj H
          clear H
          have H1 := H0.out
          clear H0
          rw [if_neg (show ¬ (false = true) by decide)] at H1
          obtain rfl := Option.some.inj H1
          clear H1
          go_wp2
          go_ret
          exact ⟨by first | rfl | (simp; done) | (simp [*]; done), by repeat (first | exact hbl.out | apply pw_below_drewN | apply below_drew1)⟩
        · -- 97 ≤ c ∧ c ≤ 122
          have d0 : decide (65 ≤ c) = true := decide_eq_true (by omega)
          have d1 : decide (97 ≤ c) = true := decide_eq_true (by omega)
          have d2 : decide (48 ≤ c) = true := decide_eq_true (by omega)
          have u0 : decide (c ≤ 90) = false := decide_eq_false (by omega)
          have u1 : decide (c ≤ 122) = true := decide_eq_true (by omega)
          have u2 : decide (c ≤ 57) = false := decide_eq_false (by omega)
          have e0 : (c == 95) = false := beq_eq_false_iff_ne.mpr (by omega)
          have e1 : (c == 45) = false := beq_eq_false_iff_ne.mpr (by omega)
          have e2 : (c == 46) = false := beq_eq_false_iff_ne.mpr (by omega)
          have hok : parse_Name.ok c = true := by simp only [parse_Name.ok, decide_eq_true_eq, decide_eq_false_iff_not]; omega
          clear g
          rw [hok] at H
          rw [if_pos rfl] at H
          have H' := Aside0.mk H
          clear H H0
          go_wp2
          go_roundg k1
          case measure => have := HK1.out; omega
          case rel => exact ⟨(wrap64 (x11_1 + 1)), (by first | rfl | (simp; done) | (simp [*]; done)), H', ⟨by have := HK1.out; omega⟩, by repeat (first | exact Drawn0.refl _ | apply Drawn0.step)⟩
        · -- 123 ≤ c
          have d0 : decide (65 ≤ c) = true := decide_eq_true (by omega)
          have d1 : decide (97 ≤ c) = true := decide_eq_true (by omega)
          have d2 : decide (48 ≤ c) = true := decide_eq_true (by omega)
          have u0 : decide (c ≤ 90) = false := decide_eq_false (by omega)
          have u1 : decide (c ≤ 122) = false := decide_eq_false (by omega)
          have u2 : decide (c ≤ 57) = false := decide_eq_false (by omega)
          have e0 : (c == 95) = false := beq_eq_false_iff_ne.mpr (by omega)
          have e1 : (c == 45) = false := beq_eq_false_iff_ne.mpr (by omega)
          have e2 : (c == 46) = false := beq_eq_false_iff_ne.mpr (by omega)
          have hok : parse_Name.ok c = false := by simp only [parse_Name.ok, decide_eq_true_eq, decide_eq_false_iff_not]; omega
          clear g
          rw [hok] at H
          rw [if_neg (show ¬ (false = true) by decide)] at H
          obtain rfl := Option.some.inj H
          clear H
          have H1 := H0.out
          clear H0
          rw [if_neg (show ¬ (false = true) by decide)] at H1
          obtain rfl := Option.some.inj H1
          clear H1
          go_wp2
          go_ret
          exact ⟨by first | rfl | (simp; done) | (simp [*]; done), by repeat (first | exact hbl.out | apply pw_below_drewN | apply below_drew1)⟩
      · rw [if_neg c2] at H
        have c2b0 : decide (x11_1 < (a0.size : Int)) = false := decide_eq_false c2
        clear c2
        obtain rfl := Option.some.inj H
        clear H
        have H := H0.out
        clear H0
        rw [if_pos rfl] at H
        clear hrd
        by_cases c5 : a0.toList = ([] : List UInt8)
        · rw [if_pos c5] at H
          have c5b0 : (a0.toList == ([] : List UInt8)) = true := beq_iff_eq.mpr c5
          clear c5
          obtain rfl := Option.some.inj H
          clear H
          go_wp2
          go_ret
          exact ⟨by first | rfl | (simp; done) | (simp [*]; done), by repeat (first | exact hbl.out | apply pw_below_drewN | apply below_drew1)⟩
        · rw [if_neg c5] at H
          have c5b0 : (a0.toList == ([] : List UInt8)) = false := beq_eq_false_iff_ne.mpr c5
          clear c5
          by_cases c7 : (a0.size : Int) ≤ 40
          · have c7b0 : decide ((a0.size : Int) ≤ 40) = true := decide_eq_true c7
            have c7b1 : decide (a0.size ≤ 40) = true := decide_eq_true (by omega)
            clear c7
            rw [c7b0] at H
            obtain rfl := Option.some.inj H
            clear H
            go_wp2
            go_ret
            exact ⟨by first | rfl | (simp; done) | (simp [*]; done), by repeat (first | exact hbl.out | apply pw_below_drewN | apply below_drew1)⟩
          · have c7b0 : decide ((a0.size : Int) ≤ 40) = false := decide_eq_false c7
            have c7b1 : decide (a0.size ≤ 40) = false := decide_eq_false (by omega)
            clear c7
            rw [c7b0] at H
            obtain rfl := Option.some.inj H
            clear H
            go_wp2
            go_ret
            exact ⟨by first | rfl | (simp; done) | (simp [*]; done), by repeat (first | exact hbl.out | apply pw_below_drewN | apply below_drew1)⟩




/-! ### stringslite_HasPrefix: function 51 -/
def stringslite_HasPrefix.f (a0 : ByteArray) (a1 : ByteArray) : Option (Bool) := if (a0.size : Int) ≥ (a1.size : Int) then (if 0 ≤ (a1.size : Int) then (if (a1.size : Int) ≤ (a0.size : Int) then (some ((a0.extract 0 ((a1.size : Int) : Int).toNat).toList == a1.toList)) else (none)) else (none)) else (some false)
set_option maxHeartbeats 8000000 in
set_option maxRecDepth 100000 in
theorem stringslite_HasPrefix.calls (a0 : ByteArray) (a1 : ByteArray) (r : Bool) (w : World) (h : stringslite_HasPrefix.f a0 a1 = some r) :
  Calls Tryd.prog 51 #[.string a0, .string a1] w fun e w' => e = .returned (.bool r) ∧ Drawn0 w w' := by
 have H : (if (a0.size : Int) ≥ (a1.size : Int) then (if 0 ≤ (a1.size : Int) then (if (a1.size : Int) ≤ (a0.size : Int) then (some ((a0.extract 0 ((a1.size : Int) : Int).toNat).toList == a1.toList)) else (none)) else (none)) else (some false)) = some r := h
 clear h
 by_cases c3 : (a0.size : Int) ≥ (a1.size : Int)
 ·rw [if_pos c3] at H
  have c3b0 : decide ((a1.size : Int) ≤ (a0.size : Int)) = true := decide_eq_true c3
  have c3b1 : decide (a1.size ≤ a0.size) = true := decide_eq_true (Int.ofNat_le.mp c3)
  clear c3
  by_cases c4 : 0 ≤ (a1.size : Int)
  ·rw [if_pos c4] at H
   have c4b0 := eq_true c4
   have c4b1 : decide (0 ≤ (a1.size : Int)) = true := decide_eq_true c4
   clear c4
   by_cases c5 : (a1.size : Int) ≤ (a0.size : Int)
   ·rw [if_pos c5] at H
    have c5b0 := eq_true c5
    have c5b1 : decide ((a1.size : Int) ≤ (a0.size : Int)) = true := decide_eq_true c5
    clear c5
    obtain rfl := Option.some.inj H
    go_enter Tryd.func51, Tryd.ntmps51
    go_wp2
    go_ret
    exact ⟨by first | rfl | (simp; done) | (simp [*]; done), by repeat (first | exact Drawn0.refl _ | apply Drawn0.step)⟩
   ·rw [if_neg c5] at H
    exact absurd H (by simp)
  ·rw [if_neg c4] at H
   exact absurd H (by simp)
 ·rw [if_neg c3] at H
  have c3b0 : decide ((a1.size : Int) ≤ (a0.size : Int)) = false := decide_eq_false c3
  have c3b1 : decide (a1.size ≤ a0.size) = false := decide_eq_false (fun h => c3 (Int.ofNat_le.mpr h))
  clear c3
  obtain rfl := Option.some.inj H
  go_enter Tryd.func51, Tryd.ntmps51
  go_wp2
  go_ret
  exact ⟨by first | rfl | (simp; done) | (simp [*]; done), by repeat (first | exact Drawn0.refl _ | apply Drawn0.step)⟩

/-! ### strings_HasPrefix: function 28 -/
def strings_HasPrefix.f (a0 : ByteArray) (a1 : ByteArray) : Option (Bool) := (stringslite_HasPrefix.f a0 a1).bind fun t101 => (some t101)
set_option maxHeartbeats 8000000 in
set_option maxRecDepth 100000 in
theorem strings_HasPrefix.calls (a0 : ByteArray) (a1 : ByteArray) (r : Bool) (w : World) (h : strings_HasPrefix.f a0 a1 = some r) :
  Calls Tryd.prog 28 #[.string a0, .string a1] w fun e w' => e = .returned (.bool r) ∧ Drawn0 w w' := by
 have H : ((stringslite_HasPrefix.f a0 a1).bind fun t101 => (some t101)) = some r := h
 clear h
 replace H := Option.bind_eq_some_iff.mp H
 obtain ⟨t101, A30, H⟩ := H
 replace H : (some t101) = some r := H
 have A3 := Aside0.mk A30
 clear A30
 obtain rfl := Option.some.inj H
 go_enter Tryd.func28, Tryd.ntmps28
 go_wp2_with (first | ((with_reducible refine gate_callee (f := 51) rfl ?_); refine goesL_ (some 7) rfl rfl Tryd.func51 (by kernel_rfl) rfl #[.string a0, .string a1] rfl zA ?_; (with_reducible refine (stringslite_HasPrefix.calls a0 a1 t101 _ A3.out).mono ?_); rintro e w' ⟨rfl, ⟨nd, rfl⟩⟩; refine ⟨_, rfl, ?_⟩))
 go_ret
 exact ⟨by first | rfl | (simp; done) | (simp [*]; done), by repeat (first | exact Drawn0.refl _ | apply Drawn0.step)⟩

end Go.Proofs.YthnholondnfjoaaDoor.PParse
