-- Written by a program of this session (wip/tools/ext.py, over the kit's printer); not trusted: Lean checks it.
import Derived.Test.YtjdadmjomjhpcaaDoorProg
import Derived.Below
import Derived.Deep.Draws
import Derived.Deep.AppendLies
import Derived.Maps.AppendAt
import Derived.OwnWalk
import Derived.Laws.BytesArg
import Derived.Laws.MakeOwn
import Derived.Laws.OwnMore
import Derived.Deep.OwnRows
import Derived.Tactics
import Derived.Lib.ConvBytes
import Derived.Laws.Slices
import Derived.WalkKit
import Derived.KernelRfl
import Derived.RowKit3
import Derived.Deep.LoopGhost
import Derived.Deep.QuietTactic
import Derived.BigQuiet
import Derived.WideLaws
import Derived.Deep.DeepCutAuto
import Derived.Deep.CutBlock
import Derived.Deep.RegionHeld3
import Derived.Laws.Rows
import Derived.Lib.AppendStr
import Derived.ArgAppend
import Derived.Laws.IdiomCopy
import Derived.OrdersHeld
import Derived.Laws.BitsLemmas
import Derived.RowKit
import Derived.Lib.Bytealg
import Derived.Shelf.RegionOpenPlain
import Derived.Laws.Strings3
import Derived.Lib.Walk
import Derived.Lib.SliceRun
import Derived.Lib.Strings
import Derived.BigCall
import Derived.BigGuard
import Derived.Test.YtjdadmjomjhpcaaDoorWWords
import Derived.Test.YtjdadmjomjhpcaaDoorWLast
import Derived.Test.YtjdadmjomjhpcaaDoorWMore
namespace Go.Proofs.YtjdadmjomjhpcaaDoor.PLease
open Go.RowKit Go.Proofs.YtjdadmjomjhpcaaDoorW.PrintWords Go.Proofs.YtjdadmjomjhpcaaDoorW.PrintLast Go.Proofs.YtjdadmjomjhpcaaDoorW.PrintMore
attribute [local go_sem] max2_int min2_int max_two min_two max_three min_three max_four min_four   -- for this text's walks alone
set_option linter.unusedVariables false
set_option linter.unusedSimpArgs false



def errW : Option Int → Value
  | none => .nilIface
  | some c => .iface 0 (.int .i64 c)
theorem errW_none : errW none = .nilIface := rfl
theorem errW_some (c : Int) : errW (some c) = .iface 0 (.int .i64 c) := rfl

theorem info9 : (Tryd.prog.info? 9).map (fun i => (i.zero, i.size, i.bytes)) = some (some (.string ⟨#[]⟩), 1, 16) := by kernel_rfl
theorem info42 : (Tryd.prog.info? 42).map (fun i => (i.zero, i.size, i.bytes)) = some (some (.agg #[(.int .i64 0), (.string ⟨#[]⟩), (.bool false), (.int .i64 0), (.int .i64 0)]), 5, 48) := by kernel_rfl
theorem info45 : (Tryd.prog.info? 45).map (fun i => (i.zero, i.size, i.bytes)) = some (some (.agg #[(.int .i64 0), (.string ⟨#[]⟩), (.bool false), (.int .i64 0), (.int .i64 0)]), 5, 48) := by kernel_rfl
theorem info49 : (Tryd.prog.info? 49).map (fun i => (i.zero, i.size, i.bytes)) = some (some (.agg #[(.int .i64 0), (.string ⟨#[]⟩), (.bool false), (.int .i64 0)]), 4, 40) := by kernel_rfl
theorem info52 : (Tryd.prog.info? 52).map (fun i => (i.zero, i.size, i.bytes)) = some (some (.agg #[(.int .i64 0), (.string ⟨#[]⟩), (.bool false), (.int .i64 0)]), 4, 40) := by kernel_rfl
-- the values' own types
/-! #### struct type 42 -/
structure S42 where
  f0 : Int
  f1 : ByteArray
  f2 : Bool
  f3 : Int
  f4 : Int
def z42 : S42 := ⟨(0 : Int), (⟨#[]⟩ : ByteArray), false, (0 : Int), (0 : Int)⟩
def k42 : Kd S42 := Kd.iso (Kd.pair (Kd.int .i64) (Kd.pair Kd.string (Kd.pair Kd.bool (Kd.pair (Kd.int .i64) (Kd.int .i64))))) (fun x : S42 => (x.f0, x.f1, x.f2, x.f3, x.f4))
theorem k42_open {w : World} {x : S42} {cs : List Value} (h : k42.K w x cs) : cs = [.int .i64 x.f0, .string x.f1, .bool x.f2, .int .i64 x.f3, .int .i64 x.f4] := by
  obtain ⟨_, _, rfl, rfl, ⟨_, _, rfl, rfl, ⟨_, _, rfl, rfl, ⟨_, _, rfl, rfl, rfl⟩⟩⟩⟩ := h
  exact rfl
theorem k42_openM {w : World} {base : Nat} {ok : Nat → Prop} {x : S42} {cs : List Value} (h : k42.M w base ok x cs) : cs = [.int .i64 x.f0, .string x.f1, .bool x.f2, .int .i64 x.f3, .int .i64 x.f4] := by
  obtain ⟨_, _, rfl, rfl, ⟨_, _, rfl, rfl, ⟨_, _, rfl, rfl, ⟨_, _, rfl, rfl, rfl⟩⟩⟩⟩ := h
  exact rfl
theorem k42_mk (w : World) (x : S42)  : k42.K w x [.int .i64 x.f0, .string x.f1, .bool x.f2, .int .i64 x.f3, .int .i64 x.f4] := ⟨[.int .i64 x.f0], [.string x.f1, .bool x.f2, .int .i64 x.f3, .int .i64 x.f4], rfl, rfl, ⟨[.string x.f1], [.bool x.f2, .int .i64 x.f3, .int .i64 x.f4], rfl, rfl, ⟨[.bool x.f2], [.int .i64 x.f3, .int .i64 x.f4], rfl, rfl, ⟨[.int .i64 x.f3], [.int .i64 x.f4], rfl, rfl, rfl⟩⟩⟩⟩
theorem k42_mkM (w : World) (base : Nat) (ok : Nat → Prop) (x : S42)  : k42.M w base ok x [.int .i64 x.f0, .string x.f1, .bool x.f2, .int .i64 x.f3, .int .i64 x.f4] := ⟨[.int .i64 x.f0], [.string x.f1, .bool x.f2, .int .i64 x.f3, .int .i64 x.f4], rfl, rfl, ⟨[.string x.f1], [.bool x.f2, .int .i64 x.f3, .int .i64 x.f4], rfl, rfl, ⟨[.bool x.f2], [.int .i64 x.f3, .int .i64 x.f4], rfl, rfl, ⟨[.int .i64 x.f3], [.int .i64 x.f4], rfl, rfl, rfl⟩⟩⟩⟩
theorem k42_mkF (W : World) (ok : Nat → Prop) (x : S42) : Kd.FK k42 W ok x [.int .i64 x.f0, .string x.f1, .bool x.f2, .int .i64 x.f3, .int .i64 x.f4] := fun W2 _ => k42_mk W2 x
def rd_T42 (xs : List S42) (i : Int) : S42 := xs.getD i.toNat z42
theorem at_T42 {w : World} {A : Option Addr} {n : Nat} {xs : List S42} (h : Kd.C k42 w A n xs) (i : Int) (h0 : 0 ≤ i) (h1 : i < n) : ∃ ad , A = some ad ∧ w.cell? (ad.add (i.toNat * 5)) = some (.int .i64 (rd_T42 xs i).f0) ∧ w.cell? ⟨(ad.add (i.toNat * 5)).block, (ad.add (i.toNat * 5)).off + 1, none⟩ = some (.string (rd_T42 xs i).f1) ∧ w.cell? ⟨(ad.add (i.toNat * 5)).block, (ad.add (i.toNat * 5)).off + 2, none⟩ = some (.bool (rd_T42 xs i).f2) ∧ w.cell? ⟨(ad.add (i.toNat * 5)).block, (ad.add (i.toNat * 5)).off + 3, none⟩ = some (.int .i64 (rd_T42 xs i).f3) ∧ w.cell? ⟨(ad.add (i.toNat * 5)).block, (ad.add (i.toNat * 5)).off + 4, none⟩ = some (.int .i64 (rd_T42 xs i).f4) := by
  obtain ⟨ad, c, e, _, hK, hc0⟩ := Kd.C_get h z42 i h0 h1
  have hc : ∀ j u, c[j]? = some u → w.cell? (ad.add (i.toNat * 5 + j)) = some u := hc0
  obtain rfl := k42_open hK
  exact ⟨ad, e, hc 0 _ rfl, by rw [← add_field _ _ 1 (by omega)]; exact hc 1 _ rfl, by rw [← add_field _ _ 2 (by omega)]; exact hc 2 _ rfl, by rw [← add_field _ _ 3 (by omega)]; exact hc 3 _ rfl, by rw [← add_field _ _ 4 (by omega)]; exact hc 4 _ rfl⟩

/-! #### struct type 49 -/
structure S49 where
  f0 : Int
  f1 : ByteArray
  f2 : Bool
  f3 : Int
def z49 : S49 := ⟨(0 : Int), (⟨#[]⟩ : ByteArray), false, (0 : Int)⟩
def k49 : Kd S49 := Kd.iso (Kd.pair (Kd.int .i64) (Kd.pair Kd.string (Kd.pair Kd.bool (Kd.int .i64)))) (fun x : S49 => (x.f0, x.f1, x.f2, x.f3))
theorem k49_open {w : World} {x : S49} {cs : List Value} (h : k49.K w x cs) : cs = [.int .i64 x.f0, .string x.f1, .bool x.f2, .int .i64 x.f3] := by
  obtain ⟨_, _, rfl, rfl, ⟨_, _, rfl, rfl, ⟨_, _, rfl, rfl, rfl⟩⟩⟩ := h
  exact rfl
theorem k49_openM {w : World} {base : Nat} {ok : Nat → Prop} {x : S49} {cs : List Value} (h : k49.M w base ok x cs) : cs = [.int .i64 x.f0, .string x.f1, .bool x.f2, .int .i64 x.f3] := by
  obtain ⟨_, _, rfl, rfl, ⟨_, _, rfl, rfl, ⟨_, _, rfl, rfl, rfl⟩⟩⟩ := h
  exact rfl
theorem k49_mk (w : World) (x : S49)  : k49.K w x [.int .i64 x.f0, .string x.f1, .bool x.f2, .int .i64 x.f3] := ⟨[.int .i64 x.f0], [.string x.f1, .bool x.f2, .int .i64 x.f3], rfl, rfl, ⟨[.string x.f1], [.bool x.f2, .int .i64 x.f3], rfl, rfl, ⟨[.bool x.f2], [.int .i64 x.f3], rfl, rfl, rfl⟩⟩⟩
theorem k49_mkM (w : World) (base : Nat) (ok : Nat → Prop) (x : S49)  : k49.M w base ok x [.int .i64 x.f0, .string x.f1, .bool x.f2, .int .i64 x.f3] := ⟨[.int .i64 x.f0], [.string x.f1, .bool x.f2, .int .i64 x.f3], rfl, rfl, ⟨[.string x.f1], [.bool x.f2, .int .i64 x.f3], rfl, rfl, ⟨[.bool x.f2], [.int .i64 x.f3], rfl, rfl, rfl⟩⟩⟩
theorem k49_mkF (W : World) (ok : Nat → Prop) (x : S49) : Kd.FK k49 W ok x [.int .i64 x.f0, .string x.f1, .bool x.f2, .int .i64 x.f3] := fun W2 _ => k49_mk W2 x
def rd_T49 (xs : List S49) (i : Int) : S49 := xs.getD i.toNat z49
theorem at_T49 {w : World} {A : Option Addr} {n : Nat} {xs : List S49} (h : Kd.C k49 w A n xs) (i : Int) (h0 : 0 ≤ i) (h1 : i < n) : ∃ ad , A = some ad ∧ w.cell? (ad.add (i.toNat * 4)) = some (.int .i64 (rd_T49 xs i).f0) ∧ w.cell? ⟨(ad.add (i.toNat * 4)).block, (ad.add (i.toNat * 4)).off + 1, none⟩ = some (.string (rd_T49 xs i).f1) ∧ w.cell? ⟨(ad.add (i.toNat * 4)).block, (ad.add (i.toNat * 4)).off + 2, none⟩ = some (.bool (rd_T49 xs i).f2) ∧ w.cell? ⟨(ad.add (i.toNat * 4)).block, (ad.add (i.toNat * 4)).off + 3, none⟩ = some (.int .i64 (rd_T49 xs i).f3) := by
  obtain ⟨ad, c, e, _, hK, hc0⟩ := Kd.C_get h z49 i h0 h1
  have hc : ∀ j u, c[j]? = some u → w.cell? (ad.add (i.toNat * 4 + j)) = some u := hc0
  obtain rfl := k49_open hK
  exact ⟨ad, e, hc 0 _ rfl, by rw [← add_field _ _ 1 (by omega)]; exact hc 1 _ rfl, by rw [← add_field _ _ 2 (by omega)]; exact hc 2 _ rfl, by rw [← add_field _ _ 3 (by omega)]; exact hc 3 _ rfl⟩

def rd_L5 (xs : List (List ByteArray)) (i : Int) : (List ByteArray) := xs.getD i.toNat ([] : List ByteArray)
theorem at_L5 {w : World} {A : Option Addr} {n : Nat} {xs : List (List ByteArray)} (h : Kd.C (Kd.slice 9 Kd.string) w A n xs) (i : Int) (h0 : 0 ≤ i) (h1 : i < n) : ∃ ad A0 c0, A = some ad ∧ w.cell? (ad.add i.toNat) = some (.slice A0 (rd_L5 xs i).length c0) ∧ (rd_L5 xs i).length ≤ c0 ∧ Kd.string.C w A0 (rd_L5 xs i).length (rd_L5 xs i) := by
  obtain ⟨ad, c, e, _, hK, hc0⟩ := Kd.C_get h ([] : List ByteArray) i h0 h1
  have hc : ∀ j u, c[j]? = some u → w.cell? (ad.add (i.toNat * 1 + j)) = some u := hc0
  obtain ⟨A0, c0, rfl, l0, g0⟩ := hK
  exact ⟨ad, A0, c0, e, by have hq := hc 0 _ rfl; rwa [Nat.mul_one, Nat.add_zero] at hq, l0, g0⟩

/-! #### struct type 34 -/
structure S34 where
  f0 : Int
  f1 : Int
  f2 : Int
  f3 : Int
  f4 : Int
  f5 : ByteArray
  f6 : Bool
def z34 : S34 := ⟨(0 : Int), (0 : Int), (0 : Int), (0 : Int), (0 : Int), (⟨#[]⟩ : ByteArray), false⟩
def k34 : Kd S34 := Kd.iso (Kd.pair (Kd.int .i64) (Kd.pair (Kd.int .i64) (Kd.pair (Kd.int .i64) (Kd.pair (Kd.int .i64) (Kd.pair (Kd.int .i64) (Kd.pair Kd.string Kd.bool)))))) (fun x : S34 => (x.f0, x.f1, x.f2, x.f3, x.f4, x.f5, x.f6))
theorem k34_open {w : World} {x : S34} {cs : List Value} (h : k34.K w x cs) : cs = [.int .i64 x.f0, .int .i64 x.f1, .int .i64 x.f2, .int .i64 x.f3, .int .i64 x.f4, .string x.f5, .bool x.f6] := by
  obtain ⟨_, _, rfl, rfl, ⟨_, _, rfl, rfl, ⟨_, _, rfl, rfl, ⟨_, _, rfl, rfl, ⟨_, _, rfl, rfl, ⟨_, _, rfl, rfl, rfl⟩⟩⟩⟩⟩⟩ := h
  exact rfl
theorem k34_openM {w : World} {base : Nat} {ok : Nat → Prop} {x : S34} {cs : List Value} (h : k34.M w base ok x cs) : cs = [.int .i64 x.f0, .int .i64 x.f1, .int .i64 x.f2, .int .i64 x.f3, .int .i64 x.f4, .string x.f5, .bool x.f6] := by
  obtain ⟨_, _, rfl, rfl, ⟨_, _, rfl, rfl, ⟨_, _, rfl, rfl, ⟨_, _, rfl, rfl, ⟨_, _, rfl, rfl, ⟨_, _, rfl, rfl, rfl⟩⟩⟩⟩⟩⟩ := h
  exact rfl
theorem k34_mk (w : World) (x : S34)  : k34.K w x [.int .i64 x.f0, .int .i64 x.f1, .int .i64 x.f2, .int .i64 x.f3, .int .i64 x.f4, .string x.f5, .bool x.f6] := ⟨[.int .i64 x.f0], [.int .i64 x.f1, .int .i64 x.f2, .int .i64 x.f3, .int .i64 x.f4, .string x.f5, .bool x.f6], rfl, rfl, ⟨[.int .i64 x.f1], [.int .i64 x.f2, .int .i64 x.f3, .int .i64 x.f4, .string x.f5, .bool x.f6], rfl, rfl, ⟨[.int .i64 x.f2], [.int .i64 x.f3, .int .i64 x.f4, .string x.f5, .bool x.f6], rfl, rfl, ⟨[.int .i64 x.f3], [.int .i64 x.f4, .string x.f5, .bool x.f6], rfl, rfl, ⟨[.int .i64 x.f4], [.string x.f5, .bool x.f6], rfl, rfl, ⟨[.string x.f5], [.bool x.f6], rfl, rfl, rfl⟩⟩⟩⟩⟩⟩
theorem k34_mkM (w : World) (base : Nat) (ok : Nat → Prop) (x : S34)  : k34.M w base ok x [.int .i64 x.f0, .int .i64 x.f1, .int .i64 x.f2, .int .i64 x.f3, .int .i64 x.f4, .string x.f5, .bool x.f6] := ⟨[.int .i64 x.f0], [.int .i64 x.f1, .int .i64 x.f2, .int .i64 x.f3, .int .i64 x.f4, .string x.f5, .bool x.f6], rfl, rfl, ⟨[.int .i64 x.f1], [.int .i64 x.f2, .int .i64 x.f3, .int .i64 x.f4, .string x.f5, .bool x.f6], rfl, rfl, ⟨[.int .i64 x.f2], [.int .i64 x.f3, .int .i64 x.f4, .string x.f5, .bool x.f6], rfl, rfl, ⟨[.int .i64 x.f3], [.int .i64 x.f4, .string x.f5, .bool x.f6], rfl, rfl, ⟨[.int .i64 x.f4], [.string x.f5, .bool x.f6], rfl, rfl, ⟨[.string x.f5], [.bool x.f6], rfl, rfl, rfl⟩⟩⟩⟩⟩⟩
theorem k34_mkF (W : World) (ok : Nat → Prop) (x : S34) : Kd.FK k34 W ok x [.int .i64 x.f0, .int .i64 x.f1, .int .i64 x.f2, .int .i64 x.f3, .int .i64 x.f4, .string x.f5, .bool x.f6] := fun W2 _ => k34_mk W2 x
def rd_T34 (xs : List S34) (i : Int) : S34 := xs.getD i.toNat z34
theorem at_T34 {w : World} {A : Option Addr} {n : Nat} {xs : List S34} (h : Kd.C k34 w A n xs) (i : Int) (h0 : 0 ≤ i) (h1 : i < n) : ∃ ad , A = some ad ∧ w.cell? (ad.add (i.toNat * 7)) = some (.int .i64 (rd_T34 xs i).f0) ∧ w.cell? ⟨(ad.add (i.toNat * 7)).block, (ad.add (i.toNat * 7)).off + 1, none⟩ = some (.int .i64 (rd_T34 xs i).f1) ∧ w.cell? ⟨(ad.add (i.toNat * 7)).block, (ad.add (i.toNat * 7)).off + 2, none⟩ = some (.int .i64 (rd_T34 xs i).f2) ∧ w.cell? ⟨(ad.add (i.toNat * 7)).block, (ad.add (i.toNat * 7)).off + 3, none⟩ = some (.int .i64 (rd_T34 xs i).f3) ∧ w.cell? ⟨(ad.add (i.toNat * 7)).block, (ad.add (i.toNat * 7)).off + 4, none⟩ = some (.int .i64 (rd_T34 xs i).f4) ∧ w.cell? ⟨(ad.add (i.toNat * 7)).block, (ad.add (i.toNat * 7)).off + 5, none⟩ = some (.string (rd_T34 xs i).f5) ∧ w.cell? ⟨(ad.add (i.toNat * 7)).block, (ad.add (i.toNat * 7)).off + 6, none⟩ = some (.bool (rd_T34 xs i).f6) := by
  obtain ⟨ad, c, e, _, hK, hc0⟩ := Kd.C_get h z34 i h0 h1
  have hc : ∀ j u, c[j]? = some u → w.cell? (ad.add (i.toNat * 7 + j)) = some u := hc0
  obtain rfl := k34_open hK
  exact ⟨ad, e, hc 0 _ rfl, by rw [← add_field _ _ 1 (by omega)]; exact hc 1 _ rfl, by rw [← add_field _ _ 2 (by omega)]; exact hc 2 _ rfl, by rw [← add_field _ _ 3 (by omega)]; exact hc 3 _ rfl, by rw [← add_field _ _ 4 (by omega)]; exact hc 4 _ rfl, by rw [← add_field _ _ 5 (by omega)]; exact hc 5 _ rfl, by rw [← add_field _ _ 6 (by omega)]; exact hc 6 _ rfl⟩

/-! #### struct type 45 -/
structure S45 where
  f0 : Int
  f1 : ByteArray
  f2 : Bool
  f3 : Int
  f4 : Int
def z45 : S45 := ⟨(0 : Int), (⟨#[]⟩ : ByteArray), false, (0 : Int), (0 : Int)⟩
def k45 : Kd S45 := Kd.iso (Kd.pair (Kd.int .i64) (Kd.pair Kd.string (Kd.pair Kd.bool (Kd.pair (Kd.int .i64) (Kd.int .i64))))) (fun x : S45 => (x.f0, x.f1, x.f2, x.f3, x.f4))
theorem k45_open {w : World} {x : S45} {cs : List Value} (h : k45.K w x cs) : cs = [.int .i64 x.f0, .string x.f1, .bool x.f2, .int .i64 x.f3, .int .i64 x.f4] := by
  obtain ⟨_, _, rfl, rfl, ⟨_, _, rfl, rfl, ⟨_, _, rfl, rfl, ⟨_, _, rfl, rfl, rfl⟩⟩⟩⟩ := h
  exact rfl
theorem k45_openM {w : World} {base : Nat} {ok : Nat → Prop} {x : S45} {cs : List Value} (h : k45.M w base ok x cs) : cs = [.int .i64 x.f0, .string x.f1, .bool x.f2, .int .i64 x.f3, .int .i64 x.f4] := by
  obtain ⟨_, _, rfl, rfl, ⟨_, _, rfl, rfl, ⟨_, _, rfl, rfl, ⟨_, _, rfl, rfl, rfl⟩⟩⟩⟩ := h
  exact rfl
theorem k45_mk (w : World) (x : S45)  : k45.K w x [.int .i64 x.f0, .string x.f1, .bool x.f2, .int .i64 x.f3, .int .i64 x.f4] := ⟨[.int .i64 x.f0], [.string x.f1, .bool x.f2, .int .i64 x.f3, .int .i64 x.f4], rfl, rfl, ⟨[.string x.f1], [.bool x.f2, .int .i64 x.f3, .int .i64 x.f4], rfl, rfl, ⟨[.bool x.f2], [.int .i64 x.f3, .int .i64 x.f4], rfl, rfl, ⟨[.int .i64 x.f3], [.int .i64 x.f4], rfl, rfl, rfl⟩⟩⟩⟩
theorem k45_mkM (w : World) (base : Nat) (ok : Nat → Prop) (x : S45)  : k45.M w base ok x [.int .i64 x.f0, .string x.f1, .bool x.f2, .int .i64 x.f3, .int .i64 x.f4] := ⟨[.int .i64 x.f0], [.string x.f1, .bool x.f2, .int .i64 x.f3, .int .i64 x.f4], rfl, rfl, ⟨[.string x.f1], [.bool x.f2, .int .i64 x.f3, .int .i64 x.f4], rfl, rfl, ⟨[.bool x.f2], [.int .i64 x.f3, .int .i64 x.f4], rfl, rfl, ⟨[.int .i64 x.f3], [.int .i64 x.f4], rfl, rfl, rfl⟩⟩⟩⟩
theorem k45_mkF (W : World) (ok : Nat → Prop) (x : S45) : Kd.FK k45 W ok x [.int .i64 x.f0, .string x.f1, .bool x.f2, .int .i64 x.f3, .int .i64 x.f4] := fun W2 _ => k45_mk W2 x
def rd_T45 (xs : List S45) (i : Int) : S45 := xs.getD i.toNat z45
theorem at_T45 {w : World} {A : Option Addr} {n : Nat} {xs : List S45} (h : Kd.C k45 w A n xs) (i : Int) (h0 : 0 ≤ i) (h1 : i < n) : ∃ ad , A = some ad ∧ w.cell? (ad.add (i.toNat * 5)) = some (.int .i64 (rd_T45 xs i).f0) ∧ w.cell? ⟨(ad.add (i.toNat * 5)).block, (ad.add (i.toNat * 5)).off + 1, none⟩ = some (.string (rd_T45 xs i).f1) ∧ w.cell? ⟨(ad.add (i.toNat * 5)).block, (ad.add (i.toNat * 5)).off + 2, none⟩ = some (.bool (rd_T45 xs i).f2) ∧ w.cell? ⟨(ad.add (i.toNat * 5)).block, (ad.add (i.toNat * 5)).off + 3, none⟩ = some (.int .i64 (rd_T45 xs i).f3) ∧ w.cell? ⟨(ad.add (i.toNat * 5)).block, (ad.add (i.toNat * 5)).off + 4, none⟩ = some (.int .i64 (rd_T45 xs i).f4) := by
  obtain ⟨ad, c, e, _, hK, hc0⟩ := Kd.C_get h z45 i h0 h1
  have hc : ∀ j u, c[j]? = some u → w.cell? (ad.add (i.toNat * 5 + j)) = some u := hc0
  obtain rfl := k45_open hK
  exact ⟨ad, e, hc 0 _ rfl, by rw [← add_field _ _ 1 (by omega)]; exact hc 1 _ rfl, by rw [← add_field _ _ 2 (by omega)]; exact hc 2 _ rfl, by rw [← add_field _ _ 3 (by omega)]; exact hc 3 _ rfl, by rw [← add_field _ _ 4 (by omega)]; exact hc 4 _ rfl⟩

/-! #### struct type 52 -/
structure S52 where
  f0 : Int
  f1 : ByteArray
  f2 : Bool
  f3 : Int
def z52 : S52 := ⟨(0 : Int), (⟨#[]⟩ : ByteArray), false, (0 : Int)⟩
def k52 : Kd S52 := Kd.iso (Kd.pair (Kd.int .i64) (Kd.pair Kd.string (Kd.pair Kd.bool (Kd.int .i64)))) (fun x : S52 => (x.f0, x.f1, x.f2, x.f3))
theorem k52_open {w : World} {x : S52} {cs : List Value} (h : k52.K w x cs) : cs = [.int .i64 x.f0, .string x.f1, .bool x.f2, .int .i64 x.f3] := by
  obtain ⟨_, _, rfl, rfl, ⟨_, _, rfl, rfl, ⟨_, _, rfl, rfl, rfl⟩⟩⟩ := h
  exact rfl
theorem k52_openM {w : World} {base : Nat} {ok : Nat → Prop} {x : S52} {cs : List Value} (h : k52.M w base ok x cs) : cs = [.int .i64 x.f0, .string x.f1, .bool x.f2, .int .i64 x.f3] := by
  obtain ⟨_, _, rfl, rfl, ⟨_, _, rfl, rfl, ⟨_, _, rfl, rfl, rfl⟩⟩⟩ := h
  exact rfl
theorem k52_mk (w : World) (x : S52)  : k52.K w x [.int .i64 x.f0, .string x.f1, .bool x.f2, .int .i64 x.f3] := ⟨[.int .i64 x.f0], [.string x.f1, .bool x.f2, .int .i64 x.f3], rfl, rfl, ⟨[.string x.f1], [.bool x.f2, .int .i64 x.f3], rfl, rfl, ⟨[.bool x.f2], [.int .i64 x.f3], rfl, rfl, rfl⟩⟩⟩
theorem k52_mkM (w : World) (base : Nat) (ok : Nat → Prop) (x : S52)  : k52.M w base ok x [.int .i64 x.f0, .string x.f1, .bool x.f2, .int .i64 x.f3] := ⟨[.int .i64 x.f0], [.string x.f1, .bool x.f2, .int .i64 x.f3], rfl, rfl, ⟨[.string x.f1], [.bool x.f2, .int .i64 x.f3], rfl, rfl, ⟨[.bool x.f2], [.int .i64 x.f3], rfl, rfl, rfl⟩⟩⟩
theorem k52_mkF (W : World) (ok : Nat → Prop) (x : S52) : Kd.FK k52 W ok x [.int .i64 x.f0, .string x.f1, .bool x.f2, .int .i64 x.f3] := fun W2 _ => k52_mk W2 x
def rd_T52 (xs : List S52) (i : Int) : S52 := xs.getD i.toNat z52
theorem at_T52 {w : World} {A : Option Addr} {n : Nat} {xs : List S52} (h : Kd.C k52 w A n xs) (i : Int) (h0 : 0 ≤ i) (h1 : i < n) : ∃ ad , A = some ad ∧ w.cell? (ad.add (i.toNat * 4)) = some (.int .i64 (rd_T52 xs i).f0) ∧ w.cell? ⟨(ad.add (i.toNat * 4)).block, (ad.add (i.toNat * 4)).off + 1, none⟩ = some (.string (rd_T52 xs i).f1) ∧ w.cell? ⟨(ad.add (i.toNat * 4)).block, (ad.add (i.toNat * 4)).off + 2, none⟩ = some (.bool (rd_T52 xs i).f2) ∧ w.cell? ⟨(ad.add (i.toNat * 4)).block, (ad.add (i.toNat * 4)).off + 3, none⟩ = some (.int .i64 (rd_T52 xs i).f3) := by
  obtain ⟨ad, c, e, _, hK, hc0⟩ := Kd.C_get h z52 i h0 h1
  have hc : ∀ j u, c[j]? = some u → w.cell? (ad.add (i.toNat * 4 + j)) = some u := hc0
  obtain rfl := k52_open hK
  exact ⟨ad, e, hc 0 _ rfl, by rw [← add_field _ _ 1 (by omega)]; exact hc 1 _ rfl, by rw [← add_field _ _ 2 (by omega)]; exact hc 2 _ rfl, by rw [← add_field _ _ 3 (by omega)]; exact hc 3 _ rfl⟩

theorem zL {b0 : Nat} {w0 w1 w2 : World} (h : Below b0 w0 w1) (c : Below b0 w0 w1 → Below b0 w0 w2 := by intro h_; repeat (first | (with_reducible first | exact h_ | apply below_alloc | apply pw_below_drewN | apply below_drew1 | refine below_set ?_ (Aside0.out (by assumption))) | exact h_)) : Below b0 w0 w2 := c h
theorem zK {w1 w2 : World} {g g' : Nat} {o o' : Obj} (h : w1.heap[g]? = some o) (c : w1.heap[g]? = some o → w2.heap[g']? = some o' := by intro h_; (with_reducible repeat (first | refine blk_drewN ?_ _ | refine blk_drew ?_ | refine blk_alloc ?_ _ | refine blk_far ?_ (Aside0.out (by assumption)) _)); exact h_) : w2.heap[g']? = some o' := c h
theorem zR {a b : Prop} (h : a) (c : a → b := by intro h_; (with_reducible repeat (first | apply Kd.R_alloc | apply Kd.R_drewN | apply Kd.R_drew)); exact h_) : b := c h
theorem zV {a b : Prop} (h : a) (c : a → b := by intro h_; (with_reducible repeat (first | apply Kd.V_alloc | apply Kd.V_drewN | apply Kd.V_drew)); exact h_) : b := c h
theorem zT {α : Type} {d : Kd α} {e base : Nat} {ok : Nat → Prop} {w w2 : World} {v : Value} {xs : List α} {g t : Nat} {cells : Array Value} (h : d.R e w base ok v xs) (hb : w.heap[g]? = some (.cells cells t (0, 0))) (ht : ∀ q, q ∈ e :: d.E → q ≠ t := by decide) (c : d.R e w base (fun k => ok k ∧ k ≠ g) v xs → d.R e w2 base (fun k => ok k ∧ k ≠ g) v xs := by intro h_; (with_reducible repeat (first | exact h_ | apply Kd.R_alloc | apply Kd.R_drewN | apply Kd.R_drew | refine Kd.R_far ?_ (fun _ hk => hk.2) _)); all_goals exact h_) : d.R e w2 base ok v xs := Kd.R_mono (c (Kd.R_types h hb ht)) (fun _ h_ => h_.1)
theorem zM {α : Type} {d : Kd α} {e base : Nat} {ok : Nat → Prop} {w w2 : World} {v : Value} {xs : List α} {g : Nat} (h : d.R e w base ok v xs) (ht : ∀ k, ok k → k ≠ g) (c : d.R e w base (fun k => ok k ∧ k ≠ g) v xs → d.R e w2 base (fun k => ok k ∧ k ≠ g) v xs := by intro h_; (with_reducible repeat (first | exact h_ | apply Kd.R_alloc | apply Kd.R_drewN | apply Kd.R_drew | refine Kd.R_far ?_ (fun _ hk => hk.2) _)); all_goals exact h_) : d.R e w2 base ok v xs := Kd.R_mono (c (Kd.R_mono h (fun k hk => ⟨hk, ht k hk⟩))) (fun _ h_ => h_.1)
theorem zMV {α : Type} {d : Kd α} {e base : Nat} {ok : Nat → Prop} {w w2 : World} {v : Value} {xs : List α} {g : Nat} (h : Kd.V d e w base ok v xs) (ht : ∀ k, ok k → k ≠ g) (c : Kd.V d e w base (fun k => ok k ∧ k ≠ g) v xs → Kd.V d e w2 base (fun k => ok k ∧ k ≠ g) v xs := by intro h_; (with_reducible repeat (first | exact h_ | apply Kd.V_alloc | apply Kd.V_drewN | apply Kd.V_drew | refine Kd.V_far ?_ (fun _ hk => hk.2) _)); all_goals exact h_) : Kd.V d e w2 base ok v xs := Kd.V_mono (c (Kd.V_mono h (fun k hk => ⟨hk, ht k hk⟩))) (fun _ h_ => h_.1)
theorem zG {w W : World} {g : Nat} (hg : g = W.heap.size) (h : Below w.heap.size w W) : w.heap.size ≤ g := by rw [hg]; exact below_size h
theorem zN {W : World} {g g' : Nat} {o : Obj} (hg : g' = W.heap.size) (h : W.heap[g]? = some o) : g ≠ g' := by rw [hg]; exact Nat.ne_of_lt (blk_lt h)
theorem zO {W : World} {g g' : Nat} {o : Obj} (hg : g' = W.heap.size) (h : W.heap[g]? = some o) : g' ≠ g := by rw [hg]; exact Nat.ne_of_gt (blk_lt h)
theorem zA {a : Prop} (c : a := by (try simp only [List.map_toArray, List.map_cons, List.map_nil]); first | done | rfl | (simp only [List.length_drop, List.length_take]; rfl)) : a := c
theorem zH {α : Type} {x y : α} {a b : Prop} (hy : y = x) (H : a) (c : y = x → a → b := by intro hy_ H_; first | (rw [hy_]; with_reducible exact H_) | (have H2_ := (Option.bind_some _ _).symm.trans H_; rw [hy_]; with_reducible exact H2_) | (have H2_ := (Option.bind_some _ _).symm.trans H_; with_reducible exact H2_) | with_reducible exact H_ | (rw [hy_]; exact H_) | exact H_) : b := c hy H
theorem zC1 {w : World} {g t : Nat} {a0 : Value} (h : w.heap[g]? = some (.cells #[a0] t (0, 0))) : w.cell? ⟨g, 0, none⟩ = some a0 ∧ w.frozen? ⟨g, 0, none⟩ = false := ⟨(blk_cell h 0).trans rfl, blk_frozen h 0⟩
theorem zQ1 {w : World} {g t : Nat} {a0 v0 : Value} (h : w.heap[g]? = some (.cells #[a0] t (0, 0))) : (w.setCell ⟨g, 0, none⟩ v0).heap[g]? = some (.cells #[v0] t (0, 0)) := (blk_put (cs := #[a0]) h 0 v0 rfl)
theorem zP1 {w1 w2 : World} {g t : Nat} {a0 v0 : Value} (h : w1.heap[g]? = some (.cells #[a0] t (0, 0))) (c : w1.heap[g]? = some (.cells #[a0] t (0, 0)) → w2.heap[g]? = some (.cells #[v0] t (0, 0)) := by intro h_; (with_reducible repeat (first | refine blk_drewN ?_ _ | refine blk_drew ?_ | refine blk_alloc ?_ _ | refine blk_far ?_ (Aside0.out (by assumption)) _)); apply zQ1; (with_reducible repeat (first | refine blk_drewN ?_ _ | refine blk_drew ?_ | refine blk_alloc ?_ _ | refine blk_far ?_ (Aside0.out (by assumption)) _)); exact h_) : w2.heap[g]? = some (.cells #[v0] t (0, 0)) := c h
theorem zC2 {w : World} {g t : Nat} {a0 a1 : Value} (h : w.heap[g]? = some (.cells #[a0, a1] t (0, 0))) : w.cell? ⟨g, 0, none⟩ = some a0 ∧ w.cell? ⟨g, 1, none⟩ = some a1 ∧ w.frozen? ⟨g, 0, none⟩ = false ∧ w.frozen? ⟨g, 1, none⟩ = false := ⟨(blk_cell h 0).trans rfl, (blk_cell h 1).trans rfl, blk_frozen h 0, blk_frozen h 1⟩
theorem zQ2 {w : World} {g t : Nat} {a0 a1 v0 v1 : Value} (h : w.heap[g]? = some (.cells #[a0, a1] t (0, 0))) : ((w.setCell ⟨g, 0, none⟩ v0).setCell ⟨g, 1, none⟩ v1).heap[g]? = some (.cells #[v0, v1] t (0, 0)) := (blk_put (cs := #[v0, a1]) (blk_put (cs := #[a0, a1]) h 0 v0 rfl) 1 v1 rfl)
theorem zP2 {w1 w2 : World} {g t : Nat} {a0 a1 v0 v1 : Value} (h : w1.heap[g]? = some (.cells #[a0, a1] t (0, 0))) (c : w1.heap[g]? = some (.cells #[a0, a1] t (0, 0)) → w2.heap[g]? = some (.cells #[v0, v1] t (0, 0)) := by intro h_; (with_reducible repeat (first | refine blk_drewN ?_ _ | refine blk_drew ?_ | refine blk_alloc ?_ _ | refine blk_far ?_ (Aside0.out (by assumption)) _)); apply zQ2; (with_reducible repeat (first | refine blk_drewN ?_ _ | refine blk_drew ?_ | refine blk_alloc ?_ _ | refine blk_far ?_ (Aside0.out (by assumption)) _)); exact h_) : w2.heap[g]? = some (.cells #[v0, v1] t (0, 0)) := c h
theorem zC3 {w : World} {g t : Nat} {a0 a1 a2 : Value} (h : w.heap[g]? = some (.cells #[a0, a1, a2] t (0, 0))) : w.cell? ⟨g, 0, none⟩ = some a0 ∧ w.cell? ⟨g, 1, none⟩ = some a1 ∧ w.cell? ⟨g, 2, none⟩ = some a2 ∧ w.frozen? ⟨g, 0, none⟩ = false ∧ w.frozen? ⟨g, 1, none⟩ = false ∧ w.frozen? ⟨g, 2, none⟩ = false := ⟨(blk_cell h 0).trans rfl, (blk_cell h 1).trans rfl, (blk_cell h 2).trans rfl, blk_frozen h 0, blk_frozen h 1, blk_frozen h 2⟩
theorem zQ3 {w : World} {g t : Nat} {a0 a1 a2 v0 v1 v2 : Value} (h : w.heap[g]? = some (.cells #[a0, a1, a2] t (0, 0))) : (((w.setCell ⟨g, 0, none⟩ v0).setCell ⟨g, 1, none⟩ v1).setCell ⟨g, 2, none⟩ v2).heap[g]? = some (.cells #[v0, v1, v2] t (0, 0)) := (blk_put (cs := #[v0, v1, a2]) (blk_put (cs := #[v0, a1, a2]) (blk_put (cs := #[a0, a1, a2]) h 0 v0 rfl) 1 v1 rfl) 2 v2 rfl)
theorem zP3 {w1 w2 : World} {g t : Nat} {a0 a1 a2 v0 v1 v2 : Value} (h : w1.heap[g]? = some (.cells #[a0, a1, a2] t (0, 0))) (c : w1.heap[g]? = some (.cells #[a0, a1, a2] t (0, 0)) → w2.heap[g]? = some (.cells #[v0, v1, v2] t (0, 0)) := by intro h_; (with_reducible repeat (first | refine blk_drewN ?_ _ | refine blk_drew ?_ | refine blk_alloc ?_ _ | refine blk_far ?_ (Aside0.out (by assumption)) _)); apply zQ3; (with_reducible repeat (first | refine blk_drewN ?_ _ | refine blk_drew ?_ | refine blk_alloc ?_ _ | refine blk_far ?_ (Aside0.out (by assumption)) _)); exact h_) : w2.heap[g]? = some (.cells #[v0, v1, v2] t (0, 0)) := c h
theorem zC4 {w : World} {g t : Nat} {a0 a1 a2 a3 : Value} (h : w.heap[g]? = some (.cells #[a0, a1, a2, a3] t (0, 0))) : w.cell? ⟨g, 0, none⟩ = some a0 ∧ w.cell? ⟨g, 1, none⟩ = some a1 ∧ w.cell? ⟨g, 2, none⟩ = some a2 ∧ w.cell? ⟨g, 3, none⟩ = some a3 ∧ w.frozen? ⟨g, 0, none⟩ = false ∧ w.frozen? ⟨g, 1, none⟩ = false ∧ w.frozen? ⟨g, 2, none⟩ = false ∧ w.frozen? ⟨g, 3, none⟩ = false := ⟨(blk_cell h 0).trans rfl, (blk_cell h 1).trans rfl, (blk_cell h 2).trans rfl, (blk_cell h 3).trans rfl, blk_frozen h 0, blk_frozen h 1, blk_frozen h 2, blk_frozen h 3⟩
theorem zQ4 {w : World} {g t : Nat} {a0 a1 a2 a3 v0 v1 v2 v3 : Value} (h : w.heap[g]? = some (.cells #[a0, a1, a2, a3] t (0, 0))) : ((((w.setCell ⟨g, 0, none⟩ v0).setCell ⟨g, 1, none⟩ v1).setCell ⟨g, 2, none⟩ v2).setCell ⟨g, 3, none⟩ v3).heap[g]? = some (.cells #[v0, v1, v2, v3] t (0, 0)) := (blk_put (cs := #[v0, v1, v2, a3]) (blk_put (cs := #[v0, v1, a2, a3]) (blk_put (cs := #[v0, a1, a2, a3]) (blk_put (cs := #[a0, a1, a2, a3]) h 0 v0 rfl) 1 v1 rfl) 2 v2 rfl) 3 v3 rfl)
theorem zP4 {w1 w2 : World} {g t : Nat} {a0 a1 a2 a3 v0 v1 v2 v3 : Value} (h : w1.heap[g]? = some (.cells #[a0, a1, a2, a3] t (0, 0))) (c : w1.heap[g]? = some (.cells #[a0, a1, a2, a3] t (0, 0)) → w2.heap[g]? = some (.cells #[v0, v1, v2, v3] t (0, 0)) := by intro h_; (with_reducible repeat (first | refine blk_drewN ?_ _ | refine blk_drew ?_ | refine blk_alloc ?_ _ | refine blk_far ?_ (Aside0.out (by assumption)) _)); apply zQ4; (with_reducible repeat (first | refine blk_drewN ?_ _ | refine blk_drew ?_ | refine blk_alloc ?_ _ | refine blk_far ?_ (Aside0.out (by assumption)) _)); exact h_) : w2.heap[g]? = some (.cells #[v0, v1, v2, v3] t (0, 0)) := c h
theorem zC5 {w : World} {g t : Nat} {a0 a1 a2 a3 a4 : Value} (h : w.heap[g]? = some (.cells #[a0, a1, a2, a3, a4] t (0, 0))) : w.cell? ⟨g, 0, none⟩ = some a0 ∧ w.cell? ⟨g, 1, none⟩ = some a1 ∧ w.cell? ⟨g, 2, none⟩ = some a2 ∧ w.cell? ⟨g, 3, none⟩ = some a3 ∧ w.cell? ⟨g, 4, none⟩ = some a4 ∧ w.frozen? ⟨g, 0, none⟩ = false ∧ w.frozen? ⟨g, 1, none⟩ = false ∧ w.frozen? ⟨g, 2, none⟩ = false ∧ w.frozen? ⟨g, 3, none⟩ = false ∧ w.frozen? ⟨g, 4, none⟩ = false := ⟨(blk_cell h 0).trans rfl, (blk_cell h 1).trans rfl, (blk_cell h 2).trans rfl, (blk_cell h 3).trans rfl, (blk_cell h 4).trans rfl, blk_frozen h 0, blk_frozen h 1, blk_frozen h 2, blk_frozen h 3, blk_frozen h 4⟩
theorem zQ5 {w : World} {g t : Nat} {a0 a1 a2 a3 a4 v0 v1 v2 v3 v4 : Value} (h : w.heap[g]? = some (.cells #[a0, a1, a2, a3, a4] t (0, 0))) : (((((w.setCell ⟨g, 0, none⟩ v0).setCell ⟨g, 1, none⟩ v1).setCell ⟨g, 2, none⟩ v2).setCell ⟨g, 3, none⟩ v3).setCell ⟨g, 4, none⟩ v4).heap[g]? = some (.cells #[v0, v1, v2, v3, v4] t (0, 0)) := (blk_put (cs := #[v0, v1, v2, v3, a4]) (blk_put (cs := #[v0, v1, v2, a3, a4]) (blk_put (cs := #[v0, v1, a2, a3, a4]) (blk_put (cs := #[v0, a1, a2, a3, a4]) (blk_put (cs := #[a0, a1, a2, a3, a4]) h 0 v0 rfl) 1 v1 rfl) 2 v2 rfl) 3 v3 rfl) 4 v4 rfl)
theorem zP5 {w1 w2 : World} {g t : Nat} {a0 a1 a2 a3 a4 v0 v1 v2 v3 v4 : Value} (h : w1.heap[g]? = some (.cells #[a0, a1, a2, a3, a4] t (0, 0))) (c : w1.heap[g]? = some (.cells #[a0, a1, a2, a3, a4] t (0, 0)) → w2.heap[g]? = some (.cells #[v0, v1, v2, v3, v4] t (0, 0)) := by intro h_; (with_reducible repeat (first | refine blk_drewN ?_ _ | refine blk_drew ?_ | refine blk_alloc ?_ _ | refine blk_far ?_ (Aside0.out (by assumption)) _)); apply zQ5; (with_reducible repeat (first | refine blk_drewN ?_ _ | refine blk_drew ?_ | refine blk_alloc ?_ _ | refine blk_far ?_ (Aside0.out (by assumption)) _)); exact h_) : w2.heap[g]? = some (.cells #[v0, v1, v2, v3, v4] t (0, 0)) := c h
theorem zC6 {w : World} {g t : Nat} {a0 a1 a2 a3 a4 a5 : Value} (h : w.heap[g]? = some (.cells #[a0, a1, a2, a3, a4, a5] t (0, 0))) : w.cell? ⟨g, 0, none⟩ = some a0 ∧ w.cell? ⟨g, 1, none⟩ = some a1 ∧ w.cell? ⟨g, 2, none⟩ = some a2 ∧ w.cell? ⟨g, 3, none⟩ = some a3 ∧ w.cell? ⟨g, 4, none⟩ = some a4 ∧ w.cell? ⟨g, 5, none⟩ = some a5 ∧ w.frozen? ⟨g, 0, none⟩ = false ∧ w.frozen? ⟨g, 1, none⟩ = false ∧ w.frozen? ⟨g, 2, none⟩ = false ∧ w.frozen? ⟨g, 3, none⟩ = false ∧ w.frozen? ⟨g, 4, none⟩ = false ∧ w.frozen? ⟨g, 5, none⟩ = false := ⟨(blk_cell h 0).trans rfl, (blk_cell h 1).trans rfl, (blk_cell h 2).trans rfl, (blk_cell h 3).trans rfl, (blk_cell h 4).trans rfl, (blk_cell h 5).trans rfl, blk_frozen h 0, blk_frozen h 1, blk_frozen h 2, blk_frozen h 3, blk_frozen h 4, blk_frozen h 5⟩
theorem zQ6 {w : World} {g t : Nat} {a0 a1 a2 a3 a4 a5 v0 v1 v2 v3 v4 v5 : Value} (h : w.heap[g]? = some (.cells #[a0, a1, a2, a3, a4, a5] t (0, 0))) : ((((((w.setCell ⟨g, 0, none⟩ v0).setCell ⟨g, 1, none⟩ v1).setCell ⟨g, 2, none⟩ v2).setCell ⟨g, 3, none⟩ v3).setCell ⟨g, 4, none⟩ v4).setCell ⟨g, 5, none⟩ v5).heap[g]? = some (.cells #[v0, v1, v2, v3, v4, v5] t (0, 0)) := (blk_put (cs := #[v0, v1, v2, v3, v4, a5]) (blk_put (cs := #[v0, v1, v2, v3, a4, a5]) (blk_put (cs := #[v0, v1, v2, a3, a4, a5]) (blk_put (cs := #[v0, v1, a2, a3, a4, a5]) (blk_put (cs := #[v0, a1, a2, a3, a4, a5]) (blk_put (cs := #[a0, a1, a2, a3, a4, a5]) h 0 v0 rfl) 1 v1 rfl) 2 v2 rfl) 3 v3 rfl) 4 v4 rfl) 5 v5 rfl)
theorem zP6 {w1 w2 : World} {g t : Nat} {a0 a1 a2 a3 a4 a5 v0 v1 v2 v3 v4 v5 : Value} (h : w1.heap[g]? = some (.cells #[a0, a1, a2, a3, a4, a5] t (0, 0))) (c : w1.heap[g]? = some (.cells #[a0, a1, a2, a3, a4, a5] t (0, 0)) → w2.heap[g]? = some (.cells #[v0, v1, v2, v3, v4, v5] t (0, 0)) := by intro h_; (with_reducible repeat (first | refine blk_drewN ?_ _ | refine blk_drew ?_ | refine blk_alloc ?_ _ | refine blk_far ?_ (Aside0.out (by assumption)) _)); apply zQ6; (with_reducible repeat (first | refine blk_drewN ?_ _ | refine blk_drew ?_ | refine blk_alloc ?_ _ | refine blk_far ?_ (Aside0.out (by assumption)) _)); exact h_) : w2.heap[g]? = some (.cells #[v0, v1, v2, v3, v4, v5] t (0, 0)) := c h
theorem zC7 {w : World} {g t : Nat} {a0 a1 a2 a3 a4 a5 a6 : Value} (h : w.heap[g]? = some (.cells #[a0, a1, a2, a3, a4, a5, a6] t (0, 0))) : w.cell? ⟨g, 0, none⟩ = some a0 ∧ w.cell? ⟨g, 1, none⟩ = some a1 ∧ w.cell? ⟨g, 2, none⟩ = some a2 ∧ w.cell? ⟨g, 3, none⟩ = some a3 ∧ w.cell? ⟨g, 4, none⟩ = some a4 ∧ w.cell? ⟨g, 5, none⟩ = some a5 ∧ w.cell? ⟨g, 6, none⟩ = some a6 ∧ w.frozen? ⟨g, 0, none⟩ = false ∧ w.frozen? ⟨g, 1, none⟩ = false ∧ w.frozen? ⟨g, 2, none⟩ = false ∧ w.frozen? ⟨g, 3, none⟩ = false ∧ w.frozen? ⟨g, 4, none⟩ = false ∧ w.frozen? ⟨g, 5, none⟩ = false ∧ w.frozen? ⟨g, 6, none⟩ = false := ⟨(blk_cell h 0).trans rfl, (blk_cell h 1).trans rfl, (blk_cell h 2).trans rfl, (blk_cell h 3).trans rfl, (blk_cell h 4).trans rfl, (blk_cell h 5).trans rfl, (blk_cell h 6).trans rfl, blk_frozen h 0, blk_frozen h 1, blk_frozen h 2, blk_frozen h 3, blk_frozen h 4, blk_frozen h 5, blk_frozen h 6⟩
theorem zQ7 {w : World} {g t : Nat} {a0 a1 a2 a3 a4 a5 a6 v0 v1 v2 v3 v4 v5 v6 : Value} (h : w.heap[g]? = some (.cells #[a0, a1, a2, a3, a4, a5, a6] t (0, 0))) : (((((((w.setCell ⟨g, 0, none⟩ v0).setCell ⟨g, 1, none⟩ v1).setCell ⟨g, 2, none⟩ v2).setCell ⟨g, 3, none⟩ v3).setCell ⟨g, 4, none⟩ v4).setCell ⟨g, 5, none⟩ v5).setCell ⟨g, 6, none⟩ v6).heap[g]? = some (.cells #[v0, v1, v2, v3, v4, v5, v6] t (0, 0)) := (blk_put (cs := #[v0, v1, v2, v3, v4, v5, a6]) (blk_put (cs := #[v0, v1, v2, v3, v4, a5, a6]) (blk_put (cs := #[v0, v1, v2, v3, a4, a5, a6]) (blk_put (cs := #[v0, v1, v2, a3, a4, a5, a6]) (blk_put (cs := #[v0, v1, a2, a3, a4, a5, a6]) (blk_put (cs := #[v0, a1, a2, a3, a4, a5, a6]) (blk_put (cs := #[a0, a1, a2, a3, a4, a5, a6]) h 0 v0 rfl) 1 v1 rfl) 2 v2 rfl) 3 v3 rfl) 4 v4 rfl) 5 v5 rfl) 6 v6 rfl)
theorem zP7 {w1 w2 : World} {g t : Nat} {a0 a1 a2 a3 a4 a5 a6 v0 v1 v2 v3 v4 v5 v6 : Value} (h : w1.heap[g]? = some (.cells #[a0, a1, a2, a3, a4, a5, a6] t (0, 0))) (c : w1.heap[g]? = some (.cells #[a0, a1, a2, a3, a4, a5, a6] t (0, 0)) → w2.heap[g]? = some (.cells #[v0, v1, v2, v3, v4, v5, v6] t (0, 0)) := by intro h_; (with_reducible repeat (first | refine blk_drewN ?_ _ | refine blk_drew ?_ | refine blk_alloc ?_ _ | refine blk_far ?_ (Aside0.out (by assumption)) _)); apply zQ7; (with_reducible repeat (first | refine blk_drewN ?_ _ | refine blk_drew ?_ | refine blk_alloc ?_ _ | refine blk_far ?_ (Aside0.out (by assumption)) _)); exact h_) : w2.heap[g]? = some (.cells #[v0, v1, v2, v3, v4, v5, v6] t (0, 0)) := c h
theorem zX {w w1 : World} {a : Addr} {v : Value} (hb : Below w.heap.size w w1) (h : w.cell? a = some v) : w1.cell? a = some v := (hb.cell (World.block_lt_of_cell? w _ h)).trans h
theorem zD {p : Prop} [Decidable p] (h : decide p = true := by first | (with_reducible assumption) | assumption) : p := of_decide_eq_true h
theorem bne_e (l : List UInt8) : (l != []) = !l.isEmpty := by cases l <;> rfl
theorem zE {a : Prop} (h : a := by first | rfl | (simp [errW_none, errW_some] <;> rfl) | (simp [*, errW_none, errW_some] <;> rfl) | (simp [bne_e, errW_none, errW_some] <;> rfl)) : a := h
theorem zNT {α : Type} {d : Kd α} {e base : Nat} {ok : Nat → Prop} {w w2 : World} {v : Value} {xs : List α} {g t : Nat} {cells : Array Value} (h : d.R e w base ok v xs) (hb : w.heap[g]? = some (.cells cells t (0, 0))) (ht : ∀ q, q ∈ e :: d.E → q ≠ t := by decide) (c : d.R e w base (fun k => ok k ∧ k ≠ g) v xs → d.R e w2 base (fun k => ok k ∧ k ≠ g) v xs := by intro h_; (with_reducible repeat (first | exact h_ | apply Kd.R_alloc | apply Kd.R_drewN | apply Kd.R_drew | refine Kd.R_far ?_ (fun _ hk => hk.2) _)); all_goals exact h_) : d.R e w2 base (fun k => ok k ∧ k ≠ g) v xs := c (Kd.R_types h hb ht)
theorem zNM {α : Type} {d : Kd α} {e base : Nat} {ok : Nat → Prop} {w w2 : World} {v : Value} {xs : List α} {g : Nat} (h : d.R e w base ok v xs) (ht : ∀ k, ok k → k ≠ g) (c : d.R e w base (fun k => ok k ∧ k ≠ g) v xs → d.R e w2 base (fun k => ok k ∧ k ≠ g) v xs := by intro h_; (with_reducible repeat (first | exact h_ | apply Kd.R_alloc | apply Kd.R_drewN | apply Kd.R_drew | refine Kd.R_far ?_ (fun _ hk => hk.2) _)); all_goals exact h_) : d.R e w2 base (fun k => ok k ∧ k ≠ g) v xs := c (Kd.R_mono h (fun k hk => ⟨hk, ht k hk⟩))
theorem zNV {α : Type} {d : Kd α} {e base : Nat} {ok : Nat → Prop} {w w2 : World} {v : Value} {xs : List α} {g : Nat} (h : Kd.V d e w base ok v xs) (ht : ∀ k, ok k → k ≠ g) (c : Kd.V d e w base (fun k => ok k ∧ k ≠ g) v xs → Kd.V d e w2 base (fun k => ok k ∧ k ≠ g) v xs := by intro h_; (with_reducible repeat (first | exact h_ | apply Kd.V_alloc | apply Kd.V_drewN | apply Kd.V_drew | refine Kd.V_far ?_ (fun _ hk => hk.2) _)); all_goals exact h_) : Kd.V d e w2 base (fun k => ok k ∧ k ≠ g) v xs := c (Kd.V_mono h (fun k hk => ⟨hk, ht k hk⟩))
theorem zY {w : World} {a : Addr} {v : Value} {k : Nat} {P : Prop} (hw : w.cell? a = some v) (hg : w.heap.size ≤ k) (c : a.block < w.heap.size → w.heap.size ≤ k → P := by intro hw_ hg_; first | exact Nat.ne_of_lt (Nat.lt_of_lt_of_le (by have this := hw_; first | rwa [add_block] at this | exact this) hg_) | (rw [add_block]; exact Nat.ne_of_lt (Nat.lt_of_lt_of_le (by have this := hw_; first | rwa [add_block] at this | exact this) hg_)) | (show (Addr.add _ _).block ≠ _; rw [add_block]; exact Nat.ne_of_lt (Nat.lt_of_lt_of_le (by have this := hw_; first | rwa [add_block] at this | exact this) hg_)) | (dsimp only; exact Nat.ne_of_lt (Nat.lt_of_lt_of_le (by have this := hw_; first | rwa [add_block] at this | exact this) hg_))) : P := c (World.block_lt_of_cell? _ _ hw) hg
theorem zS {a : Prop} (h : a := by first | rfl | (simp; done) | (simp [*]; done)) : a := h
theorem ka {p : Prop} (h : p) : Aside0 p := Aside0.mk h
theorem zNl {a : Prop} (h : a := by first | exact Kd.R_nil _ _ _ _ _ | exact Kd.N_nil _ _ _ _ _ | exact Kd.V_nil _ _ _ _ _ | exact Kd.Q_nil _ _ _ _ _ | exact Kd.S_nil _ _ _ _ _) : a := h
theorem zif {α : Type} {p : Prop} [Decidable p] {x : Option α} {r : α} (H : (if p then x else none) = some r) : p ∧ x = some r := by
  by_cases c : p
  · rw [if_pos c] at H; exact ⟨c, H⟩
  · rw [if_neg c] at H; exact absurd H (by simp)
theorem zdt {p : Prop} [Decidable p] (h : p) : decide p = true := decide_eq_true h
theorem zdf {p : Prop} [Decidable p] (h : ¬ p) : decide p = false := decide_eq_false h
theorem zb0 {α : Type} [BEq α] [LawfulBEq α] {a b : α} (h : a = b) : (a == b) = true := beq_iff_eq.mpr h
theorem zb1 {α : Type} [BEq α] [LawfulBEq α] {a b : α} (h : a = b) : (a != b) = false := bne_eq_false_iff_eq.mpr h
theorem zn0 {α : Type} [BEq α] [LawfulBEq α] {a b : α} (h : a ≠ b) : (a == b) = false := beq_eq_false_iff_ne.mpr h
theorem zn1 {α : Type} [BEq α] [LawfulBEq α] {a b : α} (h : a ≠ b) : (a != b) = true := bne_iff_ne.mpr h
theorem zLe {a : Prop} (h : a := by repeat' first | (with_reducible apply_assumption) | (with_reducible exact LeO.refl _) | (with_reducible exact LeO.none _) | (with_reducible refine LeO.ite ?_ ?_) | (with_reducible refine LeO.bind ?_ (fun _ => ?_)) | apply_assumption | exact LeO.none _ | refine LeO.ite ?_ ?_ | refine LeO.bind ?_ (fun _ => ?_)) : a := h
theorem zDr {a : Prop} (h : a := by first | exact ⟨rfl, _, World.drewN_drewN _ _ _⟩ | exact ⟨rfl, _, Eq.trans (World.drewN_drewN _ _ _) (congrArg (World.drewN _) (Nat.add_assoc _ _ _))⟩) : a := h
theorem zd0 {a : Prop} (h : a := by repeat (first | exact Drawn0.refl _ | apply Drawn0.step)) : a := h
theorem zpp (i : Nat) {P : Program} {ops : Array Oper} {Q : Exit → Act → World → Prop} {md : Region.Mode} {S : World → Prop} {ds : List Nat} {T : Bool × List (List Nat × List Nat)} {N : Option Tmp} {oi : Oper} {v : Value} {fuel : Nat} {l l' : Array Bool} {a a' : Act} {w : World} (hT : Aside0 (rtab md ops = T)) (hi : ops[i]? = some oi := by rfl) (hN : oi.dst = N := by rfl) (hl : l.setIfInBounds i true = l' := by simp only [List.setIfInBounds_toArray, List.set_cons_zero, List.set_cons_succ]; rfl) (hc : anyT T l.toList l'.toList i = true := by kernel_rfl) (hQ : ∀ c a w, Q (.panic c) (a.put oi.dst v) w → Q (.panic c) a w := by exact fun _ _ _ h => h) (hy : Yields P ops oi v a := by refine Or.inl ⟨by rfl, ?_⟩; intro w'; go_simp; with_reducible rfl) (ha : a.put N v = a' := by simp only [Act.put, List.setIfInBounds_toArray, List.set_cons_zero, List.set_cons_succ, i64_w, i32_w]; rfl) (h : wpAnyLast P md ops Q S ds fuel l' a' w) : wpAnyLast P md ops Q S ds (fuel + 1) l a w := pure_ l' hi hN (any_of hT.out hc) hQ hy ha h
theorem zpu (i : Nat) {P : Program} {ops : Array Oper} {Q : Exit → Act → World → Prop} {md : Region.Mode} {S : World → Prop} {ds : List Nat} {T : Bool × List (List Nat × List Nat)} {N : Option Tmp} {oi : Oper} {fuel : Nat} {l l' : Array Bool} {a a' : Act} {w : World} (hT : Aside0 (rtab md ops = T)) (hi : ops[i]? = some oi := by rfl) (hN : oi.dst = N := by rfl) (hl : l.setIfInBounds i true = l' := by simp only [List.setIfInBounds_toArray, List.set_cons_zero, List.set_cons_succ]; rfl) (hc : anyT T l.toList l'.toList i = true := by kernel_rfl) (hQ : ∀ c a w, Q (.panic c) (a.put oi.dst undef) w → Q (.panic c) a w := by exact fun _ _ _ h => h) (hy : Yields P ops oi undef a := by exact Or.inr ⟨by rfl, rfl⟩) (ha : a.put N undef = a' := by simp only [Act.put, List.setIfInBounds_toArray, List.set_cons_zero, List.set_cons_succ, i64_w, i32_w]; rfl) (h : wpAnyLast P md ops Q S ds fuel l' a' w) : wpAnyLast P md ops Q S ds (fuel + 1) l a w := pure_ l' hi hN (any_of hT.out hc) hQ hy ha h
theorem zpt (i : Nat) {P : Program} {ops : Array Oper} {Q : Exit → Act → World → Prop} {md : Region.Mode} {S : World → Prop} {ds : List Nat} {T : Bool × List (List Nat × List Nat)} {B : List Nat} {N : Option Tmp} {oi : Oper} {v : Value} {fuel : Nat} {l l' : Array Bool} {a a' : Act} {w : World} (hT : Aside0 (rtab md ops = T)) (hB : Aside0 (waitsOk T.2 B = true)) (hS : S w) (hi : ops[i]? = some oi := by rfl) (hN : oi.dst = N := by rfl) (hl : l.setIfInBounds i true = l' := by simp only [List.setIfInBounds_toArray, List.set_cons_zero, List.set_cons_succ]; rfl) (hc : takeW T B ds l.toList l'.toList i = true := by kernel_rfl) (hQ : ∀ c a w, Q (.panic c) (a.put oi.dst v) w → Q (.panic c) a w := by exact fun _ _ _ h => h) (hy : YieldsIf P ops S oi v a := by refine Or.inl ⟨by rfl, ?_⟩; intro w' hs_; repeat (rcases hs_ with ⟨_, hs_⟩); go_simp; with_reducible rfl) (ha : a.put N v = a' := by simp only [Act.put, List.setIfInBounds_toArray, List.set_cons_zero, List.set_cons_succ, i64_w, i32_w]; rfl) (h : wpAnyLast P md ops Q S ds fuel l' a' w) : wpAnyLast P md ops Q S ds (fuel + 1) l a w := take_ l' hi hN (take_ofW hT.out hB.out hc) hQ hy hS ha h
theorem zkp (i : Nat) {P : Program} {ops : Array Oper} {Q : Exit → Act → World → Prop} {md : Region.Mode} {S : World → Prop} {ds : List Nat} {N : Option Tmp} {oi : Oper} {v : Value} {fuel : Nat} {l l' : Array Bool} {a a' : Act} {w : World} (hi : ops[i]? = some oi := by rfl) (hN : oi.dst = N := by rfl) (hl : l.setIfInBounds i true = l' := by simp only [List.setIfInBounds_toArray, List.set_cons_zero, List.set_cons_succ]; rfl) (hc : anyB md ops l l' i = true := by kernel_rfl) (hQ : ∀ c a w, Q (.panic c) (a.put oi.dst v) w → Q (.panic c) a w := by exact fun _ _ _ h => h) (hy : Yields P ops oi v a := by refine Or.inl ⟨by rfl, ?_⟩; intro w'; go_simp; with_reducible rfl) (ha : a.put N v = a' := by simp only [Act.put, List.setIfInBounds_toArray, List.set_cons_zero, List.set_cons_succ, i64_w, i32_w]; rfl) (h : wpAnyLast P md ops Q S ds fuel l' a' w) : wpAnyLast P md ops Q S ds (fuel + 1) l a w := pure_ l' hi hN hc hQ hy ha h
theorem zkt (i : Nat) {P : Program} {ops : Array Oper} {Q : Exit → Act → World → Prop} {md : Region.Mode} {S : World → Prop} {ds : List Nat} {N : Option Tmp} {oi : Oper} {v : Value} {fuel : Nat} {l l' : Array Bool} {a a' : Act} {w : World} (hS : S w) (hi : ops[i]? = some oi := by rfl) (hN : oi.dst = N := by rfl) (hl : l.setIfInBounds i true = l' := by simp only [List.setIfInBounds_toArray, List.set_cons_zero, List.set_cons_succ]; rfl) (hc : takeB md ops ds l l' i = true := by kernel_rfl) (hQ : ∀ c a w, Q (.panic c) (a.put oi.dst v) w → Q (.panic c) a w := by exact fun _ _ _ h => h) (hy : YieldsIf P ops S oi v a := by refine Or.inl ⟨by rfl, ?_⟩; intro w' hs_; repeat (rcases hs_ with ⟨_, hs_⟩); go_simp; with_reducible rfl) (ha : a.put N v = a' := by simp only [Act.put, List.setIfInBounds_toArray, List.set_cons_zero, List.set_cons_succ, i64_w, i32_w]; rfl) (h : wpAnyLast P md ops Q S ds fuel l' a' w) : wpAnyLast P md ops Q S ds (fuel + 1) l a w := take_ l' hi hN hc hQ hy hS ha h
theorem znm {P : Program} {ops : Array Oper} {Q : Exit → Act → World → Prop} {md : Region.Mode} {S : World → Prop} {ds : List Nat} {N : Option Tmp} {v : Value} {fuel : Nat} {l : Array Bool} {a a' : Act} {w : World} (ha : a.put N v = a' := by simp only [Act.put, List.setIfInBounds_toArray, List.set_cons_zero, List.set_cons_succ, i64_w, i32_w]; rfl) (h : wpAnyLast P md ops Q S ds fuel l a' w) : wpAnyLast P md ops Q S ds fuel l (a.put N v) w := norm_ ha h
theorem zc {w : World} {g t : Nat} {cs : Array Value} (h : w.heap[g]? = some (.cells cs t (0, 0))) (i : Nat) {v : Value} (e : cs[i]? = some v := by rfl) : w.cell? ⟨g, i, none⟩ = some v := (blk_cell h i).trans e
theorem zs2 {T0 T1 : Type} {a0 b0 : T0} {a1 b1 : T1} (H : some (a0, a1) = some (b0, b1)) : a0 = b0 ∧ a1 = b1 := by simpa only [Option.some.injEq, Prod.mk.injEq] using H
theorem zs3 {T0 T1 T2 : Type} {a0 b0 : T0} {a1 b1 : T1} {a2 b2 : T2} (H : some (a0, a1, a2) = some (b0, b1, b2)) : a0 = b0 ∧ a1 = b1 ∧ a2 = b2 := by simpa only [Option.some.injEq, Prod.mk.injEq] using H
theorem zs4 {T0 T1 T2 T3 : Type} {a0 b0 : T0} {a1 b1 : T1} {a2 b2 : T2} {a3 b3 : T3} (H : some (a0, a1, a2, a3) = some (b0, b1, b2, b3)) : a0 = b0 ∧ a1 = b1 ∧ a2 = b2 ∧ a3 = b3 := by simpa only [Option.some.injEq, Prod.mk.injEq] using H
theorem zs5 {T0 T1 T2 T3 T4 : Type} {a0 b0 : T0} {a1 b1 : T1} {a2 b2 : T2} {a3 b3 : T3} {a4 b4 : T4} (H : some (a0, a1, a2, a3, a4) = some (b0, b1, b2, b3, b4)) : a0 = b0 ∧ a1 = b1 ∧ a2 = b2 ∧ a3 = b3 ∧ a4 = b4 := by simpa only [Option.some.injEq, Prod.mk.injEq] using H
theorem zs6 {T0 T1 T2 T3 T4 T5 : Type} {a0 b0 : T0} {a1 b1 : T1} {a2 b2 : T2} {a3 b3 : T3} {a4 b4 : T4} {a5 b5 : T5} (H : some (a0, a1, a2, a3, a4, a5) = some (b0, b1, b2, b3, b4, b5)) : a0 = b0 ∧ a1 = b1 ∧ a2 = b2 ∧ a3 = b3 ∧ a4 = b4 ∧ a5 = b5 := by simpa only [Option.some.injEq, Prod.mk.injEq] using H
theorem zs7 {T0 T1 T2 T3 T4 T5 T6 : Type} {a0 b0 : T0} {a1 b1 : T1} {a2 b2 : T2} {a3 b3 : T3} {a4 b4 : T4} {a5 b5 : T5} {a6 b6 : T6} (H : some (a0, a1, a2, a3, a4, a5, a6) = some (b0, b1, b2, b3, b4, b5, b6)) : a0 = b0 ∧ a1 = b1 ∧ a2 = b2 ∧ a3 = b3 ∧ a4 = b4 ∧ a5 = b5 ∧ a6 = b6 := by simpa only [Option.some.injEq, Prod.mk.injEq] using H
theorem zs8 {T0 T1 T2 T3 T4 T5 T6 T7 : Type} {a0 b0 : T0} {a1 b1 : T1} {a2 b2 : T2} {a3 b3 : T3} {a4 b4 : T4} {a5 b5 : T5} {a6 b6 : T6} {a7 b7 : T7} (H : some (a0, a1, a2, a3, a4, a5, a6, a7) = some (b0, b1, b2, b3, b4, b5, b6, b7)) : a0 = b0 ∧ a1 = b1 ∧ a2 = b2 ∧ a3 = b3 ∧ a4 = b4 ∧ a5 = b5 ∧ a6 = b6 ∧ a7 = b7 := by simpa only [Option.some.injEq, Prod.mk.injEq] using H
theorem zs9 {T0 T1 T2 T3 T4 T5 T6 T7 T8 : Type} {a0 b0 : T0} {a1 b1 : T1} {a2 b2 : T2} {a3 b3 : T3} {a4 b4 : T4} {a5 b5 : T5} {a6 b6 : T6} {a7 b7 : T7} {a8 b8 : T8} (H : some (a0, a1, a2, a3, a4, a5, a6, a7, a8) = some (b0, b1, b2, b3, b4, b5, b6, b7, b8)) : a0 = b0 ∧ a1 = b1 ∧ a2 = b2 ∧ a3 = b3 ∧ a4 = b4 ∧ a5 = b5 ∧ a6 = b6 ∧ a7 = b7 ∧ a8 = b8 := by simpa only [Option.some.injEq, Prod.mk.injEq] using H
theorem zs10 {T0 T1 T2 T3 T4 T5 T6 T7 T8 T9 : Type} {a0 b0 : T0} {a1 b1 : T1} {a2 b2 : T2} {a3 b3 : T3} {a4 b4 : T4} {a5 b5 : T5} {a6 b6 : T6} {a7 b7 : T7} {a8 b8 : T8} {a9 b9 : T9} (H : some (a0, a1, a2, a3, a4, a5, a6, a7, a8, a9) = some (b0, b1, b2, b3, b4, b5, b6, b7, b8, b9)) : a0 = b0 ∧ a1 = b1 ∧ a2 = b2 ∧ a3 = b3 ∧ a4 = b4 ∧ a5 = b5 ∧ a6 = b6 ∧ a7 = b7 ∧ a8 = b8 ∧ a9 = b9 := by simpa only [Option.some.injEq, Prod.mk.injEq] using H
theorem zs11 {T0 T1 T2 T3 T4 T5 T6 T7 T8 T9 T10 : Type} {a0 b0 : T0} {a1 b1 : T1} {a2 b2 : T2} {a3 b3 : T3} {a4 b4 : T4} {a5 b5 : T5} {a6 b6 : T6} {a7 b7 : T7} {a8 b8 : T8} {a9 b9 : T9} {a10 b10 : T10} (H : some (a0, a1, a2, a3, a4, a5, a6, a7, a8, a9, a10) = some (b0, b1, b2, b3, b4, b5, b6, b7, b8, b9, b10)) : a0 = b0 ∧ a1 = b1 ∧ a2 = b2 ∧ a3 = b3 ∧ a4 = b4 ∧ a5 = b5 ∧ a6 = b6 ∧ a7 = b7 ∧ a8 = b8 ∧ a9 = b9 ∧ a10 = b10 := by simpa only [Option.some.injEq, Prod.mk.injEq] using H
theorem zs12 {T0 T1 T2 T3 T4 T5 T6 T7 T8 T9 T10 T11 : Type} {a0 b0 : T0} {a1 b1 : T1} {a2 b2 : T2} {a3 b3 : T3} {a4 b4 : T4} {a5 b5 : T5} {a6 b6 : T6} {a7 b7 : T7} {a8 b8 : T8} {a9 b9 : T9} {a10 b10 : T10} {a11 b11 : T11} (H : some (a0, a1, a2, a3, a4, a5, a6, a7, a8, a9, a10, a11) = some (b0, b1, b2, b3, b4, b5, b6, b7, b8, b9, b10, b11)) : a0 = b0 ∧ a1 = b1 ∧ a2 = b2 ∧ a3 = b3 ∧ a4 = b4 ∧ a5 = b5 ∧ a6 = b6 ∧ a7 = b7 ∧ a8 = b8 ∧ a9 = b9 ∧ a10 = b10 ∧ a11 = b11 := by simpa only [Option.some.injEq, Prod.mk.injEq] using H
theorem zB {w1 w w' : World} {g : Nat} {o : Obj} (h : w1.heap[g]? = some o) (hb : Below w.heap.size w w') (c : w1.heap[g]? = some o → w.heap[g]? = some o := by intro h_; (with_reducible repeat (first | refine blk_drewN ?_ _ | refine blk_drew ?_ | refine blk_alloc ?_ _ | refine blk_far ?_ (Aside0.out (by assumption)) _)); exact h_) : w'.heap[g]? = some o := blk_below (c h) hb
theorem zNK {w1 W : World} {g g' : Nat} {o : Obj} (hg : g' = W.heap.size) (h : w1.heap[g]? = some o) (c : w1.heap[g]? = some o → W.heap[g]? = some o := by intro h_; (with_reducible repeat (first | refine blk_drewN ?_ _ | refine blk_drew ?_ | refine blk_alloc ?_ _ | refine blk_far ?_ (Aside0.out (by assumption)) _)); exact h_) : g ≠ g' := zN hg (c h)
theorem zOK {w1 W : World} {g g' : Nat} {o : Obj} (hg : g' = W.heap.size) (h : w1.heap[g]? = some o) (c : w1.heap[g]? = some o → W.heap[g]? = some o := by intro h_; (with_reducible repeat (first | refine blk_drewN ?_ _ | refine blk_drew ?_ | refine blk_alloc ?_ _ | refine blk_far ?_ (Aside0.out (by assumption)) _)); exact h_) : g' ≠ g := zO hg (c h)
theorem zCB {α : Type} {d : Kd α} {A : Option Addr} {n : Nat} {xs : List α} {w1 w w' : World} (h : d.C w1 A n xs) (hb : Below w.heap.size w w') (c : d.C w1 A n xs → d.C w A n xs := by intro h_; repeat (first | (with_reducible exact h_) | (with_reducible refine Kd.C_alloc ?_ _) | (with_reducible refine Kd.C_drewN ?_ _) | (with_reducible refine Kd.C_drew ?_) | exact h_)) : d.C w' A n xs := Kd.C_below (c h) hb
theorem zCS {a b : Prop} (h : a) (c : a → b := by intro h_; repeat (first | exact h_ | (with_reducible refine Kd.C_alloc ?_ _) | (with_reducible refine Kd.C_drewN ?_ _) | (with_reducible refine Kd.C_drew ?_))) : b := c h
theorem zF {w : World} {a : Addr} {v : Value} {P : Prop} (g i : Nat) (u : Value) (hn : P) (h : w.cell? a = some v) (c : P → a.block ≠ g := by intro n_; first | (rw [add_block]; exact n_) | (show (Addr.add _ _).block ≠ _; rw [add_block]; exact n_) | exact n_) : (w.setCell ⟨g, i, none⟩ u).cell? a = some v := (cell_far (p := ⟨g, i, none⟩) (c hn) u).trans h
theorem zDC (w : World) (n : Nat) (a : Addr) (v : Value) : (w.drewN n).setCell a v = (w.setCell a v).drewN n := rfl
theorem zDD (w : World) (n m : Nat) : (w.drewN n).drewN m = w.drewN (n + m) := by unfold World.drewN; rw [Nat.add_assoc]
theorem zDH (w : World) (n : Nat) : (w.drewN n).heap = w.heap := rfl
theorem zDY {w1 w2 : World} {a : Addr} {v : Value} (h : w1.cell? a = some v) (c : w2.heap = w1.heap := by (repeat rw [zDC]); exact zDH _ _) : w2.cell? a = some v := by
  unfold World.cell? at h ⊢
  rw [c]
  exact h
theorem isE_ {l : List UInt8} {b : Bool} (h : (l == []) = b) : l.isEmpty = b := by rw [← h]; cases l <;> rfl
theorem zW {w1 w2 : World} {a : Addr} {v : Value} {P : Prop} (n : P) (h : w1.cell? a = some v) (c : P → w1.cell? a = some v → w2.cell? a = some v := by intro n_ h_; repeat (first | (with_reducible exact h_) | refine (cell_far n_ _).trans ?_)) : w2.cell? a = some v := c n h
theorem zRS {a b : Prop} (h : a) (c : a → b := by intro h_; (with_reducible repeat (first | apply Kd.S_alloc | apply Kd.S_drewN | apply Kd.S_drew)); exact h_) : b := c h
theorem zTS {α : Type} {d : Kd α} {e base : Nat} {ok : Nat → Prop} {w w2 : World} {v : Value} {xs : List α} {g t : Nat} {cells : Array Value} (h : Kd.S d e w base ok v xs) (hb : w.heap[g]? = some (.cells cells t (0, 0))) (ht : ∀ q, q ∈ e :: d.E → q ≠ t := by decide) (c : Kd.S d e w base (fun k => ok k ∧ k ≠ g) v xs → Kd.S d e w2 base (fun k => ok k ∧ k ≠ g) v xs := by intro h_; (with_reducible repeat (first | exact h_ | apply Kd.S_alloc | apply Kd.S_drewN | apply Kd.S_drew | refine Kd.S_far ?_ (fun _ hk => hk.2) _)); all_goals exact h_) : Kd.S d e w2 base ok v xs := Kd.S_mono (c (Kd.S_types h hb ht)) (fun _ h_ => h_.1)
theorem zMS {α : Type} {d : Kd α} {e base : Nat} {ok : Nat → Prop} {w w2 : World} {v : Value} {xs : List α} {g : Nat} (h : Kd.S d e w base ok v xs) (ht : ∀ k, ok k → k ≠ g) (c : Kd.S d e w base (fun k => ok k ∧ k ≠ g) v xs → Kd.S d e w2 base (fun k => ok k ∧ k ≠ g) v xs := by intro h_; (with_reducible repeat (first | exact h_ | apply Kd.S_alloc | apply Kd.S_drewN | apply Kd.S_drew | refine Kd.S_far ?_ (fun _ hk => hk.2) _)); all_goals exact h_) : Kd.S d e w2 base ok v xs := Kd.S_mono (c (Kd.S_mono h (fun k hk => ⟨hk, ht k hk⟩))) (fun _ h_ => h_.1)
theorem zNTS {α : Type} {d : Kd α} {e base : Nat} {ok : Nat → Prop} {w w2 : World} {v : Value} {xs : List α} {g t : Nat} {cells : Array Value} (h : Kd.S d e w base ok v xs) (hb : w.heap[g]? = some (.cells cells t (0, 0))) (ht : ∀ q, q ∈ e :: d.E → q ≠ t := by decide) (c : Kd.S d e w base (fun k => ok k ∧ k ≠ g) v xs → Kd.S d e w2 base (fun k => ok k ∧ k ≠ g) v xs := by intro h_; (with_reducible repeat (first | exact h_ | apply Kd.S_alloc | apply Kd.S_drewN | apply Kd.S_drew | refine Kd.S_far ?_ (fun _ hk => hk.2) _)); all_goals exact h_) : Kd.S d e w2 base (fun k => ok k ∧ k ≠ g) v xs := c (Kd.S_types h hb ht)
theorem zNMS {α : Type} {d : Kd α} {e base : Nat} {ok : Nat → Prop} {w w2 : World} {v : Value} {xs : List α} {g : Nat} (h : Kd.S d e w base ok v xs) (ht : ∀ k, ok k → k ≠ g) (c : Kd.S d e w base (fun k => ok k ∧ k ≠ g) v xs → Kd.S d e w2 base (fun k => ok k ∧ k ≠ g) v xs := by intro h_; (with_reducible repeat (first | exact h_ | apply Kd.S_alloc | apply Kd.S_drewN | apply Kd.S_drew | refine Kd.S_far ?_ (fun _ hk => hk.2) _)); all_goals exact h_) : Kd.S d e w2 base (fun k => ok k ∧ k ≠ g) v xs := c (Kd.S_mono h (fun k hk => ⟨hk, ht k hk⟩))

end Go.Proofs.YtjdadmjomjhpcaaDoor.PLease
