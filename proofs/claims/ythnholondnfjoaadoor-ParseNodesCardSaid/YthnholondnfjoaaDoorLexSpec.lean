/- Lines of a makefile, said on lists of bytes: no program in sight. -/
import Derived.Test.YthnholondnfjoaaDoorLexLines
import Derived.Lib.SlTrimSet
namespace Go.Proofs.YthnholondnfjoaaDoor.Pl
open Go.Proofs Go.RowKit

def triL (l : List UInt8) : List UInt8 := Lib.trimLeftS l [32, 9]
def triR (l : List UInt8) : List UInt8 := Lib.trimRightS l [32, 9]
def tri (l : List UInt8) : List UInt8 := Lib.trimS l [32, 9]
def goesL (s : List UInt8) : List UInt8 × Bool := if (s.length - (Lib.trimRightS s [92]).length) % 2 = 0 then (s, false) else (s.take (s.length - 1), true)
/-- The line under way, with what goes on. -/
def joinL : List UInt8 → Bool → List (List UInt8) → List UInt8 × List (List UInt8)
  | all, true, m :: r => joinL (triR all ++ 32 :: (goesL (triL m)).1) (goesL (triL m)).2 r
  | all, _, r => (all, r)
theorem joinL_false (all : List UInt8) (r : List (List UInt8)) : joinL all false r = (all, r) := by cases r <;> rfl
theorem joinL_nil (all : List UInt8) (on : Bool) : joinL all on [] = (all, []) := by cases on <;> rfl
theorem joinL_cons (all : List UInt8) (m : List UInt8) (r : List (List UInt8)) : joinL all true (m :: r) = joinL (triR all ++ 32 :: (goesL (triL m)).1) (goesL (triL m)).2 r := rfl
theorem joinL_len : ∀ (r : List (List UInt8)) (all : List UInt8) (on : Bool), (joinL all on r).2.length ≤ r.length
  | [], all, on => by rw [joinL_nil]; exact Nat.le_refl _
  | m :: r, all, false => by rw [joinL_false]; exact Nat.le_refl _
  | m :: r, all, true => by rw [joinL_cons]; exact Nat.le_trans (joinL_len r _ _) (Nat.le_succ _)
/-- What is left is an end of what there was. -/
theorem joinL_drop : ∀ (r : List (List UInt8)) (all : List UInt8) (on : Bool), (joinL all on r).2 = r.drop (r.length - (joinL all on r).2.length)
  | [], all, on => by rw [joinL_nil]; rfl
  | m :: r, all, false => by rw [joinL_false]; simp
  | m :: r, all, true => by
    rw [joinL_cons]
    have h := joinL_drop r (triR all ++ 32 :: (goesL (triL m)).1) (goesL (triL m)).2
    have hl := joinL_len r (triR all ++ 32 :: (goesL (triL m)).1) (goesL (triL m)).2
    rw [List.length_cons, show r.length + 1 - (joinL (triR all ++ 32 :: (goesL (triL m)).1) (goesL (triL m)).2 r).2.length = (r.length - (joinL (triR all ++ 32 :: (goesL (triL m)).1) (goesL (triL m)).2 r).2.length) + 1 by omega, List.drop_succ_cons]
    exact h
def cut35 (l : List UInt8) : List UInt8 := l.takeWhile (fun c => c != 35)
structure Row where
  no : Nat
  tab : Bool
  text : List UInt8
def tabOf (l : List UInt8) : Bool := l.head? == some 9
def textOf (tab : Bool) (all : List UInt8) : List UInt8 := tri (if tab then all else cut35 all)
/-- All lines that have a text, by the rows of a text that are left; at_: how many are behind. -/
def grp : Nat → Nat → List (List UInt8) → List Row
  | 0, _, _ => []
  | _ + 1, _, [] => []
  | f + 1, at_, l :: r =>
    (if textOf (tabOf l) (joinL (goesL l).1 (goesL l).2 r).1 = [] then [] else [⟨at_ + 1, tabOf l, textOf (tabOf l) (joinL (goesL l).1 (goesL l).2 r).1⟩]) ++
      grp f (at_ + 1 + (r.length - (joinL (goesL l).1 (goesL l).2 r).2.length)) (joinL (goesL l).1 (goesL l).2 r).2
/-- The first that is too long, or too much. -/
def chk : Nat → List Row → Option Nat
  | _, [] => none
  | n, x :: t => if 1000 < x.text.length ∨ 300 ≤ n then some x.no else chk (n + 1) t
def rowsOf (s : List UInt8) : List Row := grp (linesL s).length 0 (linesL s)
/-- The rounds do not matter, if there are enough. -/
theorem grp_more : ∀ (f g at_ : Nat) (l : List (List UInt8)), l.length ≤ f → l.length ≤ g → grp f at_ l = grp g at_ l
  | 0, 0, _, _, _, _ => rfl
  | 0, g + 1, at_, [], _, _ => rfl
  | f + 1, 0, at_, [], _, _ => rfl
  | f + 1, g + 1, at_, [], _, _ => rfl
  | 0, _ + 1, _, _ :: _, h, _ => absurd h (by simp)
  | _ + 1, 0, _, _ :: _, _, h => absurd h (by simp)
  | f + 1, g + 1, at_, l :: r, hf, hg => by
    have hj := joinL_len r (goesL l).1 (goesL l).2
    simp only [List.length_cons] at hf hg
    unfold grp
    rw [grp_more f g _ _ (by omega) (by omega)]
end Go.Proofs.YthnholondnfjoaaDoor.Pl
