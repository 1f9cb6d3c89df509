/- Guards as plain functions. No condition. -/
import Derived.Test.YtcmnepgnkcoiiaaGreatDoorAbCc
import Derived.Test.YtcmnepgnkcoiiaaGreatDoorAbZ2
import Derived.Test.YtcmnepgnkcoiiaaGreatDoorAbP1
namespace Go.Ab
set_option linter.unusedVariables false
set_option linter.unusedSimpArgs false
open Go.Lib
theorem idxF_one (c : UInt8) : ∀ (s : List UInt8) (i : Nat), idxF [c] s i = (s.findIdx? (· == c)).map (· + i)
 | [], i => by simp [idxF]
 | x :: r, i => by
   have ih := idxF_one c r (i + 1)
   by_cases h : x = c
   ·subst h; simp [idxF, List.isPrefixOf, List.findIdx?_cons]
   ·have h2 : (x == c) = false := by simpa using h
    have h3 : (c == x) = false := by rw [beq_eq_false_iff_ne]; exact fun e => h e.symm
    simp only [idxF, List.isPrefixOf, h3, Bool.false_and, Bool.false_eq_true, if_false, ih, List.findIdx?_cons, h2]
    cases r.findIdx? (· == c) <;> simp [Nat.add_assoc, Nat.add_comm 1]
/-- a section as one that may come in -/
def Sec.q (x : Sec) : QSec := ⟨x.lev, x.title, x.fr, x.bd, x.to⟩
structure Grd where
 st : Bool
 gr : List UInt8
 sp : Int
 n : List UInt8
 sec : List UInt8
def Grd.v (x : Grd) : V := .agg [.bool x.st, .str x.gr, .int .i64 x.sp, .str x.n, .str x.sec]
def gdV (l : List Grd) : List V := l.map Grd.v
end Go.Ab
