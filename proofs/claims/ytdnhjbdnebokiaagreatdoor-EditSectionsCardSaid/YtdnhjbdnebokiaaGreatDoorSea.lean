/- The statement's function, at all arguments. No condition. -/
import Derived.Test.YtdnhjbdnebokiaaGreatDoorSeaW0
import Derived.Test.YtdnhjbdnebokiaaGreatDoorSeaW1
set_option linter.unusedVariables false
namespace Go.Proofs.YtdnhjbdnebokiaaGreatDoor
open Go.RowKit Go.Ab Go.Lib
set_option maxRecDepth 1000000
theorem sections (a b c d:List Int) (first:Bool):PTr Tryz.prog 3 [.lst 1 (ints a),.lst 1 (ints b),.lst 1 (ints c),.lst 1 (ints d),.bool first] (.bool true):=by
 cases first
 ·by_cases he:bdyF c=bdyF a
  ·exact aH9 (z:=⟨a,b,c,d⟩) (eq:=true) (fi:=false) (fun h=>by cases h) (bDu (eq:=true) (fi:=false) fun _=>show bdyF c=bdyF a from he) w10
  ·exact aH9 (z:=⟨a,b,c,d⟩) (eq:=false) (fi:=false) (fun _=>show bdyF a≠bdyF c from fun h=>he h.symm) (bDu (eq:=false) (fi:=false) fun h=>by cases h) w00
 ·by_cases he:bdyF d=bdyF b
  ·exact aH9 (z:=⟨a,b,c,d⟩) (eq:=true) (fi:=true) (fun h=>by cases h) (bDu (eq:=true) (fi:=true) fun _=>show bdyF d=bdyF b from he) w11
  ·exact aH9 (z:=⟨a,b,c,d⟩) (eq:=false) (fi:=true) (fun _=>show bdyF b≠bdyF d from fun h=>he h.symm) (bDu (eq:=false) (fi:=true) fun h=>by cases h) w01
end Go.Proofs.YtdnhjbdnebokiaaGreatDoor
