/- The statement's function, at all arguments. No condition. -/
import Derived.Test.YtjakkhalapaofaaGreatDoorSeaW0
import Derived.Test.YtjakkhalapaofaaGreatDoorSeaW1
import Derived.Test.YtjakkhalapaofaaGreatDoorSeaW2
import Derived.Test.YtjakkhalapaofaaGreatDoorSeaW3
set_option linter.unusedVariables false
namespace Go.Proofs.YtjakkhalapaofaaGreatDoor
open Go.RowKit Go.Ab Go.Lib
set_option maxRecDepth 1000000
theorem rnd4 (v:Int):rndN v 4=0∨rndN v 4=1∨rndN v 4=2∨rndN v 4=3:=by
 have h:=aZi v (n:=4) (by decide)
 omega
theorem guards (strict:Bool) (who:Int) (a b:List Int):PTr Tryz.prog 4 [.bool strict,.int .i64 who,.lst 1 (ints a),.lst 1 (ints b)] (.bool true):=by
 by_cases he:bdyF b=bdyF a
 ·cases strict <;> rcases rnd4 who with hk | hk | hk | hk
  ·exact aBz (z:=⟨a,b,who⟩) (fun h=>by cases h) (aI9 hk fun _=>he) w100
  ·exact aBz (z:=⟨a,b,who⟩) (fun h=>by cases h) (aI9 hk fun _=>he) w101
  ·exact aBz (z:=⟨a,b,who⟩) (fun h=>by cases h) (aI9 hk fun _=>he) w102
  ·exact aBz (z:=⟨a,b,who⟩) (fun h=>by cases h) (aI9 hk fun _=>he) w103
  ·exact aBz (z:=⟨a,b,who⟩) (fun h=>by cases h) (aIr hk fun _=>he) w110
  ·exact aBz (z:=⟨a,b,who⟩) (fun h=>by cases h) (aIr hk fun _=>he) w111
  ·exact aBz (z:=⟨a,b,who⟩) (fun h=>by cases h) (aIr hk fun _=>he) w112
  ·exact aBz (z:=⟨a,b,who⟩) (fun h=>by cases h) (aIr hk fun _=>he) w113
 ·cases strict <;> rcases rnd4 who with hk | hk | hk | hk
  ·exact aBz (z:=⟨a,b,who⟩) (fun _ h=>he h.symm) (aI9 hk (fun h=>by cases h)) w000
  ·exact aBz (z:=⟨a,b,who⟩) (fun _ h=>he h.symm) (aI9 hk (fun h=>by cases h)) w001
  ·exact aBz (z:=⟨a,b,who⟩) (fun _ h=>he h.symm) (aI9 hk (fun h=>by cases h)) w002
  ·exact aBz (z:=⟨a,b,who⟩) (fun _ h=>he h.symm) (aI9 hk (fun h=>by cases h)) w003
  ·exact aBz (z:=⟨a,b,who⟩) (fun _ h=>he h.symm) (aIr hk (fun h=>by cases h)) w010
  ·exact aBz (z:=⟨a,b,who⟩) (fun _ h=>he h.symm) (aIr hk (fun h=>by cases h)) w011
  ·exact aBz (z:=⟨a,b,who⟩) (fun _ h=>he h.symm) (aIr hk (fun h=>by cases h)) w012
  ·exact aBz (z:=⟨a,b,who⟩) (fun _ h=>he h.symm) (aIr hk (fun h=>by cases h)) w013
end Go.Proofs.YtjakkhalapaofaaGreatDoor
