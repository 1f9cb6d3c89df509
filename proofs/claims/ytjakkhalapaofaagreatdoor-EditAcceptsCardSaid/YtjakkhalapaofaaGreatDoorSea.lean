/- The statement's function, at all arguments. No condition. -/
import Derived.Test.YtjakkhalapaofaaGreatDoorSeaW0
import Derived.Test.YtjakkhalapaofaaGreatDoorSeaW1
set_option linter.unusedVariables false
namespace Go.Proofs.YtjakkhalapaofaaGreatDoor
open Go.RowKit Go.Ab Go.Lib
set_option maxRecDepth 1000000
theorem rnd3 (v:Int):rndN v 3=0∨rndN v 3=1∨rndN v 3=2:=by
 have h:=rndN_in v (n:=3) (by decide)
 omega
theorem accepts (a b:List Int) (who:Int):PTr Tryz.prog 5 [.lst 1 (ints a),.lst 1 (ints b),.int .i64 who] (.bool true):=by
 by_cases he:bodyF b=bodyF a
 ·rcases rnd3 who with hk | hk | hk
  ·exact evB_ok (z:=⟨a,b,who⟩) (fun h=>by cases h) (lC_ok hk fun _=>he) w10
  ·exact evB_ok (z:=⟨a,b,who⟩) (fun h=>by cases h) (lC_ok hk fun _=>he) w11
  ·exact evB_ok (z:=⟨a,b,who⟩) (fun h=>by cases h) (lC_ok hk fun _=>he) w12
 ·rcases rnd3 who with hk | hk | hk
  ·exact evB_ok (z:=⟨a,b,who⟩) (fun _ h=>he h.symm) (lC_ok hk fun h=>by cases h) w00
  ·exact evB_ok (z:=⟨a,b,who⟩) (fun _ h=>he h.symm) (lC_ok hk fun h=>by cases h) w01
  ·exact evB_ok (z:=⟨a,b,who⟩) (fun _ h=>he h.symm) (lC_ok hk fun h=>by cases h) w02
end Go.Proofs.YtjakkhalapaofaaGreatDoor
