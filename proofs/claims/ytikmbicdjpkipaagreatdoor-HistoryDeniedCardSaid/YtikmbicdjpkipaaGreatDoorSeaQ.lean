/- The sanity check. No condition. -/
import Derived.Test.YtikmbicdjpkipaaGreatDoorSeaP0
set_option linter.unusedVariables false
namespace Go.Proofs.YtikmbicdjpkipaaGreatDoor
open Go.RowKit Go.Ab Go.Lib
set_option maxRecDepth 1000000
def lA:List (Nat×(List V→Option V)):=(71,aSs tx0 (.tup [pv0,.int .i64 0,.int .i64 0]))::(46,aSs tx0 (.tup [pv0,.int .i64 0,.int .i64 0]))::l1
theorem bM1:∀ x,x∈lA→BiOk Tryz.prog sg x.1 x.2:=List.forall_mem_cons.2 ⟨aO2 mp0 (by kernel_rfl),List.forall_mem_cons.2 ⟨aO2 mr0 (by kernel_rfl),aAp⟩⟩
theorem maw:PTr Tryz.prog 8 [] (.bool true):=evP bM1 (show evB lA 8 []=some (.bool true) by kernel_rfl) rfl rfl
end Go.Proofs.YtikmbicdjpkipaaGreatDoor
