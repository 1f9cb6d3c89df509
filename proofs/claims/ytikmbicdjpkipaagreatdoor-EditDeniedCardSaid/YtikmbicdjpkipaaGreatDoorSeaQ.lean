/- The sanity check. No condition. -/
import Derived.Test.YtikmbicdjpkipaaGreatDoorSeaP0
set_option linter.unusedVariables false
namespace Go.Proofs.YtikmbicdjpkipaaGreatDoor
open Go.RowKit Go.Ab Go.Lib
set_option maxRecDepth 1000000
def lA:List (Nat×(List V→Option V)):=(71,aWy tx0 (.tup [pv0,.int .i64 0,.int .i64 0]))::(46,aWy tx0 (.tup [pv0,.int .i64 0,.int .i64 0]))::l1
theorem bV1:∀ x,x∈lA→BiOk Tryz.prog sg x.1 x.2:=List.forall_mem_cons.2 ⟨aS3 mp0 (by kernel_rfl),List.forall_mem_cons.2 ⟨aS3 mr0 (by kernel_rfl),aAo⟩⟩
theorem maw:PTr Tryz.prog 27 [] (.bool true):=evP bV1 (show evB lA 27 []=some (.bool true) by kernel_rfl) rfl rfl
end Go.Proofs.YtikmbicdjpkipaaGreatDoor
