/- The statement's code at four users. No condition. -/
import Derived.Test.YtdhhhhnbobdcoaaGreatDoorSeaV
set_option linter.unusedVariables false
namespace Go.Proofs.YtdhhhhnbobdcoaaGreatDoor
open Go.RowKit Go.Ab Go.Lib
set_option maxRecDepth 1000000
theorem w010:evB (lC 0) 4 [.bool false,.map 3,.bool true]=some (.bool true):=by kernel_rfl
theorem w011:evB (lC 1) 4 [.bool false,.map 3,.bool true]=some (.bool true):=by kernel_rfl
theorem w012:evB (lC 2) 4 [.bool false,.map 3,.bool true]=some (.bool true):=by kernel_rfl
theorem w013:evB (lC 3) 4 [.bool false,.map 3,.bool true]=some (.bool true):=by kernel_rfl
end Go.Proofs.YtdhhhhnbobdcoaaGreatDoor
