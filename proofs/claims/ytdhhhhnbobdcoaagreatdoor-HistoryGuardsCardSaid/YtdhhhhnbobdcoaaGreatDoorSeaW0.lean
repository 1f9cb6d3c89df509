/- The statement's code at four users. No condition. -/
import Derived.Test.YtdhhhhnbobdcoaaGreatDoorSeaV
set_option linter.unusedVariables false
namespace Go.Proofs.YtdhhhhnbobdcoaaGreatDoor
open Go.RowKit Go.Ab Go.Lib
set_option maxRecDepth 1000000
theorem w000:evB (lC 0) 4 [.bool false,.map 3,.bool false]=some (.bool true):=by kernel_rfl
theorem w001:evB (lC 1) 4 [.bool false,.map 3,.bool false]=some (.bool true):=by kernel_rfl
theorem w002:evB (lC 2) 4 [.bool false,.map 3,.bool false]=some (.bool true):=by kernel_rfl
theorem w003:evB (lC 3) 4 [.bool false,.map 3,.bool false]=some (.bool true):=by kernel_rfl
end Go.Proofs.YtdhhhhnbobdcoaaGreatDoor
