/- The statement's code at four users. No condition. -/
import Derived.Test.YtjakkhalapaofaaGreatDoorSeaV
set_option linter.unusedVariables false
namespace Go.Proofs.YtjakkhalapaofaaGreatDoor
open Go.RowKit Go.Ab Go.Lib
set_option maxRecDepth 1000000
theorem w110:evB true (lCS true 0) 4 [.bool true,.map 3,.map 2,.map 6]=some (.bool true):=by kernel_rfl
theorem w111:evB true (lCS true 1) 4 [.bool true,.map 3,.map 2,.map 6]=some (.bool true):=by kernel_rfl
theorem w112:evB true (lCS true 2) 4 [.bool true,.map 3,.map 2,.map 6]=some (.bool true):=by kernel_rfl
theorem w113:evB true (lCS true 3) 4 [.bool true,.map 3,.map 2,.map 6]=some (.bool true):=by kernel_rfl
end Go.Proofs.YtjakkhalapaofaaGreatDoor
