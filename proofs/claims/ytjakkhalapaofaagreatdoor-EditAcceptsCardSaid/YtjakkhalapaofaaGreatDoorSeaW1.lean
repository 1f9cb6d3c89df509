/- The statement's code at three users. No condition. -/
import Derived.Test.YtjakkhalapaofaaGreatDoorSeaV
set_option linter.unusedVariables false
namespace Go.Proofs.YtjakkhalapaofaaGreatDoor
open Go.RowKit Go.Ab Go.Lib
set_option maxRecDepth 1000000
theorem w10:evB true (lC true 0) 5 [.map 2,.map 6,.map 3]=some (.bool true):=by kernel_rfl
theorem w11:evB true (lC true 1) 5 [.map 2,.map 6,.map 3]=some (.bool true):=by kernel_rfl
theorem w12:evB true (lC true 2) 5 [.map 2,.map 6,.map 3]=some (.bool true):=by kernel_rfl
end Go.Proofs.YtjakkhalapaofaaGreatDoor
