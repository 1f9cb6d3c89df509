/- The statement's code at four users. No condition. -/
import Derived.Test.YtjakkhalapaofaaGreatDoorSeaV
set_option linter.unusedVariables false
namespace Go.Proofs.YtjakkhalapaofaaGreatDoor
open Go.RowKit Go.Ab Go.Lib
set_option maxRecDepth 1000000
theorem w000:evB false (lCG false 0) 4 [.bool false,.map 3,.map 2,.map 6]=some (.bool true):=by kernel_rfl
theorem w001:evB false (lCG false 1) 4 [.bool false,.map 3,.map 2,.map 6]=some (.bool true):=by kernel_rfl
theorem w002:evB false (lCG false 2) 4 [.bool false,.map 3,.map 2,.map 6]=some (.bool true):=by kernel_rfl
theorem w003:evB false (lCG false 3) 4 [.bool false,.map 3,.map 2,.map 6]=some (.bool true):=by kernel_rfl
end Go.Proofs.YtjakkhalapaofaaGreatDoor
