/- The statement's code at four users. No condition. -/
import Derived.Test.YtjakkhalapaofaaGreatDoorSeaV
set_option linter.unusedVariables false
namespace Go.Proofs.YtjakkhalapaofaaGreatDoor
open Go.RowKit Go.Ab Go.Lib
set_option maxRecDepth 1000000
theorem w100:evB true (lCG true 0) 4 [.bool false,.map 3,.map 2,.map 6]=some (.bool true):=by kernel_rfl
theorem w101:evB true (lCG true 1) 4 [.bool false,.map 3,.map 2,.map 6]=some (.bool true):=by kernel_rfl
theorem w102:evB true (lCG true 2) 4 [.bool false,.map 3,.map 2,.map 6]=some (.bool true):=by kernel_rfl
theorem w103:evB true (lCG true 3) 4 [.bool false,.map 3,.map 2,.map 6]=some (.bool true):=by kernel_rfl
end Go.Proofs.YtjakkhalapaofaaGreatDoor
