/- The statement's code, some of the cases. No condition. -/
import Derived.Test.YtjakkhalapaofaaGreatDoorSeaV
set_option linter.unusedVariables false
namespace Go.Proofs.YtjakkhalapaofaaGreatDoor
open Go.RowKit Go.Ab Go.Lib
set_option maxRecDepth 1000000
theorem w0:evB 0 (lC 0) 3 [.map 2,.map 6,.map 10]=some (.bool true):=by kernel_rfl
theorem w1:evB 1 (lC 1) 3 [.map 2,.map 6,.map 10]=some (.bool true):=by kernel_rfl
end Go.Proofs.YtjakkhalapaofaaGreatDoor
