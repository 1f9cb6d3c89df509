/- The statement's code, some of the cases. No condition. -/
import Derived.Test.YtjakkhalapaofaaGreatDoorSeaV
set_option linter.unusedVariables false
namespace Go.Proofs.YtjakkhalapaofaaGreatDoor
open Go.RowKit Go.Ab Go.Lib
set_option maxRecDepth 1000000
theorem w2:evB 2 (lC 2) 3 [.map 2,.map 6,.map 10]=some (.bool true):=by kernel_rfl
theorem w3:evB 3 (lC 3) 3 [.map 2,.map 6,.map 10]=some (.bool true):=by kernel_rfl
theorem w4:evB 4 (lC 4) 3 [.map 2,.map 6,.map 10]=some (.bool true):=by kernel_rfl
end Go.Proofs.YtjakkhalapaofaaGreatDoor
