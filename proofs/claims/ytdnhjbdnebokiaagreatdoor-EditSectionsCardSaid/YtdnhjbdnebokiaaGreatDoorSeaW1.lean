/- The statement's code, two cases. No condition. -/
import Derived.Test.YtdnhjbdnebokiaaGreatDoorSeaV
set_option linter.unusedVariables false
namespace Go.Proofs.YtdnhjbdnebokiaaGreatDoor
open Go.RowKit Go.Ab Go.Lib
set_option maxRecDepth 1000000
theorem w01:evB false true (lC false true) 3 [.map 2,.map 6,.map 10,.map 14,.bool true]=some (.bool true):=by kernel_rfl
theorem w11:evB true true (lC true true) 3 [.map 2,.map 6,.map 10,.map 14,.bool true]=some (.bool true):=by kernel_rfl
end Go.Proofs.YtdnhjbdnebokiaaGreatDoor
