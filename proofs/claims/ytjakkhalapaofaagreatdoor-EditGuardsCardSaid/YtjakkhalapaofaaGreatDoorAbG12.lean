/- Lowered code of the functions, by program. No condition. -/
import Derived.Test.YtjakkhalapaofaaGreatDoorAbG11
set_option linter.unusedVariables false
namespace Go.Ab
end Go.Ab
