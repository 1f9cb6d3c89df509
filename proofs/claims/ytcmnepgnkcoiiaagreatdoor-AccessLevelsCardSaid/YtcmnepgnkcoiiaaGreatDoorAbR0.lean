/- Lowered code of the functions, by program. No condition. -/
import Derived.Test.YtcmnepgnkcoiiaaGreatDoorAbP1
namespace Go.Ab
set_option linter.unusedVariables false
end Go.Ab
