/- Several texts of one kind, merged. No condition. -/
import Derived.Test.YtcmnepgnkcoiiaaGreatDoorAbZ1
/- Lowered code of the functions, by program. No condition. -/
namespace Go.Ab
set_option linter.unusedVariables false
end Go.Ab
/- Sections, the reference. No condition. -/
namespace Go.Ab
set_option linter.unusedVariables false
set_option linter.unusedSimpArgs false
variable {P : Program} {F T : Nat → Nat}
open Go.Lib
end Go.Ab
