/- Several texts of one kind, merged. No condition. -/
import Derived.Test.YtcmnepgnkcoiiaaGreatDoorAbC4
import Derived.Test.YtcmnepgnkcoiiaaGreatDoorAbZ4
/- Changes: the text of a section, what a change concerns. No condition. -/
namespace Go.Ab
set_option linter.unusedVariables false
set_option linter.unusedSimpArgs false
variable {P : Program} {F T : Nat → Nat}
open Go.Lib
end Go.Ab
/- AccessChange. No condition. -/
namespace Go.Ab
set_option linter.unusedVariables false
set_option linter.unusedSimpArgs false
variable {P : Program} {F T : Nat → Nat}
open Go.Lib
end Go.Ab
