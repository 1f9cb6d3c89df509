/- Several texts of one kind, merged. No condition. -/
import Derived.Test.YtjakkhalapaofaaGreatDoorAbM2
import Derived.Test.YtjakkhalapaofaaGreatDoorAbM4
import Derived.Test.YtjakkhalapaofaaGreatDoorAbR7
set_option linter.unusedSimpArgs false
set_option linter.unusedVariables false
namespace Go.Ab
end Go.Ab
namespace Go.Ab
variable {P:Program} {F T:Nat→Nat}
open Go.Lib
end Go.Ab
