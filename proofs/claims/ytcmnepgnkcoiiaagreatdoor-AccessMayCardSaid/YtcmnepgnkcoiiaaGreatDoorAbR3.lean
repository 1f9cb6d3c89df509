/- ParseNests and ParseRuns. No condition. -/
import Derived.Test.YtcmnepgnkcoiiaaGreatDoorAbR1
namespace Go.Ab
set_option linter.unusedVariables false
set_option linter.unusedSimpArgs false
variable {P : Program} {F T : Nat → Nat}
end Go.Ab
