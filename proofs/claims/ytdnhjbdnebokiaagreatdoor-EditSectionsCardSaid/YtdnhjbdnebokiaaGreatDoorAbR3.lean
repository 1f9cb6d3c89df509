/- ParseNests and ParseRuns. No condition. -/
import Derived.Test.YtdnhjbdnebokiaaGreatDoorAbR1
set_option linter.unusedSimpArgs false
set_option linter.unusedVariables false
namespace Go.Ab
variable {P:Program} {F T:Nat→Nat}
end Go.Ab
