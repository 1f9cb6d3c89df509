/- Several texts of one kind, merged. No condition. -/
import Derived.Test.YtcmnepgnkcoiiaaGreatDoorAbC4
import Derived.Sort.Walk0
import Derived.Test.YtcmnepgnkcoiiaaGreatDoorAbG13
import Derived.Test.YtcmnepgnkcoiiaaGreatDoorAbF1
set_option linter.unusedSimpArgs false
set_option linter.unusedVariables false
namespace Go.Ab
abbrev Tx:=List UInt8
def aT:Tx:=[97,108,108]
end Go.Ab
namespace Go.Ab
variable {P:Program} {F T:Nat→Nat}
open Go.Lib
end Go.Ab
namespace Go.Ab
variable {P:Program} {F T:Nat→Nat}
end Go.Ab
