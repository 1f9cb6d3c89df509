/- Several texts of one kind, merged. No condition. -/
import Derived.Test.YtjakkhalapaofaaGreatDoorAbZ4
import Derived.Test.YtjakkhalapaofaaGreatDoorAbM1
import Derived.Test.YtjakkhalapaofaaGreatDoorAbZ1
import Derived.Test.YtjakkhalapaofaaGreatDoorAbE5
set_option linter.unusedSimpArgs false
set_option linter.unusedVariables false
namespace Go.Ab
end Go.Ab
namespace Go.Ab
variable {P:Program} {F T:Nat→Nat}
open Go.Lib
abbrev U3:=List UInt8×Int×List UInt8
def Un.u3 (u:Un):U3:=(u.title,u.nth,u.text)
end Go.Ab
namespace Go.Ab
variable {P:Program} {F T:Nat→Nat}
open Go.Lib
end Go.Ab
namespace Go.Ab
variable {P:Program} {F T:Nat→Nat}
open Go.Lib
section maps
variable {κ ν:Type} [DecidableEq κ]
end maps
end Go.Ab
