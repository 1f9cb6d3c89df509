/- Several texts of one kind, merged. No condition. -/
import Derived.Test.YtjakkhalapaofaaGreatDoorAbC2
import Derived.Test.YtjakkhalapaofaaGreatDoorAbC3
import Derived.Test.YtjakkhalapaofaaGreatDoorAbC1
import Derived.Test.YtjakkhalapaofaaGreatDoorAbK4
set_option linter.unusedSimpArgs false
set_option linter.unusedVariables false
namespace Go.Ab
variable {P:Program} {F T:Nat→Nat}
open Go.Lib
end Go.Ab
namespace Go.Ab
variable {P:Program} {F T:Nat→Nat}
open Go.Lib
end Go.Ab
namespace Go.Ab
variable {P:Program} {F T:Nat→Nat}
open Go.Lib
structure Gro where
 n:List UInt8
 m:List (List UInt8)
def Gro.v (x:Gro):V:=.agg [.str x.n,.lst 1 (x.m.map .str)]
end Go.Ab
namespace Go.Ab
variable {P:Program} {tp tgl tg tsl trl tr tsc tt tdl td ti tb ts:TypeId}
end Go.Ab
