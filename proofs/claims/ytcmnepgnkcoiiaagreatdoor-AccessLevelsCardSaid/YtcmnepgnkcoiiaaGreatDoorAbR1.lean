/- Several texts of one kind, merged. No condition. -/
import Derived.Test.YtcmnepgnkcoiiaaGreatDoorAbP4
import Derived.Test.YtcmnepgnkcoiiaaGreatDoorAbK2
import Derived.Test.YtcmnepgnkcoiiaaGreatDoorAbK4
import Derived.KernelRfl
/- The reference's tokens. No condition. -/
namespace Go.Ab
set_option linter.unusedVariables false
set_option linter.unusedSimpArgs false
variable {P : Program} {F T : Nat → Nat}
end Go.Ab
/- Lowered code of the functions, by program. No condition. -/
namespace Go.Ab
set_option linter.unusedVariables false
end Go.Ab
/- The laws of the parser: what they share; ParseKeeps and ParseJoined. No condition. -/
namespace Go.Ab
set_option linter.unusedVariables false
set_option linter.unusedSimpArgs false
variable {P : Program} {F T : Nat → Nat}
end Go.Ab
