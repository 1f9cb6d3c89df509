/- Several texts of one kind, merged. No condition. -/
import Derived.Test.YtdhhhhnbobdcoaaGreatDoorAbP4
import Derived.Test.YtdhhhhnbobdcoaaGreatDoorAbK2
import Derived.Test.YtdhhhhnbobdcoaaGreatDoorAbK4
import Derived.KernelRfl
set_option linter.unusedSimpArgs false
set_option linter.unusedVariables false
namespace Go.Ab
variable {P:Program} {F T:Nat→Nat}
end Go.Ab
namespace Go.Ab
end Go.Ab
namespace Go.Ab
variable {P:Program} {F T:Nat→Nat}
end Go.Ab
