/- Several texts of one kind, merged. No condition. -/
import Derived.Test.YtjakkhalapaofaaGreatDoorAbZ1
import Derived.Test.YtjakkhalapaofaaGreatDoorAbK1
set_option linter.unusedSimpArgs false
set_option linter.unusedVariables false
namespace Go.Ab
theorem imms_strM (l:List (List UInt8)):V.imms (l.map V.str)=true:=imms_map _ _ fun t=>rfl
end Go.Ab
namespace Go.Ab
structure Un where
 title:List UInt8
 nth:Nat
 text:List UInt8
def Un.v (u:Un):V:=.agg [.str u.title,.int .i64 u.nth,.str u.text]
end Go.Ab
namespace Go.Ab
abbrev Un.nm (u:Un):List UInt8×Nat:=(u.title,u.nth)
end Go.Ab
namespace Go.Ab
end Go.Ab
namespace Go.Ab
end Go.Ab
namespace Go.Ab
end Go.Ab
namespace Go.Ab
end Go.Ab
namespace Go.Ab
end Go.Ab
