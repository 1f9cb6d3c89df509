/- Several texts of one kind, merged. No condition. -/
import Derived.Test.YtjakkhalapaofaaGreatDoorAbR4
set_option linter.unusedSimpArgs false
set_option linter.unusedVariables false
namespace Go.Ab
variable {P:Program} {F T:Nat→Nat}
end Go.Ab
namespace Go.Ab
variable {P:Program} {F T:Nat→Nat}
end Go.Ab
namespace Go.Ab
variable {P:Program} {F T:Nat→Nat}
end Go.Ab
namespace Go.Ab
variable {P:Program} {F T:Nat→Nat}
theorem bEl:rvs [root]=[.agg [.int .i64 0,.int .i64 0,.int .i64 0,.lst 5 [],.lst 3 []]]:=rfl
theorem aUp:∀ l:List Tok,(∀ t,t∈l→t.fr<t.to)→l.length≤lenT l
 | [],_=>by simp
 | t::r,h=>by
   have h1:=h t (by simp)
   have:=aUp r fun x hx=>h x (by simp [hx])
   simp only [lenT,List.length_cons]
   omega
end Go.Ab
