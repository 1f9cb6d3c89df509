/- The reference parser: node. No condition. -/
import Derived.Test.YtcmnepgnkcoiiaaGreatDoorAbR2
set_option linter.unusedSimpArgs false
set_option linter.unusedVariables false
namespace Go.Ab
variable {P:Program} {F T:Nat→Nat}
theorem RD.grow {L L':Heap} {nx n' m p:Nat} {els:List El} (h:RD T L nx p els L' n') (hm:n'≤m):RD T L nx p els L' m:=⟨h.box,Nat.le_trans h.le hm,h.fr⟩
end Go.Ab
