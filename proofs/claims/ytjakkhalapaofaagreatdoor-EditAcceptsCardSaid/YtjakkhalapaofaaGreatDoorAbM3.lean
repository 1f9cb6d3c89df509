/- Several texts of one kind, merged. No condition. -/
import Derived.Test.YtjakkhalapaofaaGreatDoorAbM2
import Derived.Test.YtjakkhalapaofaaGreatDoorAbM1
set_option linter.unusedSimpArgs false
set_option linter.unusedVariables false
namespace Go.Ab
variable {P:Program} {F T:Nat→Nat}
open Go.Lib
theorem view_ownN {L:Heap} {n i ty z sz:Nat} {es:List V} (h:L i=some (.vec ty z es)) (hi:V.imms es=true):view L (n+1) (.own i sz 0 es.length)=.lst sz es:=by
 simp only [view,h,Nat.zero_add,Nat.le_refl,if_true,List.drop_zero,List.take_length]
 rw [show es.map (view L n)=es.map id from List.map_congr_left fun x hx=>view_imm n x (imms_mem hi hx),List.map_id]
end Go.Ab
namespace Go.Ab
variable {P:Program} {F T:Nat→Nat}
open Go.Lib
end Go.Ab
