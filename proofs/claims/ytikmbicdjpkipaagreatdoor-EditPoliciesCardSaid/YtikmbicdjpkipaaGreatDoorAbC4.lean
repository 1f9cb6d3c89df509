import Derived.Test.YtikmbicdjpkipaaGreatDoorAbC2
import Derived.Test.YtikmbicdjpkipaaGreatDoorAbC1
import Derived.Test.YtikmbicdjpkipaaGreatDoorAbK4
set_option linter.unusedSimpArgs false
set_option linter.unusedVariables false
namespace Go.Ab
variable {P:Program} {F T:Nat->Nat}
open Go.Lib
structure Gro where
 n:List UInt8
 m:List (List UInt8)
def Gro.v(x:Gro):V:=.agg [.str x.n,.lst 1 (x.m.map .str)]
def grV(l:List Gro):List V:=l.map Gro.v
theorem aCu(l:List Gro):(grV l).length=l.length:=List.length_map ..
theorem aBb(l:List Gro):V.imms (grV l)=true:=aA8 _ _ λq=>by simp[Gro.v,V.imm,V.imms,aA1]
end Go.Ab
namespace Go.Ab
variable {P:Program} {tp tgl tg tsl trl tr tsc tt tdl td ti tb ts:TypeId}
theorem aFy(l:List Grd):(gdV l).length=l.length:=List.length_map ..
theorem aBz(l:List Grd):V.imms (gdV l)=true:=aA8 _ _ λq=>rfl
end Go.Ab
