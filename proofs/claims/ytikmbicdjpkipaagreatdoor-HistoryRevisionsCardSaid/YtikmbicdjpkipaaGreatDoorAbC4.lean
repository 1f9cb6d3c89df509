import Derived.Test.YtikmbicdjpkipaaGreatDoorAbC2
import Derived.Test.YtikmbicdjpkipaaGreatDoorAbC1
import Derived.Test.YtikmbicdjpkipaaGreatDoorAbK4
set_option linter.unusedSimpArgs false
set_option linter.unusedVariables false
namespace Go.Ab
variable {P:Program} {F T:Nat->Nat}
open Go.Lib
structure MayC(P:Program)(F T:Nat->Nat):Prop where
 C:TitC P F
 h185:bFk P F T
 h187:aYs P F T
 h188:bBr P F T
 h189:aU7 P F T
 h190:aUo P F T
 h186:bFu P F T
 h229:bE0 P F T
 h181:bKo P F T
 h182:bJy P F T
 h220:aW0 P F T
 h222:aOw P F T
 h178:bIf P F T
theorem bL1(H:MayC P F T){sp:Int}{s:List UInt8}{g:List (List UInt8)}(hg:g.length<=2^60)(gv:List V)(rs:List Rul)(dv:List V)(hgv:V.imms gv=true)(hdv:V.imms dv=true)(hrs:rs.length<=2^60)(right:Int):
 PTr P (F 178) [polV gv rs dv,.lst 1 (g.map .str),.int .i64 right,ttV sp s] (.bool (mayF rs g right sp s)):=by
 have h185:=t185 H.h185 H.C H.h187 H.h188 H.h189 H.h190 sp s (by omega);exact t178 H.h178 h185 (λhv=>t181 H.h181 H.h186 H.h229 (by rw[hv]at h185;exact h185) (by have:=aHw hv;omega)) (t182 H.h182) (λx=>t220 H.h220 H.h222 g x hg) gv rs dv hgv hdv hrs right
structure Gro where
 n:List UInt8
 m:List (List UInt8)
def Gro.v(x:Gro):V:=.agg [.str x.n,.lst 1 (x.m.map .str)]
def grV(l:List Gro):List V:=l.map Gro.v
theorem aCx(l:List Gro):(grV l).length=l.length:=List.length_map ..
theorem aA6(l:List Gro):V.imms (grV l)=true:=aA2 _ _ λq=>by simp[Gro.v,V.imm,V.imms,aAp]
structure RMayC(P:Program)(F T:Nat->Nat):Prop where
 h102:aOs P F T
 h201:bAt P F T
 h202:bCc P F T
 h203:aVj P F T
 h204:aQ3 P F T
 h205:aRe P F T
 h199:bCh P F T
 h200:bEv P F T
 h194:bHd P F T
 h195:bIu P F T
 h193:aUr P F T
 h192:bMj P F T
theorem bEs(H:RMayC P F T){sp:Int}{s:List UInt8}{g:List (List UInt8)}(hg:g.length<=2^60)(gv:List V)(rs:List Rul)(dv:List V)(hgv:V.imms gv=true)(hdv:V.imms dv=true)(hrs:rs.length<=2^60)(right:Int):
 PTr P (F 192) [polV gv rs dv,.lst 1 (g.map .str),.int .i64 right,ttV sp s] (.bool (mayF rs g right sp s)):=by
 have h199:=t199 H.h199 H.h102 H.h201 H.h202 H.h203 H.h204 H.h205 sp s (by omega);exact t192 H.h192 h199 (λhv=>t194 H.h194 H.h200 (by rw[hv]at h199;exact h199) (by have:=aHw hv;omega)) (t195 H.h195) (λx=>t193 H.h193 g x hg) gv rs dv hgv hdv hrs right
end Go.Ab
namespace Go.Ab
variable {P:Program} {tp tgl tg tsl trl tr tsc tt tdl td ti tb ts:TypeId}
theorem aG6(l:List Grd):(gdV l).length=l.length:=List.length_map ..
theorem aBy(l:List Grd):V.imms (gdV l)=true:=aA2 _ _ λq=>rfl
end Go.Ab
