/- Several texts of one kind, merged. No condition. -/
import Derived.Test.YtcmnepgnkcoiiaaGreatDoorAbR1
import Derived.Test.YtcmnepgnkcoiiaaGreatDoorAbR0
set_option linter.unusedSimpArgs false
set_option linter.unusedVariables false
namespace Go.Ab
variable {P:Program} {F T:Nat→Nat}
end Go.Ab
namespace Go.Ab
variable {P:Program} {F T:Nat→Nat}
end Go.Ab
namespace Go.Ab
variable {P:Program} {F T:Nat→Nat}
def El.rc (e:El):List V:=[.int .i64 e.kind,.int .i64 e.tag,.int .i64 e.count,.lst 5 (encs e.list),.lst 3 (encA e.args)]
def rvs (els:List El):List V:=els.reverse.map fun e=>.agg e.rc
structure RD (T:Nat→Nat) (L:Heap) (nx p:Nat) (els:List El) (L':Heap) (nx':Nat):Prop where
 box:L' p=some (.box (T 9) [.lst 5 (rvs els)])
 le:nx≤nx'
 fr:∀ b ty cs,b<nx→b≠p→L b=some (.box ty cs)→V.imms cs=true→L' b=some (.box ty cs)
theorem RD.trans {L L1 L2:Heap} {nx n1 n2 p:Nat} {a b:List El} (h:RD T L nx p a L1 n1) (k:RD T L1 n1 p b L2 n2):RD T L nx p b L2 n2 :=
 ⟨k.box,Nat.le_trans h.le k.le,fun x ty cs hx hne hb hi=>k.fr x ty cs (Nat.lt_of_lt_of_le hx h.le) hne (h.fr x ty cs hx hne hb hi) hi⟩
end Go.Ab
namespace Go.Ab
variable {P:Program} {F T:Nat→Nat}
end Go.Ab
