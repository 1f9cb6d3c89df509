/- Several texts of one kind, merged. No condition. -/
import Derived.Test.YtjakkhalapaofaaGreatDoorAbR1
import Derived.Test.YtjakkhalapaofaaGreatDoorAbR3
set_option linter.unusedSimpArgs false
set_option linter.unusedVariables false
namespace Go.Ab
end Go.Ab
namespace Go.Ab
end Go.Ab
namespace Go.Ab
variable {P:Program} {F T:Nat→Nat}
def TB (T:Nat→Nat) (L:Heap) (p:Nat):Prop:=∃ (es:List V) (a:Nat),L p=some (.box (T 10) [.lst 1 es,.int .i64 a])∧(∀ e,e∈es→∃ m,e=.int .i64 m)∧a≤es.length∧es.length<2^63
structure TD (T:Nat→Nat) (L:Heap) (nx p:Nat) (L':Heap) (nx':Nat):Prop where
 tb:TB T L' p
 le:nx≤nx'
 fr:∀ b,b<nx→b≠p→L' b=L b
theorem TD.trans {L L1 L2:Heap} {nx n1 n2 p:Nat} (h:TD T L nx p L1 n1) (k:TD T L1 n1 p L2 n2):TD T L nx p L2 n2 :=
 ⟨k.tb,Nat.le_trans h.le k.le,fun b hb hbp=>(k.fr b (Nat.lt_of_lt_of_le hb h.le) hbp).trans (h.fr b hb hbp)⟩
theorem TD.up {L L':Heap} {nx n' m p:Nat} (h:TD T L nx p L' n') (hm:n'≤m):TD T L nx p L' m:=⟨h.tb,Nat.le_trans h.le hm,h.fr⟩
end Go.Ab
namespace Go.Ab
variable {P:Program} {F T:Nat→Nat}
end Go.Ab
namespace Go.Ab
variable {P:Program} {F T:Nat→Nat}
end Go.Ab
