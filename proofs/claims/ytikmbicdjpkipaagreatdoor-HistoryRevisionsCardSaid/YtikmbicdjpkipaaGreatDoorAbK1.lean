import Derived.Test.YtikmbicdjpkipaaGreatDoorAbE4
open List renaming map_congr_left->zt,map_id->xL
set_option linter.unusedSimpArgs false
set_option linter.unusedVariables false
namespace Go.Ab
theorem aAb{L:Heap}:∀(n:Nat) (v:V),v.imm=true->view L n v=v
 | 0,v,_=>by rfl
 | n+1,v,h=>by
   cases v<;>try rfl
   .simp[V.imm]at h
   .simp[V.imm]at h
   .rename_i cs;simp only[V.imm]at h;simp only[view];rw[show cs.map (view L n)=cs.map id from zt λx hx=>aAb n x (aBh h hx),xL]
   .rename_i cs;simp only[V.imm]at h;simp only[view];rw[show cs.map (view L n)=cs.map id from zt λx hx=>aAb n x (aBh h hx),xL]
   .rename_i cs;simp only[V.imm]at h;simp only[view];rw[show cs.map (view L n)=cs.map id from zt λx hx=>aAb n x (aBh h hx),xL]
theorem bDj{L:Heap}{i ty z sz n:Nat}{es:List V}(h:L i=some (.vec ty z es))(hn:n<=es.length)(hi:V.imms es=true):view L 3 (.own i sz 0 n)=.lst sz (es.take n):=by
 simp only[view,h,Nat.zero_add,hn,if_true,List.drop_zero];rw[show(es.take n).map (view L 2)=(es.take n).map id from zt λx hx=>aAb 2 x (aBh hi (List.mem_of_mem_take hx)),xL]
theorem aHk{L:Heap}{id ty z sz:Nat}{es:List V}(h:L id=some (.vec ty z es))(hi:V.imms es=true):view L 3 (.own id sz 0 es.length)=.lst sz es:=by
 rw[bDj h (Nat.le_refl _) hi,List.take_length]
variable {P:Program} {F T:Nat->Nat}
end Go.Ab
