/- Several texts of one kind, merged. No condition. -/
import Derived.Test.YtjakkhalapaofaaGreatDoorAbE5
set_option linter.unusedSimpArgs false
set_option linter.unusedVariables false
namespace Go.Ab
theorem aEs {L:Heap}:∀ (n:Nat) (v:V),v.imm=true→view L n v=v
 | 0,v,_=>by unfold view; cases v <;> rfl
 | n+1,v,h=>by
   cases v <;> try rfl
   ·simp [V.imm] at h
   ·simp [V.imm] at h
   ·rename_i cs
    simp only [V.imm] at h
    simp only [view]
    rw [show cs.map (view L n)=cs.map id from List.map_congr_left fun x hx=>aEs n x (aBr h hx),List.map_id]
   ·rename_i cs
    simp only [V.imm] at h
    simp only [view]
    rw [show cs.map (view L n)=cs.map id from List.map_congr_left fun x hx=>aEs n x (aBr h hx),List.map_id]
   ·rename_i cs
    simp only [V.imm] at h
    simp only [view]
    rw [show cs.map (view L n)=cs.map id from List.map_congr_left fun x hx=>aEs n x (aBr h hx),List.map_id]
theorem bFg {L:Heap} {i ty z sz n:Nat} {es:List V} (h:L i=some (.vec ty z es)) (hn:n≤es.length) (hi:V.imms es=true):view L 3 (.own i sz 0 n)=.lst sz (es.take n):=by
 simp only [view,h,Nat.zero_add,hn,if_true,List.drop_zero]
 rw [show (es.take n).map (view L 2)=(es.take n).map id from List.map_congr_left fun x hx=>aEs 2 x (aBr hi (List.mem_of_mem_take hx)),List.map_id]
theorem aLc {L:Heap} {id ty z sz:Nat} {es:List V} (h:L id=some (.vec ty z es)) (hi:V.imms es=true):view L 3 (.own id sz 0 es.length)=.lst sz es:=by
 rw [bFg h (Nat.le_refl _) hi,List.take_length]
def encL (l:List (List Node)):List V:=l.map fun x=>.lst 5 (encs x)
theorem aSr (a b:List (List Node)):encL (a++b)=encL a++encL b:=by simp [encL]
theorem aJ8 (a:List (List Node)):(encL a).length=a.length:=by simp [encL]
theorem bB5 (l:List (List Node)):V.imms (encL l)=true:=aFe _ _ fun a=>by simp [V.imm,aAr]
theorem bG6 (a:List (List Node)) (x:List Node) (r:List (List Node)):(encL (a++x::r)).getD a.length .junk=.lst 5 (encs x):=by
 rw [aSr,← aJ8 a,List.getD_eq_getElem?_getD,List.getElem?_append_right (Nat.le_refl _)]; simp [encL]
attribute [push_cast] aJ8 bB5 bG6
variable {P:Program} {F T:Nat→Nat}
end Go.Ab
namespace Go.Ab
variable {P:Program} {F T:Nat→Nat}
end Go.Ab
namespace Go.Ab
noncomputable def eqB (a b:List Node):Bool:=@decide (a=b) (Classical.propDecidable _)
variable {P:Program} {F T:Nat→Nat}
end Go.Ab
