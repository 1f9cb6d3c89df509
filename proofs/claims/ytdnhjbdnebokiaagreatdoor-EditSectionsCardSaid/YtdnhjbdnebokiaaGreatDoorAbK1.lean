/- Several texts of one kind, merged. No condition. -/
import Derived.Test.YtdnhjbdnebokiaaGreatDoorAbE5
set_option linter.unusedSimpArgs false
set_option linter.unusedVariables false
namespace Go.Ab
theorem aHf {L:Heap}:∀ (n:Nat) (v:V),v.imm=true→view L n v=v
 | 0,v,_=>by unfold view; cases v <;> rfl
 | n+1,v,h=>by
   cases v <;> try rfl
   ·simp [V.imm] at h
   ·simp [V.imm] at h
   ·rename_i cs
    simp only [V.imm] at h
    simp only [view]
    rw [show cs.map (view L n)=cs.map id from List.map_congr_left fun x hx=>aHf n x (aBo h hx),List.map_id]
   ·rename_i cs
    simp only [V.imm] at h
    simp only [view]
    rw [show cs.map (view L n)=cs.map id from List.map_congr_left fun x hx=>aHf n x (aBo h hx),List.map_id]
   ·rename_i cs
    simp only [V.imm] at h
    simp only [view]
    rw [show cs.map (view L n)=cs.map id from List.map_congr_left fun x hx=>aHf n x (aBo h hx),List.map_id]
def encL (l:List (List Node)):List V:=l.map fun x=>.lst 5 (encs x)
theorem aRz (a b:List (List Node)):encL (a++b)=encL a++encL b:=by simp [encL]
theorem aJo (a:List (List Node)):(encL a).length=a.length:=by simp [encL]
theorem aZ3 (l:List (List Node)):V.imms (encL l)=true:=aE0 _ _ fun a=>by simp [V.imm,aDt]
theorem bG6 (a:List (List Node)) (x:List Node) (r:List (List Node)):(encL (a++x::r)).getD a.length .junk=.lst 5 (encs x):=by
 rw [aRz,← aJo a,List.getD_eq_getElem?_getD,List.getElem?_append_right (Nat.le_refl _)]; simp [encL]
attribute [push_cast] aJo aZ3 bG6
variable {P:Program} {F T:Nat→Nat}
end Go.Ab
namespace Go.Ab
variable {P:Program} {F T:Nat→Nat}
end Go.Ab
namespace Go.Ab
noncomputable def eqB (a b:List Node):Bool:=@decide (a=b) (Classical.propDecidable _)
variable {P:Program} {F T:Nat→Nat}
end Go.Ab
