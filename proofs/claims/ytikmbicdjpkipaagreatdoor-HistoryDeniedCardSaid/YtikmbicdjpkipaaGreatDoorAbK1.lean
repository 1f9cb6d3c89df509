/- Several texts of one kind, merged. No condition. -/
import Derived.Test.YtikmbicdjpkipaaGreatDoorAbE5
import Derived.Test.YtikmbicdjpkipaaGreatDoorAbE4
set_option linter.unusedSimpArgs false
set_option linter.unusedVariables false
namespace Go.Ab
theorem aAc {L:Heap}:∀ (n:Nat) (v:V),v.imm=true→view L n v=v
 | 0,v,_=>by unfold view; cases v <;> rfl
 | n+1,v,h=>by
   cases v <;> try rfl
   ·simp [V.imm] at h
   ·simp [V.imm] at h
   ·rename_i cs
    simp only [V.imm] at h
    simp only [view]
    rw [show cs.map (view L n)=cs.map id from List.map_congr_left fun x hx=>aAc n x (aBw h hx),List.map_id]
   ·rename_i cs
    simp only [V.imm] at h
    simp only [view]
    rw [show cs.map (view L n)=cs.map id from List.map_congr_left fun x hx=>aAc n x (aBw h hx),List.map_id]
   ·rename_i cs
    simp only [V.imm] at h
    simp only [view]
    rw [show cs.map (view L n)=cs.map id from List.map_congr_left fun x hx=>aAc n x (aBw h hx),List.map_id]
variable {P:Program} {F T:Nat→Nat}
end Go.Ab
