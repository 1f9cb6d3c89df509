/- Several texts of one kind, merged. No condition. -/
import Derived.Test.YtjakkhalapaofaaGreatDoorAbP4
import Derived.Test.YtjakkhalapaofaaGreatDoorAbK2
import Derived.Test.YtjakkhalapaofaaGreatDoorAbK4
import Derived.KernelRfl
set_option linter.unusedSimpArgs false
set_option linter.unusedVariables false
namespace Go.Ab
variable {P:Program} {F T:Nat→Nat}
end Go.Ab
namespace Go.Ab
end Go.Ab
namespace Go.Ab
variable {P:Program} {F T:Nat→Nat}
theorem aWy (st:List El):aAq (finF st)≤pot st:=by
 have h:=aHl (st.length-1) st
 unfold finF
 cases hf:flatN (st.length-1) st with
 | nil=>simp [aAq]
 | cons e r =>
   rw [hf] at h
   simp only [pot,El.pot] at h
   simp only; omega
theorem aRf (s:List UInt8):aAq (aCc s)≤31+35*s.length:=by
 obtain ⟨g1,g2⟩:=aKf s
 have h:=(aMj (s:=s) (scan s) (st:=[root]) (fun t ht=>(g1 t ht).wf) aZc.inv).2
 have:=aWy (runF s (scan s) [root])
 have e:pot [root]≤31:=by simp [pot,El.pot,root,aAq,aBb]
 unfold aCc
 omega
end Go.Ab
