/- Several texts of one kind, merged. No condition. -/
import Derived.Test.YtgdllpgidgiccaaGreatDoorAbP4
import Derived.Test.YtgdllpgidgiccaaGreatDoorAbK2
import Derived.Test.YtgdllpgidgiccaaGreatDoorAbK4
import Derived.KernelRfl
set_option linter.unusedSimpArgs false
set_option linter.unusedVariables false
namespace Go.Ab
variable {P:Program} {F T:Nat→Nat}
end Go.Ab
namespace Go.Ab
end Go.Ab
namespace Go.Ab
variable {P:Program} {F T:Nat→Nat}
theorem aWd (st:List El):aAo (finF st)≤pot st:=by
 have h:=aGv (st.length-1) st
 unfold finF
 cases hf:flatN (st.length-1) st with
 | nil=>simp [aAo]
 | cons e r =>
   rw [hf] at h
   simp only [pot,El.pot] at h
   simp only; omega
theorem aQm (s:List UInt8):aAo (aCm s)≤31+35*s.length:=by
 obtain ⟨g1,g2⟩:=aJi s
 have h:=(aLp (s:=s) (scan s) (st:=[root]) (fun t ht=>(g1 t ht).wf) aXm.inv).2
 have:=aWd (runF s (scan s) [root])
 have e:pot [root]≤31:=by simp [pot,El.pot,root,aAo,aA7]
 unfold aCm
 omega
end Go.Ab
