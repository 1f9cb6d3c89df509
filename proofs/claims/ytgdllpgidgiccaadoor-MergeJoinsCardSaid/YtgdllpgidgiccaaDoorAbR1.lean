/- Several texts of one kind, merged. No condition. -/
import Derived.Test.YtgdllpgidgiccaaDoorAbP4
import Derived.Test.YtgdllpgidgiccaaDoorAbK2
import Derived.Test.YtgdllpgidgiccaaDoorAbK4
import Derived.KernelRfl
set_option linter.unusedSimpArgs false
set_option linter.unusedVariables false
namespace Go.Ab
variable {P:Program} {F T:Nat→Nat}
end Go.Ab
namespace Go.Ab
end Go.Ab
namespace Go.Ab
variable {P:Program} {F T:Nat→Nat}
theorem aX8 (st:List El):aAo (finF st)≤pot st:=by
 have h:=aHb (st.length-1) st
 unfold finF
 cases hf:flatN (st.length-1) st with
 | nil=>simp [aAo]
 | cons e r =>
   rw [hf] at h
   simp only [pot,El.pot] at h
   simp only; omega
theorem aQ9 (s:List UInt8):aAo (aCn s)≤31+35*s.length:=by
 obtain ⟨g1,g2⟩:=aJi s
 have h:=(aMl (s:=s) (scan s) (st:=[root]) (fun t ht=>(g1 t ht).wf) aYz.inv).2
 have:=aX8 (runF s (scan s) [root])
 have e:pot [root]≤31:=by simp [pot,El.pot,root,aAo,aA7]
 unfold aCn
 omega
end Go.Ab
