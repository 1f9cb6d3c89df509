/- ParseNests and ParseRuns. No condition. -/
import Derived.Test.YtgdllpgidgiccaaGreatDoorAbR1
set_option linter.unusedSimpArgs false
set_option linter.unusedVariables false
namespace Go.Ab
variable {P:Program} {F T:Nat→Nat}
theorem aZz (n:Int) (m:Nat) (hm:m<2^62):∃ k:Nat,k≤m∧aMn .and .i64 n m=k:=by
 have h:((BitVec.ofInt 64 n) &&& (BitVec.ofInt 64 m)).toNat≤m:=by
  rw [BitVec.toNat_and]
  refine Nat.le_trans Nat.and_le_right ?_
  simp
  omega
 refine ⟨((BitVec.ofInt 64 n) &&& (BitVec.ofInt 64 m)).toNat,h,?_⟩
 have h2:InR .i64 (((BitVec.ofInt 64 n) &&& (BitVec.ofInt 64 m)).toNat:Int):=⟨by omega,by omega⟩
 exact InR.wrap h2
end Go.Ab
