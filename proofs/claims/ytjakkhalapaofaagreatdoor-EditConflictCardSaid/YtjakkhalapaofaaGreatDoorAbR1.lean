/- Several texts of one kind, merged. No condition. -/
import Derived.Test.YtjakkhalapaofaaGreatDoorAbP4
import Derived.Test.YtjakkhalapaofaaGreatDoorAbK2
import Derived.Test.YtjakkhalapaofaaGreatDoorAbK4
import Derived.KernelRfl
set_option linter.unusedSimpArgs false
set_option linter.unusedVariables false
namespace Go.Ab
variable {P:Program} {F T:Nat→Nat}
theorem t101 (hf:bHd P F T) (s t:List UInt8) (i:Nat) (hi:i≤s.length) (hs:s.length≤8192) (ht:t.length≤8192):PTr P (F 101) [.str s,.int .i64 i,.str t] (.bool (t.isPrefixOf (s.drop i))):=by
 refine ptrC [] hf (by simp) rfl ?_
 have h0:(0:Int)≤((i:Nat):Int):=by omega
 have h1:((i:Nat):Int)≤((s.length:Nat):Int):=by omega
 by_cases h:t.length≤s.length-i
 ·have h2:((t.length:Nat):Int)≤((s.length:Nat):Int)-(i:Nat):=by omega
  simp only [c101,push_cast,seval,-Nat.reducePow,h0,h1,h2]
  refine ⟨by omega,by omega,by omega,by omega,by omega,?_⟩
  have e:((i:Int)+(t.length:Int)).toNat-i=t.length:=by omega
  simp only [view,aLi,List.length_drop,h,decide_true,Bool.true_and]
  try simp [List.drop_take,e]
 ·have h2:¬ ((t.length:Nat):Int)≤((s.length:Nat):Int)-(i:Nat):=by omega
  simp only [c101,push_cast,seval,-Nat.reducePow,h0,h1,h2]
  refine ⟨by omega,?_⟩
  simp only [view,aLi,List.length_drop,h,decide_false,Bool.false_and]
end Go.Ab
namespace Go.Ab
end Go.Ab
namespace Go.Ab
variable {P:Program} {F T:Nat→Nat}
end Go.Ab
