/- Changes: the text of a section, what a change concerns. No condition. -/
import Derived.Test.YtjakkhalapaofaaGreatDoorAbC4
import Derived.Test.YtjakkhalapaofaaGreatDoorAbZ4
set_option linter.unusedSimpArgs false
set_option linter.unusedVariables false
namespace Go.Ab
variable {P:Program} {F T:Nat→Nat}
open Go.Lib
theorem t183 (hf:bKj P F T) (h124:bAs P (F 124)) (S:StrC0 P F) (h128:bGq P F T) (h132:bGm P F T) (h141:bA7 P F T) (s name:List UInt8) (hs:s.length≤8192) :
 PTr P (F 183) [.str s,.str name] (.tup [.str (aRo s name).1,.bool (aRo s name).2]):=by
 have hl:=bEa s
 have c1:=h124 s (by omega)
 have c2:=t128 h128 S ((aCm s).map Sec.q) name (by rw [List.length_map]; omega)
 rw [← bKv] at c2
 refine ptrC [] hf (by simp) rfl ?_
 unfold aRo
 have c3:=t132 h132 h141 h124 s (by omega) (aFb (trimS name wsp) ((aCm s).map Sec.q) 0).1
 generalize aFb (trimS name wsp) ((aCm s).map Sec.q) 0=y at *
 obtain ⟨i,b⟩:=y
 simp only [c183,push_cast,seval,-Nat.reducePow]
 refine aAc c1 (by simp only [push_cast,seval,-Nat.reducePow]) (by simp only [push_cast,seval,-Nat.reducePow,aEo]) ?_
 simp only [push_cast,seval,-Nat.reducePow]
 refine aAc c2 (by simp only [push_cast,seval,-Nat.reducePow,aEo]) (by simp only [push_cast,seval,-Nat.reducePow]) ?_
 cases b with
 | false =>
   simp only [push_cast,seval,-Nat.reducePow,view]
   try rfl
 | true =>
   simp only [push_cast,seval,-Nat.reducePow]
   refine aAc c3 (by simp only [push_cast,seval,-Nat.reducePow]) (by simp only [push_cast,seval,-Nat.reducePow]) ?_
   simp only [push_cast,seval,-Nat.reducePow,view]
   try rfl
end Go.Ab
