/- Several texts of one kind, merged. No condition. -/
import Derived.Test.YtikmbicdjpkipaaGreatDoorAbK1
import Derived.Lib.Index
import Derived.Lib.Repeat
set_option linter.unusedSimpArgs false
set_option linter.unusedVariables false
namespace Go.Ab
open Go.RowKit
variable {P:Program} {F:Nat→Nat}
theorem vs2 {vs:Array Value} {D:Nat→Prop} {w:World} {a b:V} (hl:[a,b].length=vs.size)
 (h:∀ i x,[a,b][i]?=some x→Rep (fun _=>none) D w x (vs.getD i undef)):∃ u v,vs=#[u,v]∧Rep (fun _=>none) D w a u∧Rep (fun _=>none) D w b v:=by
 refine ⟨vs.getD 0 undef,vs.getD 1 undef,?_,h 0 a rfl,h 1 b rfl⟩
 apply Array.ext
 ·simpa using hl.symm
 ·intro i h1 h2
  match i with
  | 0=>simp [Array.getD,show 0<vs.size by simpa using h1]
  | 1=>simp [Array.getD,show 1<vs.size by simpa using h1]
  | k+2=>exact absurd h2 (by simp)
end Go.Ab
