/- Sections: headings by their numbers; texts that have none. No condition. -/
import Derived.Test.YtjakkhalapaofaaGreatDoorAbZ1
import Derived.KernelRfl
set_option linter.unusedSimpArgs false
set_option linter.unusedVariables false
namespace Go.Ab
theorem bDl (s:List UInt8):aAt [tx s]=List.replicate s.length true:=by
 simp [aAt,bMo,tx,Node.kind]
 simp [Node.src]
end Go.Ab
