/- Sections: headings by their numbers; texts that have none. No condition. -/
import Derived.Test.YtgdllpgidgiccaaGreatDoorAbZ1
import Derived.KernelRfl
set_option linter.unusedSimpArgs false
set_option linter.unusedVariables false
namespace Go.Ab
theorem bE8 (s:List UInt8):aAv [tx s]=List.replicate s.length true:=by
 simp [aAv,aKw,tx,Node.kind]
 simp [Node.src]
end Go.Ab
