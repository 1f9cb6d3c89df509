/- Sections: headings by their numbers; texts that have none. No condition. -/
import Derived.Test.YtdnhjbdnebokiaaGreatDoorAbZ1
import Derived.KernelRfl
set_option linter.unusedSimpArgs false
set_option linter.unusedVariables false
namespace Go.Ab
theorem bBe (s:List UInt8):aA2 [tx s]=List.replicate s.length true:=by
 simp [aA2,bK5,tx,Node.kind]
 simp [Node.src]
end Go.Ab
