/- The generator's Round, at four. No condition. -/
import Derived.Test.YtdnhjbdnebokiaaGreatDoorAbE4
set_option linter.unusedSimpArgs false
set_option linter.unusedVariables false
namespace Go.Ab
variable {P:Program}
def cRnd:C :=
 .seq (.ops false [⟨none,[.mov (some 4) (.k (.int .i64 0))]⟩]) <|
 .seq (.ops false [⟨none,[.mov (some 6) (.t 0),.mov (some 7) (.t 1),.bin (some 8) .rem (.t 6) (.t 7),.mov (some 5) (.t 8)]⟩]) <|
 .seq (.seq (.ops false [⟨none,[.mov (some 9) (.t 5),.bin (some 10) .lss (.t 9) (.k (.int .i64 0))]⟩]) <|
 .cond (.t 10)
  (.ops false [⟨none,[.mov (some 11) (.t 5),.mov (some 12) (.t 1),.bin (some 13) .add (.t 11) (.t 12),.mov (some 5) (.t 13)]⟩])
  (.skip)) <|
 .seq (.ops false [⟨none,[.mov (some 14) (.t 5),.mov (some 4) (.t 14)]⟩]) <|
 .ret
end Go.Ab
