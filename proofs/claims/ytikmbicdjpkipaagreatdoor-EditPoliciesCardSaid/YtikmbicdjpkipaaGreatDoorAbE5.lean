import Derived.Test.YtikmbicdjpkipaaGreatDoorAbE4
set_option linter.unusedSimpArgs false
set_option linter.unusedVariables false
namespace Go.Ab
end Go.Ab
