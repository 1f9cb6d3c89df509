/- The statement's function, at all arguments. No condition. -/
import Derived.Test.YtdhhhhnbobdcoaaGreatDoorSeaW0
import Derived.Test.YtdhhhhnbobdcoaaGreatDoorSeaW1
import Derived.Test.YtdhhhhnbobdcoaaGreatDoorSeaW2
import Derived.Test.YtdhhhhnbobdcoaaGreatDoorSeaW3
set_option linter.unusedVariables false
namespace Go.Proofs.YtdhhhhnbobdcoaaGreatDoor
open Go.RowKit Go.Ab Go.Lib
set_option maxRecDepth 1000000
theorem guards (strict redirect:Bool) (who:Int):PTr Tryz.prog 4 [.bool strict,.int .i64 who,.bool redirect] (.bool true):=by
 rcases bH2 who with hk | hk | hk | hk
 ·cases strict
  ·cases redirect
   ·exact aBl (aFw hk) w000
   ·exact aBl (aFw hk) w010
  ·cases redirect
   ·exact aBl (aFw hk) w100
   ·exact aBl (aFw hk) w110
 ·cases strict
  ·cases redirect
   ·exact aBl (aFw hk) w001
   ·exact aBl (aFw hk) w011
  ·cases redirect
   ·exact aBl (aFw hk) w101
   ·exact aBl (aFw hk) w111
 ·cases strict
  ·cases redirect
   ·exact aBl (aFw hk) w002
   ·exact aBl (aFw hk) w012
  ·cases redirect
   ·exact aBl (aFw hk) w102
   ·exact aBl (aFw hk) w112
 ·cases strict
  ·cases redirect
   ·exact aBl (aFw hk) w003
   ·exact aBl (aFw hk) w013
  ·cases redirect
   ·exact aBl (aFw hk) w103
   ·exact aBl (aFw hk) w113
end Go.Proofs.YtdhhhhnbobdcoaaGreatDoor
