/- The statement's function, at all arguments. No condition. -/
import Derived.Test.YtjakkhalapaofaaGreatDoorSeaW0
import Derived.Test.YtjakkhalapaofaaGreatDoorSeaW1
set_option linter.unusedVariables false
namespace Go.Proofs.YtjakkhalapaofaaGreatDoor
open Go.RowKit Go.Ab Go.Lib
set_option maxRecDepth 1000000
theorem conflict (a b c:List Int):PTr Tryz.prog 3 [.lst 1 (ints a),.lst 1 (ints b),.lst 1 (ints c)] (.bool true):=by
 have go:∀ q,q<5→Cnd ⟨a,b,c⟩ q→evB q (lC q) 3 [.map 2,.map 6,.map 10]=some (.bool true)→PTr Tryz.prog 3 [.lst 1 (ints a),.lst 1 (ints b),.lst 1 (ints c)] (.bool true) :=
  fun q hq h w=>aO5 (z:=⟨a,b,c⟩) h (bQ0 h hq) w
 by_cases h1:bdyF b=bdyF a
 ·by_cases h2:bdyF c=bdyF a
  ·exact go 4 (by decide) ⟨h1,h2⟩ w4
  ·exact go 1 (by decide) ⟨h1,h2⟩ w1
 ·by_cases h2:bdyF c=bdyF a
  ·exact go 3 (by decide) ⟨h2,h1⟩ w3
  ·by_cases h3:bdyF c=bdyF b
   ·exact go 2 (by decide) ⟨h3,h1⟩ w2
   ·exact go 0 (by decide) ⟨h1,fun e=>h3 e.symm,h2⟩ w0
end Go.Proofs.YtjakkhalapaofaaGreatDoor
