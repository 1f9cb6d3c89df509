/- What the statements of this seat share: its functions' contracts. No condition. -/
import Derived.Test.YtgleakjbgpmonaaRows
import Derived.Test.YtgleakjbgpmonaaFns
import Derived.Test.YtgleakjbgpmonaaShelf
import Derived.Test.YtgleakjbgpmonaaAbK4
import Derived.Test.YtgleakjbgpmonaaAbR1
import Derived.Test.YtgleakjbgpmonaaAbR8
import Derived.WalkKit
import Derived.ProofKit
import Derived.OpenShut
import Derived.JoinedCond
import Derived.HandedShaped
namespace Go.Proofs.Ytgleakjbgpmonaa
open Go.ChangeShapes Go.WideShapes Go.ChangeAt Go.RowKit Go.Ab
set_option linter.unusedVariables false

theorem own : ownKnob Try.prog.godebug = none := by kernel_rfl
theorem laid : laidOutB Try.prog = true := by kernel_rfl
def tset : List TypeId := [9, 3]
theorem closed : tset.all (okT Try.prog tset) = true := by kernel_rfl
theorem u9 : Try.prog.underlying 9 = some .string := Try.underlying9
theorem u3 : Try.prog.underlying 3 = some (.int .i64) := Try.underlying3

theorem gi0 : gint Try.prog 0 := fun w h => Try.laysM143.s1_3 w h
theorem idx : Idx Try.prog sF := idx_of gi0 fun s sub m w hs hm => Try.strings_Index s sub m w hs hm
theorem rep : Rpt Try.prog sF := rpt_of fun s c w hc hl => Try.strings_Repeat s c w hc hl
theorem anyc : AnyC Try.prog sF := anyc_of fun s c w h2 hs hc ha => ContainsAny_any Try.lays150 (by kernel_rfl) s c w h2 hs hc ha
theorem par : ParFns Try.prog sF sT := ⟨fn57, fn58, fn59, fn69, fn70, fn71, fn73, fn74, fn75, fn76, fn77, fn78, fn79, fn80, fn106, fn108, rep⟩
theorem tok : TokCode Try.prog sF sT := ⟨fn56, fn67, fn68, fn72, fn97, fn98, fn104, fn105, fn107, fn116, idx⟩
theorem parse (s : List UInt8) (hs : s.length ≤ 8192) : PTr Try.prog (sF 36) [.str s] (.tup [ln 5 (vns (parseF s)), .int .i64 0]) := parse_ok ⟨fn36, par, tok⟩ s hs
theorem p4 : P4 Try.prog sF where
  parse := parse
  eq := t7 fn7
  src := t2 fn2 fn23 fn22 fn29 fn27 fn33 fn30 fn31 fn32
  join := fun l h => t20' fn20 fn28 _ l (Nat.lt_succ_self _) h
  word := t44 fn44
  known := t35 fn35 parse (t7 fn7) (t44 fn44)

end Go.Proofs.Ytgleakjbgpmonaa
