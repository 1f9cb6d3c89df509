/- What the statements of this seat share: its functions' contracts. No condition. -/
import Derived.Test.YtchchhmmaioffaaDoorRows
import Derived.Test.YtchchhmmaioffaaDoorFns
import Derived.Test.YtchchhmmaioffaaDoorShelf
import Derived.Test.YtchchhmmaioffaaDoorAbK4
import Derived.Test.YtchchhmmaioffaaDoorAbZ3


import Derived.Shelf.Strings.SlTrimAscii
import Derived.WalkKit
import Derived.ProofKit
import Derived.OpenShut
import Derived.JoinedCond
import Derived.HandedShaped
import Derived.Handed
import Derived.LaidMore
import Derived.Lay
import Derived.Stop.Joined
namespace Go.Proofs.YtchchhmmaioffaaDoor
open Go.ChangeShapes Go.WideShapes Go.ChangeAt Go.RowKit Go.Ab
set_option linter.unusedVariables false

theorem own : ownKnob Tryd.prog.godebug = none := by kernel_rfl
theorem laid : laidOutB Tryd.prog = true := by kernel_rfl
def tset : List TypeId := [37, 24, 30, 9, 3]
theorem closed : tset.all (okT Tryd.prog tset) = true := by kernel_rfl
theorem u9 : Tryd.prog.underlying 9 = some .string := Tryd.underlying9
theorem u37 : Tryd.prog.underlying 37 = some (.slice 3) := Tryd.underlying37
theorem c3 : Tryd.prog.cellsOf 3 = 1 := by kernel_rfl
theorem u3 : Tryd.prog.underlying 3 = some (.int .i64) := Tryd.underlying3
theorem secs : SecTys Tryd.prog 24 30 3 9 := ⟨Tryd.underlying24, by kernel_rfl, by kernel_rfl, by kernel_rfl, u3, u9, c3, by kernel_rfl⟩

/-- the wrap of a listed row, the world's shape kept -/
theorem laid_calls {H : Type} {enc : TypeId × Value → H} {C : Checked} {os : Os} {f : FuncId} {fn : Func} {s : ChangeSpec} {conds : List PathCond} {apart fresh handsOn again : Bool} {X : World → Prop}
    (own : ownKnob C.prog.godebug = none) (started : os.Started) (noInit : C.prog.inits.idxOf? f = none) (hfn : C.prog.funcs[f]? = some fn)
    (witness : ∃ (w : World) (tape : Tape) (i : Input), w.os = os ∧ (w.forCall tape i).Shaped C.prog ∧ i.vars = [] ∧ Input.okWide C.prog (w.forCall tape i) .any w.heap.size f i ∧
      ((s.pre enc C.prog fn conds apart (w.forCall tape i).memory i.args ∧ X (w.forCall tape i).memory) ∧ sizedMet enc C.prog fn (OpenSpec.ofChange s) apart (w.forCall tape i).memory i.args) ∧ Assume.holds {} C.prog (lone (Frame.enter C.prog f i.args .normal) [] (w.forCall tape i)))
    (contract : ∀ (W : World) (base : Nat) (args : Array Value) (ds gs : List (DataW H)) (before : List MemPlace),
      (∀ (j : Nat) t v, fn.params[j]? = some t → args[j]? = some v → Value.okWide C.prog W .any base t v) →
      DataW.Whole enc C.prog fn.params.toList s.vars apart W args.toList ds gs before → W.ShapedOpen C.prog →
      Calls C.prog f args W fun e W' => ∃ v, e = .returned v ∧ s.post enc C.prog fn apart fresh handsOn again W args v W') :
    ReturnsInHanded {} C os f .any (fun w args => (s.pre enc C.prog fn conds apart w args ∧ X w) ∧ sizedMet enc C.prog fn (OpenSpec.ofChange s) apart w args) (s.post enc C.prog fn apart fresh handsOn again) := by
  refine returnsInHanded_of_calls own started noInit witness ?_
  intro w tape i _ hsh _ hok hpre hholds
  obtain ⟨_, _, _, fn', hfn', _, _, _, _, hval⟩ := hok
  have e : fn' = fn := Option.some.inj (hfn'.symm.trans hfn)
  subst e
  obtain ⟨⟨⟨ds, gs, before, hw, hc⟩, hx⟩, hz⟩ := hpre
  have hw' := DataW.Whole.of_heap (w' := w.forCall tape i) (by rfl) hw
  refine (contract (w.forCall tape i) w.heap.size i.args ds gs before hval hw' hsh).mono fun e W' ⟨v, he, hp⟩ => ?_
  subst he
  exact ChangeSpec.post_blind hp

theorem gi0 : gint Tryd.prog 0 := fun w h => Tryd.laysM143.s1_3 w h
theorem idx : Idx Tryd.prog sF := idx_of gi0 fun s sub m w hs hm => Tryd.strings_Index s sub m w hs hm
theorem rep : Rpt Tryd.prog sF := rpt_of fun s c w hc hl => Tryd.strings_Repeat s c w hc hl
theorem anyc : AnyC Tryd.prog sF := anyc_of fun s c w h2 hs hc ha => ContainsAny_any Tryd.lays150 (by kernel_rfl) s c w h2 hs hc ha
theorem strc : StrC Tryd.prog sF := strc_of (fun s c w h1 h2 h3 => Any.strings_Trim_laid Tryd.lays160 (by kernel_rfl) s c w h1 h2 h3) (fun s c w h1 h2 h3 => Any.strings_TrimRight_laid Tryd.lays162 (by kernel_rfl) s c w h1 h2 h3)
  (fun s c w h2 h3 => Any.strings_TrimLeft_laid Tryd.lays161 (by kernel_rfl) s c w h2 h3) (fun s p w h => Tryd.strings_HasSuffix s p w h) (fun s c w => Tryd.strings_IndexByte s c w)
theorem par : ParFns Tryd.prog sF sT := ⟨fn57, fn58, fn59, fn69, fn70, fn71, fn73, fn74, fn75, fn76, fn77, fn78, fn79, fn80, fn106, fn108, rep⟩
theorem tok : TokCode Tryd.prog sF sT := ⟨fn56, fn67, fn68, fn72, fn97, fn98, fn104, fn105, fn107, fn116, idx⟩
theorem parse (s : List UInt8) (hs : s.length ≤ 8192) : PTr Tryd.prog (sF 36) [.str s] (.tup [ln 5 (vns (parseF s)), .int .i64 0]) := parse_ok ⟨fn36, par, tok⟩ s hs
theorem tc : TC2 Tryd.prog sF sT := ⟨⟨fn46, fn47⟩, fn40, fn63, fn93, fn112⟩
theorem sect : SectC Tryd.prog (sF 124) := fun s hs => t124 fn124 strc fn137 s hs (plain_of fn136 (t2 fn2 fn23 fn22 fn29 fn27 fn33 fn30 fn31 fn32) s (parse s hs) hs)
theorem kn : PTr Tryd.prog (sF 126) [] (.bool true) := t126 fn126 sect fn139

end Go.Proofs.YtchchhmmaioffaaDoor
