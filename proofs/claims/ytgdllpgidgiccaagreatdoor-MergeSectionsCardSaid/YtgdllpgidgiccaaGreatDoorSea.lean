/- What the statements of this seat share: its functions' contracts. No condition. -/
import Derived.Test.YtgdllpgidgiccaaGreatDoorRows
import Derived.Test.YtgdllpgidgiccaaGreatDoorFns
import Derived.Test.YtgdllpgidgiccaaGreatDoorShelf
import Derived.Test.YtgdllpgidgiccaaGreatDoorAbK4
import Derived.Test.YtgdllpgidgiccaaGreatDoorAbM8
import Derived.Test.YtgdllpgidgiccaaGreatDoorAbZ4
import Derived.Test.YtgdllpgidgiccaaGreatDoorAbR5
import Derived.Shelf.Strings.SlTrimAscii
import Derived.WalkKit
import Derived.ProofKit
import Derived.OpenShut
import Derived.JoinedCond
import Derived.HandedShaped
import Derived.Handed
import Derived.LaidMore
import Derived.Lay
import Derived.Stop.Joined
set_option linter.unusedVariables false
namespace Go.Proofs.YtgdllpgidgiccaaGreatDoor
open Go.ChangeShapes Go.WideShapes Go.ChangeAt Go.RowKit Go.Ab
theorem own:ownKnob Tryz.prog.godebug=none:=by kernel_rfl
theorem laid:laidOutB Tryz.prog=true:=by kernel_rfl
def tset:List TypeId:=[9,3]
theorem closed:tset.all (okT Tryz.prog tset)=true:=by kernel_rfl
theorem u9:Tryz.prog.underlying 9=some .string:=Tryz.underlying9
theorem c3:Tryz.prog.cellsOf 3=1:=by kernel_rfl
theorem u3:Tryz.prog.underlying 3=some (.int .i64):=Tryz.underlying3
theorem laid_calls {H:Type} {enc:TypeId×Value→H} {C:Checked} {os:Os} {f:FuncId} {fn:Func} {s:ChangeSpec} {conds:List PathCond} {apart fresh handsOn again:Bool} {X:World→Prop}
 (own:ownKnob C.prog.godebug=none) (started:os.Started) (noInit:C.prog.inits.idxOf? f=none) (hfn:C.prog.funcs[f]?=some fn)
 (witness:∃ (w:World) (tape:Tape) (i:Input),w.os=os∧(w.forCall tape i).Shaped C.prog∧i.vars=[]∧Input.okWide C.prog (w.forCall tape i) .any w.heap.size f i ∧
  ((s.pre enc C.prog fn conds apart (w.forCall tape i).memory i.args∧X (w.forCall tape i).memory)∧sizedMet enc C.prog fn (OpenSpec.ofChange s) apart (w.forCall tape i).memory i.args)∧Assume.holds {} C.prog (lone (Frame.enter C.prog f i.args .normal) [] (w.forCall tape i)))
 (contract:∀ (W:World) (base:Nat) (args:Array Value) (ds gs:List (DataW H)) (before:List MemPlace),
  (∀ (j:Nat) t v,fn.params[j]?=some t→args[j]?=some v→Value.okWide C.prog W .any base t v) →
  DataW.Whole enc C.prog fn.params.toList s.vars apart W args.toList ds gs before→W.ShapedOpen C.prog →
  Calls C.prog f args W fun e W'=>∃ v,e=.returned v∧s.post enc C.prog fn apart fresh handsOn again W args v W') :
 ReturnsInHanded {} C os f .any (fun w args=>(s.pre enc C.prog fn conds apart w args∧X w)∧sizedMet enc C.prog fn (OpenSpec.ofChange s) apart w args) (s.post enc C.prog fn apart fresh handsOn again):=by
 refine returnsInHanded_of_calls own started noInit witness ?_
 intro w tape i _ hsh _ hok hpre hholds
 obtain ⟨_,_,_,fn',hfn',_,_,_,_,hval⟩:=hok
 have e:fn'=fn:=Option.some.inj (hfn'.symm.trans hfn)
 subst e
 obtain ⟨⟨⟨ds,gs,before,hw,hc⟩,hx⟩,hz⟩:=hpre
 have hw':=DataW.Whole.of_heap (w':=w.forCall tape i) (by rfl) hw
 refine (contract (w.forCall tape i) w.heap.size i.args ds gs before hval hw' hsh).mono fun e W' ⟨v,he,hp⟩=>?_
 subst he
 exact ChangeSpec.post_blind hp
theorem gi0:gint Tryz.prog 0:=fun w h=>Tryz.laysM143.s1_3 w h
theorem idx:Idx Tryz.prog sF:=bK6 gi0 fun s sub m w hs hm=>Tryz.strings_Index s sub m w hs hm
theorem rep:Rpt Tryz.prog sF:=bI3 fun s c w hc hl=>Tryz.strings_Repeat s c w hc hl
theorem anyc:AnyC Tryz.prog sF:=bG9 fun s c w h2 hs hc ha=>aLv Tryz.lays150 (by kernel_rfl) s c w h2 hs hc ha
theorem strc:StrC Tryz.prog sF:=bHi (fun s c w h1 h2 h3=>Any.strings_Trim_laid Tryz.lays160 (by kernel_rfl) s c w h1 h2 h3) (fun s c w h1 h2 h3=>Any.strings_TrimRight_laid Tryz.lays162 (by kernel_rfl) s c w h1 h2 h3)
 (fun s c w h2 h3=>Any.strings_TrimLeft_laid Tryz.lays161 (by kernel_rfl) s c w h2 h3) (fun s p w h=>Tryz.strings_HasSuffix s p w h) (fun s c w=>Tryz.strings_IndexByte s c w)
theorem par:ParFns Tryz.prog sF sT:=⟨fn57,fn58,fn59,fn69,fn70,fn71,fn73,fn74,fn75,fn76,fn77,fn78,fn79,fn80,bOk,bN4,rep⟩
theorem tok:TokCode Tryz.prog sF sT:=⟨fn56,fn67,fn68,fn72,fn97,fn98,bMn,bNp,bNj,bOh,idx⟩
theorem bNk (s:List UInt8) (hs:s.length≤8192):PTr Tryz.prog (sF 36) [.str s] (.tup [ln 5 (vns (aBk s)),.int .i64 0]):=bEi ⟨fn36,par,tok⟩ s hs
theorem sect:aOr Tryz.prog (sF 124):=fun s hs=>t124 bMf strc.toStrC0 bMm s hs (bE3 bOv (t2 fn2 fn23 fn22 fn29 fn27 fn33 fn30 fn31 fn32) s (bNk s hs) hs)
theorem rc:RC Tryz.prog sF sT:=⟨fn37,fn60,fn61,fn62,fn82,fn83,fn85,fn86,fn87,fn88,fn89,fn90,fn91,fn92,bM7,bL5,bMd,⟨fn65,bMp,bNf,bNv,fn25,fn50,fn81,fn84⟩⟩
theorem sectR:aOr Tryz.prog (sF 159):=fun s hs=>t159 bOp bOt bM2 bM6 s hs (r37 rc s hs) (aYt bNb (t3 fn3 fn24 fn25) s hs)
theorem jn:bKm Tryz.prog sF:=fun l h1 h2 h3=>t255 bLw strc.suf fn27 fn33 fn30 fn23 l h1 h2 h3
theorem mrg:MrgFns Tryz.prog sF sT:=⟨⟨bMg,bOg,bOj,bM1,bOn,bL0,by kernel_rfl,by kernel_rfl⟩,bN5,bL8,bNg,bNz,sect,bN8,jn⟩
theorem kn:PTr Tryz.prog (sF 254) [] (.bool true):=t254 bNr mrg
end Go.Proofs.YtgdllpgidgiccaaGreatDoor
