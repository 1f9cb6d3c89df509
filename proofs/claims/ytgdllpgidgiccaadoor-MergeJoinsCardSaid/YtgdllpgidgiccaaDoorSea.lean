/- What the statements of this seat share: its functions' contracts. No condition. -/
import Derived.Test.YtgdllpgidgiccaaDoorRows
import Derived.Test.YtgdllpgidgiccaaDoorFns
import Derived.Test.YtgdllpgidgiccaaDoorShelf
import Derived.Test.YtgdllpgidgiccaaDoorAbK4
import Derived.Test.YtgdllpgidgiccaaDoorAbM4
import Derived.Shelf.Strings.SlTrimAscii
import Derived.WalkKit
import Derived.ProofKit
import Derived.OpenShut
import Derived.JoinedCond
import Derived.HandedShaped
import Derived.Handed
import Derived.LaidMore
import Derived.Lay
import Derived.Stop.Joined
set_option linter.unusedVariables false
namespace Go.Proofs.YtgdllpgidgiccaaDoor
open Go.ChangeShapes Go.WideShapes Go.ChangeAt Go.RowKit Go.Ab
theorem own:ownKnob Tryd.prog.godebug=none:=by kernel_rfl
theorem laid:laidOutB Tryd.prog=true:=by kernel_rfl
def tset:List TypeId:=[22,24,9,3]
theorem closed:tset.all (okT Tryd.prog tset)=true:=by kernel_rfl
theorem u9:Tryd.prog.underlying 9=some .string:=Tryd.underlying9
theorem c3:Tryd.prog.cellsOf 3=1:=by kernel_rfl
theorem u3:Tryd.prog.underlying 3=some (.int .i64):=Tryd.underlying3
theorem unis:UniTys Tryd.prog 22 24 3 9:=⟨Tryd.underlying22,by kernel_rfl,by kernel_rfl,by kernel_rfl,u3,u9,c3,by kernel_rfl⟩
theorem laid_calls {H:Type} {enc:TypeId×Value→H} {C:Checked} {os:Os} {f:FuncId} {fn:Func} {s:ChangeSpec} {conds:List PathCond} {apart fresh handsOn again:Bool} {X:World→Prop}
 (own:ownKnob C.prog.godebug=none) (started:os.Started) (noInit:C.prog.inits.idxOf? f=none) (hfn:C.prog.funcs[f]?=some fn)
 (witness:∃ (w:World) (tape:Tape) (i:Input),w.os=os∧(w.forCall tape i).Shaped C.prog∧i.vars=[]∧Input.okWide C.prog (w.forCall tape i) .any w.heap.size f i ∧
  ((s.pre enc C.prog fn conds apart (w.forCall tape i).memory i.args∧X (w.forCall tape i).memory)∧sizedMet enc C.prog fn (OpenSpec.ofChange s) apart (w.forCall tape i).memory i.args)∧Assume.holds {} C.prog (lone (Frame.enter C.prog f i.args .normal) [] (w.forCall tape i)))
 (contract:∀ (W:World) (base:Nat) (args:Array Value) (ds gs:List (DataW H)) (before:List MemPlace),
  (∀ (j:Nat) t v,fn.params[j]?=some t→args[j]?=some v→Value.okWide C.prog W .any base t v) →
  DataW.Whole enc C.prog fn.params.toList s.vars apart W args.toList ds gs before→W.ShapedOpen C.prog →
  Calls C.prog f args W fun e W'=>∃ v,e=.returned v∧s.post enc C.prog fn apart fresh handsOn again W args v W') :
 ReturnsInHanded {} C os f .any (fun w args=>(s.pre enc C.prog fn conds apart w args∧X w)∧sizedMet enc C.prog fn (OpenSpec.ofChange s) apart w args) (s.post enc C.prog fn apart fresh handsOn again):=by
 refine returnsInHanded_of_calls own started noInit witness ?_
 intro w tape i _ hsh _ hok hpre hholds
 obtain ⟨_,_,_,fn',hfn',_,_,_,_,hval⟩:=hok
 have e:fn'=fn:=Option.some.inj (hfn'.symm.trans hfn)
 subst e
 obtain ⟨⟨⟨ds,gs,before,hw,hc⟩,hx⟩,hz⟩:=hpre
 have hw':=DataW.Whole.of_heap (w':=w.forCall tape i) (by rfl) hw
 refine (contract (w.forCall tape i) w.heap.size i.args ds gs before hval hw' hsh).mono fun e W' ⟨v,he,hp⟩=>?_
 subst he
 exact ChangeSpec.post_blind hp
theorem gi0:gint Tryd.prog 0:=fun w h=>Tryd.laysM143.s1_3 w h
theorem idx:Idx Tryd.prog sF:=bF0 gi0 fun s sub m w hs hm=>Tryd.strings_Index s sub m w hs hm
theorem rep:Rpt Tryd.prog sF:=bFp fun s c w hc hl=>Tryd.strings_Repeat s c w hc hl
theorem strc:StrC Tryd.prog sF:=bDa (fun s c w h1 h2 h3=>Any.strings_Trim_laid Tryd.lays160 (by kernel_rfl) s c w h1 h2 h3) (fun s c w h1 h2 h3=>Any.strings_TrimRight_laid Tryd.lays162 (by kernel_rfl) s c w h1 h2 h3)
 (fun s c w h2 h3=>Any.strings_TrimLeft_laid Tryd.lays161 (by kernel_rfl) s c w h2 h3) (fun s p w h=>Tryd.strings_HasSuffix s p w h) (fun s c w=>Tryd.strings_IndexByte s c w)
theorem par:ParFns Tryd.prog sF sT:=⟨fn57,fn58,fn59,fn69,fn70,fn71,fn73,fn74,fn75,fn76,fn77,fn78,fn79,fn80,bJ8,bI7,rep⟩
theorem tok:TokCode Tryd.prog sF sT:=⟨fn56,fn67,fn68,fn72,fn97,fn98,bJo,bKb,bId,bIl,idx⟩
theorem bKl (s:List UInt8) (hs:s.length≤8192):PTr Tryd.prog (sF 36) [.str s] (.tup [ln 5 (vns (aCn s)),.int .i64 0]):=bBx ⟨fn36,par,tok⟩ s hs
theorem sect:bBl Tryd.prog (sF 124):=fun s hs=>t124 bKf strc.toStrC0 bH1 s hs (aY1 bJ3 (t2 fn2 fn23 fn22 fn29 fn27 fn33 fn30 fn31 fn32) s (bKl s hs) hs)
theorem jn:bEf Tryd.prog sF:=fun l h1 h2 h3=>t255 bJ1 strc.suf fn27 fn33 fn30 fn23 l h1 h2 h3
theorem mrg:MrgFns Tryd.prog sF sT:=⟨⟨bJb,bH7,bKc,bJc,bJh,bJu,by kernel_rfl,by kernel_rfl⟩,bI9,bIv,bIr,bI5,sect,bJw,jn⟩
theorem kn:PTr Tryd.prog (sF 254) [] (.bool true):=t254 bJz mrg
end Go.Proofs.YtgdllpgidgiccaaDoor
