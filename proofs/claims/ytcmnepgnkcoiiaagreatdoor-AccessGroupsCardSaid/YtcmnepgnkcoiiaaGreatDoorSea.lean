/- What the statements of this seat share: its functions' contracts. No condition. -/
import Derived.Test.YtcmnepgnkcoiiaaGreatDoorRows
import Derived.Test.YtcmnepgnkcoiiaaGreatDoorFns
import Derived.Test.YtcmnepgnkcoiiaaGreatDoorShelf
import Derived.Test.YtcmnepgnkcoiiaaGreatDoorAbK4
import Derived.Test.YtcmnepgnkcoiiaaGreatDoorAbC1
import Derived.Test.YtcmnepgnkcoiiaaGreatDoorAbF4
import Derived.Shelf.Strings.SlTrimAscii
import Derived.WalkKit
import Derived.ProofKit
import Derived.OpenShut
import Derived.JoinedCond
import Derived.HandedShaped
import Derived.Handed
import Derived.LaidMore
import Derived.Lay
import Derived.Stop.Joined
set_option linter.unusedVariables false
namespace Go.Proofs.YtcmnepgnkcoiiaaGreatDoor
open Go.ChangeShapes Go.WideShapes Go.ChangeAt Go.RowKit Go.Ab
theorem own:ownKnob Tryz.prog.godebug=none:=by kernel_rfl
theorem laid:laidOutB Tryz.prog=true:=by kernel_rfl
def tset:List TypeId:=[26,22,23,24,39,49,47,43,56,35,27,3,4,9]
theorem closed:tset.all (okT Tryz.prog tset)=true:=by kernel_rfl
theorem u3:Tryz.prog.underlying 3=some (.int .i64):=Tryz.underlying3
theorem u9:Tryz.prog.underlying 9=some .string:=Tryz.underlying9
theorem pol:PolTys Tryz.prog 26 22 39 35 23 49 47 43 24 56 3 4 9 where
 hi:=u3
 hb:=Tryz.underlying4
 hs:=u9
 ci:=by kernel_rfl
 cb:=by kernel_rfl
 cs:=by kernel_rfl
 ass:=by kernel_rfl
 hsl:=Tryz.underlying35
 csl:=by kernel_rfl
 asl:=by kernel_rfl
 st:=by kernel_rfl
 ct:=by kernel_rfl
 att:=by kernel_rfl
 ssc:=by kernel_rfl
 csc:=by kernel_rfl
 sr:=by kernel_rfl
 cr:=by kernel_rfl
 ar:=by kernel_rfl
 hrl:=Tryz.underlying23
 crl:=by kernel_rfl
 sg:=by kernel_rfl
 cg:=by kernel_rfl
 ag:=by kernel_rfl
 hgl:=Tryz.underlying22
 cgl:=by kernel_rfl
 sd:=by kernel_rfl
 cd:=by kernel_rfl
 ad:=by kernel_rfl
 hdl:=Tryz.underlying24
 cdl:=by kernel_rfl
 sp:=by kernel_rfl
 cp:=by kernel_rfl
 ap:=by kernel_rfl
theorem laid_calls {H:Type} {enc:TypeId×Value→H} {C:Checked} {os:Os} {f:FuncId} {fn:Func} {s:ChangeSpec} {conds:List PathCond} {apart fresh handsOn again:Bool} {X:World→Prop}
 (own:ownKnob C.prog.godebug=none) (started:os.Started) (noInit:C.prog.inits.idxOf? f=none) (hfn:C.prog.funcs[f]?=some fn)
 (witness:∃ (w:World) (tape:Tape) (i:Input),w.os=os∧(w.forCall tape i).Shaped C.prog∧i.vars=[]∧Input.okWide C.prog (w.forCall tape i) .any w.heap.size f i ∧
  ((s.pre enc C.prog fn conds apart (w.forCall tape i).memory i.args∧X (w.forCall tape i).memory)∧sizedMet enc C.prog fn (OpenSpec.ofChange s) apart (w.forCall tape i).memory i.args)∧Assume.holds {} C.prog (lone (Frame.enter C.prog f i.args .normal) [] (w.forCall tape i)))
 (contract:∀ (W:World) (base:Nat) (args:Array Value) (ds gs:List (DataW H)) (before:List MemPlace),
  (∀ (j:Nat) t v,fn.params[j]?=some t→args[j]?=some v→Value.okWide C.prog W .any base t v) →
  DataW.Whole enc C.prog fn.params.toList s.vars apart W args.toList ds gs before→W.ShapedOpen C.prog →
  Calls C.prog f args W fun e W'=>∃ v,e=.returned v∧s.post enc C.prog fn apart fresh handsOn again W args v W') :
 ReturnsInHanded {} C os f .any (fun w args=>(s.pre enc C.prog fn conds apart w args∧X w)∧sizedMet enc C.prog fn (OpenSpec.ofChange s) apart w args) (s.post enc C.prog fn apart fresh handsOn again):=by
 refine returnsInHanded_of_calls own started noInit witness ?_
 intro w tape i _ hsh _ hok hpre hholds
 obtain ⟨_,_,_,fn',hfn',_,_,_,_,hval⟩:=hok
 have e:fn'=fn:=Option.some.inj (hfn'.symm.trans hfn)
 subst e
 obtain ⟨⟨⟨ds,gs,before,hw,hc⟩,hx⟩,hz⟩:=hpre
 have hw':=DataW.Whole.of_heap (w':=w.forCall tape i) (by rfl) hw
 refine (contract (w.forCall tape i) w.heap.size i.args ds gs before hval hw' hsh).mono fun e W' ⟨v,he,hp⟩=>?_
 subst he
 exact ChangeSpec.post_blind hp
theorem gi0:gint Tryz.prog 0:=fun w h=>Tryz.laysM143.s1_3 w h
theorem titc:TitC Tryz.prog sF:=titc_of gi0 (fun s sep m w hs hm h1=>Tryz.strings_Split s sep m w hs hm h1) (fun s sep m w hs hm=>Tryz.strings_Cut s sep m w hs hm) (fun s p w h=>Tryz.strings_TrimSuffix s p w h) (fun s c w=>Tryz.strings_IndexByte s c w)
theorem mayc:MayC Tryz.prog sF sT:=⟨titc,fn185,fn187,fn188,fn189,fn190,fn186,fn229,fn181,fn182,fn220,fn222,fn178⟩
theorem knoc:KnoC Tryz.prog sF sT:=⟨mayc,fn179,fn180,fn191,fn226,fn227,fn240,fn228,fn230⟩
theorem kn:PTr Tryz.prog (sF 176) [] (.bool true):=t176 fn176 knoc
theorem u27:Tryz.prog.underlying 27=some (.slice 3):=Tryz.underlying27
theorem c3:Tryz.prog.cellsOf 3=1:=by kernel_rfl
theorem tc3:TC3 Tryz.prog sF sT:=⟨⟨fn46,fn47⟩,fn207,fn208,fn213,fn221⟩
theorem rgr:RGrC Tryz.prog sF sT:=⟨fn209,fn217,fn193,fn218,fn219⟩
theorem srtc:SortC Tryz.prog sF sT:=sort_of fun blk off cap ss w h1 h2 h3=>Tryz.slices_Sort_string blk off cap ss w h1 h2 h3
theorem grc:GrpC Tryz.prog sF sT:=⟨fn180,fn191,fn220,fn222,fn223,fn224,fn225,by kernel_rfl,srtc⟩
end Go.Proofs.YtcmnepgnkcoiiaaGreatDoor
