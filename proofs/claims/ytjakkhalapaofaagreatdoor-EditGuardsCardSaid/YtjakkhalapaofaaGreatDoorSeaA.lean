/- What the statements of this seat share: the library's functions, the table of the code. No condition. -/
import Derived.Test.YtjakkhalapaofaaGreatDoorRows
import Derived.Test.YtjakkhalapaofaaGreatDoorFe
import Derived.Test.YtjakkhalapaofaaGreatDoorShelf
import Derived.Test.YtjakkhalapaofaaGreatDoorAbK4
import Derived.Test.YtjakkhalapaofaaGreatDoorAbEy
import Derived.Test.YtjakkhalapaofaaGreatDoorAbRn
import Derived.Test.YtjakkhalapaofaaGreatDoorAbK6
import Derived.Test.YtjakkhalapaofaaGreatDoorAbD1
import Derived.Test.YtjakkhalapaofaaGreatDoorAbC1
import Derived.Test.YtjakkhalapaofaaGreatDoorFns
import Derived.Shelf.Strings.SlTrimAscii
import Derived.Shelf.Strings.IndexAnyAll
import Derived.Shelf.Strings.FieldsFuncAny
import Derived.WalkKit
import Derived.ProofKit
import Derived.OpenShut
import Derived.JoinedCond
import Derived.HandedShaped
import Derived.Handed
import Derived.LaidMore
import Derived.LaidSub
import Derived.Lay
import Derived.Stop.Joined
import Derived.ChangeSame
set_option linter.unusedVariables false
namespace Go.Proofs
open Go.RowKit Go.Lib Go.Shelf
set_option maxHeartbeats 4000000 in
set_option maxRecDepth 100000 in
theorem isBl (w:World):PredAtRunes Tryz.prog 211 #[] (fun r=>decide (r=32)||decide (r=9)) w:=fun W r _ _=>by
 unfold FnGives
 by_cases h1:r=32 <;> by_cases h2:r=9
 all_goals
  have z1:(r:Int)=32↔r=32:=by omega
  have z2:(r:Int)=9↔r=9:=by omega
  go_enter Tryz.func211,Tryz.ntmps211
  go_wp2
  all_goals first | (exfalso; omega) | (go_ret; exact ⟨by simp [h1,h2,z1,z2],0,rfl⟩)
end Go.Proofs
namespace Go.Proofs.YtjakkhalapaofaaGreatDoor
open Go.ChangeShapes Go.WideShapes Go.ChangeAt Go.RowKit Go.Ab Go.Lib
theorem own:ownKnob Tryz.prog.godebug=none:=by kernel_rfl
theorem laid:laidOutB Tryz.prog=true:=by kernel_rfl
def tset:List TypeId:=[22,3,4]
theorem closed:tset.all (okT Tryz.prog tset)=true:=by kernel_rfl
theorem ui:Tryz.prog.underlying 3=some (.int .i64):=by kernel_rfl
theorem ul:Tryz.prog.underlying 22=some (.slice 3):=by kernel_rfl
theorem ub:Tryz.prog.underlying 4=some .bool:=by kernel_rfl
theorem ci:Tryz.prog.cellsOf 3=1:=by kernel_rfl
theorem laid_callsX {H:Type} {enc:TypeId×Value→H} {C:Checked} {os:Os} {f:FuncId} {fn:Func} {s:ChangeSpec} {conds:List PathCond} {apart fresh handsOn again:Bool} {X:World→Prop}
 (own:ownKnob C.prog.godebug=none) (started:os.Started) (noInit:C.prog.inits.idxOf? f=none) (hfn:C.prog.funcs[f]?=some fn)
 (witness:∃ (w:World) (tape:Tape) (i:Input),w.os=os∧(w.forCall tape i).Shaped C.prog∧i.vars=[]∧Input.okWide C.prog (w.forCall tape i) .any w.heap.size f i ∧
  ((s.pre enc C.prog fn conds apart (w.forCall tape i).memory i.args∧X (w.forCall tape i).memory)∧sizedMet enc C.prog fn (OpenSpec.ofChange s) apart (w.forCall tape i).memory i.args)∧Assume.holds {} C.prog (lone (Frame.enter C.prog f i.args .normal) [] (w.forCall tape i)))
 (hX:∀ w w':World,w'.heap=w.heap→X w→X w')
 (contract:∀ (W:World) (base:Nat) (args:Array Value) (ds gs:List (DataW H)) (before:List MemPlace),
  (∀ (j:Nat) t v,fn.params[j]?=some t→args[j]?=some v→Value.okWide C.prog W .any base t v) →
  DataW.Whole enc C.prog fn.params.toList s.vars apart W args.toList ds gs before→W.ShapedOpen C.prog→X W →
  Calls C.prog f args W fun e W'=>∃ v,e=.returned v∧s.post enc C.prog fn apart fresh handsOn again W args v W') :
 ReturnsInHanded {} C os f .any (fun w args=>(s.pre enc C.prog fn conds apart w args∧X w)∧sizedMet enc C.prog fn (OpenSpec.ofChange s) apart w args) (s.post enc C.prog fn apart fresh handsOn again):=by
 refine returnsInHanded_of_calls own started noInit witness ?_
 intro w tape i _ hsh _ hok hpre hholds
 obtain ⟨_,_,_,fn',hfn',_,_,_,_,hval⟩:=hok
 have e:fn'=fn:=Option.some.inj (hfn'.symm.trans hfn)
 subst e
 obtain ⟨⟨⟨ds,gs,before,hw,hc⟩,hx⟩,hz⟩:=hpre
 have hw':=DataW.Whole.of_heap (w':=w.forCall tape i) (by rfl) hw
 refine (contract (w.forCall tape i) w.heap.size i.args ds gs before hval hw' hsh (hX _ _ (by rfl) hx)).mono fun e W' ⟨v,he,hp⟩=>?_
 subst he
 exact ChangeSpec.post_blind hp
theorem bLf {P:Program} {w:World} {n:String} {sp:Int} {s:List UInt8} {r:List (String×DataW Unit)} {ps:List MemPlace} (g t:Nat) {f0 f1:Field} (hg:P.globalNamed n=some g) (ht:(P.globals[g]?).map (·.type)=some t)
 (hu:P.underlying t=some (.struct #[f0,f1])) (h0:P.underlying f0.type=some (.int .i64)) (h1:P.underlying f1.type=some .string) (c0:P.cellsOf f0.type=1) (c1:P.cellsOf f1.type=1) (o0:f0.offset=0) (o1:f1.offset=1) (ct:P.cellsOf t=2)
 (h:DataW.LaidVars P w ((n,.agg [.lit (.int .i64 sp),.lit (.string s)])::r) ps) :
 (g<w.heap.size∧∀ j v,[Value.int .i64 sp,.string ⟨s.toArray⟩][j]?=some v→w.cell? ⟨g,j,none⟩=some v)∧∃ q,DataW.LaidVars P w r q:=by
 obtain ⟨g',t',cs,fuel,p,q,e1,e2,e3,e4,e5,_⟩:=h
 rw [hg] at e1; cases e1
 rw [ht] at e2; cases e2
 refine ⟨?_,q,e5⟩
 obtain ⟨y0,y1,m,hx,hl,t0,t1⟩:=trod_struct2 hu e4
 rw [ct] at hl
 rw [c0,o0] at t0
 rw [c1,o1] at t1
 obtain ⟨k,k1,rfl,_⟩:=DataW.trod_int h0 t0
 obtain ⟨z,z1,rfl,_⟩:=DataW.trod_string h1 t1
 simp only [Prod.mk.injEq,DataW.agg.injEq,List.cons.injEq,DataW.lit.injEq,Lit.int.injEq,Lit.string.injEq,true_and,and_true] at hx
 obtain ⟨⟨rfl,rfl⟩,_⟩:=hx
 unfold World.var? at e3
 rw [hg] at e3
 simp only [Option.bind_some] at e3
 split at e3
 ·rename_i cs' ty fr hh
  cases e3
  have hcs:cs.toList=[.int .i64 sp,.string z]:=by
   match hm:cs.toList,hl with
   | [a,b],_ =>
     rw [hm] at k1 z1
     simp at k1 z1
     rw [k1,z1]
  have hz:(⟨z.data.toList.toArray⟩:ByteArray)=z:=by cases z; simp
  refine ⟨(Array.getElem?_eq_some_iff.1 hh).1,fun j v hj=>?_⟩
  rw [hz,← hcs] at hj
  unfold World.cell?
  rw [hh]
  simpa using hj
 ·cases e3
noncomputable def fld (i:Nat):Field:=(match Tryz.prog.underlying 41 with
 | some (.struct fs)=>fs
 | _=>#[])[i]!
theorem pinw {w : World} {ps : List MemPlace} {a b : String × DataW Unit} (h : DataW.LaidVars Tryz.prog w [a, ("transclude/edit.rules", Rows.laid_transclude_edit_rules), b] ps) : PinW w := by
 obtain ⟨_,_,_,_,_,q,_,_,_,_,h,_⟩:=h
 obtain ⟨h1,q,h⟩:=bLf 0 41 (f0:=fld 0) (f1:=fld 1) (by kernel_rfl) (by kernel_rfl) (by kernel_rfl) (by kernel_rfl) (by kernel_rfl) (by kernel_rfl) (by kernel_rfl) (by kernel_rfl) (by kernel_rfl) (by kernel_rfl) h
 intro x vs hx
 by_cases e1:x=0
 ·subst e1
  cases hx
  exact h1
 ·have b1:(x==0)=false:=by simpa using e1
  simp only [aZa,pins,List.lookup,b1] at hx
  cases hx
theorem gi2:gint Tryz.prog 1:=fun w h=>Tryz.laysM143.s1_3 w h
def biFF:List V→Option V
 | [.str s,.fn f []]=>if f=211∧s=[97,110,110] then some (.lst 1 [.str [97,110,110]]) else none
 | _=>none
def bHq (k:Int):List V→Option V
 | [.map 3,.int .i64 n]=>if n=4 then some (.int .i64 k) else none
 | _=>none
def aXq (eq:Bool):List V→Option V
 | [.map i]=>if i=2 then some (.map 0) else if i=6 then (if eq=true then some (.map 0) else some (.map 4)) else none
 | _=>none
structure Inp where
 a:List Int
 b:List Int
 who:Int
def sgS (a b:List UInt8):Nat→List UInt8
 | 0=>a
 | 1=>b
 | 2=>tpS++a
 | 3=>tpS++b
 | 4=>otS++a
 | 5=>hSS++a
 | _=>hSS++b
def sg (x:Inp):Sy:=⟨sgS (bdyF x.a) (bdyF x.b),fun i=>if i=0 then x.a else x.b,fun _=>x.who⟩
def biPart:List V→Option V
 | [.map i,.str s]=>if s=[83] then (if i=8 then some (.tup [.map 20,.bool true]) else if i=16 then some (.tup [.map 20,.bool true]) else if i=12 then some (.tup [.map 24,.bool true]) else none) else none
 | _=>none
theorem idx:Idx Tryz.prog sF:=bJp gi2 fun s sub m w hs hm=>Tryz.strings_Index s sub m w hs hm
theorem rept:Rpt Tryz.prog sF:=bKd fun s c w hc hl=>Tryz.strings_Repeat s c w hc hl
theorem strc:StrC0 Tryz.prog sF:=bBx (fun s c w h1 h2 h3=>Any.strings_Trim_laid Tryz.lays160 (by kernel_rfl) s c w h1 h2 h3) (fun s c w h1 h2 h3=>Any.strings_TrimRight_laid Tryz.lays162 (by kernel_rfl) s c w h1 h2 h3)
 (fun s c w h2 h3=>Any.strings_TrimLeft_laid Tryz.lays161 (by kernel_rfl) s c w h2 h3) (fun s c w=>Tryz.strings_IndexByte s c w)
theorem par:ParFns Tryz.prog sF sT:=⟨fn57,fn58,fn59,fn69,fn70,fn71,fn73,fn74,fn75,fn76,fn77,fn78,fn79,fn80,bLx,bNe,rept⟩
theorem tok:TokCode Tryz.prog sF sT:=⟨fn56,fn67,fn68,fn72,fn97,fn98,bLy,bL0,bOe,bN5,idx⟩
theorem bPy (s:List UInt8) (hs:s.length≤8192):PTr Tryz.prog (sF 36) [.str s] (.tup [ln 5 (vns (aCc s)),.int .i64 0]):=bCm ⟨fn36,par,tok⟩ s hs
theorem sect:bAs Tryz.prog (sF 124):=fun s hs=>t124 bNf strc bO3 s hs (bCq bMf (t2 fn2 fn23 fn22 fn29 fn27 fn33 fn30 fn31 fn32) s (bPy s hs) hs)
theorem aMu {s:List UInt8} (hs:s.length≤8192) {r:List UInt8} (e:aRo s [83]=(r,true)):PTr Tryz.prog 167 [.str s,.str [83]] (.tup [.str r,.bool true]):=by
 have h:=t183 bPw sect strc bOv bOc bOn s [83] hs
 rw [e] at h
 exact h
theorem bFa (l:List Int):(tpS++bdyF l).length≤8192:=by
 have h:=aEk l
 simp only [tpS,hSS,List.length_append,List.length_cons,List.length_nil]
 omega
theorem bJ4 (l:List Int):(otS++bdyF l).length≤8192:=by
 have h:=aEk l
 simp only [otS,tpS,hSS,List.length_append,List.length_cons,List.length_nil]
 omega
theorem bGz (x:Inp):BiOk Tryz.prog (sg x) 167 biPart:=by
 intro ar r e
 unfold biPart at e
 split at e
 ·split at e
  ·rename_i q
   subst q
   split at e
   ·rename_i q
    subst q
    cases e
    exact aMu (bFa x.a) (aWv x.a)
   ·split at e
    ·rename_i q
     subst q
     cases e
     exact aMu (bJ4 x.a) (bH5 x.a)
    ·split at e
     ·rename_i q
      subst q
      cases e
      exact aMu (bFa x.b) (aWv x.b)
     ·cases e
  ·cases e
 ·cases e
theorem bLu:goFieldsP (fun r=>decide (r=32)||decide (r=9)) ⟨#[97,110,110]⟩=[⟨#[97,110,110]⟩]:=by kernel_rfl
theorem bOk (σ:Sy):BiOk Tryz.prog σ 210 biFF:=by
 intro ar r e
 unfold biFF at e
 split at e
 ·rename_i s f
  split at e
  ·rename_i q
   obtain ⟨rfl,rfl⟩:=q
   cases e
   intro D w vs hD hg hl hr
   obtain ⟨u,v,rfl,hu,hv⟩:=vs2 hl hr
   cases hu
   obtain ⟨ws,rfl,hwl,_⟩:=aPo hv
   have hws:ws=#[]:=Array.eq_empty_of_size_eq_zero (by simpa [V.czL] using hwl.symm)
   subst hws
   refine (Any.strings_FieldsFunc_runes Tryz.lays229 211 #[] (enters_of Tryz.func211 (by kernel_rfl) rfl) _ ⟨#[97,110,110]⟩ w (by decide) (isBl w) (by kernel_rfl) (by kernel_rfl)).mono ?_
   rintro e w' ⟨A,rfl,hA,ho,hb⟩
   rw [bLu] at ho ⊢
   refine ⟨_,rfl,hb,?_⟩
   have hc:=World.ownsRow.cellAt ho 0 (by decide)
   simp only [List.map_cons,List.map_nil,List.getElem?_cons_zero] at hc
   have hlt:A<w'.heap.size:=by
    unfold World.cell? at hc
    split at hc
    ·rename_i hh; exact (Array.getElem?_eq_some_iff.1 hh).1
    ·cases hc
   show Rep _ _ _ (.lst 1 [.str [97,110,110]]) _
   refine .lst 1 [.str [97,110,110]] _ 1 A 0 (Nat.le_refl _) (by decide) (fun _=>⟨rfl,hlt,fun h=>by have:=hD _ h; omega⟩) (fun e he=>?_) (fun i j c h=>?_) (fun i j c h=>?_)
   ·simp at he; subst he; rfl
   ·match i,j,h with
    | 0,0,h=>rw [show 0+0*1+0=0 from rfl,hc]; rfl
    | 0,j+1,h=>simp [V.cells] at h
    | i+1,_,h=>simp at h
   ·match i,j,h with
    | 0,0,h=>simp [V.cells] at h; subst h; rw [show 0+0*1+0=0 from rfl,aDw,hc]; exact .str _ (by decide)
    | 0,j+1,h=>simp [V.cells] at h
    | i+1,_,h=>simp at h
  ·cases e
 ·cases e
theorem bJ5 {x:Inp} {k:Int} (hk:rndN x.who 4=k):BiOk Tryz.prog (sg x) 14 (bHq k):=by
 intro ar r e
 unfold bHq at e
 split at e
 ·split at e
  ·rename_i q
   subst q
   cases e
   rw [← hk]
   exact bEw fe14 x.who 4 (by decide) (by decide)
  ·cases e
 ·cases e
theorem aNd (l:List Int):PTr Tryz.prog 6 [.lst 1 (ints l)] (.str (bdyF l)):=bLg fe6 fe20 fe21 fe14 l
theorem bGe {x:Inp} {eq:Bool} (h:eq=true→bdyF x.b=bdyF x.a):BiOk Tryz.prog (sg x) 6 (aXq eq):=by
 intro ar r e
 unfold aXq at e
 split at e
 ·split at e
  ·rename_i q
   subst q
   cases e
   exact aNd x.a
  ·split at e
   ·rename_i q
    subst q
    split at e
    ·rename_i q
     cases e
     have:=aNd x.b
     rw [h q] at this
     exact this
    ·cases e
     exact aNd x.b
   ·cases e
 ·cases e
theorem zv (w:World):(zeroValue 317).run Tryz.prog w=.ok (.agg (Array.replicate 256 (.bool false))) w:=by kernel_rfl
def pbL (eq:Bool) (k:Int):List (Nat×(List V→Option V)):=[(88,biIB),(208,biSS (okTr trimS) fun a b=>.str (trimS a b)),(209,biSS okA fun a b=>.int .i64 (indexAny a b)),(210,biFF),
 (90,biSS okS fun a b=>.tup [.str (cut a b).1,.str (cut a b).2.1,.bool (cut a b).2.2]),(92,biSS okS fun a b=>.str (trimSuffix a b)),(51,biOr aZp aWh),
 (280,biJoin),(220,biSS okA fun a b=>.bool (containsAny a b)),(255,biRep),(14,bHq k),(6,aXq eq),(167,biPart)]
theorem bAh {z:Inp} {eq:Bool} {k:Int} (hk:rndN z.who 4=k) (he:eq=true→bdyF z.b=bdyF z.a):∀ x,x∈pbL eq k→BiOk Tryz.prog (sg z) x.1 x.2 :=
 List.forall_mem_cons.2 ⟨bPx fun s c w=>Tryz.strings_IndexByte s c w,
 List.forall_mem_cons.2 ⟨bIb fun s c w h1 h2 h3=>Any.strings_Trim_laid Tryz.lays160 (by kernel_rfl) s c w h1 h2 h3,
 List.forall_mem_cons.2 ⟨bGp fun s c w h1 h2 h3 h4=>Any.strings_IndexAny Tryz.lays153 zv (by kernel_rfl) s c w (by omega) (by omega) h3 h4,
 List.forall_mem_cons.2 ⟨bOk _,
 List.forall_mem_cons.2 ⟨bI8 gi2 fun s p m w h1 h2=>Tryz.strings_Cut s p m w h1 h2,
 List.forall_mem_cons.2 ⟨bHi fun s p w h=>Tryz.strings_TrimSuffix s p w h,
 List.forall_mem_cons.2 ⟨bJi gi2 fun s p m w h1 h2 h3=>Tryz.strings_Split s p m w h1 h2 h3,
 List.forall_mem_cons.2 ⟨bHt fun bk o c xs sep w h1 h2 h3 h4 h5=>Tryz.strings_Join bk o c xs sep w h1 h2 h3 h4 h5,
 List.forall_mem_cons.2 ⟨bFx fun s c w h1 h2 h3 h4=>Any.strings_ContainsAny Tryz.lays150 zv (by kernel_rfl) s c w (by omega) (by omega) h3 h4,
 List.forall_mem_cons.2 ⟨bKs gi2 fun s a b m w h1 h2 h3 h4=>Tryz.strings_ReplaceAll s a b m w h1 h2 h3 h4,
 List.forall_mem_cons.2 ⟨bJ5 hk,
 List.forall_mem_cons.2 ⟨bGe he,List.forall_mem_cons.2 ⟨bGz _,List.forall_mem_nil _⟩⟩⟩⟩⟩⟩⟩⟩⟩⟩⟩⟩⟩
def tabQ:Nat→Option Ent:=(tabT tabL).get
def dfG (eq:Bool) (i j:Nat):Bool:=(i==2&&j==4)||(i==4&&j==2)||(!eq&&((i==0&&j==1)||(i==1&&j==0)||(i==2&&j==3)||(i==3&&j==2)||(i==5&&j==6)||(i==6&&j==5)))
def QQ (eq:Bool):SyQ:=⟨7,1,48,dfG eq,[(.str tpS,.map 0,2),(.str tpS,.map 4,3),(.str [111,116,104,101,114,32],.map 8,4)]⟩
theorem bEo {a b:List UInt8} (ha:1≤a.length∧a.length≤30) (hb:1≤b.length∧b.length≤30) (i:Nat):1≤(sgS a b i).length∧(sgS a b i).length≤48:=by
 unfold sgS
 split <;> (try simp only [otS,tpS,hSS,List.length_append,List.length_cons,List.length_nil]) <;> omega
theorem tpo (a:List UInt8):tpS++a≠otS++a:=fun h=>by
 have:=congrArg List.length h
 simp only [otS,tpS,hSS,List.length_append,List.length_cons,List.length_nil] at this
 omega
theorem qok (x:Inp) (eq:Bool) (h:eq=false→bdyF x.a≠bdyF x.b):SyOk (QQ eq) (sg x):=by
 refine ⟨fun i _=>(bEo (aEk x.a) (aEk x.b) i).1,fun i _=>(bEo (aEk x.a) (aEk x.b) i).2,fun i j e=>?_,fun u v j e=>?_⟩
 ·simp only [QQ,dfG,Bool.and_eq_true,Bool.or_eq_true,Bool.not_eq_true',beq_iff_eq] at e
  rcases e with (⟨rfl,rfl⟩ | ⟨rfl,rfl⟩) | ⟨e0,e⟩
  ·exact tpo _
  ·exact fun q=>tpo _ q.symm
  ·have hn:=h e0
   rcases e with ((((⟨rfl,rfl⟩ | ⟨rfl,rfl⟩) | ⟨rfl,rfl⟩) | ⟨rfl,rfl⟩) | ⟨rfl,rfl⟩) | ⟨rfl,rfl⟩
   ·exact hn
   ·exact fun q=>hn q.symm
   ·exact fun q=>hn (List.append_cancel_left q)
   ·exact fun q=>hn (List.append_cancel_left q).symm
   ·exact fun q=>hn (List.append_cancel_left q)
   ·exact fun q=>hn (List.append_cancel_left q).symm
 ·have ha:=aEk x.a
  have hb:=aEk x.b
  simp only [QQ,List.mem_cons,List.not_mem_nil,or_false,Prod.mk.injEq] at e
  rcases e with ⟨rfl,rfl,rfl⟩ | ⟨rfl,rfl,rfl⟩ | ⟨rfl,rfl,rfl⟩
  ·exact ⟨tpS,bdyF x.a,rfl,rfl,rfl,by simp only [tpS,hSS,List.length_append,List.length_cons,List.length_nil]; omega⟩
  ·exact ⟨tpS,bdyF x.b,rfl,rfl,rfl,by simp only [tpS,hSS,List.length_append,List.length_cons,List.length_nil]; omega⟩
  ·exact ⟨[111,116,104,101,114,32],tpS++bdyF x.a,rfl,rfl,rfl,by simp only [tpS,hSS,List.length_append,List.length_cons,List.length_nil]; omega⟩
theorem bHo:∀ x,x∈tabL→x.2.clo=true→aCz Tryz.prog x.1=true:=fun x hx=>by
 have h:(tabL.all fun x=>!x.2.clo||aCz Tryz.prog x.1)=true:=by kernel_rfl
 have:=List.all_eq_true.1 h x hx
 intro hc
 rw [hc] at this
 simpa using this
theorem bJ0:∀ x,x∈tabL→x.2.c.pl=true:=fun x hx=>List.all_eq_true.1 (show (tabL.all fun x=>x.2.c.pl)=true by kernel_rfl) x hx
def ebN:Eb:=fun _ _ _ _=>none
theorem bP1 {z:Inp} {l:List (Nat×(List V→Option V))} (h:∀ x,x∈l→BiOk Tryz.prog (sg z) x.1 x.2):TabOkY Tryz.prog (sg z) tabQ (pbG (pbT l)) ebN :=
 ⟨fun f e h=>bHh (f,e) (aJl h),fun f e h hc=>bHo (f,e) (aJl h) hc,fun f e h=>bJ0 (f,e) (aJl h),bJw h,fun f ar L nx v L' nx' h=>by cases h⟩
def evB (eq:Bool) (l:List (Nat×(List V→Option V))) (f:Nat) (ar:List V):Option V:=aN8 tabQ (pbG (pbT l)) (runY (QQ eq) tabQ (pbG (pbT l)) ebN 100000 V) f ar
theorem aBz {z:Inp} {eq:Bool} (hq:eq=false→bdyF z.a≠bdyF z.b) {l:List (Nat×(List V→Option V))} (h:∀ x,x∈l→BiOk Tryz.prog (sg z) x.1 x.2) {f:Nat} {ar:List V} {r:V} (e:evB eq l f ar=some r):PTr Tryz.prog f (ar.map (V.cz (sg z))) (r.cz (sg z)) :=
 bBu (qok z eq hq) (bP1 h) 100000 e
def aFv (t:List UInt8) (r:V):List V→Option V
 | [.str s]=>if s.length=t.length then (if s=t then some r else none) else none
 | _=>none
theorem aI7 {σ:Sy} {f:Nat} {t:List UInt8} {r:V} (h:PTr Tryz.prog f [.str t] (r.cz σ)):BiOk Tryz.prog σ f (aFv t r):=by
 intro ar v e
 unfold aFv at e
 split at e
 ·split at e
  ·split at e
   ·rename_i q
    subst q
    cases e
    exact h
   ·cases e
  ·cases e
 ·cases e
def biTru:List V→Option V
 | []=>some (.bool true)
 | _=>none
theorem bEr {σ:Sy} {f:Nat} (h:PTr Tryz.prog f [] (.bool true)):BiOk Tryz.prog σ f biTru:=by
 intro ar v e
 unfold biTru at e
 split at e
 ·cases e; exact h
 ·cases e
end Go.Proofs.YtjakkhalapaofaaGreatDoor
