/- What the statements of this seat share: the library's functions, the table of the code. No condition. -/
import Derived.Test.YtjakkhalapaofaaGreatDoorRows
import Derived.Test.YtjakkhalapaofaaGreatDoorFe
import Derived.Test.YtjakkhalapaofaaGreatDoorShelf
import Derived.Test.YtjakkhalapaofaaGreatDoorAbK4
import Derived.Test.YtjakkhalapaofaaGreatDoorAbEy
import Derived.Test.YtjakkhalapaofaaGreatDoorAbRn
import Derived.Test.YtjakkhalapaofaaGreatDoorAbK6
import Derived.Test.YtjakkhalapaofaaGreatDoorAbK7
import Derived.Test.YtjakkhalapaofaaGreatDoorAbQ1
import Derived.Test.YtjakkhalapaofaaGreatDoorAbC1
import Derived.Test.YtjakkhalapaofaaGreatDoorFns
import Derived.Shelf.Strings.SlTrimAscii
import Derived.Shelf.Strings.IndexAnyAll
import Derived.Shelf.Strings.FieldsFuncAny
import Derived.WalkKit
import Derived.ProofKit
import Derived.OpenShut
import Derived.JoinedCond
import Derived.HandedShaped
import Derived.Handed
import Derived.LaidMore
import Derived.LaidSub
import Derived.Lay
import Derived.Stop.Joined
import Derived.ChangeSame
set_option linter.unusedVariables false
namespace Go.Proofs
open Go.RowKit Go.Lib Go.Shelf
set_option maxHeartbeats 4000000 in
set_option maxRecDepth 100000 in
theorem isBl (w:World):PredAtRunes Tryz.prog 211 #[] (fun r=>decide (r=32)||decide (r=9)) w:=fun W r _ _=>by
 unfold FnGives
 by_cases h1:r=32 <;> by_cases h2:r=9
 all_goals
  have z1:(r:Int)=32↔r=32:=by omega
  have z2:(r:Int)=9↔r=9:=by omega
  go_enter Tryz.func211,Tryz.ntmps211
  go_wp2
  all_goals first | (exfalso; omega) | (go_ret; exact ⟨by simp [h1,h2,z1,z2],0,rfl⟩)
end Go.Proofs
namespace Go.Proofs.YtjakkhalapaofaaGreatDoor
open Go.ChangeShapes Go.WideShapes Go.ChangeAt Go.RowKit Go.Ab Go.Lib
theorem own:ownKnob Tryz.prog.godebug=none:=by kernel_rfl
theorem laid:laidOutB Tryz.prog=true:=by kernel_rfl
def tset:List TypeId:=[22,3,4]
theorem closed:tset.all (okT Tryz.prog tset)=true:=by kernel_rfl
theorem ui:Tryz.prog.underlying 3=some (.int .i64):=by kernel_rfl
theorem ul:Tryz.prog.underlying 22=some (.slice 3):=by kernel_rfl
theorem ci:Tryz.prog.cellsOf 3=1:=by kernel_rfl
theorem laid_callsX {H:Type} {enc:TypeId×Value→H} {C:Checked} {os:Os} {f:FuncId} {fn:Func} {s:ChangeSpec} {conds:List PathCond} {apart fresh handsOn again:Bool} {X:World→Prop}
 (own:ownKnob C.prog.godebug=none) (started:os.Started) (noInit:C.prog.inits.idxOf? f=none) (hfn:C.prog.funcs[f]?=some fn)
 (witness:∃ (w:World) (tape:Tape) (i:Input),w.os=os∧(w.forCall tape i).Shaped C.prog∧i.vars=[]∧Input.okWide C.prog (w.forCall tape i) .any w.heap.size f i ∧
  ((s.pre enc C.prog fn conds apart (w.forCall tape i).memory i.args∧X (w.forCall tape i).memory)∧sizedMet enc C.prog fn (OpenSpec.ofChange s) apart (w.forCall tape i).memory i.args)∧Assume.holds {} C.prog (lone (Frame.enter C.prog f i.args .normal) [] (w.forCall tape i)))
 (hX:∀ w w':World,w'.heap=w.heap→X w→X w')
 (contract:∀ (W:World) (base:Nat) (args:Array Value) (ds gs:List (DataW H)) (before:List MemPlace),
  (∀ (j:Nat) t v,fn.params[j]?=some t→args[j]?=some v→Value.okWide C.prog W .any base t v) →
  DataW.Whole enc C.prog fn.params.toList s.vars apart W args.toList ds gs before→W.ShapedOpen C.prog→X W →
  Calls C.prog f args W fun e W'=>∃ v,e=.returned v∧s.post enc C.prog fn apart fresh handsOn again W args v W') :
 ReturnsInHanded {} C os f .any (fun w args=>(s.pre enc C.prog fn conds apart w args∧X w)∧sizedMet enc C.prog fn (OpenSpec.ofChange s) apart w args) (s.post enc C.prog fn apart fresh handsOn again):=by
 refine returnsInHanded_of_calls own started noInit witness ?_
 intro w tape i _ hsh _ hok hpre hholds
 obtain ⟨_,_,_,fn',hfn',_,_,_,_,hval⟩:=hok
 have e:fn'=fn:=Option.some.inj (hfn'.symm.trans hfn)
 subst e
 obtain ⟨⟨⟨ds,gs,before,hw,hc⟩,hx⟩,hz⟩:=hpre
 have hw':=DataW.Whole.of_heap (w':=w.forCall tape i) (by rfl) hw
 refine (contract (w.forCall tape i) w.heap.size i.args ds gs before hval hw' hsh (hX _ _ (by rfl) hx)).mono fun e W' ⟨v,he,hp⟩=>?_
 subst he
 exact ChangeSpec.post_blind hp
theorem bLw {P:Program} {w:World} {n:String} {sp:Int} {s:List UInt8} {r:List (String×DataW Unit)} {ps:List MemPlace} (g t:Nat) {f0 f1:Field} (hg:P.globalNamed n=some g) (ht:(P.globals[g]?).map (·.type)=some t)
 (hu:P.underlying t=some (.struct #[f0,f1])) (h0:P.underlying f0.type=some (.int .i64)) (h1:P.underlying f1.type=some .string) (c0:P.cellsOf f0.type=1) (c1:P.cellsOf f1.type=1) (o0:f0.offset=0) (o1:f1.offset=1) (ct:P.cellsOf t=2)
 (h:DataW.LaidVars P w ((n,.agg [.lit (.int .i64 sp),.lit (.string s)])::r) ps) :
 (g<w.heap.size∧∀ j v,[Value.int .i64 sp,.string ⟨s.toArray⟩][j]?=some v→w.cell? ⟨g,j,none⟩=some v)∧∃ q,DataW.LaidVars P w r q:=by
 obtain ⟨g',t',cs,fuel,p,q,e1,e2,e3,e4,e5,_⟩:=h
 rw [hg] at e1; cases e1
 rw [ht] at e2; cases e2
 refine ⟨?_,q,e5⟩
 obtain ⟨y0,y1,m,hx,hl,t0,t1⟩:=trod_struct2 hu e4
 rw [ct] at hl
 rw [c0,o0] at t0
 rw [c1,o1] at t1
 obtain ⟨k,k1,rfl,_⟩:=DataW.trod_int h0 t0
 obtain ⟨z,z1,rfl,_⟩:=DataW.trod_string h1 t1
 simp only [Prod.mk.injEq,DataW.agg.injEq,List.cons.injEq,DataW.lit.injEq,Lit.int.injEq,Lit.string.injEq,true_and,and_true] at hx
 obtain ⟨⟨rfl,rfl⟩,_⟩:=hx
 unfold World.var? at e3
 rw [hg] at e3
 simp only [Option.bind_some] at e3
 split at e3
 ·rename_i cs' ty fr hh
  cases e3
  have hcs:cs.toList=[.int .i64 sp,.string z]:=by
   match hm:cs.toList,hl with
   | [a,b],_ =>
     rw [hm] at k1 z1
     simp at k1 z1
     rw [k1,z1]
  have hz:(⟨z.data.toList.toArray⟩:ByteArray)=z:=by cases z; simp
  refine ⟨(Array.getElem?_eq_some_iff.1 hh).1,fun j v hj=>?_⟩
  rw [hz,← hcs] at hj
  unfold World.cell?
  rw [hh]
  simpa using hj
 ·cases e3
noncomputable def fld (i:Nat):Field:=(match Tryz.prog.underlying 41 with
 | some (.struct fs)=>fs
 | _=>#[])[i]!
theorem pinw {w : World} {ps : List MemPlace} {a b : String × DataW Unit} (h : DataW.LaidVars Tryz.prog w [a, ("transclude/edit.rules", Rows.laid_transclude_edit_rules), b] ps) : PinW w := by
 obtain ⟨_,_,_,_,_,q,_,_,_,_,h,_⟩:=h
 obtain ⟨h1,q,h⟩:=bLw 0 41 (f0:=fld 0) (f1:=fld 1) (by kernel_rfl) (by kernel_rfl) (by kernel_rfl) (by kernel_rfl) (by kernel_rfl) (by kernel_rfl) (by kernel_rfl) (by kernel_rfl) (by kernel_rfl) (by kernel_rfl) h
 intro x vs hx
 by_cases e1:x=0
 ·subst e1
  cases hx
  exact h1
 ·have b1:(x==0)=false:=by simpa using e1
  simp only [bBh,pins,List.lookup,b1] at hx
  cases hx
theorem gi2:gint Tryz.prog 1:=fun w h=>Tryz.laysM143.s1_3 w h
def biFF:List V→Option V
 | [.str s,.fn f []]=>if f=211∧s=[97,110,110] then some (.lst 1 [.str [97,110,110]]) else none
 | _=>none
def bBj (q:Nat):List V→Option V
 | [.map i]=>if i=2 then some (.map 0) else if i=6 then some (.map (if q=1∨q=4 then 0 else 4)) else if i=10 then some (.map (if q=3∨q=4 then 0 else if q=2 then 4 else 8)) else none
 | _=>none
structure Inp where
 a:List Int
 b:List Int
 c:List Int
def Cnd (x:Inp):Nat→Prop
 | 0=>bdyF x.b≠bdyF x.a∧bdyF x.b≠bdyF x.c∧bdyF x.c≠bdyF x.a
 | 1=>bdyF x.b=bdyF x.a∧bdyF x.c≠bdyF x.a
 | 2=>bdyF x.c=bdyF x.b∧bdyF x.b≠bdyF x.a
 | 3=>bdyF x.c=bdyF x.a∧bdyF x.b≠bdyF x.a
 | _=>bdyF x.b=bdyF x.a∧bdyF x.c=bdyF x.a
def sgS (a b c:List UInt8):Nat→List UInt8
 | 0=>a
 | 1=>b
 | 2=>c
 | 3=>tx1 a
 | 4=>tx1 b
 | _=>tx1 c
def sgL (a b c:List Int):Nat→List Int
 | 0=>a
 | 1=>b
 | _=>c
def sg (x:Inp):Sy:=⟨sgS (bdyF x.a) (bdyF x.b) (bdyF x.c),sgL x.a x.b x.c,fun _=>0⟩
def mgV (t:Nat) (cf:V):V:=.tup [.agg [.map t,cf],.int .i64 0]
def bEe (q:Nat):List V→Option V
 | [.map o,.map x,.map y]=>if o=12 then (if q=0∧x=16∧y=20 then some (mgV 16 (.lst 1 [.str [83]])) else if q=1∧x=12∧y=20 then some (mgV 20 .nils) else if q=2∧x=16∧y=16 then some (mgV 16 .nils)
  else if q=3∧x=16∧y=12 then some (mgV 16 .nils) else if x=12∧y=12 then some (mgV 12 .nils) else none) else none
 | _=>none
def biSec:List V→Option V
 | [.map i]=>if i=12 then some (.tup [.lst 5 [.agg [.int .i64 2,.str [83],.int .i64 0,.int .i64 8,.map 13]],.int .i64 0]) else none
 | _=>none
theorem strc:StrC Tryz.prog sF:=bIw (fun s c w h1 h2 h3=>Any.strings_Trim_laid Tryz.lays160 (by kernel_rfl) s c w h1 h2 h3) (fun s c w h1 h2 h3=>Any.strings_TrimRight_laid Tryz.lays162 (by kernel_rfl) s c w h1 h2 h3)
 (fun s c w h2 h3=>Any.strings_TrimLeft_laid Tryz.lays161 (by kernel_rfl) s c w h2 h3) (fun s p w h=>Tryz.strings_HasSuffix s p w h) (fun s c w=>Tryz.strings_IndexByte s c w)
theorem sect (s:List UInt8) (hs:s.length≤8192) (hl:Go.Ab.Lit s):aH6 Tryz.prog (sF 124) s:=bP2 bO2 strc.toStrC0 bO7 s hs hl (bBg bR3 (t2 fn2 fn23 fn22 fn29 fn27 fn33 fn30 fn31 fn32) s (aY8 fn36 fn56 fn67 fn57 fn59 fn68 fn69 fn74 bOu s hs hl) hs hl)
theorem rl:RL Tryz.prog sF sT:=⟨fn37,fn60,fn61,fn62,fn82,fn85,fn86,fn87,bRw,fn65,bRl,fn25,fn50,fn81⟩
theorem bMh (s:List UInt8) (hs:s.length≤8192) (hl:Go.Ab.Lit s):aH6 Tryz.prog (sF 159) s:=bPo bO6 bPj bOw bOn s hs hl (r37L rl s hs hl) (aVy bR2 (t3 fn3 fn24 fn25) s hs hl)
theorem jn:bK7 Tryz.prog sF:=fun l h1 h2 h3=>t255 bQu strc.suf fn27 fn33 fn30 fn23 l h1 h2 h3
theorem mrg:MrgL Tryz.prog sF sT:=⟨⟨bPe,bO4,bOk,bRd,bRy,bR5,by kernel_rfl,by kernel_rfl⟩,bQs,bPz,bRt,bP7,bRr,jn⟩
theorem rmrg:RMrgL Tryz.prog sF sT:=⟨bOt,bO0,bQc,bQi,bQ3,bO3,bRs⟩
theorem bGh {x:Inp} {q f:Nat} (hq:Cnd x q) (h:∀ a b c:List Int,PTr Tryz.prog f [.str (tx1 (bdyF a)),.str (tx1 (bdyF b)),.str (tx1 (bdyF c))] (mrgV (aCw (tx1 (bdyF a)) (tx1 (bdyF b)) (tx1 (bdyF c))))):BiOk Tryz.prog (sg x) f (bEe q):=by
 intro ar r e
 unfold bEe at e
 split at e
 ·split at e
  ·rename_i k
   subst k
   split at e
   ·rename_i k
    obtain ⟨rfl,rfl,rfl⟩:=k
    cases e
    have:=h x.a x.b x.c
    rw [aZm hq.1 hq.2.1 hq.2.2] at this
    exact this
   ·split at e
    ·rename_i k
     obtain ⟨rfl,rfl,rfl⟩:=k
     cases e
     have:=h x.a x.a x.c
     rw [aIn x.a (.inl rfl)] at this
     exact this
    ·split at e
     ·rename_i k
      obtain ⟨rfl,rfl,rfl⟩:=k
      cases e
      have:=h x.a x.b x.b
      rw [aIn x.b (.inr rfl)] at this
      exact this
     ·split at e
      ·rename_i k
       obtain ⟨rfl,rfl,rfl⟩:=k
       cases e
       have:=h x.a x.b x.a
       rw [aV3 x.a hq.2 hq.2 rfl] at this
       exact this
      ·split at e
       ·rename_i k
        obtain ⟨rfl,rfl⟩:=k
        cases e
        have:=h x.a x.a x.a
        rw [aIn x.a (.inl rfl)] at this
        exact this
       ·cases e
  ·cases e
 ·cases e
theorem bKr (x:Inp):BiOk Tryz.prog (sg x) 11 biSec:=by
 intro ar r e
 unfold biSec at e
 split at e
 ·split at e
  ·rename_i k
   subst k
   cases e
   exact bI3 bMh x.a
  ·cases e
 ·cases e
theorem bLh:goFieldsP (fun r=>decide (r=32)||decide (r=9)) ⟨#[97,110,110]⟩=[⟨#[97,110,110]⟩]:=by kernel_rfl
theorem bRh (σ:Sy):BiOk Tryz.prog σ 210 biFF:=by
 intro ar r e
 unfold biFF at e
 split at e
 ·rename_i s f
  split at e
  ·rename_i q
   obtain ⟨rfl,rfl⟩:=q
   cases e
   intro D w vs hD hg hl hr
   obtain ⟨u,v,rfl,hu,hv⟩:=vs2 hl hr
   cases hu
   obtain ⟨ws,rfl,hwl,_⟩:=aO0 hv
   have hws:ws=#[]:=Array.eq_empty_of_size_eq_zero (by simpa [V.czL] using hwl.symm)
   subst hws
   refine (Any.strings_FieldsFunc_runes Tryz.lays229 211 #[] (enters_of Tryz.func211 (by kernel_rfl) rfl) _ ⟨#[97,110,110]⟩ w (by decide) (isBl w) (by kernel_rfl) (by kernel_rfl)).mono ?_
   rintro e w' ⟨A,rfl,hA,ho,hb⟩
   rw [bLh] at ho ⊢
   refine ⟨_,rfl,hb,?_⟩
   have hc:=World.ownsRow.cellAt ho 0 (by decide)
   simp only [List.map_cons,List.map_nil,List.getElem?_cons_zero] at hc
   have hlt:A<w'.heap.size:=by
    unfold World.cell? at hc
    split at hc
    ·rename_i hh; exact (Array.getElem?_eq_some_iff.1 hh).1
    ·cases hc
   show Rep _ _ _ (.lst 1 [.str [97,110,110]]) _
   refine .lst 1 [.str [97,110,110]] _ 1 A 0 (Nat.le_refl _) (by decide) (fun _=>⟨rfl,hlt,fun h=>by have:=hD _ h; omega⟩) (fun e he=>?_) (fun i j c h=>?_) (fun i j c h=>?_)
   ·simp at he; subst he; rfl
   ·match i,j,h with
    | 0,0,h=>rw [show 0+0*1+0=0 from rfl,hc]; rfl
    | 0,j+1,h=>simp [V.cells] at h
    | i+1,_,h=>simp at h
   ·match i,j,h with
    | 0,0,h=>simp [V.cells] at h; subst h; rw [show 0+0*1+0=0 from rfl,aDx,hc]; exact .str _ (by decide)
    | 0,j+1,h=>simp [V.cells] at h
    | i+1,_,h=>simp at h
  ·cases e
 ·cases e
theorem aNj (l:List Int):PTr Tryz.prog 6 [.lst 1 (ints l)] (.str (bdyF l)):=bLx fe6 fe20 fe21 fe14 l
theorem bJo {x:Inp} {q:Nat} (h:Cnd x q) (hq:q<5):BiOk Tryz.prog (sg x) 6 (bBj q):=by
 intro ar r e
 unfold bBj at e
 split at e
 ·split at e
  ·rename_i k
   subst k
   cases e
   exact aNj x.a
  ·split at e
   ·rename_i k
    subst k
    cases e
    have hp:=aNj x.b
    match q,hq,h with
    | 0,_,h=>exact hp
    | 1,_,h=>rw [h.1] at hp; exact hp
    | 2,_,h=>exact hp
    | 3,_,h=>exact hp
    | 4,_,h=>rw [h.1] at hp; exact hp
   ·split at e
    ·rename_i k
     subst k
     cases e
     have hp:=aNj x.c
     match q,hq,h with
     | 0,_,h=>exact hp
     | 1,_,h=>exact hp
     | 2,_,h=>rw [h.1] at hp; exact hp
     | 3,_,h=>rw [h.1] at hp; exact hp
     | 4,_,h=>rw [h.2] at hp; exact hp
    ·cases e
 ·cases e
theorem zv (w:World):(zeroValue 317).run Tryz.prog w=.ok (.agg (Array.replicate 256 (.bool false))) w:=by kernel_rfl
def pbL (q:Nat):List (Nat×(List V→Option V)):=[(88,biIB),(208,biSS (okTr trimS) fun a b=>.str (trimS a b)),(209,biSS okA fun a b=>.int .i64 (indexAny a b)),(210,biFF),
 (90,biSS okS fun a b=>.tup [.str (cut a b).1,.str (cut a b).2.1,.bool (cut a b).2.2]),(92,biSS okS fun a b=>.str (trimSuffix a b)),(51,biOr aZ6 aZ3),
 (280,biJoin),(220,biSS okA fun a b=>.bool (containsAny a b)),(255,biRep),(6,bBj q),(56,bEe q),(10,bEe q),(11,biSec)]
theorem bGg {z:Inp} {q:Nat} (h:Cnd z q) (hq:q<5):∀ x,x∈pbL q→BiOk Tryz.prog (sg z) x.1 x.2 :=
 List.forall_mem_cons.2 ⟨bPv fun s c w=>Tryz.strings_IndexByte s c w,
 List.forall_mem_cons.2 ⟨bJx fun s c w h1 h2 h3=>Any.strings_Trim_laid Tryz.lays160 (by kernel_rfl) s c w h1 h2 h3,
 List.forall_mem_cons.2 ⟨bKd fun s c w h1 h2 h3 h4=>Any.strings_IndexAny Tryz.lays153 zv (by kernel_rfl) s c w (by omega) (by omega) h3 h4,
 List.forall_mem_cons.2 ⟨bRh _,
 List.forall_mem_cons.2 ⟨bMl gi2 fun s p m w h1 h2=>Tryz.strings_Cut s p m w h1 h2,
 List.forall_mem_cons.2 ⟨bHx fun s p w h=>Tryz.strings_TrimSuffix s p w h,
 List.forall_mem_cons.2 ⟨bMr gi2 fun s p m w h1 h2 h3=>Tryz.strings_Split s p m w h1 h2 h3,
 List.forall_mem_cons.2 ⟨bHy fun bk o c xs sep w h1 h2 h3 h4 h5=>Tryz.strings_Join bk o c xs sep w h1 h2 h3 h4 h5,
 List.forall_mem_cons.2 ⟨bJf fun s c w h1 h2 h3 h4=>Any.strings_ContainsAny Tryz.lays150 zv (by kernel_rfl) s c w (by omega) (by omega) h3 h4,
 List.forall_mem_cons.2 ⟨bKo gi2 fun s a b m w h1 h2 h3 h4=>Tryz.strings_ReplaceAll s a b m w h1 h2 h3 h4,
 List.forall_mem_cons.2 ⟨bJo h hq,List.forall_mem_cons.2 ⟨bGh h (bM7 mrg sect),List.forall_mem_cons.2 ⟨bGh h (bJ2 rmrg bMh),List.forall_mem_cons.2 ⟨bKr _,List.forall_mem_nil _⟩⟩⟩⟩⟩⟩⟩⟩⟩⟩⟩⟩⟩⟩
def tabQ:Nat→Option Ent:=(tabT tabL).get
def dfC (q i j:Nat):Bool:=((q==0||q==2||q==3)&&((i==3&&j==4)||(i==4&&j==3)))||((q==0||q==1)&&((i==3&&j==5)||(i==5&&j==3)))||(q==0&&((i==4&&j==5)||(i==5&&j==4)))
def QQ (q:Nat):SyQ:=⟨6,1,38,dfC q,[(.str hSS2,.map 0,3),(.str hSS2,.map 4,4),(.str hSS2,.map 8,5)]⟩
theorem bF1 {a b c:List UInt8} (ha:1≤a.length∧a.length≤30) (hb:1≤b.length∧b.length≤30) (hc:1≤c.length∧c.length≤30) (i:Nat):1≤(sgS a b c i).length∧(sgS a b c i).length≤38:=by
 unfold sgS
 split <;> (try simp only [tx1,hSS2,List.length_append,List.length_cons,List.length_nil]) <;> omega
theorem aL1 {a b:List UInt8} (h:a≠b):tx1 a≠tx1 b:=fun e=>h (List.append_cancel_left e)
theorem qok (x:Inp) (q:Nat) (h:Cnd x q):SyOk (QQ q) (sg x):=by
 have ha:=aJu x.a
 have hb:=aJu x.b
 have hc:=aJu x.c
 refine ⟨fun i _=>(bF1 ha hb hc i).1,fun i _=>(bF1 ha hb hc i).2,fun i j e=>?_,fun u v j e=>?_⟩
 ·simp only [QQ,dfC,Bool.and_eq_true,Bool.or_eq_true,beq_iff_eq] at e
  have h1:((q=0∨q=2)∨q=3)→bdyF x.a≠bdyF x.b:=by
   rintro ((rfl | rfl) | rfl)
   ·exact fun e=>h.1 e.symm
   ·exact fun e=>h.2 e.symm
   ·exact fun e=>h.2 e.symm
  have h2:(q=0∨q=1)→bdyF x.a≠bdyF x.c:=by
   rintro (rfl | rfl)
   ·exact fun e=>h.2.2 e.symm
   ·exact fun e=>h.2 e.symm
  have h3:q=0→bdyF x.b≠bdyF x.c:=fun hh=>by subst hh; exact h.2.1
  rcases e with (⟨k,⟨rfl,rfl⟩ | ⟨rfl,rfl⟩⟩ | ⟨k,⟨rfl,rfl⟩ | ⟨rfl,rfl⟩⟩) | ⟨k,⟨rfl,rfl⟩ | ⟨rfl,rfl⟩⟩
  ·exact aL1 (h1 k)
  ·exact (aL1 (h1 k)).symm
  ·exact aL1 (h2 k)
  ·exact (aL1 (h2 k)).symm
  ·exact aL1 (h3 k)
  ·exact (aL1 (h3 k)).symm
 ·simp only [QQ,List.mem_cons,List.not_mem_nil,or_false,Prod.mk.injEq] at e
  rcases e with ⟨rfl,rfl,rfl⟩ | ⟨rfl,rfl,rfl⟩ | ⟨rfl,rfl,rfl⟩
  ·exact ⟨hSS2,bdyF x.a,rfl,rfl,rfl,by simp only [hSS2,List.length_cons,List.length_nil]; omega⟩
  ·exact ⟨hSS2,bdyF x.b,rfl,rfl,rfl,by simp only [hSS2,List.length_cons,List.length_nil]; omega⟩
  ·exact ⟨hSS2,bdyF x.c,rfl,rfl,rfl,by simp only [hSS2,List.length_cons,List.length_nil]; omega⟩
theorem bJ7:∀ x,x∈tabL→x.2.clo=true→aB3 Tryz.prog x.1=true:=fun x hx=>by
 have h:(tabL.all fun x=>!x.2.clo||aB3 Tryz.prog x.1)=true:=by kernel_rfl
 have:=List.all_eq_true.1 h x hx
 intro hc
 rw [hc] at this
 simpa using this
theorem bMn:∀ x,x∈tabL→x.2.c.pl=true:=fun x hx=>List.all_eq_true.1 (show (tabL.all fun x=>x.2.c.pl)=true by kernel_rfl) x hx
def ebN:Eb:=fun _ _ _ _=>none
theorem bPt {z:Inp} {l:List (Nat×(List V→Option V))} (h:∀ x,x∈l→BiOk Tryz.prog (sg z) x.1 x.2):TabOkY Tryz.prog (sg z) tabQ (pbG (pbT l)) ebN :=
 ⟨fun f e h=>bJ1 (f,e) (aJt h),fun f e h hc=>bJ7 (f,e) (aJt h) hc,fun f e h=>bMn (f,e) (aJt h),bNi h,fun f ar L nx v L' nx' h=>by cases h⟩
def evB (q:Nat) (l:List (Nat×(List V→Option V))) (f:Nat) (ar:List V):Option V:=aPk tabQ (pbG (pbT l)) (runY (QQ q) tabQ (pbG (pbT l)) ebN 100000 V) f ar
theorem aO5 {z:Inp} {q:Nat} (hq:Cnd z q) {l:List (Nat×(List V→Option V))} (h:∀ x,x∈l→BiOk Tryz.prog (sg z) x.1 x.2) {f:Nat} {ar:List V} {r:V} (e:evB q l f ar=some r):PTr Tryz.prog f (ar.map (V.cz (sg z))) (r.cz (sg z)) :=
 bDi (qok z q hq) (bPt h) 100000 e
def aLq (t:List UInt8) (r:V):List V→Option V
 | [.str s]=>if s.length=t.length then (if s=t then some r else none) else none
 | _=>none
theorem aYb {σ:Sy} {f:Nat} {t:List UInt8} {r:V} (h:PTr Tryz.prog f [.str t] (r.cz σ)):BiOk Tryz.prog σ f (aLq t r):=by
 intro ar v e
 unfold aLq at e
 split at e
 ·split at e
  ·split at e
   ·rename_i q
    subst q
    cases e
    exact h
   ·cases e
  ·cases e
 ·cases e
def biTru:List V→Option V
 | []=>some (.bool true)
 | _=>none
theorem bL1 {σ:Sy} {f:Nat} (h:PTr Tryz.prog f [] (.bool true)):BiOk Tryz.prog σ f biTru:=by
 intro ar v e
 unfold biTru at e
 split at e
 ·cases e; exact h
 ·cases e
end Go.Proofs.YtjakkhalapaofaaGreatDoor
