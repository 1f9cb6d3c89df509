/- What the statements of this seat share: the library's functions, the table of the code. No condition. -/
import Derived.Test.YtjakkhalapaofaaGreatDoorRows
import Derived.Test.YtjakkhalapaofaaGreatDoorFe
import Derived.Test.YtjakkhalapaofaaGreatDoorShelf
import Derived.Test.YtjakkhalapaofaaGreatDoorAbK4
import Derived.Test.YtjakkhalapaofaaGreatDoorAbEy
import Derived.Test.YtjakkhalapaofaaGreatDoorAbRn
import Derived.Test.YtjakkhalapaofaaGreatDoorAbKc
import Derived.Shelf.Strings.SlTrimAscii
import Derived.Shelf.Strings.IndexAnyAll
import Derived.Shelf.Strings.FieldsFuncAny
import Derived.WalkKit
import Derived.ProofKit
import Derived.OpenShut
import Derived.JoinedCond
import Derived.HandedShaped
import Derived.Handed
import Derived.LaidMore
import Derived.LaidSub
import Derived.Lay
import Derived.Stop.Joined
import Derived.ChangeSame
set_option linter.unusedVariables false
namespace Go.Proofs
open Go.RowKit Go.Lib Go.Shelf
set_option maxHeartbeats 4000000 in
set_option maxRecDepth 100000 in
theorem isBl (w:World):PredAtRunes Tryz.prog 211 #[] (fun r=>decide (r=32)||decide (r=9)) w:=fun W r _ _=>by
 unfold FnGives
 by_cases h1:r=32 <;> by_cases h2:r=9
 all_goals
  have z1:(r:Int)=32↔r=32:=by omega
  have z2:(r:Int)=9↔r=9:=by omega
  go_enter Tryz.func211,Tryz.ntmps211
  go_wp2
  all_goals first | (exfalso; omega) | (go_ret; exact ⟨by simp [h1,h2,z1,z2],0,rfl⟩)
end Go.Proofs
namespace Go.Proofs.YtjakkhalapaofaaGreatDoor
open Go.ChangeShapes Go.WideShapes Go.ChangeAt Go.RowKit Go.Ab Go.Lib
theorem own:ownKnob Tryz.prog.godebug=none:=by kernel_rfl
theorem laid:laidOutB Tryz.prog=true:=by kernel_rfl
def tset:List TypeId:=[22,3]
theorem closed:tset.all (okT Tryz.prog tset)=true:=by kernel_rfl
theorem ui:Tryz.prog.underlying 3=some (.int .i64):=by kernel_rfl
theorem ul:Tryz.prog.underlying 22=some (.slice 3):=by kernel_rfl
theorem ci:Tryz.prog.cellsOf 3=1:=by kernel_rfl
theorem laid_callsX {H:Type} {enc:TypeId×Value→H} {C:Checked} {os:Os} {f:FuncId} {fn:Func} {s:ChangeSpec} {conds:List PathCond} {apart fresh handsOn again:Bool} {X:World→Prop}
 (own:ownKnob C.prog.godebug=none) (started:os.Started) (noInit:C.prog.inits.idxOf? f=none) (hfn:C.prog.funcs[f]?=some fn)
 (witness:∃ (w:World) (tape:Tape) (i:Input),w.os=os∧(w.forCall tape i).Shaped C.prog∧i.vars=[]∧Input.okWide C.prog (w.forCall tape i) .any w.heap.size f i ∧
  ((s.pre enc C.prog fn conds apart (w.forCall tape i).memory i.args∧X (w.forCall tape i).memory)∧sizedMet enc C.prog fn (OpenSpec.ofChange s) apart (w.forCall tape i).memory i.args)∧Assume.holds {} C.prog (lone (Frame.enter C.prog f i.args .normal) [] (w.forCall tape i)))
 (hX:∀ w w':World,w'.heap=w.heap→X w→X w')
 (contract:∀ (W:World) (base:Nat) (args:Array Value) (ds gs:List (DataW H)) (before:List MemPlace),
  (∀ (j:Nat) t v,fn.params[j]?=some t→args[j]?=some v→Value.okWide C.prog W .any base t v) →
  DataW.Whole enc C.prog fn.params.toList s.vars apart W args.toList ds gs before→W.ShapedOpen C.prog→X W →
  Calls C.prog f args W fun e W'=>∃ v,e=.returned v∧s.post enc C.prog fn apart fresh handsOn again W args v W') :
 ReturnsInHanded {} C os f .any (fun w args=>(s.pre enc C.prog fn conds apart w args∧X w)∧sizedMet enc C.prog fn (OpenSpec.ofChange s) apart w args) (s.post enc C.prog fn apart fresh handsOn again):=by
 refine returnsInHanded_of_calls own started noInit witness ?_
 intro w tape i _ hsh _ hok hpre hholds
 obtain ⟨_,_,_,fn',hfn',_,_,_,_,hval⟩:=hok
 have e:fn'=fn:=Option.some.inj (hfn'.symm.trans hfn)
 subst e
 obtain ⟨⟨⟨ds,gs,before,hw,hc⟩,hx⟩,hz⟩:=hpre
 have hw':=DataW.Whole.of_heap (w':=w.forCall tape i) (by rfl) hw
 refine (contract (w.forCall tape i) w.heap.size i.args ds gs before hval hw' hsh (hX _ _ (by rfl) hx)).mono fun e W' ⟨v,he,hp⟩=>?_
 subst he
 exact ChangeSpec.post_blind hp
theorem pin_of {P:Program} {w:World} {n:String} {sp:Int} {s:List UInt8} {r:List (String×DataW Unit)} {ps:List MemPlace} (g t:Nat) {f0 f1:Field} (hg:P.globalNamed n=some g) (ht:(P.globals[g]?).map (·.type)=some t)
 (hu:P.underlying t=some (.struct #[f0,f1])) (h0:P.underlying f0.type=some (.int .i64)) (h1:P.underlying f1.type=some .string) (c0:P.cellsOf f0.type=1) (c1:P.cellsOf f1.type=1) (o0:f0.offset=0) (o1:f1.offset=1) (ct:P.cellsOf t=2)
 (h:DataW.LaidVars P w ((n,.agg [.lit (.int .i64 sp),.lit (.string s)])::r) ps) :
 (g<w.heap.size∧∀ j v,[Value.int .i64 sp,.string ⟨s.toArray⟩][j]?=some v→w.cell? ⟨g,j,none⟩=some v)∧∃ q,DataW.LaidVars P w r q:=by
 obtain ⟨g',t',cs,fuel,p,q,e1,e2,e3,e4,e5,_⟩:=h
 rw [hg] at e1; cases e1
 rw [ht] at e2; cases e2
 refine ⟨?_,q,e5⟩
 obtain ⟨y0,y1,m,hx,hl,t0,t1⟩:=trod_struct2 hu e4
 rw [ct] at hl
 rw [c0,o0] at t0
 rw [c1,o1] at t1
 obtain ⟨k,k1,rfl,_⟩:=DataW.trod_int h0 t0
 obtain ⟨z,z1,rfl,_⟩:=DataW.trod_string h1 t1
 simp only [Prod.mk.injEq,DataW.agg.injEq,List.cons.injEq,DataW.lit.injEq,Lit.int.injEq,Lit.string.injEq,true_and,and_true] at hx
 obtain ⟨⟨rfl,rfl⟩,_⟩:=hx
 unfold World.var? at e3
 rw [hg] at e3
 simp only [Option.bind_some] at e3
 split at e3
 ·rename_i cs' ty fr hh
  cases e3
  have hcs:cs.toList=[.int .i64 sp,.string z]:=by
   match hm:cs.toList,hl with
   | [a,b],_ =>
     rw [hm] at k1 z1
     simp at k1 z1
     rw [k1,z1]
  have hz:(⟨z.data.toList.toArray⟩:ByteArray)=z:=by cases z; simp
  refine ⟨(Array.getElem?_eq_some_iff.1 hh).1,fun j v hj=>?_⟩
  rw [hz,← hcs] at hj
  unfold World.cell?
  rw [hh]
  simpa using hj
 ·cases e3
noncomputable def fld (i:Nat):Field:=(match Tryz.prog.underlying 41 with
 | some (.struct fs)=>fs
 | _=>#[])[i]!
theorem pinw {w : World} {ps : List MemPlace} {a b : String × DataW Unit} (h : DataW.LaidVars Tryz.prog w [a, ("transclude/edit.rules", Rows.laid_transclude_edit_rules), b] ps) : PinW w := by
 obtain ⟨_,_,_,_,_,q,_,_,_,_,h,_⟩:=h
 obtain ⟨h1,q,h⟩:=pin_of 0 41 (f0:=fld 0) (f1:=fld 1) (by kernel_rfl) (by kernel_rfl) (by kernel_rfl) (by kernel_rfl) (by kernel_rfl) (by kernel_rfl) (by kernel_rfl) (by kernel_rfl) (by kernel_rfl) (by kernel_rfl) h
 intro x vs hx
 by_cases e1:x=0
 ·subst e1
  cases hx
  exact h1
 ·have b1:(x==0)=false:=by simpa using e1
  simp only [pinOf,pins,List.lookup,b1] at hx
  cases hx
theorem gi2:gint Tryz.prog 1:=fun w h=>Tryz.laysM143.s1_3 w h
def biFF:List V→Option V
 | [.str s,.fn f []]=>if f=211∧s=[97,110,110] then some (.lst 1 [.str [97,110,110]]) else none
 | _=>none
def biRnd (k:Int):List V→Option V
 | [.map 3,.int .i64 n]=>if n=3 then some (.int .i64 k) else none
 | _=>none
def biBody (eq:Bool):List V→Option V
 | [.map i]=>if i=2 then some (.map 0) else if i=6 then (if eq=true then some (.map 0) else some (.map 4)) else none
 | _=>none
structure Inp where
 a:List Int
 b:List Int
 who:Int
def sg (x:Inp):Sy:=⟨fun i=>if i=0 then bodyF x.a else bodyF x.b,fun i=>if i=0 then x.a else x.b,fun _=>x.who⟩
theorem ff_one:goFieldsP (fun r=>decide (r=32)||decide (r=9)) ⟨#[97,110,110]⟩=[⟨#[97,110,110]⟩]:=by kernel_rfl
theorem bi_ff (σ:Sy):BiOk Tryz.prog σ 210 biFF:=by
 intro ar r e
 unfold biFF at e
 split at e
 ·rename_i s f
  split at e
  ·rename_i q
   obtain ⟨rfl,rfl⟩:=q
   cases e
   intro D w vs hD hg hl hr
   obtain ⟨u,v,rfl,hu,hv⟩:=vs2 hl hr
   cases hu
   obtain ⟨ws,rfl,hwl,_⟩:=rep_fn hv
   have hws:ws=#[]:=Array.eq_empty_of_size_eq_zero (by simpa [V.czL] using hwl.symm)
   subst hws
   refine (Any.strings_FieldsFunc_runes Tryz.lays229 211 #[] (enters_of Tryz.func211 (by kernel_rfl) rfl) _ ⟨#[97,110,110]⟩ w (by decide) (isBl w) (by kernel_rfl) (by kernel_rfl)).mono ?_
   rintro e w' ⟨A,rfl,hA,ho,hb⟩
   rw [ff_one] at ho ⊢
   refine ⟨_,rfl,hb,?_⟩
   have hc:=World.ownsRow.cellAt ho 0 (by decide)
   simp only [List.map_cons,List.map_nil,List.getElem?_cons_zero] at hc
   have hlt:A<w'.heap.size:=by
    unfold World.cell? at hc
    split at hc
    ·rename_i hh; exact (Array.getElem?_eq_some_iff.1 hh).1
    ·cases hc
   show Rep _ _ _ (.lst 1 [.str [97,110,110]]) _
   refine .lst 1 [.str [97,110,110]] _ 1 A 0 (Nat.le_refl _) (by decide) (fun _=>⟨rfl,hlt,fun h=>by have:=hD _ h; omega⟩) (fun e he=>?_) (fun i j c h=>?_) (fun i j c h=>?_)
   ·simp at he; subst he; rfl
   ·match i,j,h with
    | 0,0,h=>rw [show 0+0*1+0=0 from rfl,hc]; rfl
    | 0,j+1,h=>simp [V.cells] at h
    | i+1,_,h=>simp at h
   ·match i,j,h with
    | 0,0,h=>simp [V.cells] at h; subst h; rw [show 0+0*1+0=0 from rfl,cellD,hc]; exact .str _ (by decide)
    | 0,j+1,h=>simp [V.cells] at h
    | i+1,_,h=>simp at h
  ·cases e
 ·cases e
theorem bi_rnd {x:Inp} {k:Int} (hk:rndN x.who 3=k):BiOk Tryz.prog (sg x) 14 (biRnd k):=by
 intro ar r e
 unfold biRnd at e
 split at e
 ·split at e
  ·rename_i q
   subst q
   cases e
   rw [← hk]
   exact t_rndN fe14 x.who 3 (by decide) (by decide)
  ·cases e
 ·cases e
theorem body_ptr (l:List Int):PTr Tryz.prog 6 [.lst 1 (ints l)] (.str (bodyF l)):=t_body fe6 fe20 fe21 fe14 l
theorem bi_body {x:Inp} {eq:Bool} (h:eq=true→bodyF x.b=bodyF x.a):BiOk Tryz.prog (sg x) 6 (biBody eq):=by
 intro ar r e
 unfold biBody at e
 split at e
 ·split at e
  ·rename_i q
   subst q
   cases e
   exact body_ptr x.a
  ·split at e
   ·rename_i q
    subst q
    split at e
    ·rename_i q
     cases e
     have:=body_ptr x.b
     rw [h q] at this
     exact this
    ·cases e
     exact body_ptr x.b
   ·cases e
 ·cases e
theorem zv (w:World):(zeroValue 317).run Tryz.prog w=.ok (.agg (Array.replicate 256 (.bool false))) w:=by kernel_rfl
def pbL (eq:Bool) (k:Int):List (Nat×(List V→Option V)):=[(88,biIB),(208,biSS (okTr trimS) fun a b=>.str (trimS a b)),(209,biSS okA fun a b=>.int .i64 (indexAny a b)),(210,biFF),
 (90,biSS okS fun a b=>.tup [.str (cut a b).1,.str (cut a b).2.1,.bool (cut a b).2.2]),(92,biSS okS fun a b=>.str (trimSuffix a b)),(51,biOr biSplS biSplL),
 (280,biJoin),(220,biSS okA fun a b=>.bool (containsAny a b)),(255,biRep),(14,biRnd k),(6,biBody eq)]
theorem pbL_ok {z:Inp} {eq:Bool} {k:Int} (hk:rndN z.who 3=k) (he:eq=true→bodyF z.b=bodyF z.a):∀ x,x∈pbL eq k→BiOk Tryz.prog (sg z) x.1 x.2 :=
 List.forall_mem_cons.2 ⟨bi_ib fun s c w=>Tryz.strings_IndexByte s c w,
 List.forall_mem_cons.2 ⟨bi_trim fun s c w h1 h2 h3=>Any.strings_Trim_laid Tryz.lays160 (by kernel_rfl) s c w h1 h2 h3,
 List.forall_mem_cons.2 ⟨bi_iany fun s c w h1 h2 h3 h4=>Any.strings_IndexAny Tryz.lays153 zv (by kernel_rfl) s c w (by omega) (by omega) h3 h4,
 List.forall_mem_cons.2 ⟨bi_ff _,
 List.forall_mem_cons.2 ⟨bi_cut gi2 fun s p m w h1 h2=>Tryz.strings_Cut s p m w h1 h2,
 List.forall_mem_cons.2 ⟨bi_tsuf fun s p w h=>Tryz.strings_TrimSuffix s p w h,
 List.forall_mem_cons.2 ⟨bi_spl gi2 fun s p m w h1 h2 h3=>Tryz.strings_Split s p m w h1 h2 h3,
 List.forall_mem_cons.2 ⟨bi_join fun bk o c xs sep w h1 h2 h3 h4 h5=>Tryz.strings_Join bk o c xs sep w h1 h2 h3 h4 h5,
 List.forall_mem_cons.2 ⟨bi_cany fun s c w h1 h2 h3 h4=>Any.strings_ContainsAny Tryz.lays150 zv (by kernel_rfl) s c w (by omega) (by omega) h3 h4,
 List.forall_mem_cons.2 ⟨bi_rep gi2 fun s a b m w h1 h2 h3 h4=>Tryz.strings_ReplaceAll s a b m w h1 h2 h3 h4,
 List.forall_mem_cons.2 ⟨bi_rnd hk,
 List.forall_mem_cons.2 ⟨bi_body he,List.forall_mem_nil _⟩⟩⟩⟩⟩⟩⟩⟩⟩⟩⟩⟩
def tabQ:Nat→Option Ent:=(tabT tabL).get
def QQ (eq:Bool):SyQ:=⟨2,1,30,fun i j=>!eq&&((i==0&&j==1)||(i==1&&j==0)),[]⟩
theorem qok (x:Inp) (eq:Bool) (h:eq=false→bodyF x.a≠bodyF x.b):SyOk (QQ eq) (sg x):=by
 refine ⟨fun i _=>?_,fun i _=>?_,fun i j e=>?_,fun p i j e=>by cases e⟩
 ·simp only [sg]; split
  ·exact (body_len x.a).1
  ·exact (body_len x.b).1
 ·simp only [sg]; split
  ·exact (body_len x.a).2
  ·exact (body_len x.b).2
 ·simp only [QQ,Bool.and_eq_true,Bool.or_eq_true,Bool.not_eq_true',beq_iff_eq] at e
  obtain ⟨e0,e⟩:=e
  have hn:=h e0
  rcases e with ⟨rfl,rfl⟩ | ⟨rfl,rfl⟩
  ·exact hn
  ·exact fun q=>hn q.symm
theorem tab_clo:∀ x,x∈tabL→x.2.clo=true→bodied Tryz.prog x.1=true:=fun x hx=>by
 have h:(tabL.all fun x=>!x.2.clo||bodied Tryz.prog x.1)=true:=by kernel_rfl
 have:=List.all_eq_true.1 h x hx
 intro hc
 rw [hc] at this
 simpa using this
theorem tab_pl:∀ x,x∈tabL→x.2.c.pl=true:=fun x hx=>List.all_eq_true.1 (show (tabL.all fun x=>x.2.c.pl)=true by kernel_rfl) x hx
def ebN:Eb:=fun _ _ _ _=>none
theorem tabok {z:Inp} {l:List (Nat×(List V→Option V))} (h:∀ x,x∈l→BiOk Tryz.prog (sg z) x.1 x.2):TabOkY Tryz.prog (sg z) tabQ (pbG (pbT l)) ebN :=
 ⟨fun f e h=>tabL_fn (f,e) (tabT_mem h),fun f e h hc=>tab_clo (f,e) (tabT_mem h) hc,fun f e h=>tab_pl (f,e) (tabT_mem h),pbG_ok h,fun f ar L nx v L' nx' h=>by cases h⟩
def evB (eq:Bool) (l:List (Nat×(List V→Option V))) (f:Nat) (ar:List V):Option V:=callPY tabQ (pbG (pbT l)) (runY (QQ eq) tabQ (pbG (pbT l)) ebN 100000 V) f ar
theorem evB_ok {z:Inp} {eq:Bool} (hq:eq=false→bodyF z.a≠bodyF z.b) {l:List (Nat×(List V→Option V))} (h:∀ x,x∈l→BiOk Tryz.prog (sg z) x.1 x.2) {f:Nat} {ar:List V} {r:V} (e:evB eq l f ar=some r):PTr Tryz.prog f (ar.map (V.cz (sg z))) (r.cz (sg z)) :=
 run_ptrY (qok z eq hq) (tabok h) 100000 e
def biMem (t:List UInt8) (r:V):List V→Option V
 | [.str s]=>if s.length=t.length then (if s=t then some r else none) else none
 | _=>none
theorem bi_mem {σ:Sy} {f:Nat} {t:List UInt8} {r:V} (h:PTr Tryz.prog f [.str t] (r.cz σ)):BiOk Tryz.prog σ f (biMem t r):=by
 intro ar v e
 unfold biMem at e
 split at e
 ·split at e
  ·split at e
   ·rename_i q
    subst q
    cases e
    exact h
   ·cases e
  ·cases e
 ·cases e
def biTru:List V→Option V
 | []=>some (.bool true)
 | _=>none
theorem bi_tru {σ:Sy} {f:Nat} (h:PTr Tryz.prog f [] (.bool true)):BiOk Tryz.prog σ f biTru:=by
 intro ar v e
 unfold biTru at e
 split at e
 ·cases e; exact h
 ·cases e
end Go.Proofs.YtjakkhalapaofaaGreatDoor
