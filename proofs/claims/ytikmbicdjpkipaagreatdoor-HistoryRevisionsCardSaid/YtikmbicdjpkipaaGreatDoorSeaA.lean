import Derived.Test.YtikmbicdjpkipaaGreatDoorRows
import Derived.Test.YtikmbicdjpkipaaGreatDoorFe
import Derived.Test.YtikmbicdjpkipaaGreatDoorShelf
import Derived.Test.YtikmbicdjpkipaaGreatDoorAbK4
import Derived.Test.YtikmbicdjpkipaaGreatDoorAbX9
import Derived.Test.YtikmbicdjpkipaaGreatDoorAbH4
import Derived.Test.YtikmbicdjpkipaaGreatDoorAbH5
import Derived.Test.YtikmbicdjpkipaaGreatDoorAbI5
import Derived.Test.YtikmbicdjpkipaaGreatDoorAbY1
import Derived.Test.YtikmbicdjpkipaaGreatDoorAbK5
import Derived.Test.YtikmbicdjpkipaaGreatDoorFns
import Derived.Shelf.Strings.SlTrimAscii
import Derived.Shelf.Strings.IndexAnyAll
import Derived.Shelf.Strings.FieldsFuncAny
import Derived.WalkKit
import Derived.WalkMore
import Derived.Deep.LoopGhost
import Derived.Lib.Walk
import Derived.Lib.SliceRun
import Derived.ProofKit
import Derived.OpenShut
import Derived.JoinedCond
import Derived.HandedShaped
import Derived.Handed
import Derived.LaidMore
import Derived.LaidSub
import Derived.Lay
import Derived.Stop.Joined
import Derived.ChangeSame
open Nat renaming le_refl->zz,zero_le->xK,not_lt_zero->wB
open List renaming forall_mem_cons->xo,all_eq_true->zx
set_option linter.unusedVariables false
namespace Go.Proofs
open Go.RowKit Go.Lib Go.Shelf
set_option maxHeartbeats 4000000 in
set_option maxRecDepth 100000 in
theorem isBl(w:World):PredAtRunes Tryz.prog 196 #[] (λr=>decide (r=32)||decide (r=9)) w:=λW r _ _=>by
 unfold FnGives;by_cases h1:r=32<;>by_cases h2:r=9
 all_goals
  have z1:(r:Int)=32↔r=32:=by omega
  have z2:(r:Int)=9↔r=9:=by omega
  go_enter Tryz.func196,Tryz.ntmps196
  go_wp2
  all_goals first|(exfalso;omega)|(go_ret;exact⟨by simp[h1,h2,z1,z2],0,rfl⟩)
open Go.Ab
set_option maxHeartbeats 4000000 in
set_option maxRecDepth 100000 in
theorem bIr(c:Nat)(w:World):Calls Tryz.prog 65 #[.slice none 0 c] w λe w'=>e=.returned (.slice none 0 0)∧w'=w:=by
 have q22:∀(w:World) (a:Option Addr) (n c n' c':Nat),(binOp .eql 39 (.slice a n c) (.slice none n' c')).run Tryz.prog w=.ok (.bool a.isNone) w:=λw a n c n' c'=>Lib.run_eql_slice_nil w _ _ a n c n' c' (by kernel_rfl:Tryz.prog.underlying 39=some (.slice 42))
 go_enter Tryz.func65,Tryz.ntmps65
 go_wp2
 go_ret
 exact⟨rfl,rfl⟩
set_option maxHeartbeats 4000000 in
set_option maxRecDepth 100000 in
theorem bJf(a:Addr)(c:Nat)(w:World):Calls Tryz.prog 65 #[.slice (some a) 0 c] w λe w'=>(∃a' c',e=.returned (.slice a' 0 c')∧c'<2^63)∧Below w.heap.size w w':=by
 have t39:Tryz.prog.underlying 39=some (.slice 42):=by kernel_rfl
 have q22:∀(w:World) (a:Option Addr) (n c n' c':Nat),(binOp .eql 39 (.slice a n c) (.slice none n' c')).run Tryz.prog w=.ok (.bool a.isNone) w:=λw a n c n' c'=>Lib.run_eql_slice_nil w _ _ a n c n' c' t39;have u22:∀w,Sem.run Tryz.prog (underlying 39) w=.ok (TypeDesc.slice 42) w:=run_underlying t39;obtain⟨i0,hi,hz0,hz1,hz2⟩:=info_parts (by kernel_rfl:(Tryz.prog.info? 42).map (λi=>(i.zero,i.size,i.bytes))=some (some (.agg #[.int .i64 0,.string ⟨#[]⟩,.string ⟨#[]⟩,.string ⟨#[]⟩,.int .i64 0,.int .i64 0]),6,72))
 go_enter Tryz.func65,Tryz.ntmps65
 go_wp2_with (at_builtin;refine wpList_append_own _ rfl _ _ 39 rfl w.heap.size 42 i0 (.agg #[.int .i64 0,.string ⟨#[]⟩,.string ⟨#[]⟩,.string ⟨#[]⟩,.int .i64 0,.int .i64 0]) 6 72 t39 hi hz0 hz1 hz2 rfl (by decide) _ _ _ rfl (World.ownsRow_made w #[] 0 (zz _) (xK _) rfl) a 0 c [] rfl ?qc1 ?qc2 ?qc3 ?qc4 ?qc5 ?qc6 ?_)
 case qc1=>simp
 case qc2=>intro j u hj;simp at hj
 case qc3=>intro u hu;cases hu
 case qc4=>unfold maxLen;omega
 case qc5=>omega
 case qc6=>simp
 intro v' w1 hown hgrow hnil
 go_wp2
 go_ret
 have hb:Below w.heap.size w w1:=((Below.refl _ w).alloc (zz _) _).grown hgrow (by simp) (by intro k hk;simp[Value.ownBlock]at hk;omega);refine⟨?_,hb⟩;rcases hown.2 with⟨h',_⟩|⟨g,cap,cur,h',_,_,_,hm,_⟩
 .exact absurd h' hnil
 .exact⟨_,cap,congrArg Ending.returned h',by unfold maxLen at hm;omega⟩
theorem bOe:PTr Tryz.prog 65 [revV []] (revV []):=by
 intro D w vs hD hg hl hr;obtain⟨v,rfl,hv⟩:∃v,vs=#[v]∧Rep NoG D w (revV []) v:=by
  have h0:=hr 0 _ rfl;refine⟨vs.getD 0 undef,?_,h0⟩;apply Array.ext
  .simpa using hl.symm
  .intro i h1 h2;have:i=0:=by simp at h2;omega
   subst this;simp[Array.getD,h1]
 obtain⟨a,cap,b,q,rfl,hc,h63,_⟩:=aEq hv;have fin:∀(a':Option Addr) (c':Nat) (w':World),c'<2^63->Rep NoG D w' (revV []) (.slice a' 0 c'):=λa' c' w' h=>.lst 6 [] a' c' 0 0 (xK _) h (λh=>absurd h (Nat.lt_irrefl _)) (λe he=>by cases he) (λi j c h=>by simp at h) (λi j c h=>by simp at h);cases a with
 | none=>refine(bIr cap w).mono ?_;rintro e w' ⟨rfl,rfl⟩;exact⟨_,rfl,Below.refl _ _,fin _ _ _ (by decide)⟩
 | some a=>refine(bJf a cap w).mono ?_;rintro e w' ⟨⟨a',c',rfl,h⟩,hb⟩;exact⟨_,rfl,hb,fin _ _ _ h⟩
end Go.Proofs
namespace Go.Proofs.YtikmbicdjpkipaaGreatDoor
open Go.ChangeShapes Go.WideShapes Go.ChangeAt Go.RowKit Go.Ab Go.Lib
theorem own:ownKnob Tryz.prog.godebug=none:=by kernel_rfl
theorem laid:laidOutB Tryz.prog=true:=by kernel_rfl
def tset:List TypeId:=[27,22,71,29,39,42,23,194,24,196,25,155,30,3,9]
theorem closed:tset.all (okT Tryz.prog tset)=true:=by kernel_rfl
theorem ui:Tryz.prog.underlying 3=some (.int .i64):=by kernel_rfl
theorem ul:Tryz.prog.underlying 30=some (.slice 3):=by kernel_rfl
theorem us:Tryz.prog.underlying 9=some .string:=by kernel_rfl
theorem stys:SttTys Tryz.prog 27 22 71 29 39 42 23 194 24 196 25 155 3 9:=by constructor<;>kernel_rfl
theorem ci:Tryz.prog.cellsOf 3=1:=by kernel_rfl
theorem laid_callsX{H:Type}{enc:TypeId×Value->H}{C:Checked}{os:Os}{f:FuncId}{fn:Func}{s:ChangeSpec}{conds:List PathCond}{apart fresh handsOn again:Bool}{X:World->Prop}
 (own:ownKnob C.prog.godebug=none) (started:os.Started) (noInit:C.prog.inits.idxOf? f=none) (hfn:C.prog.funcs[f]?=some fn)
 (witness:∃(w:World) (tape:Tape) (i:Input),w.os=os∧(w.forCall tape i).Shaped C.prog∧i.vars=[]∧Input.okWide C.prog (w.forCall tape i) .any w.heap.size f i ∧
  ((s.pre enc C.prog fn conds apart (w.forCall tape i).memory i.args∧X (w.forCall tape i).memory)∧sizedMet enc C.prog fn (OpenSpec.ofChange s) apart (w.forCall tape i).memory i.args)∧Assume.holds {} C.prog (lone (Frame.enter C.prog f i.args .normal) [] (w.forCall tape i)))
 (hX:∀w w':World,w'.heap=w.heap->X w->X w')
 (contract:∀(W:World) (base:Nat) (args:Array Value) (ds gs:List (DataW H)) (before:List MemPlace),
  (∀(j:Nat) t v,fn.params[j]?=some t->args[j]?=some v->Value.okWide C.prog W .any base t v) ->
  DataW.Whole enc C.prog fn.params.toList s.vars apart W args.toList ds gs before->W.ShapedOpen C.prog->X W ->
  Calls C.prog f args W λe W'=>∃v,e=.returned v∧s.post enc C.prog fn apart fresh handsOn again W args v W') :
 ReturnsInHanded {} C os f .any (λw args=>(s.pre enc C.prog fn conds apart w args∧X w)∧sizedMet enc C.prog fn (OpenSpec.ofChange s) apart w args) (s.post enc C.prog fn apart fresh handsOn again):=by
 refine returnsInHanded_of_calls own started noInit witness ?_;intro w tape i _ hsh _ hok hpre hholds;obtain⟨_,_,_,fn',hfn',_,_,_,_,hval⟩:=hok;have e:fn'=fn:=Option.some.inj (hfn'.symm.trans hfn);subst e;obtain⟨⟨⟨ds,gs,before,hw,hc⟩,hx⟩,hz⟩:=hpre;have hw':=DataW.Whole.of_heap (w':=w.forCall tape i) (by rfl) hw;refine(contract (w.forCall tape i) w.heap.size i.args ds gs before hval hw' hsh (hX _ _ (by rfl) hx)).mono λe W' ⟨v,he,hp⟩=>?_;subst he;exact ChangeSpec.post_blind hp
theorem bGb{P:Program}{w:World}{n:String}{sp:Int}{s:List UInt8}{r:List (String×DataW Unit)}{ps:List MemPlace}(g t:Nat){f0 f1:Field}(hg:P.globalNamed n=some g)(ht:(P.globals[g]?).map (·.type)=some t)
 (hu:P.underlying t=some (.struct #[f0,f1])) (h0:P.underlying f0.type=some (.int .i64)) (h1:P.underlying f1.type=some .string) (c0:P.cellsOf f0.type=1) (c1:P.cellsOf f1.type=1) (o0:f0.offset=0) (o1:f1.offset=1) (ct:P.cellsOf t=2)
 (h:DataW.LaidVars P w ((n,.agg [.lit (.int .i64 sp),.lit (.string s)])::r) ps) :
 (g<w.heap.size∧∀j v,[Value.int .i64 sp,.string ⟨s.toArray⟩][j]?=some v->w.cell? ⟨g,j,none⟩=some v)∧∃q,DataW.LaidVars P w r q:=by
 obtain⟨g',t',cs,fuel,p,q,e1,e2,e3,e4,e5,_⟩:=h;rw[hg]at e1;cases e1;rw[ht]at e2;cases e2;refine⟨?_,q,e5⟩;obtain⟨y0,y1,m,hx,hl,t0,t1⟩:=trod_struct2 hu e4;rw[ct]at hl;rw[c0,o0]at t0;rw[c1,o1]at t1;obtain⟨k,k1,rfl,_⟩:=DataW.trod_int h0 t0;obtain⟨z,z1,rfl,_⟩:=DataW.trod_string h1 t1;simp only[Prod.mk.injEq,DataW.agg.injEq,List.cons.injEq,DataW.lit.injEq,Lit.int.injEq,Lit.string.injEq,true_and,and_true]at hx;obtain⟨⟨rfl,rfl⟩,_⟩:=hx;unfold World.var? at e3;rw[hg]at e3;simp only[Option.bind_some]at e3;split at e3
 .rename_i cs' ty fr hh;cases e3
  have hcs:cs.toList=[.int .i64 sp,.string z]:=by
   match hm:cs.toList,hl with
   | [a,b],_=>rw[hm]at k1 z1;simp at k1 z1;rw[k1,z1]
  have hz:(⟨z.data.toList.toArray⟩:ByteArray)=z:=by cases z;simp
  refine⟨(Array.getElem?_eq_some_iff.1 hh).1,λj v hj=>?_⟩;rw[hz,<-hcs]at hj;unfold World.cell?;rw[hh];simpa using hj
 .cases e3
noncomputable def fld (i:Nat):Field:=(match Tryz.prog.underlying 29 with
 | some (.struct fs)=>fs
 | _=>#[])[i]!
theorem pinw {w : World} {ps : List MemPlace} {a b : String × DataW Unit} (h : DataW.LaidVars Tryz.prog w [a, ("transclude/edit.rules", Rows.laid_transclude_edit_rules), ("transclude/history.rules", Rows.laid_transclude_history_rules), b] ps) : PinW w := by
 obtain⟨_,_,_,_,_,q,_,_,_,_,h,_⟩:=h;obtain⟨h1,q,h⟩:=bGb 1 29 (f0:=fld 0) (f1:=fld 1) (by kernel_rfl) (by kernel_rfl) (by kernel_rfl) (by kernel_rfl) (by kernel_rfl) (by kernel_rfl) (by kernel_rfl) (by kernel_rfl) (by kernel_rfl) (by kernel_rfl) h;obtain⟨h0,q,h⟩:=bGb 0 29 (f0:=fld 0) (f1:=fld 1) (by kernel_rfl) (by kernel_rfl) (by kernel_rfl) (by kernel_rfl) (by kernel_rfl) (by kernel_rfl) (by kernel_rfl) (by kernel_rfl) (by kernel_rfl) (by kernel_rfl) h;intro x vs hx;by_cases e0:x=0
 .subst e0;cases hx
  exact h0
 .by_cases e1:x=1
  .subst e1;cases hx
   exact h1
  .have b0:(x==0)=false:=by simpa using e0
   have b1:(x==1)=false:=by simpa using e1
   simp only[aZe,pins,List.lookup,b0,b1]at hx;cases hx
theorem gi2:gint Tryz.prog 2:=λw h=>Tryz.laysM143.s1_3 w h
def sg:Sy:=⟨λ_=>[],λ_=>[],λ_=>0⟩
def QQ:SyQ:=⟨0,0,0,λ_ _=>false,[]⟩
theorem qok:SyOk QQ sg:=⟨λ_ h=>absurd h (wB _),λ_ h=>absurd h (wB _),λ_ _ e=>(by cases e),λ_ _ _ e=>(by cases e)⟩
theorem zv(w:World):(zeroValue 292).run Tryz.prog w=.ok (.agg (Array.replicate 256 (.bool false))) w:=by kernel_rfl
def pbL:List (Nat×(List V->Option V)):=[(149,biIB),(151,biSS okS λa b=>.tup [.str (cut a b).1,.str (cut a b).2.1,.bool (cut a b).2.2]),(107,biOr aXw bAf)]
theorem bPw:∀x,x∈pbL->BiOk Tryz.prog sg x.1 x.2:=
 xo.2 ⟨bQy λs c w=>Tryz.strings_IndexByte s c w,
 xo.2 ⟨bN2 gi2 λs p m w h1 h2=>Tryz.strings_Cut s p m w h1 h2,
 xo.2 ⟨bMs gi2 λs p m w h1 h2 h3=>Tryz.strings_Split s p m w h1 h2 h3,List.forall_mem_nil _⟩⟩⟩
noncomputable def tabQ:Nat->Option Ent:=(tabT tabL).get
theorem bKf:∀x,x∈tabL->x.2.clo=true->aBk Tryz.prog x.1=true:=λx hx=>by
 have h:(tabL.all λx=>!x.2.clo||aBk Tryz.prog x.1)=true:=by kernel_rfl
 have:=zx.1 h x hx;intro hc;rw[hc]at this;simpa using this
theorem bPq:∀x,x∈tabL->x.2.c.pl=true:=λx hx=>zx.1 (show(tabL.all λx=>x.2.c.pl)=true by kernel_rfl) x hx
def ebN:Eb:=λ_ _ _ _=>none
theorem bSi{l:List (Nat×(List V->Option V))}(h:∀x,x∈l->BiOk Tryz.prog sg x.1 x.2):TabOkY Tryz.prog sg tabQ (pbG (pbT l)) ebN:=
 ⟨λf e h=>bLh (f,e) (aJk h),λf e h hc=>bKf (f,e) (aJk h) hc,λf e h=>bPq (f,e) (aJk h),bO5 h,λf ar L nx v L' nx' h=>by cases h⟩
noncomputable def evB (l:List (Nat×(List V->Option V))) (f:Nat) (ar:List V):Option V:=aP7 tabQ (pbG (pbT l)) (runY QQ tabQ (pbG (pbT l)) ebN 100000 V) f ar
theorem evP{l:List (Nat×(List V->Option V))}(h:∀x,x∈l->BiOk Tryz.prog sg x.1 x.2){f:Nat}{ar:List V}{r:V}(e:evB l f ar=some r)(ha:V.plL ar=true)(hr:r.pl=true):PTr Tryz.prog f ar r:=by
 have q:=bEy qok (bSi h) 100000 e;rw[<-aCt,aIv _ ha,bB2 _ hr]at q;exact q
def aXb(t:List UInt8)(r:V):List V->Option V
 | [.str s]=>if s.length=t.length then(if s=t then some r else none)else none
 | _=>none
theorem bOi{σ:Sy}{f:Nat}{t:List UInt8}{r:V}(h:PTr Tryz.prog f [.str t] (r.cz σ)):BiOk Tryz.prog σ f (aXb t r):=by
 intro ar v e;unfold aXb at e;split at e
 .split at e
  .split at e
   .rename_i q;subst q;cases e
    exact h
   .cases e
  .cases e
 .cases e
theorem aZn{σ:Sy}{f:Nat}{t:List UInt8}{r:V}(h:PTr Tryz.prog f [.str t] r)(hr:r.pl=true):BiOk Tryz.prog σ f (aXb t r):=bOi (by rw[bB2 r hr];exact h)
abbrev l1:=pbL
abbrev l1_ok:=bPw
end Go.Proofs.YtikmbicdjpkipaaGreatDoor
