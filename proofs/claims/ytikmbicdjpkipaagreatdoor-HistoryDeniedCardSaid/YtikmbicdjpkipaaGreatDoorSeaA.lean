/- What the statements of this seat share: the library's functions, the table of the code. No condition. -/
import Derived.Test.YtikmbicdjpkipaaGreatDoorRows
import Derived.Test.YtikmbicdjpkipaaGreatDoorFe
import Derived.Test.YtikmbicdjpkipaaGreatDoorShelf
import Derived.Test.YtikmbicdjpkipaaGreatDoorAbK4
import Derived.Test.YtikmbicdjpkipaaGreatDoorAbX9
import Derived.Test.YtikmbicdjpkipaaGreatDoorAbY1
import Derived.Test.YtikmbicdjpkipaaGreatDoorAbK5
import Derived.Test.YtikmbicdjpkipaaGreatDoorAbY9
import Derived.Test.YtikmbicdjpkipaaGreatDoorFns
import Derived.Shelf.Strings.SlTrimAscii
import Derived.Shelf.Strings.IndexAnyAll
import Derived.Shelf.Strings.FieldsFuncAny
import Derived.WalkKit
import Derived.ProofKit
import Derived.OpenShut
import Derived.JoinedCond
import Derived.HandedShaped
import Derived.Handed
import Derived.LaidMore
import Derived.LaidSub
import Derived.Lay
import Derived.Stop.Joined
import Derived.ChangeSame
set_option linter.unusedVariables false
namespace Go.Proofs
open Go.RowKit Go.Lib Go.Shelf
set_option maxHeartbeats 4000000 in
set_option maxRecDepth 100000 in
theorem isBl (w:World):PredAtRunes Tryz.prog 196 #[] (fun r=>decide (r=32)||decide (r=9)) w:=fun W r _ _=>by
 unfold FnGives
 by_cases h1:r=32 <;> by_cases h2:r=9
 all_goals
  have z1:(r:Int)=32↔r=32:=by omega
  have z2:(r:Int)=9↔r=9:=by omega
  go_enter Tryz.func196,Tryz.ntmps196
  go_wp2
  all_goals first | (exfalso; omega) | (go_ret; exact ⟨by simp [h1,h2,z1,z2],0,rfl⟩)
end Go.Proofs
namespace Go.Proofs.YtikmbicdjpkipaaGreatDoor
open Go.ChangeShapes Go.WideShapes Go.ChangeAt Go.RowKit Go.Ab Go.Lib
theorem own:ownKnob Tryz.prog.godebug=none:=by kernel_rfl
theorem laid:laidOutB Tryz.prog=true:=by kernel_rfl
def tset:List TypeId:=[30,3,4]
theorem closed:tset.all (okT Tryz.prog tset)=true:=by kernel_rfl
theorem ui:Tryz.prog.underlying 3=some (.int .i64):=by kernel_rfl
theorem ul:Tryz.prog.underlying 30=some (.slice 3):=by kernel_rfl
theorem ub:Tryz.prog.underlying 4=some .bool:=by kernel_rfl
theorem ci:Tryz.prog.cellsOf 3=1:=by kernel_rfl
theorem laid_callsX {H:Type} {enc:TypeId×Value→H} {C:Checked} {os:Os} {f:FuncId} {fn:Func} {s:ChangeSpec} {conds:List PathCond} {apart fresh handsOn again:Bool} {X:World→Prop}
 (own:ownKnob C.prog.godebug=none) (started:os.Started) (noInit:C.prog.inits.idxOf? f=none) (hfn:C.prog.funcs[f]?=some fn)
 (witness:∃ (w:World) (tape:Tape) (i:Input),w.os=os∧(w.forCall tape i).Shaped C.prog∧i.vars=[]∧Input.okWide C.prog (w.forCall tape i) .any w.heap.size f i ∧
  ((s.pre enc C.prog fn conds apart (w.forCall tape i).memory i.args∧X (w.forCall tape i).memory)∧sizedMet enc C.prog fn (OpenSpec.ofChange s) apart (w.forCall tape i).memory i.args)∧Assume.holds {} C.prog (lone (Frame.enter C.prog f i.args .normal) [] (w.forCall tape i)))
 (hX:∀ w w':World,w'.heap=w.heap→X w→X w')
 (contract:∀ (W:World) (base:Nat) (args:Array Value) (ds gs:List (DataW H)) (before:List MemPlace),
  (∀ (j:Nat) t v,fn.params[j]?=some t→args[j]?=some v→Value.okWide C.prog W .any base t v) →
  DataW.Whole enc C.prog fn.params.toList s.vars apart W args.toList ds gs before→W.ShapedOpen C.prog→X W →
  Calls C.prog f args W fun e W'=>∃ v,e=.returned v∧s.post enc C.prog fn apart fresh handsOn again W args v W') :
 ReturnsInHanded {} C os f .any (fun w args=>(s.pre enc C.prog fn conds apart w args∧X w)∧sizedMet enc C.prog fn (OpenSpec.ofChange s) apart w args) (s.post enc C.prog fn apart fresh handsOn again):=by
 refine returnsInHanded_of_calls own started noInit witness ?_
 intro w tape i _ hsh _ hok hpre hholds
 obtain ⟨_,_,_,fn',hfn',_,_,_,_,hval⟩:=hok
 have e:fn'=fn:=Option.some.inj (hfn'.symm.trans hfn)
 subst e
 obtain ⟨⟨⟨ds,gs,before,hw,hc⟩,hx⟩,hz⟩:=hpre
 have hw':=DataW.Whole.of_heap (w':=w.forCall tape i) (by rfl) hw
 refine (contract (w.forCall tape i) w.heap.size i.args ds gs before hval hw' hsh (hX _ _ (by rfl) hx)).mono fun e W' ⟨v,he,hp⟩=>?_
 subst he
 exact ChangeSpec.post_blind hp
theorem bGi {P:Program} {w:World} {n:String} {sp:Int} {s:List UInt8} {r:List (String×DataW Unit)} {ps:List MemPlace} (g t:Nat) {f0 f1:Field} (hg:P.globalNamed n=some g) (ht:(P.globals[g]?).map (·.type)=some t)
 (hu:P.underlying t=some (.struct #[f0,f1])) (h0:P.underlying f0.type=some (.int .i64)) (h1:P.underlying f1.type=some .string) (c0:P.cellsOf f0.type=1) (c1:P.cellsOf f1.type=1) (o0:f0.offset=0) (o1:f1.offset=1) (ct:P.cellsOf t=2)
 (h:DataW.LaidVars P w ((n,.agg [.lit (.int .i64 sp),.lit (.string s)])::r) ps) :
 (g<w.heap.size∧∀ j v,[Value.int .i64 sp,.string ⟨s.toArray⟩][j]?=some v→w.cell? ⟨g,j,none⟩=some v)∧∃ q,DataW.LaidVars P w r q:=by
 obtain ⟨g',t',cs,fuel,p,q,e1,e2,e3,e4,e5,_⟩:=h
 rw [hg] at e1; cases e1
 rw [ht] at e2; cases e2
 refine ⟨?_,q,e5⟩
 obtain ⟨y0,y1,m,hx,hl,t0,t1⟩:=trod_struct2 hu e4
 rw [ct] at hl
 rw [c0,o0] at t0
 rw [c1,o1] at t1
 obtain ⟨k,k1,rfl,_⟩:=DataW.trod_int h0 t0
 obtain ⟨z,z1,rfl,_⟩:=DataW.trod_string h1 t1
 simp only [Prod.mk.injEq,DataW.agg.injEq,List.cons.injEq,DataW.lit.injEq,Lit.int.injEq,Lit.string.injEq,true_and,and_true] at hx
 obtain ⟨⟨rfl,rfl⟩,_⟩:=hx
 unfold World.var? at e3
 rw [hg] at e3
 simp only [Option.bind_some] at e3
 split at e3
 ·rename_i cs' ty fr hh
  cases e3
  have hcs:cs.toList=[.int .i64 sp,.string z]:=by
   match hm:cs.toList,hl with
   | [a,b],_ =>
     rw [hm] at k1 z1
     simp at k1 z1
     rw [k1,z1]
  have hz:(⟨z.data.toList.toArray⟩:ByteArray)=z:=by cases z; simp
  refine ⟨(Array.getElem?_eq_some_iff.1 hh).1,fun j v hj=>?_⟩
  rw [hz,← hcs] at hj
  unfold World.cell?
  rw [hh]
  simpa using hj
 ·cases e3
noncomputable def fld (i:Nat):Field:=(match Tryz.prog.underlying 29 with
 | some (.struct fs)=>fs
 | _=>#[])[i]!
theorem pinw {w : World} {ps : List MemPlace} {a b : String × DataW Unit} (h : DataW.LaidVars Tryz.prog w [a, ("transclude/edit.rules", Rows.laid_transclude_edit_rules), ("transclude/history.rules", Rows.laid_transclude_history_rules), b] ps) : PinW w := by
 obtain ⟨_,_,_,_,_,q,_,_,_,_,h,_⟩:=h
 obtain ⟨h1,q,h⟩:=bGi 1 29 (f0:=fld 0) (f1:=fld 1) (by kernel_rfl) (by kernel_rfl) (by kernel_rfl) (by kernel_rfl) (by kernel_rfl) (by kernel_rfl) (by kernel_rfl) (by kernel_rfl) (by kernel_rfl) (by kernel_rfl) h
 obtain ⟨h0,q,h⟩:=bGi 0 29 (f0:=fld 0) (f1:=fld 1) (by kernel_rfl) (by kernel_rfl) (by kernel_rfl) (by kernel_rfl) (by kernel_rfl) (by kernel_rfl) (by kernel_rfl) (by kernel_rfl) (by kernel_rfl) (by kernel_rfl) h
 intro x vs hx
 by_cases e0:x=0
 ·subst e0
  cases hx
  exact h0
 ·by_cases e1:x=1
  ·subst e1
   cases hx
   exact h1
  ·have b0:(x==0)=false:=by simpa using e0
   have b1:(x==1)=false:=by simpa using e1
   simp only [aU0,pins,List.lookup,b0,b1] at hx
   cases hx
theorem gi2:gint Tryz.prog 2:=fun w h=>Tryz.laysM143.s1_3 w h
theorem aW8 (s:List UInt8) (l:List (List UInt8)) (hs:s.length≤1000) (h0:0<l.length) (hn:l.length<1000) (hl:∀ q,q∈l→q.length<2^63) (hf:goFieldsP (fun r=>decide (r=32)||decide (r=9)) ⟨s.toArray⟩=l.map fun q=>⟨q.toArray⟩):PTr Tryz.prog 195 [.str s,.fn 196 []] (.lst 1 (l.map .str)):=by
 intro D w vs hD hg hl2 hr
 obtain ⟨u,v,rfl,hu,hv⟩:=vs2 hl2 hr
 cases hu
 obtain ⟨ws,rfl,hwl,_⟩:=aLn hv
 have hws:ws=#[]:=Array.eq_empty_of_size_eq_zero (by simpa [V.czL] using hwl.symm)
 subst hws
 refine (Any.strings_FieldsFunc_runes Tryz.lays229 196 #[] (enters_of Tryz.func196 (by kernel_rfl) rfl) _ ⟨s.toArray⟩ w (by simp [ByteArray.size]; omega) (isBl w) (by kernel_rfl) (by kernel_rfl)).mono ?_
 rintro e w' ⟨A,rfl,hA,ho,hb⟩
 rw [hf] at ho ⊢
 refine ⟨_,rfl,hb,?_⟩
 have hlen:(l.map fun q=>(⟨q.toArray⟩:ByteArray)).length=(l.map V.str).length:=by simp
 have hln:(l.map V.str).length=l.length:=by simp
 rw [hlen] at ho ⊢
 have hc:∀ (i:Nat) (q:List UInt8),l[i]?=some q→w'.cell? ⟨A,i,none⟩=some (.string ⟨q.toArray⟩):=fun i q h=>by
  have hi:=(List.getElem?_eq_some_iff.1 h).1
  have:=World.ownsRow.cellAt ho i (by omega)
  simpa [h] using this
 have hlt:A<w'.heap.size:=by
  have hc0:=hc 0 l[0] (by simp [h0])
  unfold World.cell? at hc0
  split at hc0
  ·rename_i hh; exact (Array.getElem?_eq_some_iff.1 hh).1
  ·cases hc0
 have hx:∀ (i j:Nat) (c:V),(((l.map V.str)[i]?).bind fun e=>e.cells[j]?)=some c→∃ q,l[i]?=some q∧j=0∧c=.str q:=by
  intro i j c h
  cases hq:l[i]? with
  | none=>simp [hq] at h
  | some q =>
    simp only [List.getElem?_map,hq,Option.map_some,Option.bind_some,V.cells] at h
    match j,h with
    | 0,h=>simp at h; exact ⟨q,rfl,rfl,h.symm⟩
 refine .lst 1 _ _ _ A 0 (Nat.le_refl _) (by rw [hln]; omega) (fun _=>⟨rfl,hlt,fun h=>by have:=hD _ h; omega⟩) (fun e he=>?_) (fun i j c h=>?_) (fun i j c h=>?_)
 ·obtain ⟨q,_,rfl⟩:=List.mem_map.1 he; rfl
 ·obtain ⟨q,h1,rfl,rfl⟩:=hx i j c h
  rw [show 0+i*1+0=i by omega,hc i q h1]; rfl
 ·obtain ⟨q,h1,rfl,rfl⟩:=hx i j c h
  rw [show 0+i*1+0=i by omega,aCg,hc i q h1]
  exact .str _ (hl q (List.mem_of_getElem? h1))
def biFF:List V→Option V
 | [.str s,.fn f []]=>if f=196 then (if s=[97,110,110] then some (.lst 1 [.str [97,110,110]]) else if s=[98,111,98] then some (.lst 1 [.str [98,111,98]]) else if s=[97,110,110,32,64,109,111,114,101] then some (.lst 1 [.str [97,110,110],.str [64,109,111,114,101]]) else none) else none
 | _=>none
theorem bOc (σ:Sy):BiOk Tryz.prog σ 195 biFF:=by
 intro ar r e
 unfold biFF at e
 split at e
 ·rename_i s f
  split at e
  ·rename_i q
   subst q
   split at e
   ·rename_i q
    subst q; cases e
    exact aW8 _ [[97,110,110]] (by decide) (by decide) (by decide) (by decide) (by kernel_rfl)
   ·split at e
    ·rename_i q
     subst q; cases e
     exact aW8 _ [[98,111,98]] (by decide) (by decide) (by decide) (by decide) (by kernel_rfl)
    ·split at e
     ·rename_i q
      subst q; cases e
      exact aW8 _ [[97,110,110],[64,109,111,114,101]] (by decide) (by decide) (by decide) (by decide) (by kernel_rfl)
     ·cases e
  ·cases e
 ·cases e
def sg:Sy:=⟨fun _=>[],fun _=>[],fun _=>0⟩
def QQ:SyQ:=⟨0,0,0,fun _ _=>false,[]⟩
theorem qok:SyOk QQ sg:=⟨fun _ h=>absurd h (Nat.not_lt_zero _),fun _ h=>absurd h (Nat.not_lt_zero _),fun _ _ e=>(by cases e),fun _ _ _ e=>(by cases e)⟩
theorem zv (w:World):(zeroValue 292).run Tryz.prog w=.ok (.agg (Array.replicate 256 (.bool false))) w:=by kernel_rfl
def pbL:List (Nat×(List V→Option V)):=[(149,biIB),(193,biSS (okTr trimS) fun a b=>.str (trimS a b)),(194,biSS okA fun a b=>.int .i64 (indexAny a b)),(195,biFF),
 (151,biSS okS fun a b=>.tup [.str (cut a b).1,.str (cut a b).2.1,.bool (cut a b).2.2]),(153,biSS okS fun a b=>.str (trimSuffix a b)),(107,biOr aUe aU4),
 (281,biJoin),(205,biSS okA fun a b=>.bool (containsAny a b)),(250,biRep)]
theorem aWe:∀ x,x∈pbL→BiOk Tryz.prog sg x.1 x.2 :=
 List.forall_mem_cons.2 ⟨bLq fun s c w=>Tryz.strings_IndexByte s c w,
 List.forall_mem_cons.2 ⟨bD5 fun s c w h1 h2 h3=>Any.strings_Trim_laid Tryz.lays160 (by kernel_rfl) s c w h1 h2 h3,
 List.forall_mem_cons.2 ⟨bDp fun s c w h1 h2 h3 h4=>Any.strings_IndexAny Tryz.lays153 zv (by kernel_rfl) s c w (by omega) (by omega) h3 h4,
 List.forall_mem_cons.2 ⟨bOc _,
 List.forall_mem_cons.2 ⟨bG9 gi2 fun s p m w h1 h2=>Tryz.strings_Cut s p m w h1 h2,
 List.forall_mem_cons.2 ⟨bFn fun s p w h=>Tryz.strings_TrimSuffix s p w h,
 List.forall_mem_cons.2 ⟨bGg gi2 fun s p m w h1 h2 h3=>Tryz.strings_Split s p m w h1 h2 h3,
 List.forall_mem_cons.2 ⟨bD9 fun bk o c xs sep w h1 h2 h3 h4 h5=>Tryz.strings_Join bk o c xs sep w h1 h2 h3 h4 h5,
 List.forall_mem_cons.2 ⟨bDf fun s c w h1 h2 h3 h4=>Any.strings_ContainsAny Tryz.lays150 zv (by kernel_rfl) s c w (by omega) (by omega) h3 h4,
 List.forall_mem_cons.2 ⟨bG4 gi2 fun s a b m w h1 h2 h3 h4=>Tryz.strings_ReplaceAll s a b m w h1 h2 h3 h4,List.forall_mem_nil _⟩⟩⟩⟩⟩⟩⟩⟩⟩⟩
def tabQ:Nat→Option Ent:=(tabT tabL).get
theorem bEr:∀ x,x∈tabL→x.2.clo=true→aCd Tryz.prog x.1=true:=fun x hx=>by
 have h:(tabL.all fun x=>!x.2.clo||aCd Tryz.prog x.1)=true:=by kernel_rfl
 have:=List.all_eq_true.1 h x hx
 intro hc
 rw [hc] at this
 simpa using this
theorem bGe:∀ x,x∈tabL→x.2.c.pl=true:=fun x hx=>List.all_eq_true.1 (show (tabL.all fun x=>x.2.c.pl)=true by kernel_rfl) x hx
def ebN:Eb:=fun _ _ _ _=>none
theorem bK8 {l:List (Nat×(List V→Option V))} (h:∀ x,x∈l→BiOk Tryz.prog sg x.1 x.2):TabOkY Tryz.prog sg tabQ (pbG (pbT l)) ebN :=
 ⟨fun f e h=>bDb (f,e) (aHs h),fun f e h hc=>bEr (f,e) (aHs h) hc,fun f e h=>bGe (f,e) (aHs h),bGk h,fun f ar L nx v L' nx' h=>by cases h⟩
def evB (l:List (Nat×(List V→Option V))) (f:Nat) (ar:List V):Option V:=aLv tabQ (pbG (pbT l)) (runY QQ tabQ (pbG (pbT l)) ebN 100000 V) f ar
theorem evP {l:List (Nat×(List V→Option V))} (h:∀ x,x∈l→BiOk Tryz.prog sg x.1 x.2) {f:Nat} {ar:List V} {r:V} (e:evB l f ar=some r) (ha:V.plL ar=true) (hr:r.pl=true):PTr Tryz.prog f ar r:=by
 have q:=aZk qok (bK8 h) 100000 e
 rw [← aCn,aHd _ ha,aWu _ hr] at q
 exact q
def aSs (t:List UInt8) (r:V):List V→Option V
 | [.str s]=>if s.length=t.length then (if s=t then some r else none) else none
 | _=>none
theorem bF8 {σ:Sy} {f:Nat} {t:List UInt8} {r:V} (h:PTr Tryz.prog f [.str t] (r.cz σ)):BiOk Tryz.prog σ f (aSs t r):=by
 intro ar v e
 unfold aSs at e
 split at e
 ·split at e
  ·split at e
   ·rename_i q
    subst q
    cases e
    exact h
   ·cases e
  ·cases e
 ·cases e
theorem aO2 {σ:Sy} {f:Nat} {t:List UInt8} {r:V} (h:PTr Tryz.prog f [.str t] r) (hr:r.pl=true):BiOk Tryz.prog σ f (aSs t r):=bF8 (by rw [aWu r hr]; exact h)
theorem bKr:PTr Tryz.prog 253 [.str [65,47,67]] (.str [65,47,67]) :=
 t385 bO8 (fun L nx=>aZf gi2 (fun s p m w h1 h2 h3=>Tryz.strings_Split s p m w h1 h2 h3) 47 [65,47,67] [[65],[67]] (by decide) (by decide +kernel) (by decide) L nx)
  (evP aWe (show evB pbL 279 [.str [67],.str [32]]=some (.str [67]) by kernel_rfl) rfl rfl)
  (evP aWe (show evB pbL 280 [.str [65],.str [32]]=some (.str [65]) by kernel_rfl) rfl rfl)
  (aX4 (fun bk o c xs sep w h1 h2 h3 h4 h5=>Tryz.strings_Join bk o c xs sep w h1 h2 h3 h4 h5) (by decide +kernel) (by decide))
def l1:List (Nat×(List V→Option V)):=(253,aSs [65,47,67] (.str [65,47,67]))::pbL
theorem aAp:∀ x,x∈l1→BiOk Tryz.prog sg x.1 x.2:=List.forall_mem_cons.2 ⟨aO2 bKr rfl,aWe⟩
end Go.Proofs.YtikmbicdjpkipaaGreatDoor
