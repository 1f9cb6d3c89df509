import Derived.Test.YtikmbicdjpkipaaGreatDoorAbE2
import Derived.Lib.UnsafeStr
import Derived.Lib.Builder
import Derived.Laws.Externs
import Derived.MapKept
import Derived.WideKeyRuns
import Derived.Orders
open Option renaming isNone_iff_eq_none->xl,map_eq_some_iff->zm,map_some->zL,bind_some->zG,bind_eq_some_iff->yN
open Bool renaming and_eq_true->zc,or_eq_true->yH,false_eq_true->zK,not_eq_true'->zV,and_eq_false_iff->xa
open Option.some renaming injEq->za,inj->zq
open List renaming all_eq_true->zx,mem_of_mem_take->yE,mem_of_mem_drop->yo,map_congr_left->zt,mem_flatMap->yQ,mem_map->zQ,mem_singleton->zp,mem_cons->zD,not_mem_nil->xq,filterMap_cons->y5,mem_append_left->xf,mem_cons_of_mem->ya
open Nat renaming lt_or_ge->xk
open Array renaming getElem?_eq_getElem->ye
set_option linter.unusedSimpArgs false
set_option linter.unusedVariables false
namespace Go.Ab
open Go.RowKit
section
variable {P:Program} {D:Nat->Prop} {n:Nat} {hint:Nat->Nat} {s:St} {G:Ghost} {a:Act} {w:World} {o:Oper} {K:St->Prop} {next:Act->World->Prop} {Q:Exit->Act->World->Prop} {m:Option Nat}
theorem bI5(hd:aA5 n o.dst=true){op:BinOp}{t t' e:TypeId}{x y:Operand}{x' y':Src}(hx:opd n x=some x')(hy:opd n y=some y')(hop:op=.eql∨op=.neq)
 (ht:P.underlying t=some (.pointer e)) (he:(P.info? e).isSome=true) (ho:o.op=.binOp op t x y t'):aBc P D n o (.ptreq o.dst (op==.neq) x' y'):=λ_ _ _ _ _ _ _ h=>False.elim h
theorem bLx(hd:aA5 n o.dst=true){t u e:TypeId}{x:Operand}{x':Src}(hx:opd n x=some x')(ht:P.underlying t=some (.pointer e))(hu:P.underlying u=some .unsafePointer)(hz:(szOf P e).any (0<·)=true)(ho:o.op=.convert t u x):aBc P D n o (.touns o.dst x'):=λ_ _ _ _ _ _ _ h=>False.elim h
theorem bC6(hd:aA5 n o.dst=true){t u e:TypeId}{z:Nat}{x:Operand}{x':Src}(hx:opd n x=some x')(ht:P.underlying t=some .unsafePointer)(hu:P.underlying u=some (.pointer e))(hz:szOf P e=some z)
 (hl:liesAt P P.depth e (z / P.cellsOf e) 0 e 1=true) (ho:o.op=.convert t u x):aBc P D n o (.frouns o.dst e z x'):=λ_ _ _ _ _ _ _ h=>False.elim h
theorem bPc : aJ3 ≠ "runtime.NumGoroutine" := by
 have h : (aJ3 == "runtime.NumGoroutine") = false := by rfl
 grind
theorem aNh{fn:Func}(h:fn.name=aJ3):Extern.find fn=some Extern.AbiNoEscape.same:=by
 have h1:(Extern.allGenericRows.lookup aJ3).isNone=true:=by rfl
 have h2:(Extern.allTypedRows.lookup aJ3).isNone=true:=by rfl
 have h3:Extern.allRows.lookup aJ3=some Extern.AbiNoEscape.same:=by rfl
 have h1':=xl.1 h1;have h2':=xl.1 h2;simp[Extern.find,h,h1',h2',h3]
theorem aU3(hd:aA5 n o.dst=true){c:Call}{f:Nat}{x':Src}(hc:c.callee=.value (.func f))(hb:aMp P f=true)(hq:opds n c.args.toList=some [x'])(ho:o.op=.call c):aBc P D n o (.mov o.dst x'):=by
 intro s G a w K next Q h hg hn hfree
 unfold aMp at hb;split at hb
 .rename_i fn hf;simp only[zc,beq_iff_eq]at hb;obtain⟨⟨b1,b2⟩,b3⟩:=hb;obtain⟨l1,l2⟩:=aEd hg hq
  match hl:c.args.toList,l1 with
  | [x],_ =>
    rw[hl]at l2 hq;have rx:=l2 0 _ rfl;have ha:c.args=#[x]:=by grind
    refine aA1 hg hd hn (x:=s.ev x') (v:=a.eval x) ?_ (by grind) h;simp only[execOp,ho,resolve,hc,ha];have:=run_callFunc_extern (w:=w) hf (by simp[b2,bPc]) b1 (xl.1 b3) (aNh b2) #[a.eval x];rw[Lib.run_noEscape]at this;simp[Act.eval,Deferred.ofValue,invoke]at this ⊢;omega
 grind
theorem bMg(hd:aA5 n o.dst=true){c:Call}{x:Operand}{x':Src}(hx:opd n x=some x')(hc:c.callee=.builtin .unsafeSliceData)(ha:c.args.toList=[x])(ho:o.op=.call c):aBc P D n o (.sdata o.dst x'):=λ_ _ _ _ _ _ _ h=>False.elim h
theorem bQk(hd:aA5 n o.dst=true){c:Call}{x y:Operand}{x' y':Src}{pt it e:TypeId}(hq:opds n c.args.toList=some [x',y'])(ha:c.args.toList=[x,y])(hx:opd n x=some x')(hy:opd n y=some y')(hc:c.callee=.builtin .unsafeString)
 (hat:c.argTypes.toList=[pt,it]) (hp:P.underlying pt=some (.pointer e)) (he:P.cellsOf e=1) (ho:o.op=.call c):aBc P D n o (.ustr o.dst e x' y'):=λ_ _ _ _ _ _ _ h=>False.elim h
end
end Go.Ab
namespace Go.Ab
open Go.RowKit
section
variable {P:Program} {D:Nat->Prop} {n:Nat} {hint:Nat->Nat} {s:St} {G:Ghost} {a:Act} {w:World} {o:Oper} {K:St->Prop} {next:Act->World->Prop} {Q:Exit->Act->World->Prop} {m:Option Nat}
theorem bRz{d:Nat}(hd:d<n)(hdst:o.dst=some d){t kt et:TypeId}(hu:P.underlying t=some (.map kt et))(ho:o.op=.makeMap t none):aBc P D n o (.mkm d):=λ_ _ _ _ _ _ _ h=>False.elim h
theorem bO8(hd:aA5 n o.dst=true){t:TypeId}{ag:Bool}{ks:List Nat}{z:V}{x k:Operand}{x' k':Src}{c:Bool}(hx:opd n x=some x')(hk:opd n k=some k')(hm:aWh P t=some (ag,ks,z))(ho:o.op=.lookup t x k c):aBc P D n o (.mget o.dst ag ks z c x' k'):=λ_ _ _ _ _ _ _ h=>False.elim h
theorem bOo{t:TypeId}{ag:Bool}{ks:List Nat}{z:V}{x k v:Operand}{x' k' v':Src}(hx:opd n x=some x')(hk:opd n k=some k')(hv:opd n v=some v')(hm:aWh P t=some (ag,ks,z))(hdst:o.dst=none)(ho:o.op=.mapUpdate t x k v):aBc P D n o (.mput ag ks x' k' v'):=λ_ _ _ _ _ _ _ h=>False.elim h
theorem bO0(hd:aA5 n o.dst=true){t:TypeId}{ag:Bool}{ks:List Nat}{z:V}{x k:Operand}{x' k':Src}(hx:opd n x=some x')(hk:opd n k=some k')(hm:aWh P t=some (ag,ks,z))(ho:o.op=.mapEntry t x k):aBc P D n o (.ment o.dst ag ks z x' k'):=λ_ _ _ _ _ _ _ h=>False.elim h
theorem bVd{t:TypeId}{x k v:Operand}{x' k' v':Src}(hx:opd n x=some x')(hk:opd n k=some k')(hv:opd n v=some v')(hdst:o.dst=none)(ho:o.op=.entryStore t x k v):aBc P D n o (.mst x' k' v'):=λ_ _ _ _ _ _ _ h=>False.elim h
end
end Go.Ab
namespace Go.Ab
open Go.RowKit
theorem bC3{P:Program}{d:Option Nat}{sz:Nat}{ag:Bool}{x:Src}{s:St}{K:St->Prop}(h:aAf P (.ldo d sz ag x) s K):aAf P (.load d false sz ag x) s K:=by
 simp only[aAf]at h ⊢;grind
theorem bDo{P:Program}{d:Option Nat}{sz:Nat}{ag:Bool}{x:Src}{b:Nat}{s:St}{K:St->Prop}(h:aAf P (.ldr d sz ag x b) s K):aAf P (.load d false sz ag x) s K:=by
 simp only[aAf]at h ⊢;grind
theorem bH5{P:Program}{d ty sz:Nat}{x y:Src}{s:St}{K:St->Prop}(h:aAf P (.apq d ty sz x y) s K):aAf P (.app d ty sz x y) s K:=by
 simp only[aAf]at h ⊢;refine .inr ?_;simp only[aCn];generalize s.ev x=v at h ⊢;generalize s.ev y=u at h ⊢;cases v with
 | own id sz' off n =>
   simp only at h ⊢;generalize s.L id=b at h ⊢
   match b,u,h with
   | some (.vec _ _ es),.lst _ ys,h=>exact⟨h.1,h.2.1,h.2.2.1,h.2.2.2.1,h.2.2.2.2.1,h.2.2.2.2.2⟩
 | _=>grind
section
variable {P:Program} {D:Nat->Prop} {n:Nat} {hint:Nat->Nat} {s:St} {G:Ghost} {a:Act} {w:World} {o:Oper} {K:St->Prop} {next:Act->World->Prop} {Q:Exit->Act->World->Prop} {m:Option Nat}
theorem aCi{d:Nat}(hd:aA5 n o.dst=true)(h:o.dst=some d):d<n:=by
 rw[h]at hd;simpa[aA5]using hd
theorem bJ8{i:I}(hd:aA5 n o.dst=true){op:BinOp}{t t':TypeId}{x y:Operand}(hop:o.op=.binOp op t x y t')(h:lowI P n hint o=some i):aBc P D n o i:=by
 simp only[lowI,hop]at h;split at h
 .rename_i p q hx hy;split at h
  .rename_i he;simp only[yH,beq_iff_eq]at he;split at h
   .simp only[za]at h;subst h;exact bJl hd hx hy hop
   .simp only[za]at h;subst h;exact bJl hd hx hy hop
   .rename_i hu;simp only[za]at h;subst h;exact bU2 hd hx hy he hu hop
   .rename_i e hu;split at h
    .simp only[za]at h;subst h;exact bFo hd hx he hu hop
    .split at h
     .rename_i hj;simp only[za]at h;subst h;exact bI5 hd hx hy he hu hj hop
     grind
   .rename_i e hu;split at h
    .simp only[za]at h;subst h;exact bCj hd hx he hu hop
    grind
   .rename_i k e hu;split at h
    .simp only[za]at h;subst h;exact bFx hd hx he hu hop
    grind
   .rename_i fs hu;split at h
    .grind
    .rename_i hgd;obtain⟨ks,hk,rfl⟩:=zm.1 h;exact bQ4 hd hx hy he hu hk (by grind) hop
   grind
  .simp only[za]at h;subst h;exact bJl hd hx hy hop
 grind
theorem bEz{l:List Operand}(h:opds n l=some []):l=[]:=by
 cases l with
 | nil=>rfl
 | cons p r=>simp only[opds]at h;grind
theorem aKz{l:List Operand}{x:Src}{r:List Src}(h:opds n l=some (x::r)):∃p q,l=p::q∧opd n p=some x∧opds n q=some r:=by
 cases l with
 | nil=>simp[opds]at h
 | cons p q=>simp only[opds]at h;grind
theorem aJi{l:List Operand}{x y:Src}(h:opds n l=some [x,y]):∃p q,l=[p,q]∧opd n p=some x∧opd n q=some y:=by
 obtain⟨p,r,rfl,h1,h2⟩:=aKz h;obtain⟨q,r2,rfl,h3,h4⟩:=aKz h2;obtain rfl:=bEz h4;grind
theorem aLw{l:List Operand}{x y z:Src}(h:opds n l=some [x,y,z]):∃p q r,l=[p,q,r]∧opd n p=some x∧opd n q=some y∧opd n r=some z:=by
 obtain⟨p,r,rfl,h1,h2⟩:=aKz h;obtain⟨q,r2,rfl,h3,h4⟩:=aJi h2;grind
theorem bCq{i:I}(hd:aA5 n o.dst=true){c:Call}(hop:o.op=.call c)(h:lowI P n hint o=some i):aBc P D n o i:=by
 simp only[lowI,hop]at h;split at h
 .rename_i f hc;split at h
  .rename_i hb;obtain⟨qs,hq,rfl⟩:=zm.1 h;cases hf:(!o.dst.any λd=>decide (hint d=3))
   .exact bLs hd hc hb hq hop
   .exact bJv hd hc hb hq hop
  .split at h
   .rename_i hb;split at h
    .rename_i x hq;simp only[za]at h;subst h;exact aU3 hd hc hb hq hop
    grind
   grind
 .rename_i t hc;split at h
  .rename_i ht;obtain⟨qs,hq,rfl⟩:=zm.1 h;exact bLg hd hc ht hq hop
  grind
 .rename_i hc;split at h
  .rename_i x ha;obtain⟨y,hy,rfl⟩:=zm.1 h;exact bMg hd hy hc ha hop
  grind
 .rename_i hc;split at h
  .rename_i x y pt it hq hat;split at h
   .rename_i e hu;split at h
    .rename_i he;simp only[za]at h;subst h;obtain⟨p,q,ha,hp,hq'⟩:=aJi hq;exact bQk hd hq ha hp hq' hc hat hu he hop
    grind
   grind
  grind
 .rename_i hc;split at h
  .rename_i x ha hat;obtain⟨y,hy,rfl⟩:=zm.1 h;exact bNi hd hy hc ha hat hop
  .rename_i x e ha hat;obtain⟨y,hy,rfl⟩:=zm.1 h;exact bOa hd hy hc ha hat hop
  grind
 .rename_i hc;split at h
  .rename_i x y t u d ha hat hdst;split at h
   .rename_i e x' y' he hx hy;split at h
    .rename_i z zs ti hz hzs hti;split at h
     .rename_i hcond;simp only[zc,decide_eq_true_eq]at hcond;obtain⟨⟨⟨c1,c2⟩,c3⟩,c4⟩:=hcond;obtain⟨zv,⟨i2,hi2,hz2⟩,_,hrep⟩:=aDw hzs (λ_=>none) (λ_=>True) default;obtain rfl:ti=i2:=zq (hti.symm.trans hi2);have hsz:ti.size=z:=by
       simp only[szOf,hti,zL,za]at hz;exact hz
      let T:AppT P c z:={
       t:=t,u:=u,e:=e,i:=ti,zv:=zv
       ht:=by grind
       hu:=aD2 he
       hi:=hti
       hz:=hsz
       hzero:=hz2
       hzs:=by rw[<-hrep.1];exact c1
       hpos:=c2
       hby:=c3
       hnu:=by unfold aXk at c4;grind }
      split at h
      .split at h
       .rw[za]at h;subst h;exact bM5 (aCi hd hdst) hdst T hx hy hc ha hop
       grind
      .split at h
       .rw[za]at h;subst h;exact λs G a w K next Q hh hg hn hf=>bMe (P:=P) (D:=D) (aCi hd hdst) hdst T hx hy hc ha hop s G a w K next Q (bH5 hh) hg hn hf
       .rw[za]at h;subst h;exact bMe (aCi hd hdst) hdst T hx hy hc ha hop
     grind
    grind
   grind
  grind
 .rename_i hc;split at h
  .rename_i x y hq;simp only[za]at h;subst h;have:=aJi hq;obtain⟨p,q,ha,hp,hq'⟩:=this;exact s_mx hd hp hq' hc ha hop
  .rename_i x y z hq;simp only[za]at h;subst h;obtain⟨p,q,r,ha,hp,hq',hr⟩:=aLw hq;exact bPd hd hp hq' hr hc ha hop
  grind
 .rename_i hc;split at h
  .rename_i x y hq;simp only[za]at h;subst h;obtain⟨p,q,ha,hp,hq'⟩:=aJi hq;exact s_mx hd hp hq' hc ha hop
  .rename_i x y z hq;simp only[za]at h;subst h;obtain⟨p,q,r,ha,hp,hq',hr⟩:=aLw hq;exact bPd hd hp hq' hr hc ha hop
  grind
 grind
theorem aVp{i:I}(hd:aA5 n o.dst=true)(h:lowI P n hint o=some i):aBc P D n o i:=by
 cases hop:o.op
 case binOp op t x y t'=>exact bJ8 hd hop h
 case call c=>exact bCq hd hop h
 case slice t x lo hi mx =>
  cases mx with
  | some m=>simp[lowI,hop]at h
  | none =>
    simp only[lowI,hop]at h;split at h
    .rename_i x' lo' hi' h1 h2 h3;split at h
     .rename_i hu;simp only[za]at h;subst h;exact bNm hd h1 h2 h3 hu hop
     .rename_i e hu;obtain⟨z,hz,rfl⟩:=zm.1 h;exact bV2 hd h1 h2 h3 hu hz hop
     grind
    grind
 case makeMap t r =>
  cases r with
  | some r=>simp[lowI,hop]at h
  | none =>
    simp only[lowI,hop]at h;split at h
    .rename_i d k e hdst hu;simp only[za]at h;subst h;exact bRz (aCi hd hdst) hdst hu hop
    grind
 case makeFunc f first captured =>
  cases f with
  | func f =>
    simp only[lowI,hop]at h;split at h
    .rename_i h1;obtain⟨qs,hq,rfl⟩:=zm.1 h;exact bMl hd h1 hq hop
    grind
  | _=>simp[lowI,hop]at h
 all_goals simp only[lowI,hop]at h
 all_goals try (simp at h;done)
 case move x=>obtain⟨y,hy,rfl⟩:=zm.1 h;exact bMo hd x hy (.inl hop)
 case assign x=>obtain⟨y,hy,rfl⟩:=zm.1 h;exact bMo hd x hy (.inr hop)
 case pick c x y =>
  split at h
  .rename_i h1 h2 h3;simp only[za]at h;subst h;exact bNq hd h1 h2 h3 hop
  grind
 case alloc e =>
  split at h
  .rename_i d z h1 h2;simp only[za]at h;subst h;exact bI4 (aCi hd h1) h1 h2 hop
  grind
 case box e x =>
  split at h
  .rename_i d z h1 h2;simp only[za]at h;subst h;exact bRm (aCi hd h1) h1 h2 hop
  grind
 case build t parts =>
  split at h
  .rename_i z ps h1 h2;split at h
   .rename_i hc;simp only[za]at h;subst h;simp only[zc]at hc;exact bL9 hd h1 h2 hc.1 hc.2 hop
   grind
  grind
 case makeSlice t len cap =>
  split at h
  .rename_i d e i m c hdst he hi hl hc;split at h
   .rename_i hcond;simp only[zc,decide_eq_true_eq]at hcond;obtain⟨⟨c1,c2⟩,c3⟩:=hcond;simp only[za]at h;subst h;subst c1;rw[he,zG]at hi;exact bTi (aCi hd hdst) hdst (aD2 he) hi c2 c3 hl hc hop
   split at h
   .rename_i hcond;simp only[zc,decide_eq_true_eq]at hcond;obtain⟨⟨⟨⟨⟨c1,c2⟩,c3⟩,c4⟩,c5⟩,c6⟩:=hcond;simp only[za]at h;subst h;obtain rfl:=aZ0 c6;rw[he,zG]at hi;exact bWb (aCi hd hdst) hdst (aD2 he) hi c1 c2 (bCf c3) c4 c5 hl hop
   grind
  grind
 case buildSlice t len parts =>
  split at h
  .rename_i z xs h1 h2;split at h
   .rename_i hc;simp only[zc,decide_eq_true_eq]at hc;obtain⟨⟨⟨c1,c2⟩,c3⟩,c4⟩:=hc;obtain⟨e,he,hz⟩:=yN.1 h1;have hzero:∃zs,aEv P e=some zs∧zs.length=z:=by
     rw[he,zG]at c4;cases hzo:aEv P e with
     | none=>grind
     | some zs=>grind
    split at h
    .rename_i d hdst;split at h
     .rw[he,zL,za]at h;subst h;exact bQq (aCi hd hdst) hdst (aD2 he) hz h2 c1 c2 c3 hzero hop
     .simp only[za]at h;subst h;rw[<-hdst];exact bWa hd (aD2 he) hz h2 c1 c2 c3 hzero hop
    grind
   grind
  grind
 case load t x =>
  split at h
  .rename_i z ag y h1 h2 h3;split at h
   .rename_i hc;split at h
    .simp only[za]at h;subst h;exact λs G a w K next Q hh hg hn hf=>aZs (P:=P) (D:=D) (c:=false) hd h3 h1 h2 (by grind) hop s G a w K next Q (bDo hh) hg hn hf
    split at h
    .simp only[za]at h;subst h;exact λs G a w K next Q hh hg hn hf=>aZs (P:=P) (D:=D) (c:=false) hd h3 h1 h2 (by grind) hop s G a w K next Q (bC3 hh) hg hn hf
    .simp only[za]at h;subst h;exact aZs hd h3 h1 h2 (by grind) hop
   grind
  grind
 case store t x v =>
  split at h
  .rename_i z x' v' h1 h2 h3;split at h
   .rename_i hc;have all:∀nw,aBc P D n o (.stq nw z x' v'):=λ_ _ _ _ _ _ _ _ h=>False.elim h;have plain:=bMh (P:=P) (D:=D) h2 h3 h1 hc hop;grind
   grind
  grind
 case nilCheck x=>obtain⟨y,hy,rfl⟩:=zm.1 h;exact bOz hd hy hop
 case unOp op t x=>obtain⟨y,hy,rfl⟩:=zm.1 h;exact s_un hd hy hop
 case convert t u x =>
  split at h
  .rename_i h1 h2 h3;split at h
   .rename_i hz;simp only[za]at h;subst h;exact bLx hd h3 h1 h2 hz hop
   grind
  .rename_i h1 h2 h3;split at h
   .rename_i z hz;split at h
    .rename_i hc;simp only[za]at h;subst h;simp only[zc]at hc;exact bC6 hd h3 h1 h2 hz hc.2 hop
    grind
   grind
  .rename_i h1 h2 h3;simp only[za]at h;subst h;exact bVp hd h3 h1 h2 hop
  .rename_i h1 h2 h3;simp only[za]at h;subst h;exact bSb hd h3 h1 h2 hop
  .rename_i e y h1 h2 h3;split at h
   .rename_i d he hdst;simp only[za]at h;subst h;exact bVa (aCi hd hdst) hdst h1 h2 he h3 hop
   grind
  .rename_i e y h1 h2 h3;split at h
   .rename_i he;simp only[za]at h;subst h;exact bV8 hd h1 h2 he h3 hop
   grind
  grind
 case fieldAddr t x f =>
  split at h
  .rename_i fd y h1 h2;split at h
   .rename_i hc;simp only[za]at h;subst h;cases hz:szOf P fd.type with
    | none=>grind
    | some z=>rw[hz]at hc;exact bNe hd h2 h1 hz (by grind) hop
   grind
  grind
 case field t x f =>
  split at h
  .rename_i fd y h1 h2;split at h
   .rename_i z ag h3 h4;split at h
    .rename_i hc;simp only[za]at h;subst h;exact bMf hd h2 h1 h3 h4 (by grind) hop
    grind
   grind
  grind
 case indexAddr t x i =>
  split at h
  .rename_i x' i' h1 h2;split at h
   .rename_i e hu;obtain⟨z,hz,h⟩:=yN.1 h;split at h
    .rename_i hc;simp only[za]at h;subst h;exact bOg hd h1 h2 hu hz hc hop
    grind
   .rename_i m e hu;obtain⟨z,hz,rfl⟩:=zm.1 h;exact bKt hd h1 h2 hu hz hop
   grind
  grind
 case index t x i =>
  split at h
  .rename_i x' i' h1 h2;split at h
   .rename_i hu;simp only[za]at h;subst h;exact bVl hd h1 h2 hu hop
   .rename_i m e hu;split at h
    .rename_i z ag h3 h4;split at h
     .rename_i hc;simp only[za]at h;subst h;exact bM1 hd h1 h2 hu h3 h4 (by grind) hop
     grind
    grind
   grind
  grind
 case lookup t x k c =>
  split at h
  .rename_i x' k' ag ks z h1 h2 h3;simp only[za]at h;subst h;exact bO8 hd h1 h2 h3 hop
  grind
 case mapUpdate t x k v =>
  split at h
  .rename_i x' k' v' ag ks z h1 h2 h3 h4;split at h
   .rename_i hdst;simp only[za]at h;subst h;exact bOo h1 h2 h3 h4 hdst hop
   grind
  grind
 case mapEntry t x k =>
  split at h
  .rename_i x' k' ag ks z h1 h2 h3;simp only[za]at h;subst h;exact bO0 hd h1 h2 h3 hop
  grind
 case entryStore t x k v =>
  split at h
  .rename_i x' k' v' h1 h2 h3;split at h
   .rename_i hdst;simp only[za]at h;subst h;exact bVd h1 h2 h3 hdst hop
   grind
  grind
 case extract x i=>obtain⟨y,hy,rfl⟩:=zm.1 h;exact bVw hd hy hop
end
end Go.Ab
namespace Go.Ab
open Go.RowKit
mutual
def V.fit(F:Nat->Prop):V->Prop
 | .junk=>True
 | .bool _=>True
 | .int _ _=>True
 | .str _=>True
 | .nilp=>True
 | .nils=>True
 | .ptr id _=>F id
 | .eptr id _ _=>F id
 | .cptr cs=>V.fits F cs
 | .lst _ es=>V.fits F es
 | .own id _ _ _=>F id
 | .agg cs=>V.fits F cs
 | .tup cs=>V.fits F cs
 | .fn _ cs=>V.fits F cs
 | .map id=>F id
 | .nilm=>True
 | .raw _=>True
def V.fits(F:Nat->Prop):List V->Prop
 | []=>True
 | x::r=>x.fit F∧V.fits F r
end
theorem aBa(F:Nat->Prop)(l:List V):V.fits F l↔∀x,x∈l->x.fit F:=by
 induction l with
 | nil=>simp[V.fits]
 | cons y r ih=>simp[V.fits,ih]
mutual
theorem aHl{F F':Nat->Prop}(hF:∀i,F i->F' i):∀{x:V},x.fit F->x.fit F'
 | .junk,_=>by simp[V.fit]
 | .bool _,_=>by simp[V.fit]
 | .int _ _,_=>by simp[V.fit]
 | .str _,_=>by simp[V.fit]
 | .nilp,_=>by simp[V.fit]
 | .nils,_=>by simp[V.fit]
 | .ptr _ _,h=>by simp only[V.fit]at h ⊢;grind
 | .eptr _ _ _,h=>by simp only[V.fit]at h ⊢;grind
 | .cptr cs,h=>by simp only[V.fit]at h ⊢;exact aBq hF h
 | .lst _ cs,h=>by simp only[V.fit]at h ⊢;exact aBq hF h
 | .own _ _ _ _,h=>by simp only[V.fit]at h ⊢;grind
 | .agg cs,h=>by simp only[V.fit]at h ⊢;exact aBq hF h
 | .tup cs,h=>by simp only[V.fit]at h ⊢;exact aBq hF h
 | .fn _ cs,h=>by simp only[V.fit]at h ⊢;exact aBq hF h
 | .map _,h=>by simp only[V.fit]at h ⊢;grind
 | .nilm,_=>by simp[V.fit]
 | .raw _,_=>by simp[V.fit]
theorem aBq{F F':Nat->Prop}(hF:∀i,F i->F' i):∀{l:List V},V.fits F l->V.fits F' l
 | [],_=>by simp[V.fits]
 | x::r,h=>by simp only[V.fits]at h ⊢;exact⟨aHl hF h.1,aBq hF h.2⟩
end
mutual
theorem aG3(F:Nat->Prop):∀{x:V},x.imm=true->x.fit F
 | .junk,_=>by simp[V.fit]
 | .bool _,_=>by simp[V.fit]
 | .int _ _,_=>by simp[V.fit]
 | .str _,_=>by simp[V.fit]
 | .nilp,_=>by simp[V.fit]
 | .nils,_=>by simp[V.fit]
 | .ptr _ _,h=>by simp[V.imm]at h
 | .eptr _ _ _,h=>by simp[V.imm]at h
 | .cptr cs,h=>by simp only[V.imm,V.fit]at h ⊢;exact aDe F h
 | .lst _ cs,h=>by simp only[V.imm,V.fit]at h ⊢;exact aDe F h
 | .own _ _ _ _,h=>by simp[V.imm]at h
 | .agg cs,h=>by simp only[V.imm,V.fit]at h ⊢;exact aDe F h
 | .tup cs,h=>by simp only[V.imm,V.fit]at h ⊢;exact aDe F h
 | .fn _ cs,h=>by simp only[V.imm,V.fit]at h ⊢;exact aDe F h
 | .map _,h=>by simp[V.imm]at h
 | .nilm,_=>by simp[V.fit]
 | .raw _,_=>by simp[V.fit]
theorem aDe(F:Nat->Prop):∀{l:List V},V.imms l=true->V.fits F l
 | [],_=>by simp[V.fits]
 | x::r,h=>by simp only[V.imms,zc]at h;simp only[V.fits];exact⟨aG3 F h.1,aDe F h.2⟩
end
theorem aPa{x:V}(h:x.flat1=true):x.imm=true:=by cases x<;>simp[V.flat1]at h<;>rfl
theorem aT1{x:V}(h:x.flat=true):x.imm=true:=by
 cases x<;>simp only[V.flat]at h<;>first
  | exact aPa h
  | (simp only[V.imm];exact aSc λy hy=>aPa (zx.1 h y hy))
def Blk.fit(F:Nat->Prop):Blk->Prop
 | .box _ cs=>V.fits F cs
 | .vec _ _ es=>V.fits F es
 | _=>True
structure SFit(F:Nat->Prop)(s:St):Prop where
 env:∀t,(s.env t).fit F
 blk:∀id b,s.L id=some b->F id∧b.fit F
def updL(L:Heap):List (Nat×Option Blk)->Heap
 | []=>L
 | (id,b)::r=>updL (upd L id b) r
def aEp(e:Nat->V):Option Nat->V->Nat->V
 | some d,v=>upd e d v
 | none,_=>e
def St.chg(s:St)(δ:List (Nat×Option Blk))(d:Option Nat)(v:V):St:=⟨aEp s.env d v,updL s.L δ,s.nx⟩
theorem aIr(s:St)(d:Option Nat)(v:V):s.chg [] d v=s.setO d v:=by cases d<;>rfl
theorem aJm{F:Nat->Prop}{l:List V}(h:V.fits F l)(i:Nat):(l.getD i .junk).fit F:=by
 rcases xk i l.length with hi|hi
 .have:l.getD i .junk∈l:=by grind
  exact(aBa F l).1 h _ this
 .simp[List.getD,List.getElem?_eq_none hi,V.fit]
theorem aBz{F:Nat->Prop}{l:List V}(h:V.fits F l)(k:Nat):V.fits F (l.take k):=(aBa F _).2 λx hx=>(aBa F l).1 h x (yE hx)
theorem aB1{F:Nat->Prop}{l:List V}(h:V.fits F l)(k:Nat):V.fits F (l.drop k):=(aBa F _).2 λx hx=>(aBa F l).1 h x (yo hx)
theorem aE9{F:Nat->Prop}{l r:List V}(h:V.fits F l)(k:V.fits F r):V.fits F (l++r):=(aBa F _).2 λx hx=>(List.mem_append.1 hx).elim ((aBa F l).1 h x) ((aBa F r).1 k x)
theorem aDz{F:Nat->Prop}{x:V}(h:x.fit F):V.fits F x.cells:=by
 cases x<;>simp only[V.cells,V.fits,and_true]<;>first|exact h|(simp only[V.fit]at h;exact h)
theorem aFb{F:Nat->Prop}{l:List V}(ag:Bool)(h:V.fits F l):(pack ag l).fit F:=by
 cases ag
 .simp only[pack,zK,if_false];cases l with
  | nil=>simp[V.fit]
  | cons x r=>exact h.1
 .simpa only[pack,if_true,V.fit]using h
theorem aIq{F:Nat->Prop}{z l:List V}(k:Nat)(h:V.fits F z)(h':V.fits F l):V.fits F (aB3 z k l):=aE9 (aE9 (aBz h k) h') (aB1 h _)
theorem aUy{F:Nat->Prop}{x:V}{l:List V}(h:V.fits F l):(x.recell l).fit F:=by
 cases x<;>simp only[V.recell]<;>first
  | (simp only[V.fit];exact h)
  | (cases l with
     | nil=>simp[V.fit]
     | cons y r=>exact h.1)
theorem bE6{F:Nat->Prop}{l:List V}{x:V}(k:Nat)(h:V.fits F l)(h':x.fit F):V.fits F (l.set k x):=(aBa F _).2 λy hy=>(List.mem_or_eq_of_mem_set hy).elim ((aBa F l).1 h y) λe=>e▸h'
theorem bGy{F:Nat->Prop}{s:St}(h:SFit F s){x:Src}(hx:bGf x=true):(s.ev x).fit F:=by
 cases x with
 | t n=>exact h.env n
 | k v=>exact aG3 F hx
def bF8(Fr:Nat->Prop)(s:St):Prop:=∀id b,Fr id->s.L id=some b->b.fit Fr
theorem aLs{F:Nat->Prop}{s:St}(h:bF8 F s){L2:Heap}(hL:∀id,F id->L2 id=s.L id):∀(k:Nat) {x:V},x.fit F->view L2 k x=view s.L k x:=by
 intro k;induction k with
 | zero=>intro x hx;rfl
 | succ k ih =>
   intro x hx;cases x with
   | own id sz off len =>
     simp only[V.fit]at hx;simp only[view,hL id hx];cases hb:s.L id with
     | none=>rfl
     | some b =>
       cases b with
       | vec ty0 sz' es =>
         simp only;have:((es.drop off).take len).map (view L2 k)=((es.drop off).take len).map (view s.L k):=zt λy hy=>ih ((aBa F es).1 (h _ _ hx hb) y (yo (yE hy)))
         grind
       | _=>rfl
   | ptr id o =>
     simp only[V.fit]at hx;simp only[view,hL id hx];cases hb:s.L id with
     | none=>rfl
     | some b =>
       cases b with
       | box ty cs =>
         simp only;have:(cs.drop o).map (view L2 k)=(cs.drop o).map (view s.L k):=zt λy hy=>ih ((aBa F cs).1 (h _ _ hx hb) y (yo hy))
         grind
       | _=>rfl
   | fn f cs=>simp only[V.fit]at hx;simp only[view];rw[zt λy hy=>ih ((aBa F cs).1 hx y hy)]
   | agg cs=>simp only[V.fit]at hx;simp only[view];rw[zt λy hy=>ih ((aBa F cs).1 hx y hy)]
   | tup cs=>simp only[V.fit]at hx;simp only[view];rw[zt λy hy=>ih ((aBa F cs).1 hx y hy)]
   | _=>rfl
theorem aSt{F F':Nat->Prop}(hF:∀i,F i->F' i):∀(δ:List (Nat×Option Blk)) (L:Heap),(∀id b,L id=some b->F' id∧b.fit F')->(∀p,p∈δ->∀b,p.2=some b->F' p.1∧b.fit F')->∀id b,updL L δ id=some b->F' id∧b.fit F'
 | [],L,h,_=>h
 | (i,x)::r,L,h,hd=>by
   refine aSt hF r (upd L i x) (λid b hb=>?_) (λp hp=>hd p (by grind));by_cases e:id=i
   .subst e;rw[aAe]at hb;simp_all
   .rw[aAc _ _ _ _ e]at hb;grind
theorem bD8{F F':Nat->Prop}(hF:∀i,F i->F' i){b:Blk}(h:b.fit F):b.fit F':=by
 cases b<;>simp only[Blk.fit]at h ⊢<;>exact aBq hF h
theorem aB5{F F':Nat->Prop}{s:St}(h:SFit F s)(hF:∀i,F i->F' i){δ:List (Nat×Option Blk)}{d:Option Nat}{v:V}(hv:v.fit F')(hd:∀p,p∈δ->∀b,p.2=some b->F' p.1∧b.fit F'):SFit F' (s.chg δ d v):=by
 refine⟨λt=>?_,aSt hF δ s.L (λid b hb=>⟨hF _ (h.blk id b hb).1,bD8 hF (h.blk id b hb).2⟩) hd⟩;cases d with
 | none=>exact aHl hF (h.env t)
 | some d =>
   simp only[St.chg,aEp,upd];split
   .exact hv
   .exact aHl hF (h.env t)
structure Agree(i:I)(s s2:St):Prop where
 env:∀t,t∈i.reads->s2.env t=s.env t
 nx:1<=i.rank->s2.nx=s.nx
 L:i.rank=0∨i.rank=2∨(i.rank=1∧∃Fr,(∀x,x∈i.srcs->(s.ev x).fit Fr)∧bF8 Fr s∧∀id,Fr id->s2.L id=s.L id)∨s2.L=s.L
section
variable {P:Program} {i:I} {s:St} {F F':Nat->Prop} {K1:St->Prop}
def Loc(P:Program)(i:I)(s:St)(F':Nat->Prop)(K1:St->Prop):Prop:=
 ∃δ v,K1 (s.chg δ i.dst v)∧(∀s2,Agree i s s2->∀K2:St->Prop,K2 (s2.chg δ i.dst v)->aAf P i s2 K2)∧SFit F' (s.chg δ i.dst v)∧(i.rank<=1->δ=[])∧(i.rank=2->∃d b,i.mk=some d∧δ=[(s.nx+d,b)])
theorem aAz(hf:SFit F s)(hF:∀i,F i->F' i)(hr:i.rank≠2){v:V}(h1:K1 (s.setO i.dst v))(hv:v.fit F)(h2:∀s2,Agree i s s2->∀K2:St->Prop,K2 (s2.setO i.dst v)->aAf P i s2 K2):Loc P i s F' K1:=
 ⟨[],v,by rw[aIr];exact h1,λs2 ag K2 hk=>h2 s2 ag K2 (by rwa[aIr]at hk),aB5 hf hF (aHl hF hv) (by simp),λ_=>rfl,λh=>absurd h hr⟩
theorem bOk{s2:St}(ag:Agree i s s2){x:Src}(hx:x∈i.srcs):s2.ev x=s.ev x:=by
 cases x with
 | k v=>rfl
 | t n=>exact ag.env n (yQ.2 ⟨.t n,hx,by simp[srcT]⟩)
theorem bD3{op:BinOp}{k:IntKind}{a b:Int}{K:V->Prop}(h:vint op k a b K):∃v:V,v.imm=true∧K v∧∀K':V->Prop,K' v->vint op k a b K':=by
 cases op<;>simp only[vint]at h<;>first
  | exact⟨_,rfl,h,λK' h=>h⟩
  | exact⟨_,rfl,h.2,λK' h'=>⟨h.1,h'⟩⟩
  | exact h.elim
theorem bFq{op:BinOp}{a b:List UInt8}{K:V->Prop}(h:vstr op a b K):∃v:V,v.imm=true∧K v∧∀K':V->Prop,K' v->vstr op a b K':=by
 cases op<;>simp only[vstr]at h<;>first
  | exact⟨_,rfl,h,λK' h=>h⟩
  | exact⟨_,rfl,h.2,λK' h'=>⟨h.1,h'⟩⟩
  | exact h.elim
theorem aMt{op:BinOp}{x y:V}{K:V->Prop}(h:vbin op x y K):∃v:V,v.imm=true∧K v∧∀K':V->Prop,K' v->vbin op x y K':=by
 unfold vbin at h ⊢;split at h
 .obtain⟨v,h1,h2,h3⟩:=bD3 h.2;grind
 .obtain⟨v,h1,h2,h3⟩:=bFq h;grind
 grind
theorem aQm{op:UnOp}{x:V}{K:V->Prop}(h:vun op x K):∃v:V,v.imm=true∧K v∧∀K':V->Prop,K' v->vun op x K':=by
 unfold vun at h ⊢;split at h
 .exact⟨_,rfl,h,λK' hk=>hk⟩
 .exact⟨_,rfl,h,λK' hk=>hk⟩
 grind
theorem aDd{o:Option V}{d:Nat}{K:Nat->Prop}(h:aBo o d K):∃k,K k∧∀K':Nat->Prop,K' k->aBo o d K':=by
 unfold aBo at h ⊢;grind
theorem aTr{s2:St}(ag:Agree i s s2){x:Option Src}(hx:∀y,x=some y->y∈i.srcs):x.map s2.ev=x.map s.ev:=by
 cases x with
 | none=>rfl
 | some y=>simp[bOk ag (hx y rfl)]
theorem aJ0{sz:Nat}{y:V}{K:List V->Prop}(hf:SFit F s)(hy:y.fit F)(h:aAt sz s.L y K):∃ys,V.fits F ys∧K ys∧∀K':List V->Prop,K' ys->aAt sz s.L y K':=by
 unfold aAt at h ⊢;split at h
 .exact⟨[],by simp[V.fits],h,λK' hk=>hk⟩
 .exact⟨_,by simpa only[V.fit]using hy,h.2,λK' hk=>⟨h.1,hk⟩⟩
 .split at h
  .rename_i hL;exact⟨_,aBz (aB1 (hf.blk _ _ hL).2 _) _,h.2.2,λK' hk=>⟨h.1,h.2.1,hk⟩⟩
  grind
 .rename_i t;refine⟨_,?_,h.2,λK' hk=>⟨h.1,hk⟩⟩;exact(aBa F _).2 λx hx=>by obtain⟨b,_,rfl⟩:=zQ.1 hx;simp[V.fit]
 grind
theorem loc(hr4:i.rank≠4)(hc:i.constOk=true)(hf:SFit F s)(hF:∀id,F id->F' id)(hmk:∀d,i.mk=some d->F' (s.nx+d))(h:aAf P i s K1):Loc P i s F' K1:=by
 have ev:∀{s2:St},Agree i s s2->∀{x:Src},x∈i.srcs->s2.ev x=s.ev x:=λag _ hx=>bOk ag hx;have fit:∀{x:Src},x∈i.srcs->(s.ev x).fit F:=λ{x} hx=>bGy hf (by simp only[I.constOk,zc]at hc;grind)
 cases i with
 | ecall d n f args=>exact absurd rfl hr4
 | ecr d n f args b=>exact absurd rfl hr4
 | vcall d n x args=>exact absurd rfl hr4
 | clos d f caps =>
   have e1:∀s2,Agree (I.clos d f caps) s s2->∀p,p∈caps->s2.ev p=s.ev p:=λs2 ag p hp=>ev ag (by simpa only[I.srcs]using hp);have f1:∀p,p∈caps->(s.ev p).fit F:=λp hp=>fit (by simpa only[I.srcs]using hp);have e2:∀s2,Agree (I.clos d f caps) s s2->caps.map s2.ev=caps.map s.ev:=λs2 ag=>zt (e1 s2 ag);simp only[aAf]at h;refine aAz hf hF (by simp[I.rank]) h (by simp only[V.fit];exact(aBa F _).2 λx hx=>by grind) λs2 ag K2 hk=>?_
   simp only[aAf,e2 s2 ag];exact hk
 | mov d x=>refine aAz hf hF (by simp[I.rank]) h (fit (by simp[I.srcs])) λs2 ag K2 hk=>?_;simp only[aAf,ev ag (show x∈(I.mov d x).srcs by simp[I.srcs])];exact hk
 | pick d c x y =>
   have e1:=λ(s2:St) (ag:Agree _ s s2)=>ev ag (show c∈(I.pick d c x y).srcs by simp[I.srcs]);have e2:=λ(s2:St) (ag:Agree _ s s2)=>ev ag (show x∈(I.pick d c x y).srcs by simp[I.srcs]);have e3:=λ(s2:St) (ag:Agree _ s s2)=>ev ag (show y∈(I.pick d c x y).srcs by simp[I.srcs]);have f2:=fit (show x∈(I.pick d c x y).srcs by simp[I.srcs]);have f3:=fit (show y∈(I.pick d c x y).srcs by simp[I.srcs]);simp only[aAf]at h;split at h
   .rename_i t ht;refine aAz hf hF (by simp[I.rank]) h (by grind) λs2 ag K2 hk=>?_;simp only[aAf,e1 s2 ag,e2 s2 ag,e3 s2 ag,ht];exact hk
   grind
 | bin d op x y=>have e1:=λ(s2:St) (ag:Agree _ s s2)=>ev ag (show x∈(I.bin d op x y).srcs by simp[I.srcs]);have e2:=λ(s2:St) (ag:Agree _ s s2)=>ev ag (show y∈(I.bin d op x y).srcs by simp[I.srcs]);obtain⟨v,h1,h2,h3⟩:=aMt (show vbin op (s.ev x) (s.ev y) (λv=>K1 (s.setO d v))from h);exact aAz hf hF (by simp[I.rank]) h2 (aG3 F h1) λs2 ag K2 hk=>by simp only[aAf,e1 s2 ag,e2 s2 ag];exact h3 _ hk
 | eqA d neg ks x y =>
   have e1:=λ(s2:St) (ag:Agree _ s s2)=>ev ag (show x∈(I.eqA d neg ks x y).srcs by simp[I.srcs]);have e2:=λ(s2:St) (ag:Agree _ s s2)=>ev ag (show y∈(I.eqA d neg ks x y).srcs by simp[I.srcs]);simp only[aAf]at h;split at h
   .rename_i p q hp hq;obtain⟨t,h1,h2⟩:=h;exact aAz hf hF (by simp[I.rank]) h2 (by simp[V.fit]) λs2 ag K2 hk=>by simp only[aAf,e1 s2 ag,e2 s2 ag,hp,hq];exact⟨t,h1,hk⟩
   grind
 | eqB d neg x y =>
   have e1:=λ(s2:St) (ag:Agree _ s s2)=>ev ag (show x∈(I.eqB d neg x y).srcs by simp[I.srcs]);have e2:=λ(s2:St) (ag:Agree _ s s2)=>ev ag (show y∈(I.eqB d neg x y).srcs by simp[I.srcs]);simp only[aAf]at h;split at h
   .rename_i p q hp hq;exact aAz hf hF (by simp[I.rank]) h (by simp[V.fit]) λs2 ag K2 hk=>by simp only[aAf,e1 s2 ag,e2 s2 ag,hp,hq];exact hk
   grind
 | isnil d neg kd x =>
   have e1:=λ(s2:St) (ag:Agree _ s s2)=>ev ag (show x∈(I.isnil d neg kd x).srcs by simp[I.srcs]);simp only[aAf]at h;split at h<;>first
    | exact h.elim
    | (rename_i hx;exact aAz hf hF (by simp[I.rank]) h (by simp[V.fit]) λs2 ag K2 hk=>by simp only[aAf,e1 s2 ag,hx];exact hk)
    | (rename_i hx;exact aAz hf hF (by simp[I.rank]) h.2 (by simp[V.fit]) λs2 ag K2 hk=>by simp only[aAf,e1 s2 ag,hx];exact⟨h.1,hk⟩)
 | un d op x=>have e1:=λ(s2:St) (ag:Agree _ s s2)=>ev ag (show x∈(I.un d op x).srcs by simp[I.srcs]);obtain⟨v,h1,h2,h3⟩:=aQm (show vun op (s.ev x) (λv=>K1 (s.setO d v))from h);exact aAz hf hF (by simp[I.rank]) h2 (aG3 F h1) λs2 ag K2 hk=>by simp only[aAf,e1 s2 ag];exact h3 _ hk
 | cvt d k x =>
   have e1:=λ(s2:St) (ag:Agree _ s s2)=>ev ag (show x∈(I.cvt d k x).srcs by simp[I.srcs]);simp only[aAf]at h;split at h
   .rename_i hx;exact aAz hf hF (by simp[I.rank]) h (by simp[V.fit]) λs2 ag K2 hk=>by simp only[aAf,e1 s2 ag,hx];exact hk
   grind
 | cvs=>exact False.elim h
 | build d zero parts =>
   have e1:∀s2,Agree (I.build d zero parts) s s2->∀p,p∈parts->s2.ev p.2.2=s.ev p.2.2:=λs2 ag p hp=>ev ag (by simp only[I.srcs];grind);have f1:∀p,p∈parts->(s.ev p.2.2).fit F:=λp hp=>fit (by simp only[I.srcs];grind);simp only[I.constOk,zc]at hc;simp only[aAf]at h;have hz:=aDe F hc.2;have hfit:∀(ps:List (Nat×Nat×Src)) (z:List V),(∀p,p∈ps->(s.ev p.2.2).fit F)->V.fits F z->V.fits F (ps.foldl (λcs p=>aB3 cs p.1 (s.ev p.2.2).cells) z):=by
    intro ps;induction ps with
    | nil=>simp
    | cons p r ih=>intro z hp hz;exact ih _ (λq hq=>hp q (by grind)) (aIq _ hz (aDz (hp p (by simp))))
   have heq:∀(s2:St) (ps:List (Nat×Nat×Src)) (z:List V),(∀p,p∈ps->s2.ev p.2.2=s.ev p.2.2)->ps.foldl (λcs p=>aB3 cs p.1 (s2.ev p.2.2).cells) z=ps.foldl (λcs p=>aB3 cs p.1 (s.ev p.2.2).cells) z:=by
    intro s2 ps;induction ps with
    | nil=>simp
    | cons p r ih=>grind
   refine aAz hf hF (by simp[I.rank]) h.2 (by simp only[V.fit];grind) λs2 ag K2 hk=>?_;simp only[aAf,heq s2 parts zero (e1 s2 ag)];exact⟨λp hp=>by grind,hk⟩
 | field d off sz ag x =>
   have e1:=λ(s2:St) (agr:Agree _ s s2)=>ev agr (show x∈(I.field d off sz ag x).srcs by simp[I.srcs]);have f1:=fit (show x∈(I.field d off sz ag x).srcs by simp[I.srcs]);simp only[aAf]at h;split at h
   .rename_i cs hx;rw[hx]at f1;simp only[V.fit]at f1;exact aAz hf hF (by simp[I.rank]) h.2 (aFb ag (aBz (aB1 f1 _) _)) λs2 agr K2 hk=>by simp only[aAf,e1 s2 agr,hx];exact⟨h.1,hk⟩
   grind
 | ext d j x =>
   have e1:=λ(s2:St) (ag:Agree _ s s2)=>ev ag (show x∈(I.ext d j x).srcs by simp[I.srcs]);have f1:=fit (show x∈(I.ext d j x).srcs by simp[I.srcs]);simp only[aAf]at h;split at h
   .rename_i cs hx;rw[hx]at f1;simp only[V.fit]at f1;exact aAz hf hF (by simp[I.rank]) h.2 (aJm f1 j) λs2 ag K2 hk=>by simp only[aAf,e1 s2 ag,hx];exact⟨h.1,hk⟩
   grind
 | idx d x y =>
   have e1:=λ(s2:St) (ag:Agree _ s s2)=>ev ag (show x∈(I.idx d x y).srcs by simp[I.srcs]);have e2:=λ(s2:St) (ag:Agree _ s s2)=>ev ag (show y∈(I.idx d x y).srcs by simp[I.srcs]);simp only[aAf]at h;split at h
   .rename_i hx hy;exact aAz hf hF (by simp[I.rank]) h.2.2 (by simp[V.fit]) λs2 ag K2 hk=>by simp only[aAf,e1 s2 ag,e2 s2 ag,hx,hy];exact⟨h.1,h.2.1,hk⟩
   grind
 | idxA d m sz ag x y =>
   have e1:=λ(s2:St) (agr:Agree _ s s2)=>ev agr (show x∈(I.idxA d m sz ag x y).srcs by simp[I.srcs]);have e2:=λ(s2:St) (agr:Agree _ s s2)=>ev agr (show y∈(I.idxA d m sz ag x y).srcs by simp[I.srcs]);have f1:=fit (show x∈(I.idxA d m sz ag x y).srcs by simp[I.srcs]);simp only[aAf]at h;split at h
   .rename_i hx hy;rw[hx]at f1;simp only[V.fit]at f1;exact aAz hf hF (by simp[I.rank]) h.2.2.2 (aFb ag (aBz (aB1 f1 _) _)) λs2 agr K2 hk=>by simp only[aAf,e1 s2 agr,e2 s2 agr,hx,hy];exact⟨h.1,h.2.1,h.2.2.1,hk⟩
   grind
 | slcS d x lo hi =>
   have e1:=λ(s2:St) (ag:Agree _ s s2)=>ev ag (show x∈(I.slcS d x lo hi).srcs by simp[I.srcs]);have e2:=λ(s2:St) (ag:Agree (I.slcS d x lo hi) s s2)=>aTr ag (x:=lo) (λy hy=>by subst hy;simp[I.srcs]);have e3:=λ(s2:St) (ag:Agree (I.slcS d x lo hi) s s2)=>aTr ag (x:=hi) (λy hy=>by subst hy;simp[I.srcs]);simp only[aAf]at h;split at h
   .rename_i hx;obtain⟨l,h1,b1⟩:=aDd h;obtain⟨u,h2,b2⟩:=aDd h1;exact aAz hf hF (by simp[I.rank]) h2.2.2 (by simp[V.fit]) λs2 ag K2 hk=>by simp only[aAf,e1 s2 ag,e2 s2 ag,e3 s2 ag,hx];exact b1 _ (b2 _ ⟨h2.1,h2.2.1,hk⟩)
   grind
 | slc d sz x lo hi =>
   have e1:=λ(s2:St) (ag:Agree _ s s2)=>ev ag (show x∈(I.slc d sz x lo hi).srcs by simp[I.srcs]);have f1:=fit (show x∈(I.slc d sz x lo hi).srcs by simp[I.srcs]);have e2:=λ(s2:St) (ag:Agree (I.slc d sz x lo hi) s s2)=>aTr ag (x:=lo) (λy hy=>by subst hy;simp[I.srcs]);have e3:=λ(s2:St) (ag:Agree (I.slc d sz x lo hi) s s2)=>aTr ag (x:=hi) (λy hy=>by subst hy;simp[I.srcs]);simp only[aAf]at h;split at h
   .rename_i hx;obtain⟨l,h1,b1⟩:=aDd h;obtain⟨u,h2,b2⟩:=aDd h1;exact aAz hf hF (by simp[I.rank]) h2.2.2 (by grind) λs2 ag K2 hk=>by simp only[aAf,e1 s2 ag,e2 s2 ag,e3 s2 ag,hx];exact b1 _ (b2 _ ⟨h2.1,h2.2.1,hk⟩)
   .rename_i hx;rw[hx]at f1;simp only[V.fit]at f1;obtain⟨l,h1,b1⟩:=aDd h.2;obtain⟨u,h2,b2⟩:=aDd h1;exact aAz hf hF (by simp[I.rank]) h2.2.2 (by simp only[V.fit];exact aB1 (aBz f1 _) _) λs2 ag K2 hk=>by simp only[aAf,e1 s2 ag,e2 s2 ag,e3 s2 ag,hx];exact⟨h.1,b1 _ (b2 _ ⟨h2.1,h2.2.1,hk⟩)⟩
   .rename_i hx;rw[hx]at f1;simp only[V.fit]at f1;obtain⟨l,h1,b1⟩:=aDd h.2;obtain⟨u,h2,b2⟩:=aDd h1;exact aAz hf hF (by simp[I.rank]) h2.2.2 (by simp only[V.fit];exact f1) λs2 ag K2 hk=>by simp only[aAf,e1 s2 ag,e2 s2 ag,e3 s2 ag,hx];exact⟨h.1,b1 _ (b2 _ ⟨h2.1,h2.2.1,hk⟩)⟩
   grind
 | len d st x =>
   have e1:=λ(s2:St) (ag:Agree _ s s2)=>ev ag (show x∈(I.len d st x).srcs by simp[I.srcs]);simp only[aAf]at h;split at h<;>first
    | exact h.elim
    | (rename_i hx;exact aAz hf hF (by simp[I.rank]) h (by simp[V.fit]) λs2 ag K2 hk=>by simp only[aAf,e1 s2 ag,hx];exact hk)
 | fadr d off x =>
   have e1:=λ(s2:St) (ag:Agree _ s s2)=>ev ag (show x∈(I.fadr d off x).srcs by simp[I.srcs]);have f1:=fit (show x∈(I.fadr d off x).srcs by simp[I.srcs]);simp only[aAf]at h;split at h<;>first
    | exact h.elim
    | (rename_i hx;rw[hx]at f1;simp only[V.fit]at f1
       exact aAz hf hF (by simp[I.rank]) h (by simp only[V.fit];first|exact f1|exact aB1 f1 _) λs2 ag K2 hk=>by simp only[aAf,e1 s2 ag,hx];exact hk)
 | iadr d sz x y =>
   have e1:=λ(s2:St) (ag:Agree _ s s2)=>ev ag (show x∈(I.iadr d sz x y).srcs by simp[I.srcs]);have e2:=λ(s2:St) (ag:Agree _ s s2)=>ev ag (show y∈(I.iadr d sz x y).srcs by simp[I.srcs]);have f1:=fit (show x∈(I.iadr d sz x y).srcs by simp[I.srcs]);simp only[aAf]at h;split at h
   .rename_i hx hy;rw[hx]at f1;simp only[V.fit]at f1;exact aAz hf hF (by simp[I.rank]) h.2.2.2 (by simp only[V.fit];exact aDz (aJm f1 _)) λs2 ag K2 hk=>by simp only[aAf,e1 s2 ag,e2 s2 ag,hx,hy];exact⟨h.1,h.2.1,h.2.2.1,hk⟩
   .rename_i hx hy;rw[hx]at f1;simp only[V.fit]at f1;exact aAz hf hF (by simp[I.rank]) h.2.2.2 (by simp only[V.fit];exact f1) λs2 ag K2 hk=>by simp only[aAf,e1 s2 ag,e2 s2 ag,hx,hy];exact⟨h.1,h.2.1,h.2.2.1,hk⟩
   grind
 | iadrA=>exact False.elim h
 | nchk d x =>
   have e1:=λ(s2:St) (ag:Agree _ s s2)=>ev ag (show x∈(I.nchk d x).srcs by simp[I.srcs]);have f1:=fit (show x∈(I.nchk d x).srcs by simp[I.srcs]);simp only[aAf]at h;split at h<;>first
    | exact h.elim
    | (rename_i hx;rw[hx]at f1
       exact aAz hf hF (by simp[I.rank]) h f1 λs2 ag K2 hk=>by simp only[aAf,e1 s2 ag,hx];exact hk)
 | load d c sz ag x =>
   have e1:=λ(s2:St) (agr:Agree _ s s2)=>ev agr (show x∈(I.load d c sz ag x).srcs by simp[I.srcs]);have f1:=fit (show x∈(I.load d c sz ag x).srcs by simp[I.srcs]);have hL':c=false->∀s2,Agree (I.load d c sz ag x) s s2->∀id,(∀Fr:Nat->Prop,(s.ev x).fit Fr->Fr id)->s2.L id=s.L id:=by
    intro hcf s2 agr id hid;subst hcf;rcases agr.L with h|h|⟨h,Fr,h1,h2,h3⟩|h
    .simp[I.rank]at h
    .simp[I.rank]at h
    .exact h3 id (hid Fr (h1 x (by simp[I.srcs])))
    grind
   simp only[aAf]at h;split at h
   .rename_i cs hx;rw[hx]at f1;simp only[V.fit]at f1;exact aAz hf hF (by simp only[I.rank];grind) h.2 (aFb ag (aBz f1 _)) λs2 agr K2 hk=>by simp only[aAf,e1 s2 agr,hx];exact⟨h.1,hk⟩
   .rename_i id off hx;rw[hx]at f1;simp only[V.fit]at f1;split at h
    .rename_i cs hb;have hb2:=λs2 agr=>(hL' h.1 s2 agr _ (λFr hfr=>by rw[hx]at hfr;simpa only[V.fit]using hfr)).trans hb;exact aAz hf hF (by simp only[I.rank];grind) h.2.2 (aFb ag (aBz (aB1 (hf.blk _ _ hb).2 _) _)) λs2 agr K2 hk=>by simp only[aAf,e1 s2 agr,hx,hb2 s2 agr];exact⟨h.1,h.2.1,hk⟩
    grind
   .rename_i id i j hx;rw[hx]at f1;simp only[V.fit]at f1;split at h
    .rename_i ty0 sz' es hb;have hb2:=λs2 agr=>(hL' h.1 s2 agr _ (λFr hfr=>by rw[hx]at hfr;simpa only[V.fit]using hfr)).trans hb;exact aAz hf hF (by simp only[I.rank];grind) h.2.2.2 (aFb ag (aBz (aB1 (aDz (aJm (hf.blk _ _ hb).2 _)) _) _)) λs2 agr K2 hk=>by simp only[aAf,e1 s2 agr,hx,hb2 s2 agr];exact⟨h.1,h.2.1,h.2.2.1,hk⟩
    grind
   grind
 | store sz x y =>
   have e1:=λ(s2:St) (ag:Agree _ s s2)=>ev ag (show x∈(I.store sz x y).srcs by simp[I.srcs]);have e2:=λ(s2:St) (ag:Agree _ s s2)=>ev ag (show y∈(I.store sz x y).srcs by simp[I.srcs]);have f1:=fit (show x∈(I.store sz x y).srcs by simp[I.srcs]);have f2:=fit (show y∈(I.store sz x y).srcs by simp[I.srcs]);have hL':∀s2,Agree (I.store sz x y) s s2->s2.L=s.L:=λs2 ag=>by
    rcases ag.L with h|h|h|h
    .simp[I.rank]at h
    .simp[I.rank]at h
    .simp[I.rank]at h
    omega
   simp only[aAf]at h;split at h
   .rename_i id off hx;rw[hx]at f1;simp only[V.fit]at f1;split at h
    .rename_i ty0 cs hb;have hb2:∀s2,Agree (I.store sz x y) s s2->s2.L id=some (.box ty0 cs):=λs2 ag=>by grind
     refine⟨[(id,some (.box ty0 (aB3 cs off (s.ev y).cells)))],.junk,h.2.2,λs2 ag K2 hk=>?_,aB5 hf hF (by simp[V.fit]) (λp hp b hpb=>?_),λhr=>by simp[I.rank]at hr,λhr=>by simp[I.rank]at hr⟩
     .simp only[aAf,e1 s2 ag,e2 s2 ag,hx,hb2 s2 ag];exact⟨h.1,h.2.1,hk⟩
     .simp only[zp]at hp;subst hp;simp only[za]at hpb;subst hpb;exact⟨hF _ f1,by simp only[Blk.fit];exact aBq hF (aIq _ (hf.blk _ _ hb).2 (aDz f2))⟩
    grind
   .rename_i id i j hx;rw[hx]at f1;simp only[V.fit]at f1;split at h
    .rename_i ty0 sz' es hb;have hb2:∀s2,Agree (I.store sz x y) s s2->s2.L id=some (.vec ty0 sz' es):=λs2 ag=>by grind
     have hes:V.fits F es:=(hf.blk _ _ hb).2;refine⟨[(id,some (.vec ty0 sz' (es.set i ((es.getD i .junk).recell (aB3 (es.getD i .junk).cells j (s.ev y).cells)))))],.junk,h.2.2.2,λs2 ag K2 hk=>?_,aB5 hf hF (by simp[V.fit]) (λp hp b hpb=>?_),λhr=>by simp[I.rank]at hr,λhr=>by simp[I.rank]at hr⟩
     .simp only[aAf,e1 s2 ag,e2 s2 ag,hx,hb2 s2 ag];exact⟨h.1,h.2.1,h.2.2.1,hk⟩
     .simp only[zp]at hp;subst hp;simp only[za]at hpb;subst hpb;exact⟨hF _ f1,by simp only[Blk.fit];exact aBq hF (bE6 _ hes (aUy (aIq _ (aDz (aJm hes _)) (aDz f2))))⟩
    grind
   grind
 | stq=>exact False.elim h
 | mkm=>exact False.elim h
 | mget=>exact False.elim h
 | mput=>exact False.elim h
 | ment=>exact False.elim h
 | mst=>exact False.elim h
 | alloc d ty zero =>
   simp only[I.constOk,zc]at hc;have hm:=hmk d rfl;refine⟨[(s.nx+d,some (.box ty zero))],.ptr (s.nx+d) 0,h,λs2 ag K2 hk=>?_,aB5 hf hF (by simp only[V.fit];exact hm) (λp hp b hpb=>?_),λhr=>by simp[I.rank]at hr,λ_=>⟨d,_,rfl,rfl⟩⟩
   .simp only[aAf,ag.nx (by simp[I.rank])];exact(by simpa only[St.chg,St.add,St.set,updL,aEp,I.dst,ag.nx (by simp[I.rank])]using hk)
   .simp only[zp]at hp;subst hp;simp only[za]at hpb;subst hpb;exact⟨hm,by simp only[Blk.fit];exact aDe F' hc.2⟩
 | mkz=>exact False.elim h
 | box d ty x =>
   have e1:=λ(s2:St) (ag:Agree _ s s2)=>ev ag (show x∈(I.box d ty x).srcs by simp[I.srcs]);have f1:=fit (show x∈(I.box d ty x).srcs by simp[I.srcs]);have hm:=hmk d rfl;simp only[aAf]at h;refine⟨[(s.nx+d,some (.box ty (s.ev x).cells))],.ptr (s.nx+d) 0,h.2,λs2 ag K2 hk=>?_,aB5 hf hF (by simp only[V.fit];exact hm) (λp hp b hpb=>?_),λhr=>by simp[I.rank]at hr,λ_=>⟨d,_,rfl,rfl⟩⟩
   .simp only[aAf,ag.nx (by simp[I.rank]),e1 s2 ag];exact⟨h.1,by simpa only[St.chg,St.add,St.set,updL,aEp,I.dst,ag.nx (by simp[I.rank])]using hk⟩
   .simp only[zp]at hp;subst hp;simp only[za]at hpb;subst hpb;exact⟨hm,by simp only[Blk.fit];exact aBq hF (aDz f1)⟩
 | mkl d sz parts =>
   have e1:∀s2,Agree (I.mkl d sz parts) s s2->∀p,p∈parts->s2.ev p=s.ev p:=λs2 ag p hp=>ev ag (by simpa only[I.srcs]using hp);have f1:∀p,p∈parts->(s.ev p).fit F:=λp hp=>fit (by simpa only[I.srcs]using hp);have e2:∀s2,Agree (I.mkl d sz parts) s s2->parts.map s2.ev=parts.map s.ev:=λs2 ag=>zt (e1 s2 ag);simp only[aAf]at h;refine aAz hf hF (by simp[I.rank]) h.2 (by simp only[V.fit];exact(aBa F _).2 λx hx=>by grind) λs2 ag K2 hk=>?_
   simp only[aAf,e2 s2 ag];exact⟨λp hp=>by grind,hk⟩
 | mkv d ty sz parts =>
   have e1:∀s2,Agree (I.mkv d ty sz parts) s s2->∀p,p∈parts->s2.ev p=s.ev p:=λs2 ag p hp=>ev ag (by simpa only[I.srcs]using hp);have f1:∀p,p∈parts->(s.ev p).fit F:=λp hp=>fit (by simpa only[I.srcs]using hp);have e2:∀s2,Agree (I.mkv d ty sz parts) s s2->parts.map s2.ev=parts.map s.ev:=λs2 ag=>zt (e1 s2 ag);have hm:=hmk d rfl;simp only[aAf]at h;refine⟨[(s.nx+d,some (.vec ty sz (parts.map s.ev)))],.own (s.nx+d) sz 0 parts.length,h.2,λs2 ag K2 hk=>?_,aB5 hf hF (by simp only[V.fit];exact hm) (λp hp b hpb=>?_),λhr=>by simp[I.rank]at hr,λ_=>⟨d,_,rfl,rfl⟩⟩
   .simp only[aAf,ag.nx (by simp[I.rank]),e2 s2 ag];exact⟨λp hp=>by grind,by simpa only[St.chg,St.add,St.set,updL,aEp,I.dst,ag.nx (by simp[I.rank])]using hk⟩
   .simp only[zp]at hp;subst hp;simp only[za]at hpb;subst hpb;exact⟨hm,by simp only[Blk.fit];exact(aBa F' _).2 λx hx=>by obtain⟨p,hp,rfl⟩:=zQ.1 hx;exact aHl hF (f1 p hp)⟩
 | mk0 d ty sz x =>
   have e1:=λ(s2:St) (ag:Agree _ s s2)=>ev ag (show x∈(I.mk0 d ty sz x).srcs by simp[I.srcs]);have hm:=hmk d rfl;simp only[aAf]at h;split at h
   .rename_i m hev;refine⟨[(s.nx+d,some (.vec ty sz []))],.own (s.nx+d) sz 0 0,h.2.2,λs2 ag K2 hk=>?_,aB5 hf hF (by simp only[V.fit];exact hm) (λp hp b hpb=>?_),λhr=>by simp[I.rank]at hr,λ_=>⟨d,_,rfl,rfl⟩⟩
    .simp only[aAf,ag.nx (by simp[I.rank]),e1 s2 ag,hev];exact⟨h.1,h.2.1,by simpa only[St.chg,St.add,St.set,updL,aEp,I.dst,ag.nx (by simp[I.rank])]using hk⟩
    .simp only[zp]at hp;subst hp;simp only[za]at hpb;subst hpb;exact⟨hm,by simp only[Blk.fit];exact(aBa F' _).2 λx hx=>by grind⟩
   grind
 | appl d ty sz x =>
   have e1:=λ(s2:St) (ag:Agree _ s s2)=>ev ag (show x∈(I.appl d ty sz x).srcs by simp[I.srcs]);have f1:=fit (show x∈(I.appl d ty sz x).srcs by simp[I.srcs]);have hm:=hmk d rfl;simp only[aAf]at h;split at h
   .rename_i hev;refine⟨[(s.nx+d,some (.vec ty sz []))],.own (s.nx+d) sz 0 0,h,λs2 ag K2 hk=>?_,aB5 hf hF (by simp only[V.fit];exact hm) (λp hp b hpb=>?_),λhr=>by simp[I.rank]at hr,λ_=>⟨d,_,rfl,rfl⟩⟩
    .simp only[aAf,ag.nx (by simp[I.rank]),e1 s2 ag,hev];exact(by simpa only[St.chg,St.add,St.set,updL,aEp,I.dst,ag.nx (by simp[I.rank])]using hk)
    .simp only[zp]at hp;subst hp;simp only[za]at hpb;subst hpb;exact⟨hm,by simp only[Blk.fit];exact(aBa F' _).2 λx hx=>by grind⟩
   .rename_i sz' es hev;rw[hev]at f1;simp only[V.fit]at f1;refine⟨[(s.nx+d,some (.vec ty sz es))],.own (s.nx+d) sz 0 es.length,h.2.2,λs2 ag K2 hk=>?_,aB5 hf hF (by simp only[V.fit];exact hm) (λp hp b hpb=>?_),λhr=>by simp[I.rank]at hr,λ_=>⟨d,_,rfl,rfl⟩⟩
    .simp only[aAf,ag.nx (by simp[I.rank]),e1 s2 ag,hev];exact⟨h.1,h.2.1,by simpa only[St.chg,St.add,St.set,updL,aEp,I.dst,ag.nx (by simp[I.rank])]using hk⟩
    .simp only[zp]at hp;subst hp;simp only[za]at hpb;subst hpb;exact⟨hm,by simp only[Blk.fit];exact aBq hF f1⟩
   grind
 | s2b d ty x =>
   have e1:=λ(s2:St) (ag:Agree _ s s2)=>ev ag (show x∈(I.s2b d ty x).srcs by simp[I.srcs]);have hm:=hmk d rfl;simp only[aAf]at h;split at h
   .rename_i t hev;refine⟨[(s.nx+d,some (.vec ty 1 (aAs t)))],.own (s.nx+d) 1 0 t.length,h,λs2 ag K2 hk=>?_,aB5 hf hF (by simp only[V.fit];exact hm) (λp hp b hpb=>?_),λhr=>by simp[I.rank]at hr,λ_=>⟨d,_,rfl,rfl⟩⟩
    .simp only[aAf,ag.nx (by simp[I.rank]),e1 s2 ag,hev];exact(by simpa only[St.chg,St.add,St.set,updL,aEp,I.dst,ag.nx (by simp[I.rank])]using hk)
    .simp only[zp]at hp;subst hp;simp only[za]at hpb;subst hpb;exact⟨hm,by simp only[Blk.fit];exact(aBa F' _).2 λx hx=>by obtain⟨b,_,rfl⟩:=zQ.1 hx;simp[V.fit]⟩
   grind
 | b2s d x =>
   have e1:=λ(s2:St) (agr:Agree _ s s2)=>ev agr (show x∈(I.b2s d x).srcs by simp[I.srcs]);have hL':∀s2,Agree (I.b2s d x) s s2->∀id,(∀Fr:Nat->Prop,(s.ev x).fit Fr->Fr id)->s2.L id=s.L id:=by
    intro s2 agr id hid;rcases agr.L with h|h|⟨h,Fr,h1,h2,h3⟩|h
    .simp[I.rank]at h
    .simp[I.rank]at h
    .exact h3 id (hid Fr (h1 x (by simp[I.srcs])))
    grind
   simp only[aAf]at h;obtain⟨hno,h⟩:=h;unfold aAt at h;split at h
   .rename_i hx;obtain⟨bs,hb,hK⟩:=h;exact aAz hf hF (by simp[I.rank]) hK (by simp[V.fit]) λs2 ag K2 hk=>by simp only[aAf,e1 s2 ag,hx,aAt,aP6];exact⟨trivial,bs,hb,hk⟩
   .rename_i hx;obtain⟨hz,bs,hb,hK⟩:=h;exact aAz hf hF (by simp[I.rank]) hK (by simp[V.fit]) λs2 ag K2 hk=>by simp only[aAf,e1 s2 ag,hx,aAt,aP6];exact⟨trivial,hz,bs,hb,hk⟩
   .rename_i id z off len hx;split at h
    .rename_i ty0 z0 es hb;obtain⟨hz,ho,bs,hbs,hK⟩:=h;have hb2:=λs2 agr=>(hL' s2 agr _ (λFr hfr=>by rw[hx]at hfr;simpa only[V.fit]using hfr)).trans hb;exact aAz hf hF (by simp[I.rank]) hK (by simp[V.fit]) λs2 ag K2 hk=>by simp only[aAf,e1 s2 ag,hx,aAt,aP6,hb2 s2 ag];exact⟨trivial,hz,ho,bs,hbs,hk⟩
    grind
   .rename_i hx;rw[hx]at hno;exact hno.elim
   grind
 | app d ty sz x y =>
   have e1:=λ(s2:St) (ag:Agree _ s s2)=>ev ag (show x∈(I.app d ty sz x y).srcs by simp[I.srcs]);have e2:=λ(s2:St) (ag:Agree _ s s2)=>ev ag (show y∈(I.app d ty sz x y).srcs by simp[I.srcs]);have f1:=fit (show x∈(I.app d ty sz x y).srcs by simp[I.srcs]);have f2:=fit (show y∈(I.app d ty sz x y).srcs by simp[I.srcs]);have hm:=hmk d rfl;have hL':∀s2,Agree (I.app d ty sz x y) s s2->s2.L=s.L:=λs2 ag=>by
    rcases ag.L with h|h|h|h
    .simp[I.rank]at h
    .simp[I.rank]at h
    .simp[I.rank]at h
    omega
   simp only[aAf]at h;rcases h with⟨hx,h,hK⟩|h
   .obtain⟨ys,g1,g2,g3⟩:=aJ0 hf f2 h;exact aAz hf hF (by simp[I.rank]) (v:=.nils) hK (by grind) λs2 ag K2 hk=>by simp only[aAf,e1 s2 ag,e2 s2 ag,hx,hL' s2 ag];exact .inl ⟨trivial,h,hk⟩
   simp only[aCn]at h;split at h
   .rename_i hx;obtain⟨ys,g1,g2,g3⟩:=aJ0 hf f2 h;refine⟨[(s.nx+d,some (.vec ty sz ys))],.own (s.nx+d) sz 0 ys.length,g2.2,λs2 ag K2 hk=>?_,aB5 hf hF (by simp only[V.fit];exact hm) (λp hp b hpb=>?_),λhr=>by simp[I.rank]at hr,λhr=>by simp[I.rank]at hr⟩
    .simp only[aAf,aCn,e1 s2 ag,e2 s2 ag,hx,hL' s2 ag,ag.nx (by simp[I.rank])];refine .inr ?_;exact g3 _ ⟨g2.1,by simpa only[St.chg,St.add,St.set,updL,aEp,I.dst,ag.nx (by simp[I.rank]),hL' s2 ag]using hk⟩
    .simp only[zp]at hp;subst hp;simp only[za]at hpb;subst hpb;exact⟨hm,by simp only[Blk.fit];exact aBq hF g1⟩
   .rename_i id sz' off n hx;rw[hx]at f1;simp only[V.fit]at f1;split at h
    .rename_i tyy szz es hb;obtain⟨p0,p1,p2,h⟩:=h;obtain⟨ys,g1,g2,g3⟩:=aJ0 hf f2 h;refine⟨[(id,none),(s.nx+d,some (.vec ty sz ((es.drop off).take n++ys)))],.own (s.nx+d) sz 0 (n+ys.length),g2.2,λs2 ag K2 hk=>?_,aB5 hf hF (by simp only[V.fit];exact hm) (λp hp b hpb=>?_),λhr=>by simp[I.rank]at hr,λhr=>by simp[I.rank]at hr⟩
     .simp only[aAf,aCn,e1 s2 ag,e2 s2 ag,hx,hL' s2 ag,ag.nx (by simp[I.rank]),hb];refine .inr ?_;exact⟨p0,p1,p2,g3 _ ⟨g2.1,by simpa only[St.chg,St.add,St.drop,St.set,updL,aEp,I.dst,ag.nx (by simp[I.rank]),hL' s2 ag]using hk⟩⟩
     .simp only[zD,xq,or_false]at hp;rcases hp with rfl|rfl
      .grind
      .simp only[za]at hpb;subst hpb;exact⟨hm,by simp only[Blk.fit];exact aBq hF (aE9 (aBz (aB1 (hf.blk _ _ hb).2 _) _) g1)⟩
    grind
   grind
 | ldo d sz ag x =>
   have e1:=λ(s2:St) (agr:Agree _ s s2)=>ev agr (show x∈(I.ldo d sz ag x).srcs by simp[I.srcs]);have f1:=fit (show x∈(I.ldo d sz ag x).srcs by simp[I.srcs]);have hL':∀s2,Agree (I.ldo d sz ag x) s s2->∀id,(∀Fr:Nat->Prop,(s.ev x).fit Fr->Fr id)->s2.L id=s.L id:=by
    intro s2 agr id hid;rcases agr.L with h|h|⟨h,Fr,h1,h2,h3⟩|h
    .simp[I.rank]at h
    .simp[I.rank]at h
    .exact h3 id (hid Fr (h1 x (by simp[I.srcs])))
    grind
   simp only[aAf]at h;split at h
   .rename_i id off hx;obtain⟨hq,h⟩:=h;split at h
    .rename_i cs hb;have hb2:=λs2 agr=>(hL' s2 agr _ (λFr hfr=>by rw[hx]at hfr;simpa only[V.fit]using hfr)).trans hb;exact aAz hf hF (by simp[I.rank]) h.2 (aFb ag (aBz (aB1 (hf.blk _ _ hb).2 _) _)) λs2 agr K2 hk=>by simp only[aAf,e1 s2 agr,hx,hb2 s2 agr,agr.nx (by simp[I.rank])];exact⟨hq,h.1,hk⟩
    grind
   grind
 | ldr d sz ag x b =>
   have e1:=λ(s2:St) (agr:Agree _ s s2)=>ev agr (show x∈(I.ldr d sz ag x b).srcs by simp[I.srcs]);have e2:=λ(s2:St) (agr:Agree _ s s2)=>ev agr (show .t b∈(I.ldr d sz ag x b).srcs by simp[I.srcs]);simp only[St.ev]at e2;have hL':∀s2,Agree (I.ldr d sz ag x b) s s2->∀id,(∀Fr:Nat->Prop,(s.ev x).fit Fr->Fr id)->s2.L id=s.L id:=by
    intro s2 agr id hid;rcases agr.L with h|h|⟨h,Fr,h1,h2,h3⟩|h
    .simp[I.rank]at h
    .simp[I.rank]at h
    .exact h3 id (hid Fr (h1 x (by simp[I.srcs])))
    grind
   simp only[aAf]at h;split at h
   .rename_i id off id' off' hb hx;obtain⟨hq,h⟩:=h;split at h
    .rename_i ty cs hbl;have hb2:=λs2 agr=>(hL' s2 agr _ (λFr hfr=>by rw[hx]at hfr;simpa only[V.fit]using hfr)).trans hbl;exact aAz hf hF (by simp[I.rank]) h.2 (aFb ag (aBz (aB1 (hf.blk _ _ hbl).2 _) _)) λs2 agr K2 hk=>by simp only[aAf,e1 s2 agr,e2 s2 agr,hb,hx,hb2 s2 agr];exact⟨hq,h.1,hk⟩
    grind
   grind
 | apq d ty sz x y =>
   have e1:=λ(s2:St) (ag:Agree _ s s2)=>ev ag (show x∈(I.apq d ty sz x y).srcs by simp[I.srcs]);have e2:=λ(s2:St) (ag:Agree _ s s2)=>ev ag (show y∈(I.apq d ty sz x y).srcs by simp[I.srcs]);have f2:=fit (show y∈(I.apq d ty sz x y).srcs by simp[I.srcs]);have hm:=hmk d rfl;have hL':∀s2,Agree (I.apq d ty sz x y) s s2->s2.L=s.L:=λs2 ag=>by
    rcases ag.L with h|h|h|h
    .simp[I.rank]at h
    .simp[I.rank]at h
    .simp[I.rank]at h
    omega
   simp only[aAf]at h;split at h
   .rename_i id sz' off n hx;split at h
    .rename_i tyy szz es hb;split at h
     .rename_i sz2 ys hy;rw[hy]at f2;simp only[V.fit]at f2;obtain⟨p0,p1,p2,p3,p4,h⟩:=h;refine⟨[(id,none),(s.nx+d,some (.vec ty sz ((es.drop off).take n++ys)))],.own (s.nx+d) sz 0 (n+ys.length),h,λs2 ag K2 hk=>?_,aB5 hf hF (by simp only[V.fit];exact hm) (λp hp b hpb=>?_),λhr=>by simp[I.rank]at hr,λhr=>by simp[I.rank]at hr⟩
      .simp only[aAf,e1 s2 ag,e2 s2 ag,hx,hy,hL' s2 ag,ag.nx (by simp[I.rank]),hb];exact⟨p0,p1,p2,p3,p4,by simpa only[St.chg,St.add,St.drop,St.set,updL,aEp,I.dst,ag.nx (by simp[I.rank]),hL' s2 ag]using hk⟩
      .simp only[zD,xq,or_false]at hp;rcases hp with rfl|rfl
       .grind
       .simp only[za]at hpb;subst hpb;exact⟨hm,by simp only[Blk.fit];exact aBq hF (aE9 (aBz (aB1 (hf.blk _ _ hb).2 _) _) f2)⟩
     grind
    grind
   grind
 | ptreq=>exact False.elim h
 | touns=>exact False.elim h
 | frouns=>exact False.elim h
 | sdata=>exact False.elim h
 | ustr=>exact False.elim h
 | call d c f args =>
   have e1:∀s2,Agree (I.call d c f args) s s2->∀p,p∈args->s2.ev p=s.ev p:=λs2 ag p hp=>ev ag (by simpa only[I.srcs]using hp);have f1:∀p,p∈args->(s.ev p).fit F:=λp hp=>fit (by simpa only[I.srcs]using hp);have e2:∀s2,Agree (I.call d c f args) s s2->args.map s2.ev=args.map s.ev:=λs2 ag=>zt (e1 s2 ag);simp only[aAf]at h;cases c with
   | true=>simp only[if_true]at h;obtain⟨r,h1,h2,h4,h3⟩:=h;exact aAz hf hF (by simp[I.rank]) h3 (aG3 F h4) λs2 ag K2 hk=>by simp only[aAf,if_true,e2 s2 ag];exact⟨r,h1,h2,h4,hk⟩
   | false =>
     simp only[zK,if_false]at h;obtain⟨r,h1,h2,h3,h4⟩:=h;have e3:∀s2,Agree (I.call d false f args) s s2->(args.map λa=>view s2.L 3 (s2.ev a))=args.map λa=>view s.L 3 (s.ev a):=λs2 ag=>zt λp hp=>by
      rw[e1 s2 ag p hp];rcases ag.L with h|h|⟨h,Fr,h1,h2,h3⟩|h
      .simp[I.rank]at h
      .simp[I.rank]at h
      .exact aLs h2 h3 3 (h1 p (by simpa only[I.srcs]using hp))
      grind
     exact aAz hf hF (by simp[I.rank]) h4 (aG3 F (aT1 h3)) λs2 ag K2 hk=>by simp only[aAf,zK,if_false,e3 s2 ag];exact⟨r,h1,h2,h3,hk⟩
 | pcall d x args =>
   have e0:=λ(s2:St) (ag:Agree _ s s2)=>ev ag (show x∈(I.pcall d x args).srcs by simp[I.srcs]);have e1:∀s2,Agree (I.pcall d x args) s s2->∀p,p∈args->s2.ev p=s.ev p:=λs2 ag p hp=>ev ag (by simp only[I.srcs];grind);simp only[aAf]at h;split at h
   .rename_i f cs hfn;obtain⟨hb,r,h1,h2,h3,h4⟩:=h;have e2:∀s2,Agree (I.pcall d x args) s s2->(∀p,p∈(I.pcall d x args).srcs->∀k,view s2.L k (s.ev p)=view s.L k (s.ev p)):=λs2 ag p hp k=>by
     rcases ag.L with h|h|⟨h,Fr,h1,h2,h3⟩|h
     .simp[I.rank]at h
     .simp[I.rank]at h
     .exact aLs h2 h3 k (h1 p hp)
     grind
    have e3:∀s2,Agree (I.pcall d x args) s s2->(args.map λa=>view s2.L 3 (s2.ev a))=args.map λa=>view s.L 3 (s.ev a):=λs2 ag=>zt λp hp=>by rw[e1 s2 ag p hp];exact e2 s2 ag p (by simp only[I.srcs];grind) 3
    have e4:∀s2,Agree (I.pcall d x args) s s2->view s2.L 4 (s2.ev x)=.fn f cs:=λs2 ag=>by rw[e0 s2 ag,e2 s2 ag x (by simp[I.srcs]) 4,hfn]
    exact aAz hf hF (by simp[I.rank]) h4 (aG3 F (aT1 h3)) λs2 ag K2 hk=>by simp only[aAf,e4 s2 ag,e3 s2 ag];exact⟨hb,r,h1,h2,h3,hk⟩
   grind
 | mx3=>exact False.elim h
 | mx d isMax x y =>
   have e1:=λ(s2:St) (ag:Agree _ s s2)=>ev ag (show x∈(I.mx d isMax x y).srcs by simp[I.srcs]);have e2:=λ(s2:St) (ag:Agree _ s s2)=>ev ag (show y∈(I.mx d isMax x y).srcs by simp[I.srcs]);simp only[aAf]at h;split at h
   .rename_i hx hy;exact aAz hf hF (by simp[I.rank]) h.2 (by simp[V.fit]) λs2 ag K2 hk=>by simp only[aAf,e1 s2 ag,e2 s2 ag,hx,hy];exact⟨h.1,hk⟩
   grind
end
section
variable {P:Program} {K K':St->Prop}
theorem ECall.mono{f:FuncId}{args:List V}{L:Heap}{nx:Nat}{A B:V->Heap->Nat->Prop}(h:ECall P f args L nx A)(hab:∀r L' nx',A r L' nx'->B r L' nx'):ECall P f args L nx B:=by
 obtain⟨⟨r,L',nx',h1⟩,h2⟩:=h;refine⟨⟨r,L',nx',hab _ _ _ h1⟩,λD G w vs hp hl hr=>(h2 D G w vs hp hl hr).mono ?_⟩;grind
theorem aBi{s:St}{d:Option Nat}{v:V}{t:Nat}(h:d≠some t):(s.setO d v).env t=s.env t:=by
 cases d with
 | none=>rfl
 | some d=>exact aAc _ _ _ _ λe=>h (by rw[e])
theorem aEo{s:St}{d:Nat}{v:V}{t:Nat}(h:some d≠some t):(s.set d v).env t=s.env t:=aAc _ _ _ _ λe=>h (by rw[e])
theorem aF3{sz:Nat}{L:Heap}{y:V}{A B:List V->Prop}(h:aAt sz L y A)(hab:∀l,A l->B l):aAt sz L y B:=by
 unfold aAt at *;grind
theorem aBf{o:Option V}{d:Nat}{A B:Nat->Prop}(h:aBo o d A)(hab:∀l,A l->B l):aBo o d B:=by
 unfold aBo at *;grind
theorem aZf{op:BinOp}{x y:V}{A B:V->Prop}(h:vbin op x y A)(hab:∀l,A l->B l):vbin op x y B:=by
 obtain⟨v,_,h1,h2⟩:=aMt h;grind
theorem bEt{op:UnOp}{x:V}{A B:V->Prop}(h:vun op x A)(hab:∀l,A l->B l):vun op x B:=by
 obtain⟨v,_,h1,h2⟩:=aQm h;grind
theorem aHa{i:I}{s:St}(h:aAf P i s K)(hK:∀s',K s'->(∀t,i.dst≠some t->s'.env t=s.env t)->K' s'):aAf P i s K':=by
 have k0:∀{d:Option Nat} {v:V},i.dst=d->K (s.setO d v)->K' (s.setO d v):=λe h=>hK _ h λt ht=>aBi (by grind);cases i<;>simp only[aAf,I.dst]at*<;> first
  | exact k0 rfl h
  | exact aZf h λv hv=>k0 rfl hv
  | exact bEt h λv hv=>k0 rfl hv
  | exact⟨h.1,k0 rfl h.2⟩
  | exact hK _ h λt ht=>aEo ht
  | exact⟨h.1,hK _ h.2 λt ht=>aEo ht⟩
  | skip
 case pick=>grind
 case eqA=>grind
 case eqB=>grind
 case isnil=>split at h<;>first|grind|grind|omega
 case cvt=>grind
 case field=>grind
 case ext=>grind
 case idx=>grind
 case idxA=>grind
 case slcS=>split at h<;>first|exact aBf h λl h=>aBf h λr h=>⟨h.1,h.2.1,k0 rfl h.2.2⟩|omega
 case slc=>split at h<;>first
  | exact aBf h λl h=>aBf h λr h=>⟨h.1,h.2.1,k0 rfl h.2.2⟩
  | exact⟨h.1,aBf h.2 λl h=>aBf h λr h=>⟨h.1,h.2.1,k0 rfl h.2.2⟩⟩
  | omega
 case len=>grind
 case fadr=>grind
 case iadr=>grind
 case mk0=>split at h<;>first|exact⟨h.1,h.2.1,hK _ h.2.2 λt ht=>aEo ht⟩|omega
 case appl=>split at h<;>first|exact hK _ h λt ht=>aEo ht|exact⟨h.1,h.2.1,hK _ h.2.2 λt ht=>aEo ht⟩|omega
 case s2b=>split at h<;>first|exact hK _ h λt ht=>aEo ht|omega
 case b2s=>exact⟨h.1,aF3 h.2 λl hl=>by grind⟩
 case nchk=>grind
 case load=>grind
 case store =>
  split at h
  .split at h
   .exact⟨h.1,h.2.1,hK _ h.2.2 λ_ _=>rfl⟩
   omega
  .split at h
   .exact⟨h.1,h.2.1,h.2.2.1,hK _ h.2.2.2 λ_ _=>rfl⟩
   omega
  omega
 case ldr=>grind
 case ldo=>grind
 case apq =>
  split at h
  .split at h
   .split at h
    .exact⟨h.1,h.2.1,h.2.2.1,h.2.2.2.1,h.2.2.2.2.1,hK _ h.2.2.2.2.2 λt ht=>aEo ht⟩
    omega
   omega
  omega
 case app =>
  refine h.imp (λh=>⟨h.1,h.2.1,hK _ h.2.2 λt ht=>aEo ht⟩) λh=>?_;simp only[aCn]at h ⊢;split at h
  .exact aF3 h λl h=>⟨h.1,hK _ h.2 λt ht=>aEo ht⟩
  .split at h
   .exact⟨h.1,h.2.1,h.2.2.1,aF3 h.2.2.2 λl h=>⟨h.1,hK _ h.2 λt ht=>aEo ht⟩⟩
   omega
  omega
 case call=>grind
 case ecall=>exact h.mono λr L' nx' h=>hK _ h λt ht=>aBi ht
 case ecr=>exact h.mono λr L' nx' h=>⟨h.1,hK _ h.2 λt ht=>aBi ht⟩
 case pcall=>grind
 case vcall=>split at h<;>first|exact⟨h.1,h.2.mono λr L' nx' h=>hK _ h λt ht=>aBi ht⟩|omega
 case mx=>grind
theorem aGc{i:I}{s:St}(h:aAf P i s K)(hK:∀s',K s'->K' s'):aAf P i s K':=aHa h λs' h _=>hK s' h
theorem aCz{x:GI}{s:St}(h:aA0 P x s K)(hK:∀s',K s'->K' s'):aA0 P x s K':=by
 unfold aA0 at *;split
 .rename_i hg;simp only[hg]at h;exact aGc h hK
 .rename_i t w hg;simp only[hg]at h;split at h
  .split
   .rename_i e;simp only[e,if_true]at h;exact aGc h hK
   grind
  .grind
  omega
theorem aN6:∀{l:List GI} {s:St} {K K':St->Prop},aops P l s K->(∀s',K s'->K' s')->aops P l s K'
 | [],s,K,K',h,hK=>hK _ h
 | x::r,s,K,K',h,hK=>aCz h λs' h=>aN6 h hK
theorem aJ4:∀(l r:List GI) (s:St),aops P l s (λs'=>aops P r s' K)->aops P (l++r) s K
 | [],r,s,h=>h
 | x::l,r,s,h=>aCz h λs' h=>aJ4 l r s' h
theorem aIh{sz:Nat}{L:Heap}{y:V}{A:List V->Prop}(h:aAt sz L y A):∃l,A l:=by
 unfold aAt at h;grind
theorem aGd{o:Option V}{d:Nat}{A:Nat->Prop}(h:aBo o d A):∃l,A l:=by
 unfold aBo at h;grind
theorem aTt{i:I}{s:St}(h:aAf P i s K):∃s',K s':=by
 cases i<;>simp only[aAf]at h<;>first
  | exact⟨_,h⟩
  | exact⟨_,h.2⟩
  | skip
 case pick=>grind
 case bin=>obtain⟨v,_,h1,_⟩:=aMt h;grind
 case un=>obtain⟨v,_,h1,_⟩:=aQm h;grind
 case eqA=>grind
 case eqB=>grind
 case isnil=>grind
 case cvt=>grind
 case field=>grind
 case ext=>grind
 case idx=>grind
 case idxA=>grind
 case slcS=>split at h<;>first|(obtain⟨l,h⟩:=aGd h;obtain⟨r,h⟩:=aGd h;exact⟨_,h.2.2⟩)|exact h.elim
 case slc=>split at h<;>first
  | (obtain⟨l,h⟩:=aGd h;obtain⟨r,h⟩:=aGd h;exact⟨_,h.2.2⟩)
  | (obtain⟨l,h⟩:=aGd h.2;obtain⟨r,h⟩:=aGd h;exact⟨_,h.2.2⟩)
  | grind
 case len=>grind
 case fadr=>grind
 case iadr=>grind
 case mk0=>grind
 case appl=>grind
 case s2b=>grind
 case b2s=>obtain⟨l,bs,h1,h2⟩:=aIh h.2;grind
 case nchk=>grind
 case load=>grind
 case store=>grind
 case ldr=>grind
 case ldo=>grind
 case apq=>grind
 case app =>
  rcases h with h|h
  .grind
  simp only[aCn]at h;split at h
  .obtain⟨l,h⟩:=aIh h;grind
  .split at h
   .obtain⟨l,h⟩:=aIh h.2.2.2;grind
   grind
  grind
 case call=>grind
 case mx=>grind
 case ecall=>obtain⟨⟨r,L',nx',h1⟩,_⟩:=h;grind
 case ecr=>obtain⟨⟨r,L',nx',h1⟩,_⟩:=h;grind
 case pcall=>grind
 case vcall =>
  split at h
  .obtain⟨_,⟨r,L',nx',h1⟩,_⟩:=h;grind
  grind
theorem aMq{x:GI}{s:St}(h:aA0 P x s K):∃s',K s':=by
 unfold aA0 at h;split at h
 .exact aTt h
 .split at h
  .split at h
   .exact aTt h
   grind
  .grind
  grind
theorem aZk:∀{l:List GI} {s:St} {K:St->Prop},aops P l s K->∃s',K s'
 | [],s,K,h=>⟨s,h⟩
 | x::r,s,K,h=>by obtain⟨s1,h1⟩:=aMq h;exact aZk h1
theorem bDk{op:BinOp}{x y:V}{A B:V->Prop}(h:vbin op x y A)(h':vbin op x y B):vbin op x y λv=>A v∧B v:=by
 unfold vbin at *;split at h
 .refine⟨h.1,?_⟩;have h1:=h.2;have h2:=h'.2;cases op<;>simp only[vint]at h1 h2 ⊢<;>first|grind|grind|exact h1.elim
 .cases op<;>simp only[vstr]at h h' ⊢<;>first|grind|grind|exact h.elim
 omega
theorem bG7{op:UnOp}{x:V}{A B:V->Prop}(h:vun op x A)(h':vun op x B):vun op x λv=>A v∧B v:=by
 unfold vun at *;split at h<;>first|grind|omega
theorem aDg{o:Option V}{d:Nat}{A B:Nat->Prop}(h:aBo o d A)(h':aBo o d B):aBo o d λn=>A n∧B n:=by
 unfold aBo at *;split at h<;>first|grind|grind|omega
theorem aPw{i:I}{s:St}(hr:i.rank=0)(ha:i.ang=false)(h:aAf P i s K)(h':aAf P i s K'):aAf P i s λs'=>K s'∧K' s':=by
 cases i<;>simp only[aAf]at h h' ⊢<;>first
  | exact⟨h,h'⟩
  | exact⟨h.1,h.2,h'.2⟩
  | exact bDk h h'
  | exact bG7 h h'
  | skip
 case pick=>split at h<;>(try simp only[*]at h')<;>first|exact⟨h,h'⟩|exact h.elim
 case eqA =>
  split at h<;>(try simp only[*]at h')
  .obtain⟨t,h1,h2⟩:=h;obtain⟨t',h3,h4⟩:=h';obtain rfl:t=t':=zq (h1.symm.trans h3);exact⟨t,h1,h2,h4⟩
  .exact h.elim
 case eqB=>split at h<;>(try simp only[*]at h')<;>first|exact⟨h,h'⟩|exact h.elim
 case isnil=>split at h<;>(try simp only[*]at h')<;>first|exact⟨h,h'⟩|exact⟨h.1,h.2,h'.2⟩|exact h.elim
 case cvt=>split at h<;>(try simp only[*]at h')<;>first|exact⟨h,h'⟩|exact h.elim
 case field=>split at h<;>(try simp only[*]at h')<;>first|exact⟨h.1,h.2,h'.2⟩|exact h.elim
 case ext=>split at h<;>(try simp only[*]at h')<;>first|exact⟨h.1,h.2,h'.2⟩|exact h.elim
 case idx=>split at h<;>(try simp only[*]at h')<;>first|exact⟨h.1,h.2.1,h.2.2,h'.2.2⟩|exact h.elim
 case idxA=>split at h<;>(try simp only[*]at h')<;>first|exact⟨h.1,h.2.1,h.2.2.1,h.2.2.2,h'.2.2.2⟩|exact h.elim
 case slcS =>
  split at h<;>(try simp only[*]at h')
  .exact aBf (aDg h h') λl h=>aBf (aDg h.1 h.2) λr h=>⟨h.1.1,h.1.2.1,h.1.2.2,h.2.2.2⟩
  .exact h.elim
 case slc =>
  split at h<;>(try simp only[*]at h')
  .exact aBf (aDg h h') λl h=>aBf (aDg h.1 h.2) λr h=>⟨h.1.1,h.1.2.1,h.1.2.2,h.2.2.2⟩
  .exact⟨h.1,aBf (aDg h.2 h'.2) λl h=>aBf (aDg h.1 h.2) λr h=>⟨h.1.1,h.1.2.1,h.1.2.2,h.2.2.2⟩⟩
  .exact⟨h.1,aBf (aDg h.2 h'.2) λl h=>aBf (aDg h.1 h.2) λr h=>⟨h.1.1,h.1.2.1,h.1.2.2,h.2.2.2⟩⟩
  .exact h.elim
 case len=>split at h<;>(try simp only[*]at h')<;>first|exact⟨h,h'⟩|exact h.elim
 case fadr=>split at h<;>(try simp only[*]at h')<;>first|exact⟨h,h'⟩|exact h.elim
 case iadr=>split at h<;>(try simp only[*]at h')<;>first|exact⟨h.1,h.2.1,h.2.2.1,h.2.2.2,h'.2.2.2⟩|exact h.elim
 case mk0=>simp[I.rank]at hr
 case appl=>simp[I.rank]at hr
 case s2b=>simp[I.rank]at hr
 case b2s=>simp[I.rank]at hr
 case nchk=>split at h<;>(try simp only[*]at h')<;>first|exact⟨h,h'⟩|exact h.elim
 case load d c sz ag x =>
  simp only[I.rank]at hr;split at h<;>(try simp only[*]at h')
  .exact⟨h.1,h.2,h'.2⟩
  .split at h
   .have:=h.1;subst this;simp at hr
   .exact h.elim
  .split at h
   .have:=h.1;subst this;simp at hr
   .exact h.elim
  .exact h.elim
 case store=>simp[I.rank]at hr
 case app=>simp[I.rank]at hr
 case ldo=>simp[I.rank]at hr
 case ldr=>simp[I.rank]at hr
 case apq=>simp[I.rank]at hr
 case call d c f args=>simp only[I.ang]at ha;subst ha;simp[I.rank]at hr
 case mx =>
  split at h
  .rename_i h1 h2;simp only[h1,h2]at h';exact⟨h.1,h.2,h'.2⟩
  .exact h.elim
 case ecall=>simp[I.rank]at hr
 case ecr=>simp[I.rank]at hr
 case vcall=>simp[I.rank]at hr
 case pcall=>simp[I.rank]at hr
theorem aYn{x:GI}{s:St}(hr:x.i.rank=0)(ha:x.i.ang=false)(h:aA0 P x s K)(h':aA0 P x s K'):aA0 P x s λs'=>K s'∧K' s':=by
 unfold aA0 at *;split
 .rename_i hg;simp only[hg]at h h';exact aPw hr ha h h'
 .rename_i t w hg;simp only[hg]at h h';split at h
  .rename_i b hb;simp only[hb]at h';split
   .rename_i e;simp only[e,if_true]at h h';exact aPw hr ha h h'
   grind
  .grind
  omega
end
end Go.Ab
namespace Go.Ab
open Go.RowKit
theorem aXi(i:I):i.rank<=4:=by cases i<;>simp[I.rank]<;>split<;>omega
instance:Inhabited GI:=⟨⟨none,.alloc 0 0 []⟩⟩
section
variable {P:Program} {x y:GI} {s:St} {F F':Nat->Prop} {K K1:St->Prop}
def GLoc(P:Program)(x:GI)(s:St)(F':Nat->Prop)(K1:St->Prop):Prop:=
 ∃δ v,K1 (s.chg δ x.i.dst v)∧(∀s2,(∀t,t∈x.reads->s2.env t=s.env t)->Agree x.i s s2->∀K2:St->Prop,K2 (s2.chg δ x.i.dst v)->aA0 P x s2 K2)∧SFit F' (s.chg δ x.i.dst v) ∧
   (x.i.rank<=1->δ=[])∧(x.i.rank=2->δ=[]∨∃d b,x.i.mk=some d∧δ=[(s.nx+d,b)])
theorem gloc(hr4:x.i.rank≠4)(hc:x.i.constOk=true)(hf:SFit F s)(hF:∀id,F id->F' id)(hmk:∀d,x.i.mk=some d->F' (s.nx+d))(h:aA0 P x s K1):GLoc P x s F' K1:=by
 obtain⟨g,i⟩:=x;cases g with
 | none=>obtain⟨δ,v,h1,h2,h3,h4,h5⟩:=loc hr4 hc hf hF hmk h;exact⟨δ,v,h1,λs2 _ ag K2 hk=>h2 s2 ag K2 hk,h3,h4,λhr=>.inr (h5 hr)⟩
 | some tw =>
   obtain⟨t,w⟩:=tw;have ht:∀s2:St,(∀u,u∈(⟨some (t,w),i⟩:GI).reads->s2.env u=s.env u)->s2.env t=s.env t:=λs2 h=>h t (by simp[GI.reads]);have skip:K1 (s.setO i.dst (.tup []))->(∀s2:St,s2.env t=s.env t->∀K2:St->Prop,K2 (s2.setO i.dst (.tup []))->aA0 P ⟨some (t,w),i⟩ s2 K2)->GLoc P ⟨some (t,w),i⟩ s F' K1:=λh1 h2=>⟨[],.tup [],by rw[aIr];exact h1,λs2 he _ K2 hk=>h2 s2 (ht s2 he) K2 (by rwa[aIr]at hk),aB5 hf hF (by simp[V.fit,V.fits]) (by simp),λ_=>rfl,λ_=>.inl rfl⟩
   simp only[aA0]at h;split at h
   .rename_i b hb;split at h
    .rename_i hbw;obtain⟨δ,v,h1,h2,h3,h4,h5⟩:=loc hr4 hc hf hF hmk h;refine⟨δ,v,h1,λs2 he ag K2 hk=>?_,h3,h4,λhr=>.inr (h5 hr)⟩;simp only[aA0,ht s2 he,hb,hbw,if_true];grind
    .rename_i hbw;exact skip h λs2 he K2 hk=>by simp only[aA0,he,hb,hbw,if_false];exact hk
   .rename_i hb;exact skip h λs2 he K2 hk=>by simp only[aA0,he,hb];exact hk
   grind
theorem aBm{a b:List Nat}(h:disj a b=true){t:Nat}(ha:t∈a):t∉b:=by
 simp only[disj,zx]at h;grind
theorem aNw{e:Nat->V}{d:Option Nat}{v:V}{t:Nat}(h:∀k,d=some k->k≠t):aEp e d v t=e t:=by
 cases d with
 | none=>rfl
 | some k=>simp only[aEp];exact aAc _ _ _ _ λhh=>h k rfl hh.symm
theorem aH6{e:Nat->V}{d d':Option Nat}{v v':V}(h:∀k,d=some k->d'≠some k):aEp (aEp e d v) d' v'=aEp (aEp e d' v') d v:=by
 cases d with
 | none=>rfl
 | some k =>
   cases d' with
   | none=>rfl
   | some k'=>have hne:k≠k':=λhh=>h k rfl (by rw[hh]);funext t;simp only[aEp,upd];grind
theorem aTj{α:Type}(f:Nat->α){i j:Nat}(u v:α)(h:i≠j):upd (upd f i u) j v=upd (upd f j v) i u:=by
 funext t;simp only[upd];grind
theorem bCs{x y:GI}(h:x.swq y=true):x.i.rank<=3∧y.i.rank<=3:=by
 unfold GI.swq at h;split at h
 .exact⟨by simp[I.rank],by simp[I.rank]⟩
 .exact⟨by simp[I.rank],by simp[I.rank]⟩
 .exact⟨by simp[I.rank],by simp[I.rank]⟩
 grind
theorem aKo{s:St}{d:Option Nat}{v:V}{q:Src}(h:∀k,d=some k->q≠.t k):(s.setO d v).ev q=s.ev q:=by
 cases d with
 | none=>rfl
 | some k =>
   cases q with
   | k v=>rfl
   | t m=>exact aAc _ _ _ _ λe=>h k rfl (by rw[e])
theorem aXh{d:Option Nat}{sz:Nat}{ag:Bool}{a:Src}{d' ty sz':Nat}{b c:Src}(h1:∀k,d=some k->b≠.t k∧c≠.t k)(h2:a≠.t d')(h3:d≠some d'):
 aAf P (.ldo d sz ag a) s (λs1=>aAf P (.apq d' ty sz' b c) s1 K)↔aAf P (.apq d' ty sz' b c) s (λs1=>aAf P (.ldo d sz ag a) s1 K):=by
 have eb:∀v,(s.setO d v).ev b=s.ev b:=λv=>aKo λk hk=>(h1 k hk).1;have ec:∀v,(s.setO d v).ev c=s.ev c:=λv=>aKo λk hk=>(h1 k hk).2;have ea:∀(s':St) (w:V),s'.env=s.env->(s'.set d' w).ev a=s.ev a:=λs' w he=>by
  have:=aKo (s:=s') (d:=some d') (v:=w) (q:=a) λk hk=>by grind
  rw[show s'.set d' w=s'.setO (some d') w from rfl,this];cases a with
  | k v=>rfl
  | t m=>show s'.env m=s.env m;rw[he]
 have eq:∀(id:Nat) (B:Blk) (v w:V),(((s.setO d v).drop id).add (s.nx+d') B).set d' w=(((s.drop id).add (s.nx+d') B).set d' w).setO d v:=λid B v w=>by
  cases d with
  | none=>rfl
  | some k=>have hne:k≠d':=λe=>h3 (by rw[e]);simp only[St.setO,St.set,St.add,St.drop,aTj _ _ _ hne]
 simp only[aAf,eb,ec,aDo,aCl];cases hb:s.ev b with
 | own id' szz off n =>
   cases ha:s.ev a with
   | ptr id o =>
     simp only;constructor
     .rintro⟨q1,h⟩;split at h
      .rename_i ty0 cs hL;obtain⟨q2,h⟩:=h;split at h
       .rename_i ty1 sz1 es hL';have hne:id≠id':=λe=>by grind
        split at h
        .rename_i sz2 ys hc;obtain⟨r1,r2,r3,r4,r5,r6⟩:=h
         try simp only[hL',hc]
         refine⟨r1,r2,r3,r4,r5,?_⟩;rw[ea _ _ (by rfl),ha];simp only;refine⟨q1,?_⟩;have e:((((s.drop id').add (s.nx+d') (.vec ty sz' ((es.drop off).take n++ys))).set d' (.own (s.nx+d') sz' 0 (n+ys.length))).L id)=s.L id:=by show upd (upd s.L id' none) (s.nx+d') _ id=_;rw[aAc _ _ _ _ (by omega),aAc _ _ _ _ hne]
         grind
        omega
       omega
      grind
     .intro h;split at h
      .rename_i ty1 sz1 es hL';split at h
       .rename_i sz2 ys hc;obtain⟨r1,r2,r3,r4,r5,h⟩:=h;rw[ea _ _ (by rfl),ha]at h;simp only at h;obtain⟨q1,h⟩:=h;have q1:id<s.nx:=q1;have e0:((((s.drop id').add (s.nx+d') (.vec ty sz' ((es.drop off).take n++ys))).set d' (.own (s.nx+d') sz' 0 (n+ys.length))).L id)=upd s.L id' none id:=by
         show upd (upd s.L id' none) (s.nx+d') _ id=_;rw[aAc _ _ _ _ (by omega)]
        by_cases hne:id=id'
        .have e1:upd s.L id' none id=none:=by rw[hne];exact aAe _ _ _
         grind
        have e:((((s.drop id').add (s.nx+d') (.vec ty sz' ((es.drop off).take n++ys))).set d' (.own (s.nx+d') sz' 0 (n+ys.length))).L id)=s.L id:=by rw[e0,aAc _ _ _ _ hne]
        grind
       grind
      grind
   | _ =>
     simp only;constructor
     .simp
     .intro h;split at h
      .split at h
       .obtain⟨r1,r2,r3,r4,r5,h⟩:=h;rw[ea _ _ (by rfl),ha]at h;omega
       omega
      omega
 | _=>grind
theorem bCw{x y:GI}(hs:x.swq y=true)(i1:disj x.i.dst.toList y.reads=true)(i2:disj y.i.dst.toList x.reads=true)(i3:disj x.i.dst.toList y.i.dst.toList=true)(h:aA0 P x s (λs1=>aA0 P y s1 K)):aA0 P y s (λs2=>aA0 P x s2 K):=by
 unfold GI.swq at hs;split at hs
 .simp only[aA0,aAf]at h
 .rename_i d sz ag a d' ty sz' b c;refine(aXh (P:=P) (λk hk=>⟨λe=>?_,λe=>?_⟩) (λe=>?_) λe=>?_).1 h
  .exact aBm i1 (t:=k) (by simp[I.dst,hk]) (by simp[GI.reads,I.reads,I.srcs,srcT,e])
  .exact aBm i1 (t:=k) (by simp[I.dst,hk]) (by simp[GI.reads,I.reads,I.srcs,srcT,e])
  .exact aBm i2 (t:=d') (by simp[I.dst]) (by simp[GI.reads,I.reads,I.srcs,srcT,e])
  .exact aBm i3 (t:=d') (by simp[I.dst,e]) (by simp[I.dst])
 .rename_i d' ty sz' b c d sz ag a;refine(aXh (P:=P) (λk hk=>⟨λe=>?_,λe=>?_⟩) (λe=>?_) λe=>?_).2 h
  .exact aBm i2 (t:=k) (by simp[I.dst,hk]) (by simp[GI.reads,I.reads,I.srcs,srcT,e])
  .exact aBm i2 (t:=k) (by simp[I.dst,hk]) (by simp[GI.reads,I.reads,I.srcs,srcT,e])
  .exact aBm i1 (t:=d') (by simp[I.dst]) (by simp[GI.reads,I.reads,I.srcs,srcT,e])
  .exact aBm i3 (t:=d') (by simp[I.dst]) (by simp[I.dst,e])
 grind
theorem bDs(hx4:x.i.rank≠4)(hy4:y.i.rank≠4)(hx:x.i.constOk=true)(hy:y.i.constOk=true)(hind:x.indep y=true)(hf:SFit F s)(hnx:∀d,x.i.mk=some d->¬F (s.nx+d))(hny:∀d,y.i.mk=some d->¬F (s.nx+d))
 (hne:∀d,x.i.mk=some d->y.i.mk≠some d) (h:aA0 P x s (λs1=>aA0 P y s1 K)):aA0 P y s (λs2=>aA0 P x s2 K):=by
 simp only[GI.indep,zc,zV,xa,decide_eq_false_iff_not,Decidable.not_not]at hind;obtain⟨⟨⟨⟨⟨i1,i2⟩,i3⟩,i45⟩,_⟩,_⟩:=hind;simp only[yH,zc,zV,xa,decide_eq_false_iff_not,Decidable.not_not]at i45;rcases i45 with hsw|⟨i4,i5⟩
 .exact bCw hsw i1 i2 i3 h
 obtain⟨δx,vx,hK,hx2,hfit1,hd1,hd2⟩:=gloc (F':=λid=>F id∨∃d,x.i.mk=some d∧id=s.nx+d) hx4 hx hf (λid h=>.inl h) (λd hd=>.inr ⟨d,hd,rfl⟩) h;obtain⟨δy,vy,hK',hy2,_,hd3,hd4⟩:=gloc (F':=λ_=>True) hy4 hy hfit1 (λ_ _=>trivial) (λ_ _=>trivial) hK;have dxt:∀t,t∈y.reads->∀k,x.i.dst=some k->k≠t:=λt ht k hk e=>by subst e;exact aBm i1 (by grind) ht
 have dyt:∀t,t∈x.reads->∀k,y.i.dst=some k->k≠t:=λt ht k hk e=>by subst e;exact aBm i2 (by grind) ht
 have dxy:∀k,x.i.dst=some k->y.i.dst≠some k:=λk hk hk'=>aBm i3 (t:=k) (by grind) (by grind);have rd:∀z:GI,∀t,t∈z.i.reads->t∈z.reads:=λz t ht=>by simp[GI.reads,ht]
 have evs:∀(z:GI) (s1 s2:St),(∀t,t∈z.reads->s1.env t=s2.env t)->∀q,q∈z.i.srcs->s1.ev q=s2.ev q:=λz s1 s2 he q hq=>by
  cases q with
  | k v=>rfl
  | t m=>exact he m (rd z m (yQ.2 ⟨.t m,hq,by simp[srcT]⟩))
 have consts:∀z:GI,z.i.constOk=true->∀q,q∈z.i.srcs->(s.ev q).fit F:=λz hz q hq=>bGy hf (by simp only[I.constOk,zc]at hz;grind)
 have e1:∀t,t∈y.reads->s.env t=(s.chg δx x.i.dst vx).env t:=λt ht=>(aNw (dxt t ht)).symm;have e2:∀t,t∈x.reads->(s.chg δy y.i.dst vy).env t=s.env t:=λt ht=>aNw (dyt t ht);have xr:x.i.rank<=3:=by have:=aXi x.i;omega
 have yr:y.i.rank<=3:=by have:=aXi y.i;omega
 -- what x changed among the blocks that were there
 have Lx:x.i.rank≠3->∀id,F id->(s.chg δx x.i.dst vx).L id=s.L id:=λhr id hid=>by
  rcases xk x.i.rank 2 with h|h
  .rw[hd1 (by omega)];rfl
  .rcases hd2 (by omega)with h|⟨d,b,h1,h2⟩
   .rw[h];rfl
   .rw[h2];exact aAc _ _ _ _ λe=>by grind
 have Ly:y.i.rank≠3->∀id,F id->(s.chg δy y.i.dst vy).L id=s.L id:=λhr id hid=>by
  rcases xk y.i.rank 2 with h|h
  .rw[hd3 (by omega)];rfl
  .rcases hd4 (by omega)with h|⟨d,b,h1,h2⟩
   .rw[h];rfl
   .rw[h2];refine aAc _ _ _ _ λe=>?_;subst e;exact hny d h1 hid
 have a1:Agree y.i (s.chg δx x.i.dst vx) s:=by
  refine⟨λt ht=>e1 t (rd y t ht),λ_=>rfl,?_⟩;by_cases h0:y.i.rank=0
  .omega
  by_cases h2:y.i.rank=2
  .omega
  by_cases h1:y.i.rank=1
  .have hx3:x.i.rank≠3:=λhh=>by omega
   refine .inr (.inr (.inl ⟨h1,F,λq hq=>?_,λid b hid hb=>?_,λid hid=>(Lx hx3 id hid).symm⟩))
   .grind
   .rw[Lx hx3 id hid]at hb;exact(hf.blk id b hb).2
  .have hx0:x.i.rank=0:=by omega
   refine .inr (.inr (.inr ?_));rw[hd1 (by omega)];rfl
 have a2:Agree x.i s (s.chg δy y.i.dst vy):=by
  refine⟨λt ht=>e2 t (rd x t ht),λ_=>rfl,?_⟩;by_cases h0:x.i.rank=0
  .omega
  by_cases h2:x.i.rank=2
  .omega
  by_cases h1:x.i.rank=1
  .have hy3:y.i.rank≠3:=λhh=>by omega
   exact .inr (.inr (.inl ⟨h1,F,λq hq=>consts x hx q hq,λid b hid hb=>(hf.blk id b hb).2,λid hid=>Ly hy3 id hid⟩))
  .have hy0:y.i.rank=0:=by omega
   refine .inr (.inr (.inr ?_));rw[hd3 (by omega)];rfl
 refine hy2 s e1 a1 _ (hx2 _ e2 a2 _ ?_);have heq:(s.chg δy y.i.dst vy).chg δx x.i.dst vx=(s.chg δx x.i.dst vx).chg δy y.i.dst vy:=by
  have hL:updL (updL s.L δy) δx=updL (updL s.L δx) δy:=by
   by_cases h1:δx=[]
   .subst h1;rfl
   by_cases h2:δy=[]
   .subst h2;rfl
   have hx1:¬x.i.rank<=1:=λh=>h1 (hd1 h);have hy1:¬y.i.rank<=1:=λh=>h2 (hd3 h);have hx3:x.i.rank=2:=by omega
   have hy3:y.i.rank=2:=by omega
   rcases hd2 hx3 with h|⟨d,b,k1,k2⟩
   .grind
   rcases hd4 hy3 with h|⟨d',b',k3,k4⟩
   .grind
   rw[k2,k4];simp only[updL];refine(aTj _ _ _ ?_);intro e;have e':s.nx+d'=s.nx+d:=e;grind
  simp only[St.chg,hL,aH6 dxy]
 grind
theorem bGi:∀(xs:List GI) (s:St) (F:Nat->Prop) (z:GI) (r:List GI),(∀x,x∈xs->x.i.constOk=true∧x.indep z=true)->z.i.constOk=true->(∀x,x∈xs->x.i.rank≠4)->z.i.rank≠4->SFit F s ->
 (∀x,x∈z::xs->∀d,x.i.mk=some d->¬F (s.nx+d))->(mks (z::xs)).Nodup->aops P (xs++z::r) s K->aops P (z::(xs++r)) s K
 | [],s,F,z,r,_,_,_,_,_,_,_,h=>h
 | x::xs,s,F,z,r,hx,hz,hx4,hz4,hf,hn,hnd,h=>by
   have hxm:∀d,x.i.mk=some d->∀y,y∈z::xs->y.i.mk≠some d:=by intro d hd y hy hyd;simp only[mks,y5]at hnd;grind
   obtain⟨δ,v,h1,h2,h3,_⟩:=gloc (F':=λid=>F id∨∃d,x.i.mk=some d∧id=s.nx+d) (hx4 x (by simp)) (hx x (by simp)).1 hf (λid h=>.inl h) (λd hd=>.inr ⟨d,hd,rfl⟩) h;have hnd':(mks (z::xs)).Nodup:=by simp only[mks,y5]at hnd ⊢;grind
   have ih:=bGi xs (s.chg δ x.i.dst v) _ z r (λy hy=>hx y (by grind)) hz (λy hy=>hx4 y (by grind)) hz4 h3 (λy hy d hd hF=>by
    rcases hF with hF|⟨d',hd',he⟩
    .refine hn y ?_ d hd hF;grind
    .have:(s.chg δ x.i.dst v).nx=s.nx:=rfl;grind) hnd' h1
   have step:aA0 P x s (λs1=>aA0 P z s1 λs2=>aops P (xs++r) s2 K):=h2 s (λ_ _=>rfl) ⟨λ_ _=>rfl,λ_=>rfl,.inr (.inr (.inr rfl))⟩ _ ih;exact bDs (hx4 x (by simp)) hz4 (hx x (by simp)).1 hz (hx x (by simp)).2 hf (hn x (by simp)) (hn z (by simp)) (λd hd=>hxm d hd z (by simp)) step
mutual
theorem aTv:∀(x:V),x.fit (λ_=>True)
 | .junk=>by simp[V.fit]
 | .bool _=>by simp[V.fit]
 | .int _ _=>by simp[V.fit]
 | .str _=>by simp[V.fit]
 | .nilp=>by simp[V.fit]
 | .nils=>by simp[V.fit]
 | .ptr _ _=>by simp[V.fit]
 | .eptr _ _ _=>by simp[V.fit]
 | .cptr cs=>by simp only[V.fit];exact aD1 cs
 | .lst _ cs=>by simp only[V.fit];exact aD1 cs
 | .own _ _ _ _=>by simp[V.fit]
 | .agg cs=>by simp only[V.fit];exact aD1 cs
 | .tup cs=>by simp only[V.fit];exact aD1 cs
 | .fn _ cs=>by simp only[V.fit];exact aD1 cs
 | .map _=>by simp[V.fit]
 | .nilm=>by simp[V.fit]
 | .raw _=>by simp[V.fit]
theorem aD1:∀(l:List V),V.fits (λ_=>True) l
 | []=>by simp[V.fits]
 | x::r=>by simp only[V.fits];exact⟨aTv x,aD1 r⟩
end
theorem aLc(s:St):SFit (λ_=>True) s:=⟨λt=>aTv _,λid b _=>⟨trivial,by cases b<;>simp only[Blk.fit]<;>exact aD1 _⟩⟩
theorem val0(hc:x.i.constOk=true)(hr:x.i.rank=0)(h:aA0 P x s K):∃v,K (s.setO x.i.dst v)∧∀s2:St,(∀t,t∈x.reads->s2.env t=s.env t)->∀K2:St->Prop,K2 (s2.setO x.i.dst v)->aA0 P x s2 K2:=by
 obtain⟨δ,v,h1,h2,_,h4,_⟩:=gloc (F:=λ_=>True) (F':=λ_=>True) (by omega) hc (aLc s) (λ_ _=>trivial) (λ_ _=>trivial) h;have e:=h4 (by omega);subst e;rw[aIr]at h1;refine⟨v,h1,λs2 he K2 hk=>h2 s2 he ⟨λt ht=>he t (by simp[GI.reads,ht]),λhh=>by omega,.inl hr⟩ K2 (by rw[aIr];exact hk)⟩
theorem aHt{s:St}(h:aA0 P x s K)(hK:∀s',K s'->(∀t,x.i.dst≠some t->s'.env t=s.env t)->K1 s'):aA0 P x s K1:=by
 have sk:K (s.setO x.i.dst (.tup []))->K1 (s.setO x.i.dst (.tup [])):=λh=>hK _ h λt ht=>aBi ht;unfold aA0 at *;split
 .rename_i hg;simp only[hg]at h;exact aHa h hK
 .rename_i t w hg;simp only[hg]at h;split at h
  .split
   .rename_i e;simp only[e,if_true]at h;exact aHa h hK
   grind
  .grind
  omega
theorem aDh{s:St}{d d':Option Nat}{v v':V}(h:∀k,d=some k->d'≠some k):(s.setO d v).setO d' v'=(s.setO d' v').setO d v:=by
 have e1:∀(s:St) (d:Option Nat) (v:V),s.setO d v=⟨aEp s.env d v,s.L,s.nx⟩:=λs d v=>by cases d<;>rfl
 simp only[e1];rw[aH6 h]
theorem shift{zd:Option Nat}{v:V}(hr:x.i.rank=4)(h1:∀k,zd=some k->k∉x.reads)(h2:∀k,x.i.dst=some k->zd≠some k):aA0 P x (s.setO zd v) K↔aA0 P x s λs'=>K (s'.setO zd v):=by
 obtain⟨g,i⟩:=x;cases i<;>simp only[I.rank]at hr<;>try (first|omega|(split at hr<;>omega))
 case ecall d n f args =>
  have he:∀t,t∈(⟨g,.ecall d n f args⟩:GI).reads->(s.setO zd v).env t=s.env t:=λt ht=>aBi λe=>h1 t e ht;have hev:args.map (s.setO zd v).ev=args.map s.ev:=zt λq hq=>by
   cases q with
   | k u=>rfl
   | t m=>exact he m (by simp only[GI.reads,I.reads,I.srcs];exact xf _ (yQ.2 ⟨.t m,hq,by simp[srcT]⟩))
  have hpost:∀r L' nx',((⟨(s.setO zd v).env,L',nx'⟩:St).setO d r)=((⟨s.env,L',nx'⟩:St).setO d r).setO zd v:=λr L' nx'=>by
   have e:(⟨(s.setO zd v).env,L',nx'⟩:St)=(⟨s.env,L',nx'⟩:St).setO zd v:=by cases zd<;>rfl
   rw[e];exact(aDh h2).symm
  have hrun:aAf P (.ecall d n f args) (s.setO zd v) K↔aAf P (.ecall d n f args) s λs'=>K (s'.setO zd v):=by simp only[aAf,hev,aDo,aCl,hpost]
  have h2':∀k,d=some k->zd≠some k:=h2;have hsk:K ((s.setO zd v).setO d (.tup []))↔K ((s.setO d (.tup [])).setO zd v):=by rw[aDh h2']
  cases g with
  | none=>exact hrun
  | some tw=>obtain⟨t,w⟩:=tw;simp only[aA0,I.dst];rw[he t (by simp[GI.reads])];grind
 case ecr d n f args b =>
  have he:∀t,t∈(⟨g,.ecr d n f args b⟩:GI).reads->(s.setO zd v).env t=s.env t:=λt ht=>aBi λe=>h1 t e ht;have hb:(s.setO zd v).env b=s.env b:=he b (by simp[GI.reads,I.reads,I.srcs,srcT]);have hev:args.map (s.setO zd v).ev=args.map s.ev:=zt λq hq=>by
   cases q with
   | k u=>rfl
   | t m=>exact he m (by simp only[GI.reads,I.reads,I.srcs];exact xf _ (yQ.2 ⟨.t m,ya _ hq,by simp[srcT]⟩))
  have hpost:∀r L' nx',((⟨(s.setO zd v).env,L',nx'⟩:St).setO d r)=((⟨s.env,L',nx'⟩:St).setO d r).setO zd v:=λr L' nx'=>by
   have e:(⟨(s.setO zd v).env,L',nx'⟩:St)=(⟨s.env,L',nx'⟩:St).setO zd v:=by cases zd<;>rfl
   rw[e];exact(aDh h2).symm
  have hrun:aAf P (.ecr d n f args b) (s.setO zd v) K↔aAf P (.ecr d n f args b) s λs'=>K (s'.setO zd v):=by simp only[aAf,hev,hb,aDo,aCl,hpost]
  have h2':∀k,d=some k->zd≠some k:=h2;have hsk:K ((s.setO zd v).setO d (.tup []))↔K ((s.setO d (.tup [])).setO zd v):=by rw[aDh h2']
  cases g with
  | none=>exact hrun
  | some tw=>obtain⟨t,w⟩:=tw;simp only[aA0,I.dst];rw[he t (by simp[GI.reads])];grind
 case vcall d n x args =>
  have he:∀t,t∈(⟨g,.vcall d n x args⟩:GI).reads->(s.setO zd v).env t=s.env t:=λt ht=>aBi λe=>h1 t e ht;have hev:args.map (s.setO zd v).ev=args.map s.ev:=zt λq hq=>by
   cases q with
   | k u=>rfl
   | t m=>exact he m (by simp only[GI.reads,I.reads,I.srcs];exact xf _ (yQ.2 ⟨.t m,ya _ hq,by simp[srcT]⟩))
  have hex:(s.setO zd v).ev x=s.ev x:=by
   cases x with
   | k u=>rfl
   | t m=>exact he m (by simp only[GI.reads,I.reads,I.srcs];exact xf _ (yQ.2 ⟨.t m,List.mem_cons_self ..,by simp[srcT]⟩))
  have hpost:∀r L' nx',((⟨(s.setO zd v).env,L',nx'⟩:St).setO d r)=((⟨s.env,L',nx'⟩:St).setO d r).setO zd v:=λr L' nx'=>by
   have e:(⟨(s.setO zd v).env,L',nx'⟩:St)=(⟨s.env,L',nx'⟩:St).setO zd v:=by cases zd<;>rfl
   rw[e];exact(aDh h2).symm
  have hrun:aAf P (.vcall d n x args) (s.setO zd v) K↔aAf P (.vcall d n x args) s λs'=>K (s'.setO zd v):=by simp only[aAf,hev,hex,aDo,aCl,hpost]
  have h2':∀k,d=some k->zd≠some k:=h2;have hsk:K ((s.setO zd v).setO d (.tup []))↔K ((s.setO d (.tup [])).setO zd v):=by rw[aDh h2']
  cases g with
  | none=>exact hrun
  | some tw=>obtain⟨t,w⟩:=tw;simp only[aA0,I.dst];rw[he t (by simp[GI.reads])];grind
theorem aC2(h:x.indep y=true):(∀k,x.i.dst=some k->k∉y.reads)∧(∀k,y.i.dst=some k->k∉x.reads)∧(∀k,x.i.dst=some k->y.i.dst≠some k) ∧
 (4<=x.i.rank->y.i.rank=0)∧(4<=y.i.rank->x.i.rank=0)∧(x.i.rank=4->y.i.ang=false)∧(y.i.rank=4->x.i.ang=false):=by
 simp only[GI.indep,zc,zV,xa,decide_eq_false_iff_not,Decidable.not_not]at h;obtain⟨⟨⟨⟨⟨i1,i2⟩,i3⟩,i45⟩,i6⟩,i7⟩:=h;have i45':(4<=x.i.rank->y.i.rank=0)∧(4<=y.i.rank->x.i.rank=0):=by
  simp only[yH,zc,zV,xa,decide_eq_false_iff_not,Decidable.not_not]at i45;rcases i45 with h|⟨h,h'⟩
  .obtain⟨h1,h2⟩:=bCs h;omega
  omega
 refine⟨λk hk=>aBm i1 (by grind),λk hk=>aBm i2 (by grind),λk hk hk'=>aBm i3 (t:=k) (by grind) (by grind),λh=>?_,λh=>?_,λh=>?_,λh=>?_⟩
 .omega
 .omega
 .grind
 grind
theorem bR5(hz:y.i.constOk=true)(hind:x.indep y=true)(hr:y.i.rank=0)(ha:y.i.ang=false)(hx4:x.i.rank=4)(h:aA0 P x s (λs1=>aA0 P y s1 K)):aA0 P y s (λs2=>aA0 P x s2 K):=by
 obtain⟨i1,i2,i3,_⟩:=aC2 hind;have henv:=aHt (K1:=λs1=>aA0 P y s1 K∧∀t,t∈y.reads->s1.env t=s.env t) h λs' h he=>⟨h,λt ht=>he t λe=>i1 t e ht⟩;obtain⟨s1,h1,he1⟩:=aMq henv;obtain⟨v,k1,k2⟩:=val0 hz hr h1;have all:aA0 P x s λs1'=>K (s1'.setO y.i.dst v):=aCz henv λs1' hh=>by obtain⟨m1,m2⟩:=hh;have m3:aA0 P y s1' (λs'=>s'=s1'.setO y.i.dst v):=k2 s1' (λt ht=>(m2 t ht).trans (he1 t ht).symm) _ rfl;obtain⟨s',m4,m5⟩:=aMq (aYn hr ha m1 m3);grind
 exact k2 s (λt ht=>(he1 t ht).symm) _ ((shift hx4 i2 i3).2 all)
theorem bR0(hx:x.i.constOk=true)(hind:x.indep y=true)(hr:x.i.rank=0)(hy4:y.i.rank=4)(h:aA0 P x s (λs1=>aA0 P y s1 K)):aA0 P y s (λs2=>aA0 P x s2 K):=by
 obtain⟨i1,i2,i3,_⟩:=aC2 hind;obtain⟨v,k1,k2⟩:=val0 hx hr h;have h1:=(shift hy4 i1 (λk hk hk'=>i3 k hk' hk)).1 k1;exact aHt h1 λs' hk he=>k2 s' (λt ht=>he t λe=>i2 t e ht) _ hk
theorem bGk:∀(xs:List GI) (s:St) (z:GI) (r:List GI),(∀x,x∈xs->x.i.constOk=true∧x.indep z=true)->z.i.rank=4->aops P (xs++z::r) s K->aops P (z::(xs++r)) s K
 | [],s,z,r,_,_,h=>h
 | x::xs,s,z,r,hx,hz4,h=>by have hi:=(hx x (by simp)).2;have step:aA0 P x s (λs1=>aA0 P z s1 λs2=>aops P (xs++r) s2 K):=aCz h λs1 h1=>bGk xs s1 z r (λy hy=>hx y (by grind)) hz4 h1;exact bR0 (hx x (by simp)).1 hi ((aC2 hi).2.2.2.2.1 (by omega)) hz4 step
theorem aS9:∀(xs:List GI) (s:St) (z:GI) (r:List GI),(∀x,x∈xs->x.i.constOk=true∧x.indep z=true)->z.i.constOk=true->z.i.rank=0->aops P (xs++z::r) s K->aops P (z::(xs++r)) s K
 | [],s,z,r,_,_,_,h=>h
 | x::xs,s,z,r,hx,hz,hz0,h=>by
   have hi:=(hx x (by simp)).2;have step:aA0 P x s (λs1=>aA0 P z s1 λs2=>aops P (xs++r) s2 K):=aCz h λs1 h1=>aS9 xs s1 z r (λy hy=>hx y (by grind)) hz hz0 h1;by_cases hx4:x.i.rank=4
   .exact bR5 hz hi hz0 ((aC2 hi).2.2.2.2.2.1 hx4) hx4 step
   .have key:aA0 P z s (λs2=>aA0 P x s2 λs3=>aops P (xs++r) s3 K):=by
     obtain⟨i1,i2,i3,_⟩:=aC2 hi;obtain⟨δ,v,h1,h2,_⟩:=gloc (F:=λ_=>True) (F':=λ_=>True) hx4 (hx x (by simp)).1 (aLc s) (λ_ _=>trivial) (λ_ _=>trivial) step;obtain⟨u,k1,k2⟩:=val0 hz hz0 h1;have e1:∀t,t∈z.reads->s.env t=(s.chg δ x.i.dst v).env t:=λt ht=>(aNw λk hk e=>by grind).symm;refine k2 s e1 _ (h2 _ (λt ht=>aBi λe=>i2 t e ht) ⟨λt ht=>aBi λe=>i2 t e (by simp[GI.reads,ht]),λ_=>aCl _ _ _,.inr (.inr (.inr (aDo _ _ _)))⟩ _ ?_);have e2:(s.setO z.i.dst u).chg δ x.i.dst v=(s.chg δ x.i.dst v).setO z.i.dst u:=by
      have e1:∀(s:St) (d:Option Nat) (v:V),s.setO d v=⟨aEp s.env d v,s.L,s.nx⟩:=λs d v=>by cases d<;>rfl
      simp only[e1,St.chg];rw[aH6 i3]
     grind
    exact key
theorem bCv(xs:List GI)(s:St)(F:Nat->Prop)(z:GI)(r:List GI)(hx:∀x,x∈xs->x.i.constOk=true∧x.indep z=true)(hz:z.i.constOk=true)(hf:SFit F s)
 (hn:∀x,x∈z::xs->∀d,x.i.mk=some d->¬F (s.nx+d)) (hnd:(mks (z::xs)).Nodup) (h:aops P (xs++z::r) s K):aops P (z::(xs++r)) s K:=by
 by_cases h4:z.i.rank=4
 .exact bGk xs s z r hx h4 h
 by_cases h0:z.i.rank=0
 .exact aS9 xs s z r hx hz h0 h
 .exact bGi xs s F z r hx hz (λx hxm hx4=>h0 ((aC2 (hx x hxm).2).2.2.2.1 (by omega))) h4 hf hn hnd h
end
end Go.Ab
namespace Go.Ab
open Go.RowKit
theorem aP3(acc:Array Nat)(v:Nat){i:Nat}(h:i<acc.size):(acc.push v).getD i 0=acc.getD i 0:=by
 simp[Array.getD_eq_getD_getElem?,Array.getElem?_push,Nat.ne_of_lt h]
theorem aOa(acc:Array Nat)(v:Nat){i:Nat}(h:i=acc.size):(acc.push v).getD i 0=v:=by
 simp_all
theorem aHm{ops:Array Oper}{S:Nat->Prop}(hS:∀k o,S k->ops[k]?=some o->∀e,e∈o.after->Region.binds .any e=true->S e.on)
 {i:Nat} {o:Oper} (hi:ops[i]?=some o) (hd:∀e,e∈o.after->Region.binds .any e=true->S e.on) {j:Nat} (hj:aOh ops j i=true):S j:=by
 have key:(λ(n:Nat) (acc:Array Nat)=>acc.size=n∧∀i o,i<n->ops[i]?=some o->(∀e,e∈o.after->Region.binds .any e=true->S e.on)->∀j,(acc.getD i 0).testBit j=true->S j)
  ops.size (Region.before ops):=by
  unfold Region.before;refine Array.foldl_induction (motive:=λ(n:Nat) (acc:Array Nat)=>acc.size=n∧∀i o,i<n->ops[i]?=some o->(∀e,e∈o.after->Region.binds .any e=true->S e.on)->∀j,(acc.getD i 0).testBit j=true->S j) ?_ ?_
  .simp
  .rintro⟨n,hn⟩ acc ⟨hsz,hacc⟩;simp only at hsz hacc ⊢;refine⟨by grind,λi o hi ho hd j hj=>?_⟩;rcases xk i n with h|h
   .have e1:i<acc.size:=by omega
    rw[aP3 _ _ e1]at hj;grind
   .obtain rfl:i=n:=by omega
    rw[aOa _ _ hsz.symm]at hj;have ho':ops[i]=o:=by grind
    have hj:(Array.foldl (λs e=>if Region.binds Region.Mode.any e=true then s ||| 2^e.on ||| acc.getD e.on 0 else s) 0 ops[i].after).testBit j=true:=hj;rw[ho',<-Array.foldl_toList]at hj;have hd':∀e,e∈o.after.toList->Region.binds .any e=true->S e.on:=λe he=>hd e (Array.mem_toList_iff.1 he);have fold:∀(l:List Edge) (s0:Nat),(∀e,e∈l->Region.binds .any e=true->S e.on)->(l.foldl (λs e=>if Region.binds Region.Mode.any e=true then s ||| 2^e.on ||| acc.getD e.on 0 else s) s0).testBit j=true->s0.testBit j=true∨S j:=by
     intro l;induction l with
     | nil=>grind
     | cons e r ih =>
       intro s0 hl h;rw[List.foldl_cons]at h;rcases ih _ (λe he=>hl e (by grind)) h with h|h
       .by_cases hb:Region.binds Region.Mode.any e=true
        .rw[if_pos hb]at h;simp only[Nat.testBit_or,yH]at h;have hse:=hl e (by simp) hb;rcases h with(h|h)|h
         .grind
         .grind
         .rcases xk e.on i with hlt|hge
          .have hlt':e.on<ops.size:=by omega
           exact .inr (hacc e.on ops[e.on] hlt (ye hlt') (hS e.on _ hse (ye hlt')) j h)
          grind
        grind
       grind
    grind
 exact key.2 i o (Array.getElem?_eq_some_iff.1 hi).1 hi hd j hj
theorem aGq{l r:List GI}(h:l.Perm r)(hn:(mks l).Nodup):(mks r).Nodup:=(h.filterMap _).nodup_iff.1 hn
def aCj(ops:Array Oper)(listed:Array Bool):List Nat:=(List.range ops.size).filter λi=>!listed.getD i true
theorem aCb{l:Array Bool}{i:Nat}(h:i<l.size):l.getD i true=l.getD i false:=by simp[h]
theorem aDb{p q:Nat->Bool}{i:Nat}:∀(l:List Nat),l.Pairwise (·<·)->i∈l->p i=true->(∀j,j≠i->q j=p j)->q i=false ->
 ∃a b,l.filter p=a++i::b∧l.filter q=a++b∧(∀j,j∈a->j<i)
 | [],_,h,_,_,_=>by grind
 | x::r,hp,h,hpi,hq,hqi=>by
   by_cases e:x=i
   .subst e;have hr:∀j,j∈r->j≠x:=λj hj=>Nat.ne_of_gt (List.rel_of_pairwise_cons hp hj);refine⟨[],r.filter p,by grind,?_,by simp⟩;simp only[List.filter_cons,hqi,zK,if_false,List.nil_append];exact List.filter_congr λj hj=>by grind
   .have hi:i∈r:=by
     grind
    obtain⟨a,b,h1,h2,h3⟩:=aDb r (List.Pairwise.of_cons hp) hi hpi hq hqi;by_cases hx:p x=true
    .refine⟨x::a,b,by grind,by grind,λj hj=>?_⟩;rcases zD.1 hj with rfl|hj
     .simp_all
     grind
    grind
section
variable {P:Program} {ops:Array Oper} {l:List GI} {K:St->Prop}
def at_(l:List GI)(is:List Nat):List GI:=is.map λi=>l.getD i default
end
end Go.Ab
