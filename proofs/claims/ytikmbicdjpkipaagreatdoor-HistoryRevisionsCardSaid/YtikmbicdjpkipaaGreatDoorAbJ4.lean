import Derived.Test.YtikmbicdjpkipaaGreatDoorAbJ3
import Derived.Test.YtikmbicdjpkipaaGreatDoorAbJ2
import Derived.Test.YtikmbicdjpkipaaGreatDoorAbJ1
import Derived.Test.YtikmbicdjpkipaaGreatDoorAbE4
open List renaming length_cons->zg,length->xc,length_append->yl,mem_singleton->zp
open Prod renaming ext->xS
open List.Pairwise renaming nil->yz
set_option linter.unusedSimpArgs false
set_option linter.unusedVariables false
namespace Go.Ab
variable {P:Program} {F T:Nat->Nat}
def aGw(ok:Ttl->Bool)(pol:List UInt8->Bool)(seq:Int):List Chg->Stt->Stt×Int
 | [],s=>(s,0)
 | c::l,s =>
   if(aBs ok s c seq).2≠0 then aBs ok s c seq else if aD5 pol c=true then(s,7)
   else if(notS (aBs ok s c seq).1 c.user seq).2≠0 then notS (aBs ok s c seq).1 c.user seq else aGw ok pol seq l (notS (aBs ok s c seq).1 c.user seq).1
def aFt(ok:Ttl->Bool)(pol:List UInt8->Bool)(s:Stt)(l:List Chg):Stt×Int:=
 if(aGw ok pol (s.seq+1) l s).2=0 then({ (aGw ok pol (s.seq+1) l s).1 with seq:=s.seq+1 },0)else aGw ok pol (s.seq+1) l s
def aplV(r:Stt×Int):V:=if r.2=0 then outS (r.1,0)else .tup [.agg [.int .i64 0,.int .i64 0,.nils,.nils,.nils,.int .i64 0,.nils,.nils],.int .i64 r.2]
theorem aNe(r:Stt×Int):(aplV r).imm=true:=by
 unfold aplV;split
 .exact aA3 _
 .rfl
variable {us:List UInt8->Prop} {tt:Ttl->Prop} {w:List UInt8}
theorem bAj{ok:Ttl->Bool}{pol:List UInt8->Bool}{top:Int}(ht:¬tt polT)(h1:1<=top)(hr:∀t,tt t->(redS ok t).length<=8192):∀(l:List Chg) (k:Nat) (s t:Stt),MstP us tt w k top s->(∀c,c∈l->ChgP us tt c)->k+l.length<=37->aGw ok pol top l s=(t,0)->MstP us tt w (k+l.length) top t∧t.seq=s.seq
 | [],k,s,t,h,_,_,e=>by simp only[aGw,Prod.mk.injEq,and_true]at e;grind
 | c::l,k,s,t,h,hc,hk,e=>by
   rw[zg]at hk ⊢;unfold aGw at e;have hcc:=hc c (by simp);split at e
   .grind
   .rename_i he;split at e
    .grind
    .split at e
     .grind
     .rename_i hf he2;have q1:aBs ok s c top=((aBs ok s c top).1,0):=xS rfl (by omega);obtain⟨m1,m2,m3⟩:=aRv h ht hcc (λk4=>hr _ (hcc.to4 k4).1) h1 (by omega) q1;have q2:notS (aBs ok s c top).1 c.user top=((notS (aBs ok s c top).1 c.user top).1,0):=xS rfl (by omega);obtain⟨m4,m5⟩:=bF3 m1 (by rw[m2];exact h.lasn) hcc.usr h1 q2;obtain⟨m6,m7⟩:=bAj ht h1 hr l (k+1) _ t m4 (λc hc'=>hc c (by grind)) (by omega) e;grind
theorem aTk{ok:Ttl->Bool}{pol:List UInt8->Bool}(ht:¬tt polT)(hr:∀t,tt t->(redS ok t).length<=8192){l:List Chg}{k:Nat}{s t:Stt}(h:MstP us tt w k s.seq s)(hc:∀c,c∈l->ChgP us tt c)(hk:k+l.length<=37)(e:aFt ok pol s l=(t,0)):MstP us tt w (k+l.length) t.seq t∧t.seq=s.seq+1:=by
 have h0:=h.seq0;unfold aFt at e;split at e
 .rename_i he;simp only[Prod.mk.injEq,and_true]at e;have q:aGw ok pol (s.seq+1) l s=((aGw ok pol (s.seq+1) l s).1,0):=xS rfl he;obtain⟨m1,m2⟩:=bAj ht (by omega) hr l k s _ (h.top (by omega)) hc hk q;subst e;exact⟨m1.seq (by omega),rfl⟩
 grind
theorem t293(hf:bJc P F T){ok:Ttl->Bool}{pol:List UInt8->Bool}(s:Stt)(l:List Chg)(J:List Chg->Stt->Prop)(hJ0:J l s)(hl:1<=l.length)(hl2:l.length<=16)(hs0:0<=s.seq)(hs:s.seq<=1000)
 (h294:PTr P (F 294) [s.v] (.bool true)) (h295:∀c,c∈l->PTr P (F 295) [c.v] (.int .i64 0)) (h297:∀c,c∈l->PTr P (F 297) [c.v] (.bool (aD5 pol c)))
 (h296:∀c r s,J (c::r) s->PTr P (F 296) [s.v,c.v,.int .i64 (s.seq+1)] (outS (aBs ok s c (s.seq+1)))) (h298:∀c r s,J (c::r) s->(aBs ok s c (s.seq+1)).2=0->PTr P (F 298) [(aBs ok s c (s.seq+1)).1.v,.str c.user,.int .i64 (s.seq+1)] (outS (notS (aBs ok s c (s.seq+1)).1 c.user (s.seq+1))))
 (hJ:∀c r s,J (c::r) s->(aBs ok s c (s.seq+1)).2=0->(notS (aBs ok s c (s.seq+1)).1 c.user (s.seq+1)).2=0->J r (notS (aBs ok s c (s.seq+1)).1 c.user (s.seq+1)).1∧(notS (aBs ok s c (s.seq+1)).1 c.user (s.seq+1)).1.seq=s.seq):PTr P (F 293) [s.v,.lst 10 (l.map Chg.v)] (aplV (aFt ok pol s l)):=by
 have hln:(l.map Chg.v).length=l.length:=List.length_map ..;have e1:¬((l.length:Nat):Int)<1:=by omega
 have e2:¬(16:Int)<((l.length:Nat):Int):=by omega
 obtain⟨q,hq⟩:∃q,q=s.seq+1:=⟨_,rfl⟩;refine ptrC [] hf (by simp) (aNe _) ?_;simp only[c293,push_cast,seval,-Nat.reducePow,Stt.v,Stt.cs,stoV,pplV,watV,lasV];refine aAa h294 (by simp only[push_cast,seval,-Nat.reducePow,V.imm,V.imms,aAh,aAo,aAv,aAw]) (by rfl) ?_;simp only[push_cast,seval,-Nat.reducePow,hln,e1,e2];refine⟨⟨by omega,by omega⟩,?_⟩;rw[<-hq];refine aAd (λm s1=>∃a r s',l=a++r∧m=r.length∧J r s'∧s'.seq=s.seq∧aGw ok pol q l s=aGw ok pol q r s'∧s1.env 1=.lst 10 (l.map Chg.v)∧s1.env 2=.ptr 2 0∧s1.env 4=.ptr 4 0∧s1.env 6=.int .i64 q∧s1.env 7=.int .i64 a.length ∧
  s1.L 2=some (boxS T s')∧s1.L 4=some (.box (T 34) [V.int IntKind.i64 0,V.int IntKind.i64 0,V.nils,V.nils,V.nils,V.int IntKind.i64 0,V.nils,V.nils])∧4<s1.nx) l.length ?_ λm s1 hJ1=>?_
 .simp only[push_cast,seval,-Nat.reducePow];exact⟨[],l,s,rfl,rfl,hJ0,rfl,rfl,rfl,rfl⟩
 .obtain⟨a,r,s',hal,rfl,hj,hss,hlo,j1,j2,j4,j6,j7,jL,jL4,jn⟩:=hJ1;have hal2:l.length=a.length+r.length:=by grind
  cases r with
  | nil =>
    have h1:¬((a.length:Nat):Int)<((l.length:Nat):Int):=by grind
    have e3:¬(1073741824:Int)<q:=by omega
    simp only[push_cast,seval,-Nat.reducePow,j1,j2,j4,j6,j7,jL,jL4,hln,h1,e3];have hres:aFt ok pol s l=({ s' with seq:=q },0):=by simp only[aFt,<-hq,hlo,aGw,if_true]
    rw[hres];rfl
  | cons c r =>
    rw[zg]at hal2;have h1:((a.length:Nat):Int)<((l.length:Nat):Int):=by omega
    have hcm:c∈l:=by grind
    have hg:(l.map Chg.v).getD a.length .junk=c.v:=by grind
    rw[bNk]at hg;have p295:=h295 c hcm;have p296:=h296 c r s' hj;have p297:=h297 c hcm;have p298:=h298 c r s' hj;have pJ:=hJ c r s' hj;rw[hss,<-hq]at p296 p298 pJ;obtain⟨k,hk⟩:∃k,k=aBs ok s' c q:=⟨_,rfl⟩;rw[<-hk]at p296 p298 pJ;rw[show aGw ok pol q (c::r) s'=if k.2≠0 then k else if aD5 pol c=true then(s',7)else if(notS k.1 c.user q).2≠0 then notS k.1 c.user q else aGw ok pol q r (notS k.1 c.user q).1 from by rw[hk];rfl]at hlo;have hap:∀v:Stt×Int,aGw ok pol q l s=v->v.2≠0->aplV (aFt ok pol s l)=.tup [.agg [.int .i64 0,.int .i64 0,.nils,.nils,.nils,.int .i64 0,.nils,.nils],.int .i64 v.2]:=λv hv h0=>by rw[aplV,aFt,<-hq,hv,if_neg h0,if_neg h0]
    simp only[push_cast,seval,-Nat.reducePow,j1,j2,j4,j6,j7,jL,jL4,hln,h1,hg];refine⟨by omega,aAa p295 (by simp only[push_cast,seval,-Nat.reducePow,V.imm,V.imms,aBx]) (by rfl) ?_⟩;simp only[push_cast,seval,-Nat.reducePow,j1,j2,j4,j6,j7,jL,jL4,hln,h1,hg];refine⟨by omega,aAa p296 (by simp only[push_cast,seval,-Nat.reducePow,V.imm,V.imms,aAh,aAo,aAv,aAw,aBx]) (aA3 _) ?_⟩;simp only[push_cast,seval,-Nat.reducePow,outS,Stt.v,Stt.cs,stoV,pplV,watV,lasV,j1,j2,j4,j6,j7,jL,jL4,hln,h1,hg];refine aAy (λk0=>?_) (λk0=>?_)
    .have g1:¬k.2≠0:=by omega
     have p298:=p298 k0;have pJ:=pJ k0;rw[if_neg g1]at hlo;obtain⟨n,hn⟩:∃n,n=notS k.1 c.user q:=⟨_,rfl⟩;rw[<-hn]at p298 pJ hlo;simp only[push_cast,seval,-Nat.reducePow,j1,j2,j4,j6,j7,jL,jL4,hln,h1,hg];refine⟨by omega,aAa p297 (by simp only[push_cast,seval,-Nat.reducePow,V.imm,V.imms,aBx]) (by rfl) ?_⟩;cases hfb:aD5 pol c with
     | true=>rw[if_pos hfb]at hlo;simp only[push_cast,seval,-Nat.reducePow,j1,j2,j4,j6,j7,jL,jL4,hln,h1,hg];rw[hap _ hlo (show(7:Int)≠0 from by decide)];rfl
     | false =>
       rw[if_neg (by grind)]at hlo;simp only[push_cast,seval,-Nat.reducePow,j1,j2,j4,j6,j7,jL,jL4,hln,h1,hg];refine⟨by omega,aAa p298 (by simp only[push_cast,seval,-Nat.reducePow,V.imm,V.imms,aAh,aAo,aAv,aAw,aBx]) (aA3 _) ?_⟩;simp only[push_cast,seval,-Nat.reducePow,outS,Stt.v,Stt.cs,stoV,pplV,watV,lasV,j1,j2,j4,j6,j7,jL,jL4,hln,h1,hg];refine aAy (λn0=>?_) (λn0=>?_)
       .obtain⟨pj1,pj2⟩:=pJ n0;rw[if_neg (by omega)]at hlo;simp only[push_cast,seval,-Nat.reducePow,j1,j2,j4,j6,j7,jL,jL4,hln,h1,hg];exact⟨⟨by omega,by omega⟩,r.length,by omega,a++[c],r,n.1,by grind,rfl,pj1,pj2,hlo,by simp,rfl,by omega⟩
       .rw[if_pos n0]at hlo;simp only[push_cast,seval,-Nat.reducePow,j1,j2,j4,j6,j7,jL,jL4,hln,h1,hg];rw[hap _ hlo n0];rfl
    .rw[if_pos k0]at hlo;simp only[push_cast,seval,-Nat.reducePow,j1,j2,j4,j6,j7,jL,jL4,hln,h1,hg];rw[hap _ hlo k0];rfl
end Go.Ab
namespace Go.Ab
variable {P:Program} {F T:Nat->Nat}
structure StF(P:Program)(F T:Nat->Nat):Prop where
 f293:bJc P F T
 f294:bJt P F T
 f295:bLe P F T
 f296:bHz P F T
 f297:bHt P F T
 f298:bIq P F T
 f299:aR7 P F T
 f300:aH8 P F T
 f301:aQy P F T
 f302:bHe P F T
 f303:bI6 P F T
 f304:bIi P F T
 f305:bLv P F T
 f306:bKw P F T
 f307:bKu P F T
 f308:bK3 P F T
 f309:bHb P F T
 f310:bJs P F T
 f311:bHu P F T
 f312:bJg P F T
 f313:bI1 P F T
 f314:bIs P F T
 f315:aZi P F T
 f317:bD5 P F T
 f318:aI8 P F T
 f319:bLk P F T
 f320:aXo P F T
 f321:bJ4 P F T
 f322:bDu P F T
 f323:aRa P F T
 f324:aVc P F T
 f325:aX1 P F T
 f326:bEq P F T
structure StE(P:Program)(F T:Nat->Nat)(us:List UInt8->Prop)(tt:Ttl->Prop)(ok:Ttl->Bool)(nm:List UInt8->Bool):Prop where
 cd:StF P F T
 ntt:¬tt polT
 us0:us []
 h199:∀t,tt t∨t=polT->PTr P (F 199) [tV t] (.bool true)
 h217:∀u,us u->PTr P (F 217) [.str u] (.bool (nm u))
 hnm:∀u,us u->u≠[]->nm u=true
 h327:∀t,tt t->PTr P (F 327) [tV t] (.str (redS ok t))
 hred:∀t,tt t->(redS ok t).length<=8192
def PolC(P:Program)(F:Nat->Nat)(w:List UInt8):Prop:=
 ∃x y z n,PTr P (F 316) [.str w] (.tup [.agg [x,y,z],.int .i64 n,.int .i64 0])∧x.imm=true∧y.imm=true∧z.imm=true∧(x.one&&(y.one&&z.one))=true
variable {us:List UInt8->Prop} {tt:Ttl->Prop} {ok:Ttl->Bool} {nm:List UInt8->Bool} {w:List UInt8}
theorem StE.h319(H:StE P F T us tt ok nm)(u:List UInt8)(hu:us u):PTr P (F 319) [.str u] (.bool true):=by
 have h:=t319 H.cd.f319 u (H.h217 u hu);by_cases e:u=[]
 .grind
 .rw[H.hnm u hu e,Bool.or_true]at h;exact h
theorem StE.h321(H:StE P F T us tt ok nm)(u:List UInt8)(hu:us u):PTr P (F 321) [.str u] (.bool true):=by
 have h:=t321 H.cd.f321 u (H.h217 u hu);by_cases e:u=[]
 .grind
 .rw[H.hnm u hu e,Bool.or_true]at h;exact h
theorem StE.h295(H:StE P F T us tt ok nm)(c:Chg)(hc:ChgP us tt c):PTr P (F 295) [c.v] (.int .i64 0):=
 t295 H.cd.f295 c hc (t305 H.cd.f305 c hc) (t306 H.cd.f306 H.cd.f322 H.h321 (λt ht=>H.h199 t (.inl ht)) c hc)
theorem StE.h296(H:StE P F T us tt ok nm){k:Nat}{top:Int}{s:Stt}{c:Chg}(h:MstP us tt w k top s)(hc:ChgP us tt c)(hk:k<=40)(seq:Int):PTr P (F 296) [s.v,c.v,.int .i64 seq] (outS (aBs ok s c seq)):=by
 have C:=H.cd;have l1:=h.pagn;have l2:=h.gonn;have l3:=h.prpn;have l4:=h.watn;have l5:=h.prd0;have l6:=h.clk0;have l7:=h.clk1;refine t296 C.f296 s c seq (λk1=>t307 C.f307 C.f300 C.f318 C.f323 s c seq (by omega)) (λ_=>t308 C.f308 C.f300 C.f324 C.f325 s c (by omega) (by omega) (by omega)) (λ_=>t309 C.f309 C.f300 C.f326 C.f318 C.f323 C.f324 s c (by omega) (by omega))
  (λk4=>t310 C.f310 C.f300 C.f318 C.f323 C.f324 C.f325 s c seq (H.h327 _ (hc.to4 k4).1) (by omega) (by omega)) (λk5=>t311 C.f311 C.f300 C.f318 C.f323 s c seq (by omega) ?_ ?_) (λ_=>t312 C.f312 C.f318 C.f320 s c (by omega)) (λ_=>t313 C.f313 s c (by omega) (by omega)) (t314 C.f314 s c (by omega)) l6 (by omega) λk6=>by have:=hc.n6 k6;omega
 .have:=(hc.h5 k5).1;omega
 .have:=(hc.h5 k5).2.1;omega
theorem bLb(H:StE P F T us tt ok nm)(hw:PolC P F w){k:Nat}{s:Stt}(h:MstP us tt w k s.seq s)(hk:k<=40)(hs:s.seq<=1000):PTr P (F 294) [s.v] (.bool true):=by
 have C:=H.cd;have hp:=h.sttP hk hs;refine t294 C.f294 s hp (t302 C.f302 C.f317 C.f318 C.f299 C.f300 C.f301 C.f315 H.h319 H.h199 (λx hx=>?_) s hp) (t303 C.f303 H.h319 H.h199 s hp) (t304 C.f304 C.f320 C.f318 (λu hu=>?_) H.h199 s hp)
 .obtain rfl:x=w:=hx;obtain⟨a,b,c,n,q⟩:=hw;grind
 .have:=H.h217 u hu.1;rw[H.hnm u hu.1 hu.2]at this;omega
theorem aN9(H:StE P F T us tt ok nm)(hw:PolC P F w){pol:List UInt8->Bool}{k:Nat}{s:Stt}{l:List Chg}(h:MstP us tt w k s.seq s)(hc:∀c,c∈l->ChgP us tt c)(hl:1<=l.length)(hk:k+l.length<=37)(hl2:l.length<=16)(hs:s.seq<=1000):
 PTr P (F 293) [s.v,.lst 10 (l.map Chg.v)] (aplV (aFt ok pol s l)):=by
 have C:=H.cd;have h0:=h.seq0;refine t293 C.f293 s l (λr s'=>∃a,l=a++r∧MstP us tt w (k+a.length) (s.seq+1) s'∧s'.seq=s.seq) ⟨[],rfl,h.top (by omega),rfl⟩ hl hl2 h0 hs (bLb H hw h (by omega) hs) (λc hcl=>H.h295 c (hc c hcl)) (λc hcl=>?_) (λc r s' hj=>?_) (λc r s' hj e=>?_) λc r s' hj e1 e2=>?_
 .refine t297 C.f297 C.f315 c λe=>?_;by_cases h6:c.kind≠6∧c.kind≠10
  .have:=(hc c hcl).ttl h6.1 h6.2;rw[e]at this;exact absurd this H.ntt
  .have:=(hc c hcl).t0 (by omega);rw[this]at e;exact absurd e (by decide)
 .obtain⟨a,ha,hm,hq⟩:=hj;have hla:=congrArg xc ha;rw[yl,zg]at hla;exact H.h296 hm (hc c (by grind)) (by omega) _
 .obtain⟨a,ha,hm,hq⟩:=hj;have hla:=congrArg xc ha;rw[yl,zg]at hla;rw[hq]at e ⊢;have q:aBs ok s' c (s.seq+1)=((aBs ok s' c (s.seq+1)).1,0):=xS rfl e;have hcc:=hc c (by grind);obtain⟨m1,m2,m3⟩:=aRv hm H.ntt hcc (λk4=>H.hred _ (hcc.to4 k4).1) (by omega) (by omega) q;exact t298 C.f298 _ c.user _ (by have:=m1.lasn;omega)
 .obtain⟨a,ha,hm,hq⟩:=hj;have hla:=congrArg xc ha;rw[yl,zg]at hla;rw[hq]at e1 e2 ⊢;have q:aBs ok s' c (s.seq+1)=((aBs ok s' c (s.seq+1)).1,0):=xS rfl e1;have hcc:=hc c (by grind);obtain⟨m1,m2,m3⟩:=aRv hm H.ntt hcc (λk4=>H.hred _ (hcc.to4 k4).1) (by omega) (by omega) q;have q2:notS (aBs ok s' c (s.seq+1)).1 c.user (s.seq+1)=((notS (aBs ok s' c (s.seq+1)).1 c.user (s.seq+1)).1,0):=xS rfl e2;obtain⟨m4,m5⟩:=bF3 m1 (by rw[m2];exact hm.lasn) hcc.usr (by omega) q2;exact⟨⟨a++[c],by grind,by grind,by omega⟩,by omega⟩
def zStt:Stt:=⟨0,0,[],[],[],0,[],[]⟩
def polC(w:List UInt8):Chg:=⟨1,[],[],polT,zTtl,w,0,[]⟩
def begS(w:List UInt8):Stt:=⟨1,0,[⟨polT,[⟨1,[],[],w,0,1⟩]⟩],[],[],0,[],[]⟩
theorem bK5(hu:us [])(hw:w.length<=8192):MstP us tt w 1 1 (begS w) where
 seq0:=by simp[begS]
 seqt:=by simp[begS]
 clk0:=by simp[begS]
 clk1:=by simp[begS]
 pagn:=by simp[begS]
 gonn:=by simp[begS]
 pago:=List.pairwise_singleton ..
 pagp:=λp hp=>by rw[zp.1 hp];exact⟨.inr rfl,aMw (l:=[]) (.inl rfl) (by simp) ⟨hw,by simp,hu,by simp,by simp[begS],by simp,by simp⟩ rfl rfl rfl,by simp⟩
 gonp:=λp hp=>by simp[begS]at hp
 pold:=⟨_,zp.2 rfl,rfl,rfl⟩
 prpn:=by simp[begS]
 prd0:=by simp[begS]
 prd1:=by simp[begS]
 prpo:=yz
 prpp:=λp hp=>by simp[begS]at hp
 watn:=by simp[begS]
 wato:=yz
 watp:=λp hp=>by simp[begS]at hp
 lasn:=by simp[begS]
 laso:=yz
 lasp:=λp hp=>by simp[begS]at hp
theorem aYv(H:StE P F T us tt ok nm)(hw:PolC P F w)(hwl:w.length<=8192):PTr P (F 293) [zStt.v,.lst 10 [(polC w).v]] (outS (begS w,0)):=by
 have C:=H.cd;have e:aplV (aFt ok (λ_=>true) zStt [polC w])=outS (begS w,0):=rfl;rw[<-e];have hz:SttP us (λu=>us u∧u≠[]) (λt=>tt t∨t=polT) (λx=>x=w) zStt:=by refine⟨by decide,by decide,by decide,by decide,by decide,by decide,yz,λp hp=>by simp[zStt]at hp,λp hp=>by simp[zStt]at hp,λp hp=>by simp[zStt,aA7,aDn]at hp,by decide,by decide,by decide,yz,λp hp=>by simp[zStt]at hp,by decide,yz,λp hp=>by simp[zStt]at hp,by decide,yz,λp hp=>by simp[zStt]at hp⟩
 have hc:ChgP us (λt=>t=polT) (polC w):=by refine⟨by simp[polC],H.us0,hwl,by simp[polC],λh=>absurd rfl h,λ_ _ _ _=>rfl,λh=>by simp[polC]at h,λ_ _=>rfl,λ_=>rfl,λ_=>rfl,λh=>by simp[polC]at h,λ_=>rfl,λh=>by simp[polC]at h,λh=>by simp[polC]at h,λh=>by simp[polC]at h,λh=>by simp[polC]at h,λh=>by simp[polC]at h⟩
 refine t293 C.f293 zStt [polC w] (λr s'=>(r=[polC w]∧s'=zStt)∨r=[]) (.inl ⟨rfl,rfl⟩) (by simp) (by simp) (by decide) (by decide) ?_ (λc hcl=>?_) (λc hcl=>?_) (λc r s' hj=>?_) (λc r s' hj e=>?_) λc r s' hj e1 e2=>?_
 .refine t294 C.f294 zStt hz (t302 C.f302 C.f317 C.f318 C.f299 C.f300 C.f301 C.f315 H.h319 H.h199 (λx hx=>?_) zStt hz) (t303 C.f303 H.h319 H.h199 zStt hz) (t304 C.f304 C.f320 C.f318 (λu hu=>?_) H.h199 zStt hz)
  .obtain rfl:x=w:=hx;obtain⟨a,b,c,n,q⟩:=hw;grind
  .have:=H.h217 u hu.1;rw[H.hnm u hu.1 hu.2]at this;omega
 .rw[zp.1 hcl];exact t295 C.f295 _ hc (t305 C.f305 _ hc) (t306 C.f306 C.f322 H.h321 (λt ht=>H.h199 t (.inr ht)) _ hc)
 .rw[zp.1 hcl];refine t297 C.f297 C.f315 _ λ_=>?_;obtain⟨x,y,z,n,q,q1,q2,q3,q4⟩:=hw;exact⟨x,y,z,n,0,q,q1,q2,q3,q4,by simp⟩
 .rcases hj with⟨hj,rfl⟩|hj
  .cases hj
   exact t296 C.f296 zStt (polC w) _ (λk1=>t307 C.f307 C.f300 C.f318 C.f323 zStt _ _ (by decide)) (λh=>by simp[polC]at h) (λh=>by simp[polC]at h) (λh=>by simp[polC]at h) (λh=>by simp[polC]at h) (λh=>by simp[polC]at h) (λh=>by simp[polC]at h) (t314 C.f314 zStt _ (by decide)) (by decide) (by decide) λh=>by simp[polC]at h
  grind
 .rcases hj with⟨hj,rfl⟩|hj
  .cases hj
   exact t298 C.f298 _ _ _ (show(0:Nat)<=2^29 from by decide)
  grind
 .rcases hj with⟨hj,rfl⟩|hj
  .cases hj
   exact⟨.inr rfl,rfl⟩
  grind
end Go.Ab
namespace Go.Ab
def aZa(d:Option Nat)(sz:Nat)(ag:Bool)(u v:V)(s:St)(K:St->Prop):Prop:=match u,v with
 | .ptr id _,.ptr id' o=>id=id'∧aD9 d false sz ag (.ptr id' o) s K
 | _,_=>False
theorem bSz{P:Program}{wr:List Nat}{s:St}{K:St->Prop}{d sz ag x b}:aAk P wr (.ldr d sz ag x b) s K=aZa d sz ag (s.ev (.t b)) (s.ev x) s K:=by
 unfold aAk;simp only[aAf,aZa];have e:s.ev (.t b)=s.env b:=rfl;rw[e];cases s.env b with
 | ptr id o =>
   cases s.ev x with
   | ptr id' o' =>
     simp only[aKx,aDq];cases s.L id' with
     | none=>rfl
     | some b=>cases b<;>simp
   | _=>rfl
 | _=>rfl
theorem bJj{d:Option Nat}{sz:Nat}{ag:Bool}{id o id' o':Nat}{s:St}{K:St->Prop}:aZa d sz ag (.ptr id o) (.ptr id' o') s K=(id=id'∧aD9 d false sz ag (.ptr id' o') s K):=rfl
theorem aRs{d:Option Nat}{sz:Nat}{ag:Bool}{u u' v v':V}{s s':St}{K:St->Prop}(h0:u=u')(h:v=v')(h2:s=s'):aZa d sz ag u v s K=aZa d sz ag u' v' s' K:=by rw[h0,h,h2]
attribute [congr] aRs
def bCb(P:Program)(d:Option Nat)(n f:Nat)(args:List V)(u:V)(s:St)(K:St->Prop):Prop:=match u with
 | .ptr id _=>aGt P f args s.L (s.nx+n) (Tg.mk (a:=λr L' nx'=>L' id=s.L id∧K ((⟨s.env,L',nx'⟩:St).setO d r)))
 | _=>aGt P f args s.L (s.nx+n) (Tg.mk (a:=λr L' nx'=>K ((⟨s.env,L',nx'⟩:St).setO d r)))
theorem bTk{P:Program}{wr:List Nat}{s:St}{K:St->Prop}{d n f args b}:aAk P wr (.ecr d n f args b) s K=bCb P d n f (args.map s.ev) (s.ev (.t b)) s K:=by
 unfold aAk aAf bCb aGt;have e:s.ev (.t b)=s.env b:=rfl;rw[e];cases h:s.env b<;>simp[h]
theorem bKa{P:Program}{d:Option Nat}{n f id o:Nat}{args:List V}{s:St}{K:St->Prop}:bCb P d n f args (.ptr id o) s K=aGt P f args s.L (s.nx+n) (Tg.mk (a:=λr L' nx'=>L' id=s.L id∧K ((⟨s.env,L',nx'⟩:St).setO d r))):=rfl
theorem aRk{P:Program}{d:Option Nat}{n f:Nat}{args args':List V}{u u':V}{s s':St}{K:St->Prop}(h0:args=args')(h:u=u')(h2:s=s'):bCb P d n f args u s K=bCb P d n f args' u' s' K:=by rw[h0,h,h2]
attribute [congr] aRk
attribute [push_cast] bSz bJj bTk bKa
end Go.Ab
