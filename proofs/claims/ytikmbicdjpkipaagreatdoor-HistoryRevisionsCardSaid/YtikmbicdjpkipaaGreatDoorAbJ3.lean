import Derived.Test.YtikmbicdjpkipaaGreatDoorAbJ1
import Derived.Test.YtikmbicdjpkipaaGreatDoorAbJ2
import Derived.Sort.Walk0
open List renaming length_map->zb,map->zw,length_cons->zg,getD_eq_getElem?_getD->ze,pairwise_append->xh,pairwise_cons->zF,eq_nil_or_concat->yJ,takeWhile_cons->yv,dropWhile_cons->zO,cons_append->yg,mem_append->zP,mem_cons->zD,nil_append->yf,takeWhile_append_dropWhile->y8,length->xc,length_append->yl,length_singleton->yU,pairwise_singleton->wm,mem_singleton->zp,mem_iff_getElem->zX,pairwise_map->wP,pairwise_iff_getElem->yV,head?_cons->xP,map_nil->yb,length_nil->yk
open Bool renaming false_eq_true->zK
open Nat renaming le_succ_of_le->y9,le_trans->xV
open Int renaming le_refl->yD,le_trans->vd
open Prod.mk renaming injEq->zR
set_option linter.unusedSimpArgs false
set_option linter.unusedVariables false
namespace Go.Ab
variable {P:Program} {F T:Nat->Nat}
def revP(us:List UInt8->Prop)(clock top:Int)(r:Rev):Prop:=
 r.text.length<=8192∧r.note.length<=200∧us r.user∧0<=r.minute∧r.minute<=clock∧1<=r.seq∧r.seq<=top
def numP(i:Nat)(l:List Rev):Prop:=∀k (h:k<l.length),l[k].num=i+k+1
def monP(a b:Rev):Prop:=a.minute<=b.minute∧a.seq<=b.seq
def hisP(us:List UInt8->Prop)(clock top:Int)(l:List Rev):Prop:=
 1<=l.length∧l.length<=40∧numP 0 l∧(∀r,r∈l->revP us clock top r)∧l.Pairwise monP
def prpP(us:List UInt8->Prop)(ts:Ttl->Prop)(clock top:Int)(p:Ppl):Prop:=
 1<=p.id∧p.id<=top∧us p.user∧ts p.t∧0<=p.base∧p.base<=40∧p.text.length<=8192∧p.note.length<=200∧0<=p.minute∧p.minute<=clock
structure SttP(us nm:List UInt8->Prop)(ts:Ttl->Prop)(pol:List UInt8->Prop)(s:Stt):Prop where
 seq0:0<=s.seq
 seq1:s.seq<=1073741824
 clk0:0<=s.clock
 clk1:s.clock<=52595999
 pagn:s.pages.length<=200
 gonn:s.gone.length<=100
 pago:s.pages.Pairwise λa b=>cmpF a.t b.t<0
 pagp:∀p,p∈s.pages->ts p.t∧hisP us s.clock s.seq p.hist
 gonp:∀p,p∈s.gone->ts p.t∧hisP us s.clock s.seq p.hist
 pold:∀p,aA7 s polT=some p->pol (curS p).text
 prpn:s.props.length<=40
 prd0:0<=s.proposed
 prd1:s.proposed<=1073741824
 prpo:s.props.Pairwise λa b=>a.id<b.id
 prpp:∀p,p∈s.props->prpP us ts s.clock s.proposed p
 watn:s.watches.length<=100
 wato:s.watches.Pairwise λa b=>befW a b=true
 watp:∀w,w∈s.watches->nm w.user∧ts w.t
 lasn:s.lasts.length<=60
 laso:s.lasts.Pairwise λa b=>Op.bytesLess a.user b.user=true
 lasp:∀l,l∈s.lasts->nm l.user∧1<=l.seq∧l.seq<=s.seq
theorem t317(hf:bD5 P F T){us:List UInt8->Prop}(h319:∀u,us u->PTr P (F 319) [.str u] (.bool true))(s:Stt)(l:List Rev)(h:hisP us s.clock s.seq l):PTr P (F 317) [s.v,revV l] (.bool true):=by
 obtain⟨g1,g2,g3,g4,g5⟩:=h;have hln:(l.map Rev.v).length=l.length:=zb ..;have e1:¬((l.length:Nat):Int)<1:=by omega
 have e2:¬(40:Int)<((l.length:Nat):Int):=by omega
 refine ptrC [] hf (by simp) rfl ?_;simp only[c317,push_cast,seval,-Nat.reducePow,Stt.v,Stt.cs,stoV,pplV,watV,lasV,revV,hln,e1,e2];refine aAd (λm s1=>∃a r mi q,l=a++r∧m=r.length∧(∀x,x∈r->mi<=x.minute∧q<=x.seq)∧s1.env 1=.lst 6 (l.map Rev.v)∧s1.env 2=.ptr 2 0∧s1.env 5=.int .i64 mi∧s1.env 6=.int .i64 q∧s1.env 7=.int .i64 a.length ∧
  s1.L 2=some (.box (T 34) [V.int IntKind.i64 s.seq,V.int IntKind.i64 s.clock,V.lst 3 (zw Sto.v s.pages),V.lst 3 (zw Sto.v s.gone),V.lst 8 (zw Ppl.v s.props),V.int IntKind.i64 s.proposed,V.lst 3 (zw Wat.v s.watches),V.lst 2 (zw Las.v s.lasts)])∧2<s1.nx) l.length ?_ λm s1 hJ=>?_
 .simp only[push_cast,seval,-Nat.reducePow];exact⟨[],l,0,1,rfl,rfl,λx hx=>⟨(g4 x hx).2.2.2.1,(g4 x hx).2.2.2.2.2.1⟩,rfl,rfl,rfl⟩
 .obtain⟨a,r,mi,q,hal,rfl,hmq,j1,j2,j5,j6,j7,jL,jn⟩:=hJ;have hal2:l.length=a.length+r.length:=by rw[hal];simp
  cases r with
  | nil =>
    have h1:¬((a.length:Nat):Int)<((l.length:Nat):Int):=by rw[hal];simp
    simp only[push_cast,seval,-Nat.reducePow,j1,j2,j5,j6,j7,jL,hln,h1];exact aAb 3 _ rfl
  | cons x r =>
    rw[zg]at hal2;have h1:((a.length:Nat):Int)<((l.length:Nat):Int):=by omega
    have hx:x∈l:=by rw[hal];simp
    obtain⟨x1,x2,x3,x4,x5,x6,x7⟩:=g4 x hx;obtain⟨y1,y2⟩:=hmq x (by simp);have hnum:x.num=(a.length:Int)+1:=by
     have h0:a.length<l.length:=by omega
     have:=g3 a.length h0;have e:l[a.length]=x:=by simp[hal]
     rw[e]at this;omega
    have hg:(l.map Rev.v).getD a.length .junk=.agg [.int .i64 ((a.length:Int)+1),.str x.user,.str x.note,.str x.text,.int .i64 x.minute,.int .i64 x.seq]:=by rw[hal];simp[ze,Rev.v,hnum]
    have b1:¬(8192:Int)<((x.text.length:Nat):Int):=by omega
    have b2:¬(200:Int)<((x.note.length:Nat):Int):=by omega
    have b3:¬x.minute<mi:=by omega
    have b4:¬s.clock<x.minute:=by omega
    have b5:¬x.seq<q:=by omega
    have b6:¬s.seq<x.seq:=by omega
    simp only[push_cast,seval,-Nat.reducePow,j1,j2,j5,j6,j7,jL,hln,h1,hg,b1,b2];refine⟨by omega,⟨by omega,by omega⟩,aAa (h319 x.user x3) (by simp only[push_cast,seval,-Nat.reducePow]) (by simp only[push_cast,seval,-Nat.reducePow]) ?_⟩;simp only[push_cast,seval,-Nat.reducePow,j1,j2,j5,j6,j7,jL,b3,b4,b5,b6];have g5':(x::r).Pairwise monP:=by rw[hal]at g5;exact(xh.1 g5).2.1
    exact⟨⟨by omega,by omega⟩,r.length,by omega,a++[x],r,x.minute,x.seq,by rw[hal];simp,rfl,(zF.1 g5').1,rfl,rfl,by simp,by omega⟩
abbrev boxS(T:Nat->Nat)(s:Stt):Blk:=.box (T 34) [V.int IntKind.i64 s.seq,V.int IntKind.i64 s.clock,V.lst 3 (zw Sto.v s.pages),V.lst 3 (zw Sto.v s.gone),V.lst 8 (zw Ppl.v s.props),V.int IntKind.i64 s.proposed,V.lst 3 (zw Wat.v s.watches),V.lst 2 (zw Las.v s.lasts)]
theorem t303(hf:bI6 P F T){us nm:List UInt8->Prop}{ts:Ttl->Prop}{pol:List UInt8->Prop}(h319:∀u,us u->PTr P (F 319) [.str u] (.bool true))(h199:∀t,ts t->PTr P (F 199) [tV t] (.bool true))(s:Stt)(h:SttP us nm ts pol s):PTr P (F 303) [s.v] (.bool true):=by
 have hln:(s.props.map Ppl.v).length=s.props.length:=zb ..;have e1:¬(40:Int)<((s.props.length:Nat):Int):=by have:=h.prpn;omega
 have e2:¬s.proposed<0:=by have:=h.prd0;omega
 have e3:¬(1073741824:Int)<s.proposed:=by have:=h.prd1;omega
 have hn:=h.prpn;refine ptrC [] hf (by simp) rfl ?_;simp only[c303,push_cast,seval,-Nat.reducePow,Stt.v,Stt.cs,stoV,pplV,watV,lasV,hln,e1,e2,e3];refine aAd (λm s1=>∃a r id,s.props=a++r∧m=r.length∧(∀x,x∈r->id<x.id)∧s1.env 1=.ptr 1 0∧s1.env 3=.int .i64 id∧s1.env 4=.int .i64 a.length∧s1.L 1=some (boxS T s)∧1<s1.nx) s.props.length ?_ λm s1 hJ=>?_
 .simp only[push_cast,seval,-Nat.reducePow];exact⟨[],s.props,0,rfl,rfl,λx hx=>by have:=(h.prpp x hx).1;omega,rfl,rfl⟩
 .obtain⟨a,r,id,hal,rfl,hid,j1,j3,j4,jL,jn⟩:=hJ;have hal2:s.props.length=a.length+r.length:=by grind
  cases r with
  | nil =>
    have h1:¬((a.length:Nat):Int)<((s.props.length:Nat):Int):=by grind
    simp only[push_cast,seval,-Nat.reducePow,j1,j3,j4,jL,hln,h1];rfl
  | cons x r =>
    rw[zg]at hal2;have h1:((a.length:Nat):Int)<((s.props.length:Nat):Int):=by omega
    have hx:x∈s.props:=by grind
    obtain⟨x1,x2,x3,x4,x5,x6,x7,x8,x9,x10⟩:=h.prpp x hx;have y1:=hid x (by simp);have hg:(s.props.map Ppl.v).getD a.length .junk=.agg [.int .i64 x.id,.str x.user,.str x.note,.int .i64 x.t.1,.str x.t.2,.int .i64 x.base,.str x.text,.int .i64 x.minute]:=by rw[hal];simp[ze,Ppl.v]
    have b1:¬x.id<=id:=by omega
    have b2:¬s.proposed<x.id:=by omega
    have b3:¬x.base<0:=by omega
    have b4:¬(40:Int)<x.base:=by omega
    have b5:¬(8192:Int)<((x.text.length:Nat):Int):=by omega
    have b6:¬(200:Int)<((x.note.length:Nat):Int):=by omega
    have b7:¬x.minute<0:=by omega
    have b8:¬s.clock<x.minute:=by omega
    simp only[push_cast,seval,-Nat.reducePow,j1,j3,j4,jL,hln,h1,hg,b1,b2];refine⟨by omega,aAa (h319 x.user x3) (by rfl) (by rfl) ?_⟩;simp only[push_cast,seval,-Nat.reducePow,j1,j3,j4,jL];refine aAa (h199 x.t x4) (by rfl) (by rfl) ?_;simp only[push_cast,seval,-Nat.reducePow,j1,j3,j4,jL,b3,b4,b5,b6,b7,b8];have g5:=h.prpo;have g5':(x::r).Pairwise λa b=>a.id<b.id:=by grind
    exact⟨⟨by omega,by omega⟩,r.length,by omega,a++[x],r,x.id,by grind,rfl,(zF.1 g5').1,rfl,by simp,by omega⟩
theorem t304(hf:bIi P F T)(h320:aXo P F T)(h318:aI8 P F T){us nm:List UInt8->Prop}{ts:Ttl->Prop}{pol:List UInt8->Prop}(h217:∀u,nm u->PTr P (F 217) [.str u] (.bool true))(h199:∀t,ts t->PTr P (F 199) [tV t] (.bool true))(s:Stt)(h:SttP us nm ts pol s):PTr P (F 304) [s.v] (.bool true):=by
 have hlw:(s.watches.map Wat.v).length=s.watches.length:=zb ..;have hll:(s.lasts.map Las.v).length=s.lasts.length:=zb ..;have hwn:=h.watn;have hlsn:=h.lasn;have e1:¬(100:Int)<((s.watches.length:Nat):Int):=by omega
 have e2:¬(60:Int)<((s.lasts.length:Nat):Int):=by omega
 refine ptrC [] hf (by simp) rfl ?_;simp only[c304,push_cast,seval,-Nat.reducePow,Stt.v,Stt.cs,stoV,pplV,watV,lasV,hlw,hll,e1,e2];refine aAd (λm s1=>∃a r,s.watches=a++r∧m=r.length∧s1.env 1=.ptr 1 0∧s1.env 3=.int .i64 a.length∧s1.L 1=some (boxS T s)∧1<s1.nx) s.watches.length ?_ λm s1 hJ=>?_
 .simp only[push_cast,seval,-Nat.reducePow];exact⟨[],s.watches,rfl,rfl,rfl⟩
 .obtain⟨a,r,hal,rfl,j1,j3,jL,jn⟩:=hJ;have hal2:s.watches.length=a.length+r.length:=by grind
  cases r with
  | nil =>
    have h1:¬((a.length:Nat):Int)<((s.watches.length:Nat):Int):=by grind
    simp only[push_cast,seval,-Nat.reducePow,j1,j3,jL,hlw,hll,h1];refine aAd (λm s1=>∃a r,s.lasts=a++r∧m=r.length∧s1.env 1=.ptr 1 0∧s1.env 5=.int .i64 a.length∧s1.L 1=some (boxS T s)∧1<s1.nx) s.lasts.length ?_ λm s2 hJ=>?_
    .simp only[push_cast,seval,-Nat.reducePow];exact⟨[],s.lasts,rfl,rfl,j1,rfl,jL,by omega⟩
    .obtain⟨a,r,hal,rfl,j1,j5,jL,jn⟩:=hJ;have hal2:s.lasts.length=a.length+r.length:=by grind
     cases r with
     | nil =>
       have h1:¬((a.length:Nat):Int)<((s.lasts.length:Nat):Int):=by omega
       simp only[push_cast,seval,-Nat.reducePow,j1,j5,jL,hll,h1];rfl
     | cons x r =>
       rw[zg]at hal2;have h1:((a.length:Nat):Int)<((s.lasts.length:Nat):Int):=by omega
       have hx:x∈s.lasts:=by grind
       obtain⟨x1,x2,x3⟩:=h.lasp x hx;have hg:(s.lasts.map Las.v).getD a.length .junk=.agg [.str x.user,.int .i64 x.seq]:=by rw[hal];simp[ze,Las.v]
       have b1:¬x.seq<1:=by omega
       have b2:¬s.seq<x.seq:=by omega
       simp only[push_cast,seval,-Nat.reducePow,j1,j5,jL,hll,h1,hg];refine⟨by omega,aAa (h217 x.user x1) (by rfl) (by rfl) ?_⟩;simp only[push_cast,seval,-Nat.reducePow,j1,j5,jL,b1,b2];rcases yJ a with ha|⟨a',y,ha⟩
       .have c0:¬(0:Int)<((a.length:Nat):Int):=by grind
        simp only[push_cast,seval,-Nat.reducePow,c0,j1,j5,jL];exact⟨⟨by omega,by omega⟩,r.length,by omega,a++[x],r,by grind,rfl,by simp,by omega⟩
       .have c0:(0:Int)<((a.length:Nat):Int):=by grind
        have c1:(((a.length:Nat):Int)-1).toNat=a'.length:=by grind
        have hg2:(s.lasts.map Las.v).getD a'.length .junk=.agg [.str y.user,.int .i64 y.seq]:=by rw[hal,ha];simp[ze,Las.v]
        have g5:=h.laso;have hlt:Op.bytesLess y.user x.user=true:=by grind
        simp only[push_cast,seval,-Nat.reducePow,c0,c1,hg2,j1,j5,jL,hll,hlt];have hla:a.length=a'.length+1:=by omega
        exact⟨⟨by omega,by omega⟩,by omega,by omega,⟨by omega,by omega⟩,r.length,by omega,a++[x],r,by grind,rfl,by simp,by omega⟩
  | cons x r =>
    rw[zg]at hal2;have h1:((a.length:Nat):Int)<((s.watches.length:Nat):Int):=by omega
    have hx:x∈s.watches:=by grind
    obtain⟨x1,x2⟩:=h.watp x hx;have hg:(s.watches.map Wat.v).getD a.length .junk=.agg [.str x.user,.int .i64 x.t.1,.str x.t.2]:=by rw[hal];simp[ze,Wat.v]
    simp only[push_cast,seval,-Nat.reducePow,j1,j3,jL,hlw,h1,hg];refine⟨by omega,aAa (h217 x.user x1) (by rfl) (by rfl) ?_⟩;simp only[push_cast,seval,-Nat.reducePow,j1,j3,jL];refine aAa (h199 x.t x2) (by rfl) (by rfl) ?_;simp only[push_cast,seval,-Nat.reducePow,j1,j3,jL];rcases yJ a with ha|⟨a',y,ha⟩
    .have c0:¬(0:Int)<((a.length:Nat):Int):=by grind
     simp only[push_cast,seval,-Nat.reducePow,c0,j1,j3,jL];exact⟨⟨by omega,by omega⟩,r.length,by omega,a++[x],r,by grind,rfl,by simp,by omega⟩
    .have c0:(0:Int)<((a.length:Nat):Int):=by grind
     have c1:(((a.length:Nat):Int)-1).toNat=a'.length:=by grind
     have hg2:(s.watches.map Wat.v).getD a'.length .junk=.agg [.str y.user,.int .i64 y.t.1,.str y.t.2]:=by rw[hal,ha];simp[ze,Wat.v]
     have g5:=h.wato;have hlt:befW y x=true:=by grind
     have hb:=t320 h320 h318 y x;rw[hlt]at hb;simp only[push_cast,seval,-Nat.reducePow,c0,c1,hg2,j1,j3,jL,hlw];have hla:a.length=a'.length+1:=by omega
     refine⟨⟨by omega,by omega⟩,by omega,by omega,aAa hb (by rfl) (by rfl) ?_⟩;simp only[push_cast,seval,-Nat.reducePow,j1,j3,jL];exact⟨⟨by omega,by omega⟩,r.length,by omega,a++[x],r,by grind,rfl,by simp,by omega⟩
theorem aEr(l:List Rev):V.imms (l.map Rev.v)=true:=aA2 _ _ λ_=>rfl
theorem t302(hf:bHe P F T)(h317:bD5 P F T)(h318:aI8 P F T)(h299:aR7 P F T)(h300:aH8 P F T)(h301:aQy P F T)(h315:aZi P F T){us nm:List UInt8->Prop}{ts:Ttl->Prop}{pol:List UInt8->Prop}(h319:∀u,us u->PTr P (F 319) [.str u] (.bool true))(h199:∀t,ts t->PTr P (F 199) [tV t] (.bool true))
 (h316:∀x,pol x->∃a b c n,PTr P (F 316) [.str x] (.tup [.agg [a,b,c],.int .i64 n,.int .i64 0])∧a.imm=true∧b.imm=true∧c.imm=true∧(a.one&&(b.one&&c.one))=true) (s:Stt) (h:SttP us nm ts pol s):PTr P (F 302) [s.v] (.bool true):=by
 have hlp:(s.pages.map Sto.v).length=s.pages.length:=zb ..;have hlg:(s.gone.map Sto.v).length=s.gone.length:=zb ..;have hpn:=h.pagn;have hgn:=h.gonn;have e1:¬(200:Int)<((s.pages.length:Nat):Int):=by omega
 have e2:¬(100:Int)<((s.gone.length:Nat):Int):=by omega
 refine ptrC [] hf (by simp) rfl ?_;simp only[c302,push_cast,seval,-Nat.reducePow,Stt.v,Stt.cs,stoV,pplV,watV,lasV,hlp,hlg,e1,e2];refine aAd (λm s1=>∃a r,s.pages=a++r∧m=r.length∧s1.env 1=.ptr 1 0∧s1.env 3=.int .i64 a.length∧s1.L 1=some (boxS T s)∧1<s1.nx) s.pages.length ?_ λm s1 hJ=>?_
 .simp only[push_cast,seval,-Nat.reducePow];exact⟨[],s.pages,rfl,rfl,rfl⟩
 .obtain⟨a,r,hal,rfl,j1,j3,jL,jn⟩:=hJ;have hal2:s.pages.length=a.length+r.length:=by grind
  cases r with
  | nil =>
    have h1:¬((a.length:Nat):Int)<((s.pages.length:Nat):Int):=by grind
    simp only[push_cast,seval,-Nat.reducePow,j1,j3,jL,hlp,hlg,h1];refine aAd (λm s1=>∃a r,s.gone=a++r∧m=r.length∧s1.env 1=.ptr 1 0∧s1.env 5=.int .i64 a.length∧s1.L 1=some (boxS T s)∧1<s1.nx) s.gone.length ?_ λm s2 hJ=>?_
    .simp only[push_cast,seval,-Nat.reducePow];grind
    .obtain⟨a,r,hal,rfl,j1,j5,jL,jn⟩:=hJ;have hal2:s.gone.length=a.length+r.length:=by grind
     cases r with
     | nil =>
       have h1:¬((a.length:Nat):Int)<((s.gone.length:Nat):Int):=by omega
       simp only[push_cast,seval,-Nat.reducePow,j1,j5,jL,hlg,h1];have hp:=t299 h299 h300 s polT (by omega);refine aAa (t315 h315) (by rfl) (by rfl) ?_;simp only[push_cast,seval,-Nat.reducePow,tV,tCs,j1,jL];refine aAa hp (by simp only[push_cast,seval,-Nat.reducePow,V.imm,V.imms,aAh,aAo,aAv,aAw]) ?_ ?_
       .cases aA7 s polT with
        | none=>rfl
        | some p=>simp[aE8,V.imm,V.imms,aF4]
       have hpd:=h.pold;cases hpf:aA7 s polT with
       | none=>simp only[push_cast,seval,-Nat.reducePow,aE8,j1,jL];rfl
       | some p =>
         obtain⟨x,y,z,n,g1,g2,g3,g4,g5⟩:=h316 _ (hpd p hpf);have hpm:p∈s.pages:=by unfold aA7 at hpf;obtain⟨i,hi,rfl⟩:=Option.map_eq_some_iff.1 hpf;obtain⟨q1,_⟩:=aBu hi;grind
         have hcl:=(h.pagp p hpm).2.2.1;have h1v:(revV p.hist).one=true:=rfl;have hcu:=t301 h301 p (by omega);simp only[Rev.v,Sto.v]at hcu;simp only[push_cast,seval,-Nat.reducePow,aE8,Sto.v,h1v,j1,jL];refine aAa hcu (by simp only[push_cast,seval,-Nat.reducePow,V.imm,V.imms,revV,aEr]) (by rfl) ?_;simp only[push_cast,seval,-Nat.reducePow];refine aAa g1 (by rfl) (by simp only[V.imm,V.imms,g2,g3,g4,Bool.and_self]) ?_;simp only[push_cast,seval,-Nat.reducePow,g5];rfl
     | cons x r =>
       rw[zg]at hal2;have h1:((a.length:Nat):Int)<((s.gone.length:Nat):Int):=by omega
       have hx:x∈s.gone:=by grind
       obtain⟨x1,x2⟩:=h.gonp x hx;have hg:(s.gone.map Sto.v).getD a.length .junk=.agg [.int .i64 x.t.1,.str x.t.2,revV x.hist]:=by rw[hal];simp[ze,Sto.v]
       have h1v:(revV x.hist).one=true:=rfl;have hh:=t317 h317 h319 s x.hist x2;simp only[push_cast,seval,-Nat.reducePow,j1,j5,jL,hlg,h1,hg,h1v];refine⟨by omega,aAa (h199 x.t (x1)) (by rfl) (by rfl) ?_⟩;simp only[push_cast,seval,-Nat.reducePow,j1,j5,jL,hlg,h1,hg,h1v];refine⟨by omega,aAa hh (by simp only[push_cast,seval,-Nat.reducePow,V.imm,V.imms,revV,aEr,aAh,aAo,aAv,aAw]) (by rfl) ?_⟩;simp only[push_cast,seval,-Nat.reducePow,j1,j5,jL];exact⟨⟨by omega,by omega⟩,r.length,by omega,a++[x],r,by grind,rfl,by simp,by omega⟩
  | cons x r =>
    rw[zg]at hal2;have h1:((a.length:Nat):Int)<((s.pages.length:Nat):Int):=by omega
    have hx:x∈s.pages:=by grind
    obtain⟨x1,x2⟩:=h.pagp x hx;have hg:(s.pages.map Sto.v).getD a.length .junk=.agg [.int .i64 x.t.1,.str x.t.2,revV x.hist]:=by rw[hal];simp[ze,Sto.v]
    have h1v:(revV x.hist).one=true:=rfl;have hh:=t317 h317 h319 s x.hist x2;simp only[push_cast,seval,-Nat.reducePow,j1,j3,jL,hlp,h1,hg,h1v];refine⟨by omega,aAa (h199 x.t x1) (by rfl) (by rfl) ?_⟩;simp only[push_cast,seval,-Nat.reducePow,j1,j3,jL];refine aAa hh (by simp only[push_cast,seval,-Nat.reducePow,V.imm,V.imms,revV,aEr,aAh,aAo,aAv,aAw]) (by rfl) ?_;simp only[push_cast,seval,-Nat.reducePow,j1,j3,jL];rcases yJ a with ha|⟨a',y,ha⟩
    .have c0:¬(0:Int)<((a.length:Nat):Int):=by grind
     simp only[push_cast,seval,-Nat.reducePow,c0,j1,j3,jL];exact⟨⟨by omega,by omega⟩,r.length,by omega,a++[x],r,by grind,rfl,by simp,by omega⟩
    .have c0:(0:Int)<((a.length:Nat):Int):=by grind
     have c1:(((a.length:Nat):Int)-1).toNat=a'.length:=by grind
     have hg2:(s.pages.map Sto.v).getD a'.length .junk=.agg [.int .i64 y.t.1,.str y.t.2,revV y.hist]:=by rw[hal,ha];simp[ze,Sto.v]
     have g5:=h.pago;have hlt:cmpF y.t x.t<0:=by grind
     have hnl:¬(0:Int)<=cmpF y.t x.t:=by omega
     have hla:a.length=a'.length+1:=by omega
     simp only[push_cast,seval,-Nat.reducePow,c0,c1,hg2,j1,j3,jL,hlp];refine⟨⟨by omega,by omega⟩,by omega,by omega,aAa (t318 h318 y.t x.t) (by rfl) (by rfl) ?_⟩;simp only[push_cast,seval,-Nat.reducePow,hnl,j1,j3,jL];exact⟨⟨by omega,by omega⟩,r.length,by omega,a++[x],r,by grind,rfl,by simp,by omega⟩
theorem t294(hf:bJt P F T){us nm:List UInt8->Prop}{ts:Ttl->Prop}{pol:List UInt8->Prop}(s:Stt)(h:SttP us nm ts pol s)(h302:PTr P (F 302) [s.v] (.bool true))(h303:PTr P (F 303) [s.v] (.bool true))(h304:PTr P (F 304) [s.v] (.bool true)):PTr P (F 294) [s.v] (.bool true):=by
 refine ptrC [] hf (by simp) rfl ?_;have e1:¬s.seq<0:=by have:=h.seq0;omega
 have e2:¬(1073741824:Int)<s.seq:=by have:=h.seq1;omega
 have e3:¬s.clock<0:=by have:=h.clk0;omega
 have e4:¬(52595999:Int)<s.clock:=by have:=h.clk1;omega
 simp only[c294,push_cast,seval,-Nat.reducePow,Stt.v,Stt.cs,stoV,pplV,watV,lasV,e1,e2,e3,e4];refine aAa h302 (by simp only[push_cast,seval,-Nat.reducePow,V.imm,V.imms,aAh,aAo,aAv,aAw]) (by rfl) ?_;simp only[push_cast,seval,-Nat.reducePow];refine aAa h303 (by simp only[push_cast,seval,-Nat.reducePow,V.imm,V.imms,aAh,aAo,aAv,aAw]) (by rfl) ?_;simp only[push_cast,seval,-Nat.reducePow];refine aAa h304 (by simp only[push_cast,seval,-Nat.reducePow,V.imm,V.imms,aAh,aAo,aAv,aAw]) (by rfl) ?_;rfl
end Go.Ab
namespace Go.Ab
theorem aG1{a b:List UInt8}:Op.bytesLess a b=true↔a<b:=by rw[Go.Proofs.bytesLess_eq];simp
theorem bJ0{a b:List UInt8}(h:¬a<b)(k:a≠b):b<a:=by
 grind
theorem aRq{a b:Ttl}:cmpF a b<0↔a.1<b.1∨(a.1=b.1∧a.2<b.2):=by
 unfold cmpF;rw[<-aG1];grind
theorem aQc{a b c:Ttl}(h:cmpF a b<0)(k:cmpF b c<0):cmpF a c<0:=by
 rw[aRq]at h k ⊢;grind
theorem aNp(a:Ttl):¬cmpF a a<0:=by
 rw[aRq];simp
theorem aZz{a b:Ttl}(h:¬cmpF a b<0)(k:a≠b):cmpF b a<0:=by
 rw[aRq]at h ⊢;grind
theorem aXs{a b:Wat}:befW a b=true↔a.user<b.user∨(a.user=b.user∧cmpF a.t b.t<0):=by
 simp[befW,aG1]
theorem aW5{a b c:Wat}(h:befW a b=true)(k:befW b c=true):befW a c=true:=by
 rw[aXs]at h k ⊢;rcases h with h|⟨h,h'⟩<;>rcases k with k|⟨k,k'⟩
 .grind
 .grind
 .grind
 .exact .inr ⟨h.trans k,aQc h' k'⟩
theorem bKk{a b:Wat}(h:¬befW a b=true)(k:a≠b):befW b a=true:=by
 rw[aXs]at h ⊢;by_cases e:a.user=b.user
 .refine .inr ⟨e.symm,aZz (λf=>h (.inr ⟨e,f⟩)) λf=>k ?_⟩;obtain⟨u,t⟩:=a;simp_all
 grind
theorem bF4{α:Type}{R:α->α->Prop}{f:α->Bool}{p:α}(htr:∀x y,R p x->R x y->R p y):∀l:List α,l.Pairwise R->(∀x,x∈l->f x=true->R x p)->(∀x,x∈l->f x=false->R p x)->(l.takeWhile f++p::l.dropWhile f).Pairwise R
 | [],_,_,_=>by simp
 | x::r,hp,h1,h2=>by
   have ih:=bF4 htr r (zF.1 hp).2 (λy hy=>h1 y (by grind)) (λy hy=>h2 y (by grind));cases hx:f x with
   | true =>
     simp only[yv,zO,hx,if_true,yg];refine zF.2 ⟨λy hy=>?_,ih⟩;rcases zP.1 hy with hy|hy
     .exact(zF.1 hp).1 y (List.takeWhile_sublist _ |>.mem hy)
     .rcases zD.1 hy with rfl|hy
      .grind
      .exact(zF.1 hp).1 y (List.dropWhile_sublist _ |>.mem hy)
   | false =>
     simp only[yv,zO,hx,if_false,yf,zK];have hpx:=h2 x (by simp) hx;refine zF.2 ⟨λy hy=>?_,hp⟩;rcases zD.1 hy with rfl|hy
     .omega
     .exact htr x y hpx ((zF.1 hp).1 y hy)
theorem aRn{α:Type}{f:α->Bool}{p x:α}{l:List α}:x∈l.takeWhile f++p::l.dropWhile f↔x=p∨x∈l:=by
 have h:=y8 (p:=f) (l:=l);grind
theorem aX6{α:Type}{f:α->Bool}{p:α}{l:List α}:(l.takeWhile f++p::l.dropWhile f).length=l.length+1:=by
 have h:=congrArg xc (y8 (p:=f) (l:=l));grind
theorem aGg(l:List Sto)(i:Nat):(wtoS l i).Sublist l:=by
 rw[wtoS,<-List.eraseIdx_eq_take_drop_succ];grind
structure MstP(us:List UInt8->Prop)(tt:Ttl->Prop)(w:List UInt8)(k:Nat)(top:Int)(s:Stt):Prop where
 seq0:0<=s.seq
 seqt:s.seq<=top
 clk0:0<=s.clock
 clk1:s.clock<=2000*k
 pagn:s.pages.length<=k
 gonn:s.gone.length<=k
 pago:s.pages.Pairwise λa b=>cmpF a.t b.t<0
 pagp:∀p,p∈s.pages->(tt p.t∨p.t=polT)∧hisP us s.clock top p.hist∧p.hist.length<=k+2
 gonp:∀p,p∈s.gone->tt p.t∧hisP us s.clock top p.hist∧p.hist.length<=k+2
 pold:∃p,p∈s.pages∧p.t=polT∧(curS p).text=w
 prpn:s.props.length<=k
 prd0:0<=s.proposed
 prd1:s.proposed<=k
 prpo:s.props.Pairwise λa b=>a.id<b.id
 prpp:∀p,p∈s.props->prpP us tt s.clock s.proposed p
 watn:s.watches.length<=k
 wato:s.watches.Pairwise λa b=>befW a b=true
 watp:∀w,w∈s.watches->us w.user∧w.user≠[]∧tt w.t
 lasn:s.lasts.length<=k
 laso:s.lasts.Pairwise λa b=>Op.bytesLess a.user b.user=true
 lasp:∀l,l∈s.lasts->us l.user∧l.user≠[]∧1<=l.seq∧l.seq<=top
def impP(us:List UInt8->Prop)(l:List Rev):Prop:=
 1<=l.length∧l.length<=3∧numP 0 l∧(∀r,r∈l->r.text.length<=8192∧r.note.length<=200∧us r.user∧0<=r.minute∧r.minute<=52595999∧r.seq=0)∧l.Pairwise λa b=>a.minute<=b.minute
structure ChgP(us:List UInt8->Prop)(tt:Ttl->Prop)(c:Chg):Prop where
 kd:1<=c.kind∧c.kind<=10
 usr:us c.user
 text:c.text.length<=8192
 note:c.note.length<=200
 note0:c.kind≠1->c.kind≠9->c.note=[]∧c.text=[]
 n0:c.kind≠4->c.kind≠6->c.kind≠9->c.kind≠10->c.n=0
 t0:c.kind=6∨c.kind=10->c.t=zTtl
 ttl:c.kind≠6->c.kind≠10->tt c.t
 u6:c.kind=6->c.user=[]
 to0:c.kind≠4->c.to=zTtl
 to4:c.kind=4->tt c.to∧(c.n=0∨c.n=1)
 h0:c.kind≠5->c.hist=[]
 h5:c.kind=5->impP us c.hist
 n6:c.kind=6->1<=c.n∧c.n<=2000
 u7:c.kind=7∨c.kind=8->c.user≠[]
 n9:c.kind=9->0<=c.n∧c.n<=40
 n10:c.kind=10->1<=c.n∧c.n<=100
variable {us:List UInt8->Prop} {tt:Ttl->Prop} {w:List UInt8}
theorem aNt{c c' t t':Int}{l:List Rev}(h:hisP us c t l)(h1:c<=c')(h2:t<=t'):hisP us c' t' l:=by
 obtain⟨a,b,d,e,f⟩:=h;refine⟨a,b,d,λr hr=>?_,f⟩;obtain⟨q1,q2,q3,q4,q5,q6,q7⟩:=e r hr;exact⟨q1,q2,q3,q4,by omega,q6,by omega⟩
theorem aMw{clock top:Int}{l:List Rev}{r:Rev}(h:l=[]∨hisP us clock top l)(hl:l.length<=39)(hr:revP us clock top r)(hn:r.num=l.length+1)(hm:r.minute=clock)(hs:r.seq=top):hisP us clock top (l++[r]):=by
 have hmem:∀x,x∈l->revP us clock top x:=λx hx=>by
  rcases h with rfl|h
  .grind
  .exact h.2.2.2.1 x hx
 refine⟨by simp,by grind,λk hk=>?_,λx hx=>?_,?_⟩
 .rw[yl,yU]at hk;by_cases hk2:k<l.length
  .rw[List.getElem_append_left hk2];rcases h with rfl|h
   .grind
   .exact h.2.2.1 k hk2
  grind
 .grind
 .refine xh.2 ⟨?_,wm ..,λa ha b hb=>?_⟩
  .rcases h with rfl|h
   .simp
   .exact h.2.2.2.2
  .rw[zp.1 hb];have:=hmem a ha;obtain⟨_,_,_,_,q5,_,q7⟩:=this;exact⟨by omega,by omega⟩
theorem MstP.up{k:Nat}{top:Int}{s:Stt}(h:MstP us tt w k top s):MstP us tt w (k+1) top s:=
 { h with
   clk1:=by have:=h.clk1;omega
   pagn:=y9 h.pagn
   gonn:=y9 h.gonn
   pagp:=λp hp=>⟨(h.pagp p hp).1,(h.pagp p hp).2.1,by have:=(h.pagp p hp).2.2;omega⟩
   gonp:=λp hp=>⟨(h.gonp p hp).1,(h.gonp p hp).2.1,by have:=(h.gonp p hp).2.2;omega⟩
   prpn:=y9 h.prpn
   prd1:=by have:=h.prd1;omega
   watn:=y9 h.watn
   lasn:=y9 h.lasn }
theorem aDv{l:List Sto}{t:Ttl}(h:aDn l t=none):∀p,p∈l->p.t≠t:=by
 intro p hp;have:=List.findIdx?_eq_none_iff.1 h p hp;grind
theorem aF5{l:List Sto}{t:Ttl}{i:Nat}(h:aDn l t=some i):l.getD i zSto∈l:=by
 have h1:=(aBu h).1;grind
theorem aF6{l:List Sto}{p:Sto}(h:l.Pairwise λa b=>cmpF a.t b.t<0)(hn:∀q,q∈l->q.t≠p.t):(insS l p).Pairwise λa b=>cmpF a.t b.t<0:=by
 refine bF4 (R:=λa b:Sto=>cmpF a.t b.t<0) (λx y h1 h2=>aQc h1 h2) l h (λx hx he=>by grind) λx hx he=>aZz ?_ (hn x hx);grind
theorem aCu{l:List Sto}{p x:Sto}:x∈insS l p↔x=p∨x∈l:=aRn
theorem aHe{l:List Sto}{p:Sto}:(insS l p).length=l.length+1:=aX6
theorem aZ3{l:List Sto}{i:Nat}(hi:i<l.length){p:Sto}(hp:p∈l)(hn:p.t≠(l.getD i zSto).t):p∈wtoS l i:=by
 obtain⟨j,hj,e⟩:=zX.1 hp;have hij:j≠i:=by grind
 unfold wtoS;by_cases h:j<i
 .exact zP.2 (.inl (zX.2 ⟨j,by grind,by simp[e]⟩))
 .refine zP.2 (.inr (zX.2 ⟨j-(i+1),by grind,?_⟩));grind
theorem aR0{l:List Sto}{i:Nat}(hi:i<l.length):(wtoS l i).length=l.length-1:=by simp[wtoS];omega
abbrev Kept(us:List UInt8->Prop)(tt:Ttl->Prop)(w:List UInt8)(k:Nat)(top:Int)(s t:Stt):Prop:=MstP us tt w (k+1) top t∧t.lasts=s.lasts∧t.seq=s.seq
theorem bQe{k:Nat}{top:Int}{s t:Stt}{c:Chg}(h:MstP us tt w k top s)(ht:¬tt polT)(hc:ChgP us tt c)(hk1:c.kind=1)(h1:1<=top)(hk:k<=36)(e:putS s c top=(t,0)):Kept us tt w k top s t:=by
 have hct:=hc.ttl (by omega) (by omega);have hrev:∀n,revP us s.clock top ⟨n,c.user,c.note,c.text,s.clock,top⟩:=λn=>⟨hc.text,hc.note,hc.usr,h.clk0,yD _,h1,yD _⟩;unfold putS at e;split at e
 .rename_i hf;split at e
  .grind
  .simp only[zR,and_true]at e;subst e;refine⟨{ h.up with pagn:=?_,pago:=?_,pagp:=?_,pold:=?_ },rfl,rfl⟩
   .show(insS _ _).length<=_;rw[aHe];have:=h.pagn;omega
   .exact aF6 h.pago (aDv hf)
   .intro p hp;rcases aCu.1 hp with rfl|hp
    .exact⟨.inl hct,aMw (l:=[]) (.inl rfl) (by simp) (hrev 1) rfl rfl rfl,by simp⟩
    .exact h.up.pagp p hp
   .obtain⟨p,p1,p2⟩:=h.pold;exact⟨p,aCu.2 (.inr p1),p2⟩
 .rename_i i hf;obtain⟨hi,hti⟩:=aBu hf;have hm:=h.pagp _ (aF5 hf);dsimp only at e;split at e
  .omega
  .simp only[zR,and_true]at e;subst e;have hte:∀x,((s.pages.set i ⟨c.t,x⟩).map Sto.t)=s.pages.map Sto.t:=λx=>by
    rw[List.map_set];refine List.ext_getElem (by simp) λj h1 h2=>?_;grind
   refine⟨{ h.up with pagn:=?_,pago:=?_,pagp:=?_,pold:=?_ },rfl,rfl⟩
   .show(List.set _ _ _).length<=_;rw[List.length_set];have:=h.pagn;omega
   .have:=(wP (f:=Sto.t) (R:=λa b=>cmpF a b<0)).2 h.pago;grind
   .intro p hp;rcases List.mem_or_eq_of_mem_set hp with hp|rfl
    .exact h.up.pagp p hp
    .refine⟨.inl hct,aMw (.inr hm.2.1) (by omega) (hrev _) rfl rfl rfl,?_⟩;grind
   .obtain⟨p,p1,p2,p3⟩:=h.pold;refine⟨p,?_,p2,p3⟩;obtain⟨j,hj,ej⟩:=zX.1 p1;have hij:i≠j:=by
     grind
    refine zX.2 ⟨j,by grind,?_⟩;grind
theorem aJs{k:Nat}{top:Int}{s:Stt}(h:MstP us tt w k top s)(f:Ppl->Bool):(s.props.filter f).length<=k∧(s.props.filter f).Pairwise (λa b=>a.id<b.id)∧∀p,p∈s.props.filter f->prpP us tt s.clock s.proposed p:=
 ⟨xV (List.length_filter_le ..) h.prpn,h.prpo.filter _,λp hp=>h.prpp p ((List.mem_filter.1 hp).1)⟩
theorem bNu{k:Nat}{top:Int}{s t:Stt}{c:Chg}(h:MstP us tt w k top s)(ht:¬tt polT)(hct:tt c.t)(e:remS s c=(t,0)):Kept us tt w k top s t:=by
 unfold remS at e;split at e
 .grind
 .rename_i i hf;obtain⟨hi,hti⟩:=aBu hf;have hm:=h.pagp _ (aF5 hf);split at e
  .grind
  .simp only[zR,and_true]at e;subst e;obtain⟨d1,d2,d3⟩:=aJs h.up λp=>decide (p.t≠c.t);refine⟨{ h.up with pagn:=?_,gonn:=?_,pago:=?_,pagp:=?_,gonp:=?_,pold:=?_,prpn:=d1,prpo:=d2,prpp:=d3 },rfl,rfl⟩
   .show(wtoS _ _).length<=_;rw[aR0 hi];have:=h.pagn;omega
   .show(xc (_++_))<=_;rw[yl,yU];have:=h.gonn;omega
   .exact h.pago.sublist (aGg _ _)
   .exact λp hp=>h.up.pagp p ((aGg _ _).mem hp)
   .intro p hp;rcases zP.1 hp with hp|hp
    .exact h.up.gonp p hp
    grind
   .obtain⟨p,p1,p2,p3⟩:=h.pold;exact⟨p,aZ3 hi p1 (by grind),p2,p3⟩
theorem aMi{l:List Sto}{t:Ttl}:∀{k i:Nat},aLm l t k=some i->i<k∧(l.getD i zSto).t=t
 | 0,i,h=>by simp[aLm]at h
 | k+1,i,h=>by
   unfold aLm at h;split at h
   .grind
   .have:=aMi h;grind
theorem bOh{k:Nat}{top:Int}{s t:Stt}{c:Chg}(h:MstP us tt w k top s)(ht:¬tt polT)(hct:tt c.t)(e:resS s c=(t,0)):Kept us tt w k top s t:=by
 unfold resS at e;split at e
 .grind
 .rename_i hf;split at e
  .grind
  .rename_i i hg;obtain⟨hi,hti⟩:=aMi hg;have hmem:s.gone.getD i zSto∈s.gone:=by
    grind
   have hm:=h.gonp _ hmem;split at e
   .grind
   .simp only[zR,and_true]at e;subst e;refine⟨{ h.up with pagn:=?_,gonn:=?_,pago:=?_,pagp:=?_,gonp:=?_,pold:=?_ },rfl,rfl⟩
    .show(insS _ _).length<=_;rw[aHe];have:=h.pagn;omega
    .show(wtoS _ _).length<=_;rw[aR0 hi];have:=h.gonn;omega
    .exact aF6 h.pago (λq hq=>by rw[hti];exact aDv hf q hq)
    .intro p hp;rcases aCu.1 hp with rfl|hp
     .grind
     .exact h.up.pagp p hp
    .exact λp hp=>h.up.gonp p ((aGg _ _).mem hp)
    .obtain⟨p,p1,p2⟩:=h.pold;exact⟨p,aCu.2 (.inr p1),p2⟩
theorem bPg{ok:Ttl->Bool}{k:Nat}{top:Int}{s t:Stt}{c:Chg}(h:MstP us tt w k top s)(ht:¬tt polT)(hct:tt c.t)(hto:tt c.to)(hus:us c.user)(hr:(redS ok c.to).length<=8192)(h1:1<=top)(e:movS ok s c top=(t,0)):Kept us tt w k top s t:=by
 unfold movS at e;split at e
 .grind
 .rename_i i hf;obtain⟨hi,hti⟩:=aBu hf;have hm:=h.pagp _ (aF5 hf);split at e
  .grind
  .rename_i hf2;split at e
   .grind
   .simp only[zR,and_true]at e;subst e;obtain⟨d1,d2,d3⟩:=aJs h.up λp=>decide (p.t≠c.t);have hno:∀q,q∈wtoS s.pages i->q.t≠c.to:=λq hq=>aDv hf2 q ((aGg _ _).mem hq);have o1:=aF6 (p:=⟨c.to,(s.pages.getD i zSto).hist⟩) (h.pago.sublist (aGg s.pages i)) hno;have l1:(insS (wtoS s.pages i) ⟨c.to,(s.pages.getD i zSto).hist⟩).length=s.pages.length:=by rw[aHe,aR0 hi];omega
    have m1:∀p,p∈insS (wtoS s.pages i) ⟨c.to,(s.pages.getD i zSto).hist⟩->(tt p.t∨p.t=polT)∧hisP us s.clock top p.hist∧p.hist.length<=k+1+2:=by
     intro p hp;rcases aCu.1 hp with rfl|hp
     .grind
     .exact h.up.pagp p ((aGg _ _).mem hp)
    obtain⟨p,p1,p2,p3⟩:=h.pold;have pp:p∈insS (wtoS s.pages i) ⟨c.to,(s.pages.getD i zSto).hist⟩:=aCu.2 (.inr (aZ3 hi p1 (by grind)));have hne:c.to≠c.t:=by grind
    by_cases hn:c.n=1
    .simp only[hn,if_true];refine⟨{ h.up with pagn:=?_,pago:=?_,pagp:=?_,pold:=?_,prpn:=d1,prpo:=d2,prpp:=d3 },rfl,rfl⟩
     .show(insS _ _).length<=_;rw[aHe,l1];have:=h.pagn;omega
     .refine aF6 o1 λq hq=>?_;rcases aCu.1 hq with rfl|hq
      .omega
      .intro e;obtain⟨j,hj,ej⟩:=zX.1 hq;have hpw:=h.pago;unfold wtoS at hq;have hsi:s.pages.getD i zSto=s.pages[i]:=by grind
       rw[hsi]at hti;rcases zP.1 hq with hq|hq
       .obtain⟨j,hj,ej⟩:=zX.1 hq;rw[List.length_take]at hj;rw[List.getElem_take]at ej;have:=yV.1 hpw j i (by omega) hi (by omega);rw[ej,e,hti]at this;exact aNp _ this
       .obtain⟨j,hj,ej⟩:=zX.1 hq;rw[List.length_drop]at hj;rw[List.getElem_drop]at ej;have:=yV.1 hpw i (i+1+j) hi (by omega) (by omega);rw[ej,e,hti]at this;exact aNp _ this
     .intro p hp;rcases aCu.1 hp with rfl|hp
      .exact⟨.inl hct,aMw (l:=[]) (.inl rfl) (by simp) ⟨hr,by simp,hus,h.clk0,yD _,h1,yD _⟩ rfl rfl rfl,by simp⟩
      grind
     .exact⟨p,aCu.2 (.inr pp),p2,p3⟩
    .simp only[hn,if_false];refine⟨{ h.up with pagn:=?_,pago:=o1,pagp:=m1,pold:=⟨p,pp,p2,p3⟩,prpn:=d1,prpo:=d2,prpp:=d3 },rfl,rfl⟩;show(insS _ _).length<=_;rw[l1];have:=h.pagn;omega
theorem bM8{k:Nat}{top:Int}{s t:Stt}{c:Chg}(h:MstP us tt w k top s)(hct:tt c.t)(hh:impP us c.hist)(h1:1<=top)(e:takS s c top=(t,0)):Kept us tt w k top s t:=by
 unfold takS at e;split at e
 .grind
 .rename_i hf;split at e
  .grind
  .rename_i hcl;split at e
   .grind
   .simp only[zR,and_true]at e;subst e;obtain⟨q1,q2,q3,q4,q5⟩:=hh;have hle:∀r,r∈c.hist->r.minute<=s.clock:=by
     intro r hr;have hne:c.hist≠[]:=by grind
     have hg:c.hist.getLast?.getD zRev=c.hist.getLast hne:=by grind
     rw[hg]at hcl;have:r.minute<=(c.hist.getLast hne).minute:=by
      rw[<-List.dropLast_concat_getLast hne]at hr q5;rcases zP.1 hr with hr|hr
      .exact(xh.1 q5).2.2 r hr _ (by simp)
      grind
     omega
    refine⟨{ h.up with pagn:=?_,pago:=?_,pagp:=?_,pold:=?_ },rfl,rfl⟩
    .show(insS _ _).length<=_;rw[aHe];have:=h.pagn;omega
    .exact aF6 h.pago (aDv hf)
    .intro p hp;rcases aCu.1 hp with rfl|hp
     .refine⟨.inl hct,⟨by grind,by grind,λj hj=>?_,λr hr=>?_,?_⟩,by grind⟩
      .rw[zb]at hj;rw[List.getElem_map];exact q3 j hj
      .obtain⟨r0,hr0,rfl⟩:=List.mem_map.1 hr;obtain⟨z1,z2,z3,z4,z5,z6⟩:=q4 r0 hr0;exact⟨z1,z2,z3,z4,hle r0 hr0,h1,yD _⟩
      .exact wP.2 (q5.imp λhab=>⟨hab,yD _⟩)
     .exact h.up.pagp p hp
    .obtain⟨p,p1,p2⟩:=h.pold;exact⟨p,aCu.2 (.inr p1),p2⟩
theorem bNn{k:Nat}{top:Int}{s t:Stt}{c:Chg}(h:MstP us tt w k top s)(hct:tt c.t)(hus:us c.user)(hun:c.user≠[])(e:wtcS s c=(t,0)):Kept us tt w k top s t:=by
 unfold wtcS at e;have hins:(s.watches.dropWhile λx=>befW x ⟨c.user,c.t⟩).head?≠some ⟨c.user,c.t⟩->(s.watches.takeWhile (λx=>befW x ⟨c.user,c.t⟩)++⟨c.user,c.t⟩::s.watches.dropWhile (λx=>befW x ⟨c.user,c.t⟩)).Pairwise λa b=>befW a b=true:=by
  intro hne;obtain⟨l,hl⟩:∃l,l=s.watches:=⟨_,rfl⟩;have hpw:=h.wato;rw[<-hl]at hne hpw ⊢;clear e hl;induction l with
  | nil=>simp
  | cons x r ih =>
    cases hx:befW x ⟨c.user,c.t⟩with
    | true =>
      simp only[yv,zO,hx,if_true,yg]at hne ⊢;refine zF.2 ⟨λy hy=>?_,ih hne (zF.1 hpw).2⟩;rcases aRn.1 hy with rfl|hy
      .exact hx
      simp_all
    | false =>
      simp only[yv,zO,hx,if_false,yf,zK,xP,ne_eq,Option.some.injEq]at hne ⊢;have hb:=bKk (a:=x) (b:=⟨c.user,c.t⟩) (by grind) hne;refine zF.2 ⟨λy hy=>?_,hpw⟩;rcases zD.1 hy with rfl|hy
      .exact hb
      .exact aW5 hb ((zF.1 hpw).1 y hy)
 have hsub:((s.watches.takeWhile λx=>befW x ⟨c.user,c.t⟩)++(s.watches.dropWhile λx=>befW x ⟨c.user,c.t⟩).tail).Sublist s.watches:=by have:=y8 (p:=λx=>befW x ⟨c.user,c.t⟩) (l:=s.watches);grind
 simp only at e;split at e
 .split at e
  .simp only[zR,and_true]at e;subst e;exact⟨{ h.up with watn:=xV hsub.length_le h.up.watn,wato:=h.wato.sublist hsub,watp:=λx hx=>h.watp x (hsub.mem hx) },rfl,rfl⟩
  grind
 .split at e
  .grind
  .rename_i hne;split at e
   .grind
   .simp only[zR,and_true]at e;subst e;refine⟨{ h.up with watn:=?_,wato:=hins hne,watp:=λx hx=>?_ },rfl,rfl⟩
    .show xc (_++_)<=_;rw[aX6];have:=h.watn;omega
    .rcases aRn.1 hx with rfl|hx
     .grind
     .exact h.watp x hx
theorem bOq{k:Nat}{top:Int}{s t:Stt}{c:Chg}(h:MstP us tt w k top s)(hc:ChgP us tt c)(hk9:c.kind=9)(e:prpS s c=(t,0)):Kept us tt w k top s t:=by
 unfold prpS at e;split at e
 .grind
 .simp only[zR,and_true]at e;subst e;have hp0:=h.prd0;refine⟨{ h.up with prpn:=?_,prd0:=?_,prd1:=?_,prpo:=?_,prpp:=?_ },rfl,rfl⟩
  .show xc (_++_)<=_;rw[yl,yU];have:=h.prpn;omega
  .grind
  .show s.proposed+1<=((k+1:Nat):Int);have:=h.prd1;omega
  .refine xh.2 ⟨h.prpo,wm ..,λa ha b hb=>?_⟩;rw[zp.1 hb];have:=(h.prpp a ha).2.1;grind
  .intro p hp;rcases zP.1 hp with hp|hp
   .obtain⟨a1,a2,a3⟩:=h.prpp p hp;exact⟨a1,by grind,a3⟩
   .rw[zp.1 hp];have n9:=hc.n9 hk9;exact⟨by grind,yD _,hc.usr,hc.ttl (by omega) (by omega),n9.1,n9.2,hc.text,hc.note,h.clk0,yD _⟩
theorem aRv{ok:Ttl->Bool}{k:Nat}{top:Int}{s t:Stt}{c:Chg}(h:MstP us tt w k top s)(ht:¬tt polT)(hc:ChgP us tt c)(hr:c.kind=4->(redS ok c.to).length<=8192)(h1:1<=top)(hk:k<=36)(e:aBs ok s c top=(t,0)):Kept us tt w k top s t:=by
 unfold aBs at e;split at e
 .rename_i k1;exact bQe h ht hc k1 h1 hk e
 split at e
 .exact bNu h ht (hc.ttl (by omega) (by omega)) e
 split at e
 .exact bOh h ht (hc.ttl (by omega) (by omega)) e
 split at e
 .rename_i k4;exact bPg h ht (hc.ttl (by omega) (by omega)) (hc.to4 k4).1 hc.usr (hr k4) h1 e
 split at e
 .rename_i k5;exact bM8 h (hc.ttl (by omega) (by omega)) (hc.h5 k5) h1 e
 split at e
 .rename_i k6;split at e
  .grind
  .simp only[zR,and_true]at e;subst e;obtain⟨n1,n2⟩:=hc.n6 k6;have q0:=h.clk0;have q1:=h.clk1;refine⟨{ h.up with clk0:=?_,clk1:=?_,pagp:=λp hp=>?_,gonp:=λp hp=>?_,prpp:=λp hp=>?_ },rfl,rfl⟩
   .grind
   .grind
   .obtain⟨a,b,d⟩:=h.up.pagp p hp;exact⟨a,aNt b (by grind) (yD _),d⟩
   .obtain⟨a,b,d⟩:=h.up.gonp p hp;exact⟨a,aNt b (by grind) (yD _),d⟩
   .obtain⟨a1,a2,a3,a4,a5,a6,a7,a8,a9,a10⟩:=h.up.prpp p hp;exact⟨a1,a2,a3,a4,a5,a6,a7,a8,a9,by grind⟩
 split at e
 .rename_i k7;exact bNn h (hc.ttl (by omega) (by omega)) hc.usr (hc.u7 k7) e
 split at e
 .rename_i k9;exact bOq h hc k9 e
 unfold shtS at e;simp only at e;split at e
 .grind
 .simp only[zR,and_true]at e;subst e;obtain⟨d1,d2,d3⟩:=aJs h.up λp=>decide (p.id≠c.n);exact⟨{ h.up with prpn:=d1,prpo:=d2,prpp:=d3 },rfl,rfl⟩
theorem bF3{k:Nat}{top:Int}{s t:Stt}{u:List UInt8}(h:MstP us tt w (k+1) top s)(hl:s.lasts.length<=k)(hu:us u)(h1:1<=top)(e:notS s u top=(t,0)):MstP us tt w (k+1) top t∧t.seq=s.seq:=by
 unfold notS at e;split at e
 .grind
 .rename_i hun;simp only at e;split at e
  .grind
  .simp only[zR,and_true]at e;subst e;have key:∀l:List Las,l.Pairwise (λa b=>Op.bytesLess a.user b.user=true)->(l.takeWhile (λx=>Op.bytesLess x.user u)++⟨u,top⟩::(if(l.dropWhile λx=>Op.bytesLess x.user u).head?.map Las.user=some u then(l.dropWhile λx=>Op.bytesLess x.user u).tail else l.dropWhile λx=>Op.bytesLess x.user u)).Pairwise (λa b=>Op.bytesLess a.user b.user=true) ∧
    (∀x,x∈l.takeWhile (λx=>Op.bytesLess x.user u)++⟨u,top⟩::(if(l.dropWhile λx=>Op.bytesLess x.user u).head?.map Las.user=some u then(l.dropWhile λx=>Op.bytesLess x.user u).tail else l.dropWhile λx=>Op.bytesLess x.user u)->x=⟨u,top⟩∨x∈l) ∧
    (l.takeWhile (λx=>Op.bytesLess x.user u)++(⟨u,top⟩:Las)::(if(l.dropWhile λx=>Op.bytesLess x.user u).head?.map Las.user=some u then(l.dropWhile λx=>Op.bytesLess x.user u).tail else l.dropWhile λx=>Op.bytesLess x.user u)).length<=l.length+1:=by
    intro l hpw;induction l with
    | nil=>simp
    | cons x r ih =>
      obtain⟨i1,i2,i3⟩:=ih (zF.1 hpw).2;cases hx:Op.bytesLess x.user u with
      | true =>
        simp only[yv,zO,hx,if_true,yg];refine⟨zF.2 ⟨λy hy=>?_,i1⟩,λy hy=>?_,by grind⟩
        .rcases i2 y hy with rfl|hy
         .exact hx
         simp_all
        grind
      | false =>
        simp only[yv,zO,hx,if_false,yf,zK,xP,Option.map_some,Option.some.injEq];by_cases hxu:x.user=u
        .simp_all
        .simp only[hxu,if_false];have hlt:Op.bytesLess u x.user=true:=aG1.2 (bJ0 (λf=>by rw[aG1.2 f]at hx;cases hx) hxu);refine⟨zF.2 ⟨λy hy=>?_,hpw⟩,λy hy=>?_,by simp⟩
         .rcases zD.1 hy with rfl|hy
          .omega
          .exact aG1.2 (List.lt_trans (aG1.1 hlt) (aG1.1 ((zF.1 hpw).1 y hy)))
         grind
   obtain⟨k1,k2,k3⟩:=key s.lasts h.laso;refine⟨{ h with lasn:=xV k3 (by omega),laso:=k1,lasp:=λx hx=>?_ },rfl⟩;rcases k2 x hx with rfl|hx
   .grind
   .exact h.lasp x hx
theorem MstP.top{k:Nat}{top top':Int}{s:Stt}(h:MstP us tt w k top s)(ht:top<=top'):MstP us tt w k top' s:=
 { h with
   seqt:=vd h.seqt ht
   pagp:=λp hp=>⟨(h.pagp p hp).1,aNt (h.pagp p hp).2.1 (yD _) ht,(h.pagp p hp).2.2⟩
   gonp:=λp hp=>⟨(h.gonp p hp).1,aNt (h.gonp p hp).2.1 (yD _) ht,(h.gonp p hp).2.2⟩
   lasp:=λl hl=>⟨(h.lasp l hl).1,(h.lasp l hl).2.1,(h.lasp l hl).2.2.1,vd (h.lasp l hl).2.2.2 ht⟩ }
theorem MstP.seq{k:Nat}{top:Int}{s:Stt}(h:MstP us tt w k top s)(h1:1<=top):MstP us tt w k top { s with seq:=top }:=
 { h with seq0:=by grind,seqt:=yD _ }
theorem aW7{k:Nat}{top:Int}{s:Stt}(h:MstP us tt w k top s):∃p,aA7 s polT=some p∧p∈s.pages∧p.t=polT∧(curS p).text=w:=by
 obtain⟨p,p1,p2,p3⟩:=h.pold;have hne:aDn s.pages polT≠none:=λe=>aDv e p p1 p2;obtain⟨i,hi⟩:=Option.ne_none_iff_exists'.1 hne;obtain⟨h1,h2⟩:=aBu hi;refine⟨p,?_,p1,p2,p3⟩;rw[aA7,hi];show some (s.pages.getD i zSto)=some p;congr 1;obtain⟨j,hj,ej⟩:=zX.1 p1;have hsi:s.pages.getD i zSto=s.pages[i]:=by grind
 rw[hsi]at h2 ⊢;rcases Nat.lt_trichotomy i j with hij|hij|hij
 .have:=yV.1 h.pago i j h1 hj hij;rw[ej,p2,h2]at this;exact absurd this (aNp _)
 .grind
 .have:=yV.1 h.pago j i hj h1 hij;rw[ej,p2,h2]at this;exact absurd this (aNp _)
theorem MstP.sttP{k:Nat}{s:Stt}(h:MstP us tt w k s.seq s)(hk:k<=40)(hs:s.seq<=1000):SttP us (λu=>us u∧u≠[]) (λt=>tt t∨t=polT) (λx=>x=w) s where
 seq0:=h.seq0
 seq1:=by omega
 clk0:=h.clk0
 clk1:=by have:=h.clk1;omega
 pagn:=by have:=h.pagn;omega
 gonn:=by have:=h.gonn;omega
 pago:=h.pago
 pagp:=λp hp=>⟨(h.pagp p hp).1,(h.pagp p hp).2.1⟩
 gonp:=λp hp=>⟨.inl (h.gonp p hp).1,(h.gonp p hp).2.1⟩
 pold:=λp hp=>by obtain⟨q,q1,q2,q3,q4⟩:=aW7 h;grind
 prpn:=by have:=h.prpn;omega
 prd0:=h.prd0
 prd1:=by have:=h.prd1;omega
 prpo:=h.prpo
 prpp:=λp hp=>by obtain⟨a1,a2,a3,a4,a5⟩:=h.prpp p hp;exact⟨a1,a2,a3,.inl a4,a5⟩
 watn:=by have:=h.watn;omega
 wato:=h.wato
 watp:=λx hx=>⟨⟨(h.watp x hx).1,(h.watp x hx).2.1⟩,.inl (h.watp x hx).2.2⟩
 lasn:=by have:=h.lasn;omega
 laso:=h.laso
 lasp:=λl hl=>⟨⟨(h.lasp l hl).1,(h.lasp l hl).2.1⟩,(h.lasp l hl).2.2⟩
end Go.Ab
namespace Go.Ab
variable {P:Program} {F T:Nat->Nat}
theorem t321(hf:bJ4 P F T){nm:List UInt8->Bool}(s:List UInt8)(h217:PTr P (F 217) [.str s] (.bool (nm s))):PTr P (F 321) [.str s] (.bool (decide (s=[])||nm s)):=by
 refine ptrC [] hf (by simp) rfl ?_;by_cases h:s=[]
 .simp only[c321,push_cast,seval,-Nat.reducePow,h];rfl
 .simp only[c321,push_cast,seval,-Nat.reducePow,h];refine aAa h217 (by rfl) (by rfl) ?_;rfl
theorem aMy{n:Int}(h:1<=n∧n<=10):n=1∨n=2∨n=3∨n=4∨n=5∨n=6∨n=7∨n=8∨n=9∨n=10:=by omega
theorem t322(hf:bDu P F T){us:List UInt8->Prop}(h321:∀u,us u->PTr P (F 321) [.str u] (.bool true))(l:List Rev)(h:impP us l):PTr P (F 322) [revV l] (.bool true):=by
 obtain⟨g1,g2,g3,g4,g5⟩:=h;have hln:(l.map Rev.v).length=l.length:=zb ..;have e1:¬((l.length:Nat):Int)<1:=by omega
 have e2:¬(40:Int)<((l.length:Nat):Int):=by omega
 refine ptrC [] hf (by simp) rfl ?_;simp only[c322,push_cast,seval,-Nat.reducePow,revV,hln,e1,e2];refine aAd (λm s1=>∃a r,l=a++r∧m=r.length∧s1.env 0=.lst 6 (l.map Rev.v)∧s1.env 3=.int .i64 a.length) l.length ?_ λm s1 hJ=>?_
 .simp only[push_cast,seval,-Nat.reducePow];exact⟨[],l,rfl,rfl,rfl⟩
 .obtain⟨a,r,hal,rfl,j0,j3⟩:=hJ;have hal2:l.length=a.length+r.length:=by grind
  cases r with
  | nil =>
    have h1:¬((a.length:Nat):Int)<((l.length:Nat):Int):=by grind
    simp only[push_cast,seval,-Nat.reducePow,j0,j3,hln,h1];rfl
  | cons x r =>
    rw[zg]at hal2;have h1:((a.length:Nat):Int)<((l.length:Nat):Int):=by omega
    have hx:x∈l:=by grind
    obtain⟨x1,x2,x3,x4,x5,x6⟩:=g4 x hx;have hnum:x.num=(a.length:Int)+1:=by
     have h0:a.length<l.length:=by omega
     have:=g3 a.length h0;grind
    have hg:(l.map Rev.v).getD a.length .junk=.agg [.int .i64 ((a.length:Int)+1),.str x.user,.str x.note,.str x.text,.int .i64 x.minute,.int .i64 0]:=by rw[hal];simp[ze,Rev.v,hnum,x6]
    have b1:¬x.minute<0:=by omega
    have b2:¬(52595999:Int)<x.minute:=by omega
    simp only[push_cast,seval,-Nat.reducePow,j0,j3,hln,h1,hg];refine⟨by omega,⟨by omega,by omega⟩,aAa (h321 x.user x3) (by rfl) (by rfl) ?_⟩;simp only[push_cast,seval,-Nat.reducePow,j0,j3,hln,b1,b2];rcases yJ a with ha|⟨a',y,ha⟩
    .have c0:¬(0:Int)<((a.length:Nat):Int):=by grind
     simp only[push_cast,seval,-Nat.reducePow,c0,j0,j3];exact⟨⟨by omega,by omega⟩,r.length,by omega,a++[x],r,by grind,rfl,by simp⟩
    .have c0:(0:Int)<((a.length:Nat):Int):=by grind
     have c1:(((a.length:Nat):Int)-1).toNat=a'.length:=by simp_all
     have c2:(0:Int)<=((a.length:Nat):Int)-1:=by omega
     have hg2:(l.map Rev.v).getD a'.length .junk=y.v:=by grind
     have hlt:¬x.minute<y.minute:=by grind
     have hla:a.length=a'.length+1:=by omega
     simp only[push_cast,seval,-Nat.reducePow,c0,c1,c2,hg2,Rev.v,hlt,j0,j3,hln];exact⟨⟨by omega,by omega⟩,by omega,⟨by omega,by omega⟩,r.length,by omega,a++[x],r,by grind,rfl,by simp⟩
theorem t305(hf:bLv P F T){us:List UInt8->Prop}{tt:Ttl->Prop}(c:Chg)(hc:ChgP us tt c):PTr P (F 305) [c.v] (.bool true):=by
 refine ptrC [] hf (by simp) rfl ?_;rcases aMy hc.kd with k0|k0|k0|k0|k0|k0|k0|k0|k0|k0
 .have nn:=hc.n0 (by omega) (by omega) (by omega) (by omega);have o0:=hc.to0 (by omega);have o1:c.to.1=0:=by rw[o0];rfl
  have o2:c.to.2=[]:=by rw[o0];rfl
  have hh:=hc.h0 (by omega);simp only[c305,push_cast,seval,-Nat.reducePow,Chg.v,Chg.cs,revV,k0,nn,o1,o2,hh,yb,yk];rfl
 .obtain⟨n1,n2⟩:=hc.note0 (by omega) (by omega);have nn:=hc.n0 (by omega) (by omega) (by omega) (by omega);have o0:=hc.to0 (by omega);have o1:c.to.1=0:=by rw[o0];rfl
  have o2:c.to.2=[]:=by rw[o0];rfl
  have hh:=hc.h0 (by omega);simp only[c305,push_cast,seval,-Nat.reducePow,Chg.v,Chg.cs,revV,k0,n1,n2,nn,o1,o2,hh,yb,yk];rfl
 .obtain⟨n1,n2⟩:=hc.note0 (by omega) (by omega);have nn:=hc.n0 (by omega) (by omega) (by omega) (by omega);have o0:=hc.to0 (by omega);have o1:c.to.1=0:=by rw[o0];rfl
  have o2:c.to.2=[]:=by rw[o0];rfl
  have hh:=hc.h0 (by omega);simp only[c305,push_cast,seval,-Nat.reducePow,Chg.v,Chg.cs,revV,k0,n1,n2,nn,o1,o2,hh,yb,yk];rfl
 .obtain⟨n1,n2⟩:=hc.note0 (by omega) (by omega);have hh:=hc.h0 (by omega);simp only[c305,push_cast,seval,-Nat.reducePow,Chg.v,Chg.cs,revV,k0,n1,n2,hh,yb,yk];rfl
 .obtain⟨n1,n2⟩:=hc.note0 (by omega) (by omega);have nn:=hc.n0 (by omega) (by omega) (by omega) (by omega);have o0:=hc.to0 (by omega);have o1:c.to.1=0:=by rw[o0];rfl
  have o2:c.to.2=[]:=by rw[o0];rfl
  simp only[c305,push_cast,seval,-Nat.reducePow,Chg.v,Chg.cs,revV,k0,n1,n2,nn,o1,o2,yb,yk];rfl
 .obtain⟨n1,n2⟩:=hc.note0 (by omega) (by omega);have t0:=hc.t0 (by omega);have t1:c.t.1=0:=by rw[t0];rfl
  have t2:c.t.2=[]:=by rw[t0];rfl
  have u1:=hc.u6 k0;have o0:=hc.to0 (by omega);have o1:c.to.1=0:=by grind
  have o2:c.to.2=[]:=by grind
  have hh:=hc.h0 (by omega);simp only[c305,push_cast,seval,-Nat.reducePow,Chg.v,Chg.cs,revV,k0,n1,n2,t1,t2,u1,o1,o2,hh,yb,yk];rfl
 .obtain⟨n1,n2⟩:=hc.note0 (by omega) (by omega);have nn:=hc.n0 (by omega) (by omega) (by omega) (by omega);have o0:=hc.to0 (by omega);have o1:c.to.1=0:=by rw[o0];rfl
  have o2:c.to.2=[]:=by rw[o0];rfl
  have hh:=hc.h0 (by omega);simp only[c305,push_cast,seval,-Nat.reducePow,Chg.v,Chg.cs,revV,k0,n1,n2,nn,o1,o2,hh,yb,yk];rfl
 .obtain⟨n1,n2⟩:=hc.note0 (by omega) (by omega);have nn:=hc.n0 (by omega) (by omega) (by omega) (by omega);have o0:=hc.to0 (by omega);have o1:c.to.1=0:=by rw[o0];rfl
  have o2:c.to.2=[]:=by rw[o0];rfl
  have hh:=hc.h0 (by omega);simp only[c305,push_cast,seval,-Nat.reducePow,Chg.v,Chg.cs,revV,k0,n1,n2,nn,o1,o2,hh,yb,yk];rfl
 .have o0:=hc.to0 (by omega);have o1:c.to.1=0:=by rw[o0];rfl
  have o2:c.to.2=[]:=by rw[o0];rfl
  have hh:=hc.h0 (by omega);simp only[c305,push_cast,seval,-Nat.reducePow,Chg.v,Chg.cs,revV,k0,o1,o2,hh,yb,yk];rfl
 .obtain⟨n1,n2⟩:=hc.note0 (by omega) (by omega);have t0:=hc.t0 (by omega);have t1:c.t.1=0:=by rw[t0];rfl
  have t2:c.t.2=[]:=by rw[t0];rfl
  have o0:=hc.to0 (by omega);have o1:c.to.1=0:=by grind
  have o2:c.to.2=[]:=by grind
  have hh:=hc.h0 (by omega);simp only[c305,push_cast,seval,-Nat.reducePow,Chg.v,Chg.cs,revV,k0,n1,n2,t1,t2,o1,o2,hh,yb,yk];rfl
theorem t306(hf:bKw P F T)(h322:bDu P F T){us:List UInt8->Prop}{tt:Ttl->Prop}(h321:∀u,us u->PTr P (F 321) [.str u] (.bool true))(h199:∀t,tt t->PTr P (F 199) [tV t] (.bool true))(c:Chg)(hc:ChgP us tt c):PTr P (F 306) [c.v] (.bool true):=by
 refine ptrC [] hf (by simp) rfl ?_;have hu:=h321 _ hc.usr;rcases aMy hc.kd with k0|k0|k0|k0|k0|k0|k0|k0|k0|k0
 .simp only[c306,push_cast,seval,-Nat.reducePow,Chg.v,Chg.cs,revV,k0];refine aAa (h199 c.t (hc.ttl (by omega) (by omega))) (by rfl) (by rfl) ?_;simp only[push_cast,seval,-Nat.reducePow,k0];refine aAa hu (by rfl) (by rfl) ?_;simp only[push_cast,seval,-Nat.reducePow,k0];rfl
 .simp only[c306,push_cast,seval,-Nat.reducePow,Chg.v,Chg.cs,revV,k0];refine aAa (h199 c.t (hc.ttl (by omega) (by omega))) (by rfl) (by rfl) ?_;simp only[push_cast,seval,-Nat.reducePow,k0];refine aAa hu (by rfl) (by rfl) ?_;simp only[push_cast,seval,-Nat.reducePow,k0];rfl
 .simp only[c306,push_cast,seval,-Nat.reducePow,Chg.v,Chg.cs,revV,k0];refine aAa (h199 c.t (hc.ttl (by omega) (by omega))) (by rfl) (by rfl) ?_;simp only[push_cast,seval,-Nat.reducePow,k0];refine aAa hu (by rfl) (by rfl) ?_;simp only[push_cast,seval,-Nat.reducePow,k0];rfl
 .simp only[c306,push_cast,seval,-Nat.reducePow,Chg.v,Chg.cs,revV,k0];refine aAa (h199 c.t (hc.ttl (by omega) (by omega))) (by rfl) (by rfl) ?_;simp only[push_cast,seval,-Nat.reducePow,k0];refine aAa hu (by rfl) (by rfl) ?_;obtain⟨o1,o2⟩:=hc.to4 k0;simp only[push_cast,seval,-Nat.reducePow,k0];refine aAa (h199 c.to o1) (by rfl) (by rfl) ?_;rcases o2 with o2|o2
  .simp only[push_cast,seval,-Nat.reducePow,o2];rfl
  .simp only[push_cast,seval,-Nat.reducePow,o2];rfl
 .simp only[c306,push_cast,seval,-Nat.reducePow,Chg.v,Chg.cs,revV,k0];refine aAa (h199 c.t (hc.ttl (by omega) (by omega))) (by rfl) (by rfl) ?_;simp only[push_cast,seval,-Nat.reducePow,k0];refine aAa hu (by rfl) (by rfl) ?_;simp only[push_cast,seval,-Nat.reducePow,k0];refine aAa (t322 h322 h321 c.hist (hc.h5 k0)) (by simp only[push_cast,seval,-Nat.reducePow,V.imm,aA2,aEr]) (by rfl) ?_;rfl
 .simp only[c306,push_cast,seval,-Nat.reducePow,Chg.v,Chg.cs,revV,k0];refine aAa hu (by rfl) (by rfl) ?_;obtain⟨q1,q2⟩:=hc.n6 k0;have q3:c.n<=52596000:=by omega
  simp only[push_cast,seval,-Nat.reducePow,k0,q1,q3];rfl
 .simp only[c306,push_cast,seval,-Nat.reducePow,Chg.v,Chg.cs,revV,k0];refine aAa (h199 c.t (hc.ttl (by omega) (by omega))) (by rfl) (by rfl) ?_;simp only[push_cast,seval,-Nat.reducePow,k0];refine aAa hu (by rfl) (by rfl) ?_;have u7:=hc.u7 (by omega);simp only[push_cast,seval,-Nat.reducePow,k0,u7];rfl
 .simp only[c306,push_cast,seval,-Nat.reducePow,Chg.v,Chg.cs,revV,k0];refine aAa (h199 c.t (hc.ttl (by omega) (by omega))) (by rfl) (by rfl) ?_;simp only[push_cast,seval,-Nat.reducePow,k0];refine aAa hu (by rfl) (by rfl) ?_;have u7:=hc.u7 (by omega);simp only[push_cast,seval,-Nat.reducePow,k0,u7];rfl
 .simp only[c306,push_cast,seval,-Nat.reducePow,Chg.v,Chg.cs,revV,k0];refine aAa (h199 c.t (hc.ttl (by omega) (by omega))) (by rfl) (by rfl) ?_;simp only[push_cast,seval,-Nat.reducePow,k0];refine aAa hu (by rfl) (by rfl) ?_;obtain⟨q1,q2⟩:=hc.n9 k0;simp only[push_cast,seval,-Nat.reducePow,k0,q1,q2];rfl
 .simp only[c306,push_cast,seval,-Nat.reducePow,Chg.v,Chg.cs,revV,k0];refine aAa hu (by rfl) (by rfl) ?_;obtain⟨q1,q2⟩:=hc.n10 k0;have q3:c.n<=1073741824:=by omega
  simp only[push_cast,seval,-Nat.reducePow,k0,q1,q3];rfl
theorem t295(hf:bLe P F T){us:List UInt8->Prop}{tt:Ttl->Prop}(c:Chg)(hc:ChgP us tt c)(h305:PTr P (F 305) [c.v] (.bool true))(h306:PTr P (F 306) [c.v] (.bool true)):PTr P (F 295) [c.v] (.int .i64 0):=by
 refine ptrC [] hf (by simp) rfl ?_;have e1:¬(8192:Int)<((c.text.length:Nat):Int):=by have:=hc.text;omega
 have e2:¬(200:Int)<((c.note.length:Nat):Int):=by have:=hc.note;omega
 have hln:(c.hist.map Rev.v).length=c.hist.length:=zb ..;have hl3:c.hist.length<=3∧∀r,r∈c.hist->r.text.length<=8192∧r.note.length<=200:=by
  by_cases h5:c.kind=5
  .obtain⟨g1,g2,g3,g4,g5⟩:=hc.h5 h5;grind
  .rw[hc.h0 h5];simp
 simp only[c295,push_cast,seval,-Nat.reducePow,Chg.v,Chg.cs,revV];refine aAa h305 (by simp only[push_cast,seval,-Nat.reducePow,V.imm,V.imms,aEr]) (by rfl) ?_;simp only[push_cast,seval,-Nat.reducePow];refine aAa h306 (by simp only[push_cast,seval,-Nat.reducePow,V.imm,V.imms,aEr]) (by rfl) ?_;simp only[push_cast,seval,-Nat.reducePow,e1,e2];refine aAd (λm s1=>∃a r,c.hist=a++r∧m=r.length∧s1.env 1=.ptr 1 0∧s1.env 3=.int .i64 a.length∧s1.L 1=some (.box (T 37) [V.int IntKind.i64 c.kind,V.str c.user,V.str c.note,V.int IntKind.i64 c.t.fst,V.str c.t.snd,V.int IntKind.i64 c.to.fst,V.str c.to.snd,V.str c.text,V.int IntKind.i64 c.n,V.lst 6 (zw Rev.v c.hist)])∧1<s1.nx) c.hist.length ?_ λm s1 hJ=>?_
 .simp only[push_cast,seval,-Nat.reducePow];exact⟨[],c.hist,rfl,rfl,rfl⟩
 .obtain⟨a,r,hal,rfl,j1,j3,jL,jn⟩:=hJ;have hal2:c.hist.length=a.length+r.length:=by grind
  cases r with
  | nil =>
    have h1:¬((a.length:Nat):Int)<((c.hist.length:Nat):Int):=by grind
    simp only[push_cast,seval,-Nat.reducePow,j1,j3,jL,hln,h1];rfl
  | cons x r =>
    rw[zg]at hal2;have h1:((a.length:Nat):Int)<((c.hist.length:Nat):Int):=by omega
    obtain⟨x1,x2⟩:=hl3.2 x (by grind);have hg:(c.hist.map Rev.v).getD a.length .junk=.agg [.int .i64 x.num,.str x.user,.str x.note,.str x.text,.int .i64 x.minute,.int .i64 x.seq]:=by rw[hal];simp[ze,Rev.v]
    have b1:¬(8192:Int)<((x.text.length:Nat):Int):=by omega
    have b2:¬(200:Int)<((x.note.length:Nat):Int):=by omega
    simp only[push_cast,seval,-Nat.reducePow,j1,j3,jL,hln,h1,hg,b1,b2];exact⟨by omega,by omega,⟨by omega,by omega⟩,r.length,by omega,a++[x],r,by grind,rfl,by simp,by omega⟩
end Go.Ab
