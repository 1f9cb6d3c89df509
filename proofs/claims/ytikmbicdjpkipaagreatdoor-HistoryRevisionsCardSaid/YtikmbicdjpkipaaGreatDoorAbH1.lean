import Derived.Test.YtikmbicdjpkipaaGreatDoorAbZ1
import Derived.Test.YtikmbicdjpkipaaGreatDoorAbC1
import Derived.Test.YtikmbicdjpkipaaGreatDoorAbC4
import Derived.Test.YtikmbicdjpkipaaGreatDoorAbF2
import Derived.Test.YtikmbicdjpkipaaGreatDoorAbM6
import Derived.Test.YtikmbicdjpkipaaGreatDoorAbJ1
open Bool renaming and_eq_true->zc,not_eq_true'->zV,and_true->xH,and_self->zn,false_and->zi
open List renaming head?_cons->xP,cons_append->yg,mem_cons->zD,nil_append->yf,reverse_cons->xg,dropWhile_append->wy,dropWhile->yL,dropWhile_cons->zO,takeWhile_cons->yv,head_dropWhile_not->wn,head_cons->wZ,length_cons->zg,getD_cons_zero->zk,getD_cons_succ->zM,exists_cons_of_ne_nil->xZ,dropWhile_suffix->xD,length_drop->wg,findIdx?_eq_none_iff->zY,getD_eq_getElem?_getD->ze,map_congr_left->zt
set_option linter.unusedSimpArgs false
set_option linter.unusedVariables false
namespace Go.Ab
open Go.Lib
def undB(b:UInt8):UInt8:=if b=95 then 32 else b
def blF(acc:List UInt8):List UInt8->List UInt8
 | []=>acc
 | c::r=>if c=32∧(acc=[]∨acc.getLast?=some 32)then blF acc r else blF (acc++[c]) r
def cutB:List UInt8->List UInt8
 | c::r=>if c=32 then r else c::r
 | []=>[]
def sglF(s:List UInt8):List UInt8:=unbl (blF [] (s.map undB))
def aEg:List UInt8->List UInt8
 | c::r=>if c=58 then cutB r else c::r
 | []=>[]
def aF1(s:List UInt8):Nat×List UInt8:=match colF s with
 | none=>(0,s)
 | some i=>if aGl s=0 then(0,s)else(aGl s,cutB (s.drop (i+1)))
def slR(p:UInt8):List UInt8->List UInt8
 | []=>[]
 | c::r=>if c=32∧(p=47∨r.head?=some 47)then slR c r else c::slR c r
def rtr:List UInt8->List UInt8
 | []=>[]
 | c::r=>if c=32∧rtr r=[]then[]else c::rtr r
def ltr:List UInt8->List UInt8
 | []=>[]
 | c::r=>if c=32 then ltr r else c::r
def slG(first:Bool):List (List UInt8)->List UInt8
 | []=>[]
 | [p]=>if first then p else ltr p
 | p::q::r=>rtr (if first then p else ltr p)++47::slG false (q::r)
def upF:List UInt8->List UInt8
 | c::r=>if 97<=c.toNat∧c.toNat<=122 then UInt8.ofNat (c.toNat-32)::r else c::r
 | []=>[]
def aCd:List UInt8->Bool
 | a::b::r=>!(decide (a=32)&&decide (b=32))&&aCd (b::r)
 | _=>true
theorem aXe:∀{u:List UInt8} {p:UInt8},(∀b,b∈u->b≠47)->aCd u=true->slR p u=if p=47 then ltr u else u
 | [],p,_,_=>by simp[slR,ltr]
 | [c],p,h,_=>by by_cases hc:c=32<;>by_cases hp:p=47<;>simp[slR,ltr,hc,hp]
 | c::d::r,p,h,hn=>by
   have hd:d≠47:=h d (by simp);have hc:c≠47:=h c (by simp);simp only[aCd,zc,zV]at hn;have ih:=aXe (u:=d::r) (p:=c) (λb hb=>h b (by simp at hb ⊢;exact .inr hb)) hn.2;rw[slR,ih,if_neg hc];by_cases h32:c=32
   .subst h32;have hd32:d≠32:=by have:=hn.1;simpa using this
    by_cases hp:p=47<;>simp[hp,ltr,hd32,hd]
   .simp[h32,ltr]
theorem bP1:∀{r:List UInt8},r≠[]->r.head?≠some 32->rtr r≠[]
 | c::r,_,h=>by simp only[xP,ne_eq,Option.some.injEq]at h;simp[rtr,h]
theorem aDx{c:UInt8}{r:List UInt8}(h:aCd (c::r)=true):aCd r=true:=by
 cases r with
 | nil=>rfl
 | cons d r=>simp only[aCd,zc]at h;exact h.2
theorem aWe{r:List UInt8}(h:aCd (32::r)=true):r.head?≠some 32:=by
 cases r with
 | nil=>simp
 | cons d r=>simp only[aCd,zc]at h;have:=h.1;simpa using this
theorem bN9{r:List UInt8}(h:r.head?≠some 32):ltr r=r:=by
 cases r with
 | nil=>rfl
 | cons d r=>simp only[xP,ne_eq,Option.some.injEq]at h;simp[ltr,h]
theorem bGm:∀{u v:List UInt8} {p:UInt8},(∀b,b∈u->b≠47)->aCd u=true->slR p (u++47::v)=rtr (if p=47 then ltr u else u)++47::slR 47 v
 | [],v,p,_,_=>by simp[slR,ltr,rtr]
 | c::r,v,p,h,hn=>by
   have hc:c≠47:=h c (by simp);have ih:=bGm (u:=r) (v:=v) (p:=c) (λb hb=>h b (by simp[hb])) (aDx hn);rw[if_neg hc]at ih;rw[yg,slR,ih];by_cases h32:c=32
   .subst h32;have hh:=aWe hn;by_cases hp:p=47
    .simp[hp,ltr,bN9 hh]
    .cases r with
     | nil=>simp[hp,rtr]
     | cons d r =>
       have hd:d≠47:=h d (by simp);have hne:=bP1 (r:=d::r) (by simp) hh;have e:rtr (32::d::r)=32::rtr (d::r):=by rw[rtr,if_neg (λh=>hne h.2)]
       rw[if_neg hp,if_neg (by simp[hp,hd]),e];rfl
   .by_cases hp:p=47<;>simp[hp,h32,ltr,rtr]
theorem aKf:∀{u v:List UInt8},aCd (u++v)=true->aCd u=true∧aCd v=true
 | [],v,h=>⟨rfl,h⟩
 | [c],v,h=>⟨rfl,aDx h⟩
 | c::d::r,v,h=>by simp only[yg,aCd,zc]at h ⊢;obtain⟨h1,h2⟩:=aKf (u:=d::r) h.2;exact⟨⟨h.1,h1⟩,h2⟩
theorem aT6{x:UInt8}:∀{s:List UInt8},x∈s->∃u v,s=u++x::v∧∀b,b∈u->b≠x
 | c::r,h=>by
   by_cases e:c=x
   .exact⟨[],r,by simp[e],by simp⟩
   .obtain⟨u,v,h1,h2⟩:=aT6 (s:=r) (by rcases zD.1 h with h|h;exact absurd h.symm e;exact h);refine⟨c::u,v,by simp[h1],λb hb=>?_⟩;rcases zD.1 hb with rfl|hb
    .exact e
    .exact h2 b hb
theorem bH9:∀(n:Nat) (s:List UInt8) (first:Bool),s.length<=n->aCd s=true->slG first (aAj s)=slR (if first then 0 else 47) s:=by
 intro n;induction n with
 | zero =>
   intro s first hs hn
   obtain rfl:s=[]:=List.length_eq_zero_iff.1 (by omega);cases first<;>simp[aAj,slG,slR,ltr]
 | succ n ih =>
   intro s first hs hn
   by_cases h:(47:UInt8)∈s
   .obtain⟨u,v,rfl,hu⟩:=aT6 h;obtain⟨h1,h2⟩:=aKf hn;rw[aKu hu,bGm hu h1];have ih':=ih v false (by simp at hs;omega) (aDx h2);obtain⟨p,q,hp⟩:=aFf v;rw[hp]at ih' ⊢;rw[slG,ih'];cases first<;>simp
   .have hno:∀b,b∈s->b≠47:=λb hb e=>h (e▸hb);rw[aK5 hno,aXe hno hn];cases first<;>simp[slG]
theorem aMb:∀{acc:List UInt8} {c:UInt8},aCd acc=true->(c=32->acc.getLast?≠some 32)->aCd (acc++[c])=true
 | [],c,_,_=>rfl
 | [a],c,_,h=>by
   simp only[yg,yf,aCd,xH,zV,Bool.and_eq_false_iff,decide_eq_false_iff_not];by_cases e:c=32
   .left;have:=h e;simpa using this
   .right;exact e
 | a::b::r,c,hn,h=>by simp only[aCd,zc]at hn;have ih:=aMb (acc:=b::r) (c:=c) hn.2 (λe=>by have:=h e;simpa using this);simp only[yg,aCd,zc]at ih ⊢;exact⟨hn.1,ih⟩
theorem bA4:∀(s acc:List UInt8),aCd acc=true->aCd (blF acc s)=true
 | [],acc,h=>h
 | c::r,acc,h=>by
   rw[blF];split
   .exact bA4 r acc h
   .rename_i hc;refine bA4 r _ (aMb h λe hl=>hc ⟨e,.inr hl⟩)
theorem aLx:∀{s:List UInt8} (n:Nat),aCd s=true->aCd (s.drop n)=true
 | [],n,h=>by simp[aCd]
 | c::r,0,h=>h
 | c::r,n+1,h=>aLx (s:=r) n (aDx h)
theorem aVz:∀{s:List UInt8} (n:Nat),aCd s=true->aCd (s.take n)=true:=λ{s} n h=>(aKf (u:=s.take n) (v:=s.drop n) (by rw[List.take_append_drop];exact h)).1
theorem aVf{s:List UInt8}(h:aCd s=true):aCd (unbl s)=true:=by
 unfold unbl;split
 .rw[List.dropLast_eq_take];exact aVz _ h
 .exact h
theorem aPf{s:List UInt8}(h:aCd s=true):aCd (cutB s)=true:=by
 cases s with
 | nil=>rfl
 | cons c r =>
   rw[cutB];split
   .exact aDx h
   .exact h
theorem aXf(s:List UInt8):aCd (sglF s)=true:=aVf (bA4 _ _ rfl)
theorem bAb{s:List UInt8}(h:aCd s=true):aCd (aEg s)=true:=by
 cases s with
 | nil=>rfl
 | cons c r =>
   rw[aEg];split
   .exact aPf (aDx h)
   .exact h
theorem aUv{s:List UInt8}(h:aCd s=true):aCd (aF1 s).2=true:=by
 unfold aF1;split
 .exact h
 .split
  .exact h
  .exact aPf (aLx _ h)
def titF(s:List UInt8):Nat×Int×List UInt8:=
 let q:=aF1 (aEg (sglF s));let n:=upF (slR 0 q.2)
 if 100<n.length then(3,0,[])else if aBb q.1 n=true then(0,q.1,n)else(1,0,[])
theorem bO7(s:List UInt8):trimRightS s [32]=rtr s:=by
 induction s with
 | nil=>rfl
 | cons c r ih =>
   simp only[trimRightS,xg,wy]at ih ⊢;rw[rtr,<-ih];generalize yL (λx=>[32].contains x) r.reverse=w;cases w with
   | nil =>
     by_cases hc:c=32
     .simp[hc]
     .have:([32].contains c)=false:=by simp[hc]
      simp[hc]
   | cons x w=>simp
theorem bO2(s:List UInt8):trimLeftS s [32]=ltr s:=by
 induction s with
 | nil=>rfl
 | cons c r ih=>simp only[trimLeftS,zO]at ih ⊢;rw[ltr,<-ih];by_cases hc:c=32<;>simp[hc]
def isW(b:UInt8):Bool:=decide (b=32)||decide (b=9)
def lfW(s:List UInt8):List UInt8:=s.dropWhile isW
def rtW:List UInt8->List UInt8
 | []=>[]
 | c::r=>if isW c=true∧rtW r=[]then[]else c::rtW r
def trW(s:List UInt8):List UInt8:=lfW (rtW s)
def wdW(s:List UInt8):List UInt8:=s.takeWhile λb=>!isW b
def afW(s:List UInt8):List UInt8:=s.dropWhile λb=>!isW b
def aAr(s:List UInt8):List UInt8×List UInt8:=(wdW (trW s),trW (afW (trW s)))
def aAn(w:List UInt8):List UInt8->List (List UInt8)
 | []=>if w=[]then[]else[w]
 | c::r=>if isW c=true then(if w=[]then aAn [] r else w::aAn [] r)else aAn (w++[c]) r
theorem aYr:∀{s:List UInt8},rtW s=[]->∀b,b∈s->isW b=true
 | c::r,h,b,hb=>by
   rw[rtW]at h;split at h
   .rename_i h1;rcases zD.1 hb with rfl|hb
    .exact h1.1
    .exact aYr h1.2 b hb
   .cases h
theorem aMr:∀(s w:List UInt8),aAn w (rtW s)=aAn w s
 | [],w=>rfl
 | c::r,w=>by
   rw[rtW];split
   .rename_i h;have hw:∀(t:List UInt8) (w:List UInt8),(∀b,b∈t->isW b=true)->aAn w t=aAn w []:=by
     intro t;induction t with
     | nil=>intros;rfl
     | cons x t ih=>intro w hx;have e:=ih [] λb hb=>hx b (by simp[hb]);simp only[aAn,hx x (by simp),if_true,e]
    rw[aAn,aAn,if_pos h.1,hw r [] (aYr h.2)];simp[aAn]
   .rw[aAn,aAn,aMr r,aMr r]
theorem aT9:∀(s:List UInt8),aAn [] (lfW s)=aAn [] s
 | []=>rfl
 | c::r=>by
   unfold lfW;rw[zO];by_cases h:isW c=true
   .rw[if_pos h,aAn,if_pos h,if_pos rfl];exact aT9 r
   .rw[if_neg h]
theorem aSo(s:List UInt8):aAn [] (trW s)=aAn [] s:=by
 unfold trW;rw[aT9,aMr]
theorem aTe:∀(s w:List UInt8),aAn w s=if w++wdW s=[]then aAn [] (afW s)else(w++wdW s)::aAn [] (afW s)
 | [],w=>by simp[aAn,wdW,afW]
 | c::r,w=>by
   by_cases h:isW c=true
   .have e1:wdW (c::r)=[]:=by simp[wdW,h]
    have e2:afW (c::r)=c::r:=by simp[afW,h]
    rw[e1,e2,List.append_nil,aAn,if_pos h];split
    .rename_i hw;subst hw;rw[aAn,if_pos h,if_pos rfl]
    .rw[aAn,if_pos h,if_pos rfl]
   .have h':isW c=false:=by simpa using h
    have e1:wdW (c::r)=c::wdW r:=by simp[wdW,h']
    have e2:afW (c::r)=afW r:=by simp[afW,h']
    rw[e1,e2,aAn,if_neg h,aTe r];simp
theorem aGf(s:List UInt8):aAn [] s=if(aAr s).1=[]then[]else(aAr s).1::aAn [] (aAr s).2:=by
 rw[<-aSo s,aTe];unfold aAr;simp only[yf];split
 .rename_i h;have h0:trW s=[]:=by
   unfold wdW at h;unfold trW at h ⊢;cases hq:lfW (rtW s)with
   | nil=>rfl
   | cons c r =>
     rw[hq]at h;have hc:isW c=true:=by
      rw[yv]at h;split at h
      .cases h
      .rename_i h2;simpa using h2
     unfold lfW at hq;have:=wn isW (l:=rtW s) (by rw[hq];simp);simp only[hq,wZ]at this;rw[hc]at this;cases this
  rw[h0];rfl
 .rw[aSo]
theorem bE9{c:UInt8}{r:List UInt8}(h:isW c=false):rtW (c::r)=c::rtW r:=by rw[rtW,if_neg (by simp[h])]
theorem bBc:∀s:List UInt8,rtW (rtW s)=rtW s
 | []=>rfl
 | c::r=>by
   rw[rtW];split
   .rfl
   .rename_i h;rw[rtW,bBc r,if_neg h]
theorem bBx:∀s:List UInt8,lfW (rtW s)=rtW (lfW s)
 | []=>rfl
 | c::r=>by
   have ih:=bBx r;unfold lfW at ih ⊢;rw[rtW,zO];by_cases h:isW c=true
   .rw[if_pos h,<-ih];split
    .rename_i h2;rw[h2.2]
    .rw[zO,if_pos h]
   .rw[if_neg h,if_neg (λh2=>h h2.1),zO,if_neg h];have h':isW c=false:=by simpa using h
    rw[bE9 h']
theorem bIy(s:List UInt8):lfW (lfW s)=lfW s:=by
 induction s with
 | nil=>rfl
 | cons c r ih =>
   unfold lfW at ih ⊢;rw[zO];by_cases h:isW c=true
   .rw[if_pos h];exact ih
   .rw[if_neg h,zO,if_neg h]
theorem aIa(s:List UInt8):trW (trW s)=trW s:=by
 unfold trW;rw[<-bBx (rtW s),bBc,bIy]
structure Pol where
 g:List Gro
 r:List Rul
 d:List Grd
def Pol.v(p:Pol):V:=.agg [ln 2 (grV p.g),ln 6 (ruV p.r),ln 5 (gdV p.d)]
def aPd:List UInt8:=[103,114,111,117,112]
def aGm:List UInt8:=[97,108,108,111,119]
def aV0:List UInt8:=[100,101,110,121]
def aLz:List UInt8:=[103,117,97,114,100]
def aEj:List UInt8:=[115,116,114,105,99,116]
def wAll:List UInt8:=[60,97,108,108,62]
def aCm:List (List UInt8):=[[114,101,97,100],[101,100,105,116],[109,111,118,101],[100,101,108,101,116,101],[114,101,118,105,101,119]]
def aC6:List (List UInt8):=[[60,77,97,105,110,62],[60,84,97,108,107,62],[60,85,115,101,114,62],[60,84,101,109,112,108,97,116,101,62],[60,67,97,116,101,103,111,114,121,62],[60,80,114,111,106,101,99,116,62]]
def aCf(w:List UInt8):Nat:=match aCm.findIdx? (λx=>decide (x=w))with
 | some i=>i+1
 | none=>0
def aEs(s:List UInt8):Option Scp:=
 if s=wAll then some ⟨1,0,[]⟩else match aC6.findIdx? (λx=>decide (x=s))with
  | some k=>some ⟨2,k,[]⟩
  | none=>if(titF s).1=0 then some ⟨3,(titF s).2.1,(titF s).2.2⟩else none
def aLt(s:List UInt8):Option (Int×List UInt8×List UInt8):=match s.findIdx? (·==124)with
 | none=>if(titF (trW s)).1=0 then some ((titF (trW s)).2.1,(titF (trW s)).2.2,[])else none
 | some i=>if trW (s.drop (i+1))=[]then none else if(titF (trW (s.take i))).1=0 then some ((titF (trW (s.take i))).2.1,(titF (trW (s.take i))).2.2,trW (s.drop (i+1)))else none
def grpS(p:Pol)(rest:List UInt8):Option Pol:=if(aAr rest).1=[]then none else some { p with g:=p.g++[⟨(aAr rest).1,aAn [] (aAr rest).2⟩] }
def rulS(p:Pol)(rest:List UInt8)(allow:Bool):Option Pol:=
 if aCf (aAr rest).1=0 then none else match aEs (aAr (aAr rest).2).2 with
  | none=>none
  | some x=>some { p with r:=p.r++[⟨allow,aCf (aAr rest).1,(aAr (aAr rest).2).1,x⟩] }
def grdS(p:Pol)(rest:List UInt8)(strict:Bool):Option Pol:=match aLt (aAr rest).2 with
 | none=>none
 | some x=>some { p with d:=p.d++[⟨strict,(aAr rest).1,x.1,x.2.1,x.2.2⟩] }
def aLk(p:Pol)(line:List UInt8):Option Pol:=
 if(aAr line).1=[]∨(aAr line).1.head?=some 35 then some p
 else if(aAr line).1=aPd then grpS p (aAr line).2
 else if(aAr line).1=aGm∨(aAr line).1=aV0 then rulS p (aAr line).2 (decide ((aAr line).1=aGm))
 else if(aAr line).1=aLz∨(aAr line).1=aEj then grdS p (aAr line).2 (decide ((aAr line).1=aEj))
 else none
def aEb:List (List UInt8)->Nat->Pol->Pol×Nat
 | [],_,p=>(p,0)
 | l::r,i,p=>match aLk p l with
   | some q=>aEb r (i+1) q
   | none=>(⟨[],[],[]⟩,i+1)
def aIy(n:List UInt8):Bool:=decide (n=aT)||decide (n=uT)
def exB(gs:List Gro)(n:List UInt8):Bool:=aIy n||gs.any λg=>decide (g.n=n)
def memE(gs:List Gro)(m:List UInt8):Nat:=if m.head?=some 64 then(if aCr (m.drop 1)=false then 1 else if exB gs (m.drop 1)=false then 4 else 0)else if aCr m=false then 1 else 0
def aFm(gs:List Gro):List (List UInt8)->Nat
 | []=>0
 | m::r=>if memE gs m=0 then aFm gs r else memE gs m
def grpE(gs:List Gro)(i:Nat)(g:Gro):Nat:=if aCr g.n=false then 1 else if exB (gs.take i) g.n=true then 5 else if 24<g.m.length then 3 else aFm gs g.m
def aH5(gs:List Gro):Nat->List Gro->Nat
 | _,[]=>0
 | i,g::r=>if grpE gs i g=0 then aH5 gs (i+1) r else grpE gs i g
def scpB(x:Scp):Bool:=if x.k=1 then decide (x.sp=0)&&decide (x.n=[])else if x.k=2 then decide (0<=x.sp)&&decide (x.sp<6)&&decide (x.n=[])else if x.k=3 then aBb x.sp x.n else false
def rulE(gs:List Gro)(r:Rul):Nat:=if r.ri<1∨5<r.ri then 2 else if exB gs r.gr=false then 4 else if scpB r.sc=false then 7 else 0
def aFl(gs:List Gro):List Rul->Nat
 | []=>0
 | g::r=>if rulE gs g=0 then aFl gs r else rulE gs g
def secB(s:List UInt8):Bool:=decide (s.length<=100)&&decide (trW s=s)&&!s.contains 10&&!s.contains 124
def grdE(gs:List Gro)(d:Grd):Nat:=if exB gs d.gr=false then 4 else if(aBb d.sp d.n&&secB d.sec)=false then 7 else 0
def aFv(gs:List Gro):List Grd->Nat
 | []=>0
 | g::r=>if grdE gs g=0 then aFv gs r else grdE gs g
def valE(p:Pol):Nat:=
 if 24<p.g.length∨64<p.r.length∨64<p.d.length then 3
 else if aH5 p.g 0 p.g≠0 then aH5 p.g 0 p.g else if aFl p.g p.r≠0 then aFl p.g p.r else aFv p.g p.d
def polF(s:List UInt8):Pol×Nat×Nat:=
 if 8192<s.length then(⟨[],[],[]⟩,0,3)
 else if(aEb (lnF s) 0 ⟨[],[],[]⟩).2≠0 then(⟨[],[],[]⟩,(aEb (lnF s) 0 ⟨[],[],[]⟩).2,1)
 else if valE (aEb (lnF s) 0 ⟨[],[],[]⟩).1≠0 then(⟨[],[],[]⟩,0,valE (aEb (lnF s) 0 ⟨[],[],[]⟩).1)
 else((aEb (lnF s) 0 ⟨[],[],[]⟩).1,0,0)
theorem aO2:aEs []=none:=by kernel_rfl
theorem aPu:aLt []=none:=by kernel_rfl
def bD6(p:Pol)(line:List UInt8):Option Pol:=
 let w:=aAn [] line;let r1:=(aAr line).2;let r2:=(aAr r1).2;let r3:=(aAr r2).2
 if w.length=0∨(w.getD 0 []).head?=some 35 then some p
 else if w.getD 0 []=aPd then(if w.length<2 then none else some { p with g:=p.g++[⟨w.getD 1 [],w.drop 2⟩] })
 else if w.getD 0 []=aGm∨w.getD 0 []=aV0 then(if w.length<4∨aCf (w.getD 1 [])=0 then none else match aEs r3 with
  | none=>none
  | some x=>some { p with r:=p.r++[⟨decide (w.getD 0 []=aGm),aCf (w.getD 1 []),w.getD 2 [],x⟩] })
 else if w.getD 0 []=aLz∨w.getD 0 []=aEj then(if w.length<3 then none else match aLt r2 with
  | none=>none
  | some x=>some { p with d:=p.d++[⟨decide (w.getD 0 []=aEj),w.getD 1 [],x.1,x.2.1,x.2.2⟩] })
 else none
theorem aYe{s:List UInt8}(h:(aAr s).1=[]):trW s=[]:=by
 cases hq:trW s with
 | nil=>rfl
 | cons c r =>
   unfold aAr at h;simp only[hq]at h;have hc:isW c=true:=by
    unfold wdW at h;rw[yv]at h;split at h
    .cases h
    .rename_i h2;simpa using h2
   unfold trW lfW at hq;have:=wn isW (l:=rtW s) (by rw[hq];simp);simp only[hq,wZ]at this;rw[hc]at this;cases this
theorem aTh{s:List UInt8}(ht:trW s=s)(h:s≠[]):aAn [] s≠[]:=by
 rw[aGf];split
 .rename_i h5;have:=aYe h5;rw[ht]at this;exact absurd this h
 .exact List.cons_ne_nil _ _
theorem aTb{s:List UInt8}(h:(aAr s).1=[]):(aAr s).2=[]:=by
 have h0:trW s=[]:=aYe h;unfold aAr;rw[h0];rfl
theorem bHx(p:Pol)(line:List UInt8):bD6 p line=aLk p line:=by
 unfold bD6 aLk grpS rulS grdS;have w0:=aGf line;obtain⟨q1,h1⟩:∃q,q=aAr line:=⟨_,rfl⟩;rw[<-h1]at w0 ⊢;have w1:=aGf q1.2;obtain⟨q2,h2⟩:∃q,q=aAr q1.2:=⟨_,rfl⟩;rw[<-h2]at w1 ⊢;have w2:=aGf q2.2;have n2:q2.1=[]->q2.2=[]:=λh=>by rw[h2]at h ⊢;exact aTb h
 obtain⟨q3,h3⟩:∃q,q=aAr q2.2:=⟨_,rfl⟩;rw[<-h3]at w2 ⊢;have n3:q3.1=[]->q3.2=[]:=λh=>by rw[h3]at h ⊢;exact aTb h
 simp only;by_cases e1:q1.1=[]
 .rw[w0,if_pos e1];simp[e1]
 rw[if_neg e1]at w0;rw[w0];simp only[zg,Nat.add_one_ne_zero,zk,zM,List.drop_succ_cons,false_or,e1];by_cases e35:q1.1.head?=some 35
 .rw[if_pos e35,if_pos e35]
 rw[if_neg e35,if_neg e35];by_cases eg:q1.1=aPd
 .rw[if_pos eg,if_pos eg];by_cases e2:q2.1=[]
  .rw[if_pos e2]at w1;rw[w1,if_pos e2,if_pos (by simp)]
  .rw[if_neg e2]at w1;rw[w1,if_neg e2,if_neg (by simp)];simp
 rw[if_neg eg,if_neg eg];by_cases ea:q1.1=aGm∨q1.1=aV0
 .rw[if_pos ea,if_pos ea];by_cases e2:q2.1=[]
  .rw[if_pos e2]at w1;rw[w1,if_pos (.inl (by simp)),e2,if_pos (by decide)]
  rw[if_neg e2]at w1;by_cases e3:q3.1=[]
  .rw[if_pos e3]at w2;rw[w1,w2,if_pos (.inl (by simp)),n3 e3,aO2];split<;>rfl
  rw[if_neg e3]at w2;rw[w1,w2];by_cases e4:q3.2=[]
  .rw[e4,aO2,show aAn [] []=[]from rfl,if_pos (.inl (by simp))];split<;>rfl
  .have hne:aAn [] q3.2≠[]:=aTh (by rw[h3];exact aIa _) e4;obtain⟨a,b,hab⟩:=xZ hne;rw[hab];by_cases er:aCf q2.1=0
   .rw[if_pos (.inr (by simpa using er)),if_pos er]
   .rw[if_neg (by simp[er]),if_neg er];simp only[<-h2,<-h3,zk,zM]
 rw[if_neg ea,if_neg ea];by_cases es:q1.1=aLz∨q1.1=aEj
 .rw[if_pos es,if_pos es];by_cases e2:q2.1=[]
  .rw[if_pos e2]at w1;rw[w1,if_pos (by simp),n2 e2,aPu]
  rw[if_neg e2]at w1;rw[w1];by_cases e4:q2.2=[]
  .rw[e4,aPu,show aAn [] []=[]from rfl,if_pos (by simp)]
  .have hne:aAn [] q2.2≠[]:=aTh (by rw[h2];exact aIa _) e4;obtain⟨a,b,hab⟩:=xZ hne;rw[hab,if_neg (by simp)];simp only[<-h2,zk,zM]
 rw[if_neg es,if_neg es]
end Go.Ab
namespace Go.Ab
def c361(F T:Nat->Nat):C:=.n [.alloc 2 (T 16) [.nils,.nils,.nils],.mov (some 3) (.i 0),.mov (some 4) (.i 0)]<|.seq (.n [.m 9 0,.ls 10 9,.bi 11 .gtr 10 8192]<|.cond (.t 11) (.n [.build (some 12) [.nils,.nils,.nils] [],.store 3 (.t 2) (.t 12),.mov (some 3) (.i 0),.mov (some 4) (.i 3)]<|.ret) (.skip))<|.n [.alloc 5 (T 16) [.nils,.nils,.nils]]<|.seqc (.n [.m 13 0,.e 14 35 (F 171) [.t 13,.s [10]],.ll 15 14,.mov (some 16) (.i 0)]<|.block 0<|.loop<|.n [.b 17 .lss 16 15]<|.seq (.cond (.t 17) (.skip) (.exit 0))<|.seq (.block 1<|.n [.m 18 16,.ia 19 1 14 16,.l 20 19,.m 6 18,.m 7 20]<|.n [.m 21 7,.e 22 35 (F 390) [.t 5,.t 21],.un (some 23) .not (.t 22)]<|.cond (.t 23) (.n [.build (some 24) [.nils,.nils,.nils] [],.m 25 6,.bi 26 .add 25 1,.store 3 (.t 2) (.t 24),.m 3 26,.mov (some 4) (.i 1)]<|.ret) (.skip))<|.o [.bi 27 .add 16 1,.m 16 27])<|.seq (.n [.load (some 28) false 3 true (.t 5),.call (some 29) false (F 391) [.t 28],.m 8 29]<|.n [.m 30 8,.bi 31 .neq 30 0]<|.cond (.t 31) (.n [.build (some 32) [.nils,.nils,.nils] [],.m 33 8,.store 3 (.t 2) (.t 32),.mov (some 3) (.i 0),.m 4 33]<|.ret) (.skip))<|.n [.load (some 34) false 3 true (.t 5),.store 3 (.t 2) (.t 34),.mov (some 3) (.i 0),.mov (some 4) (.i 0)]<|.ret
abbrev bJh(P:Program)(F T:Nat->Nat):Prop:=Fn P (F 361) 35 [(2,(some (3,true))),(3,none),(4,none)] (c361 F T)
def c390(F T:Nat->Nat):C:=.n [.mov (some 4) (.k (.bool false))]<|.n [.m 8 1,.c 9 (F 396) [.t 8],.m 7 9,.x 10 0 7,.x 11 1 7,.m 5 10,.m 6 11]<|.seq (.block 0<|.seq (.ops false [⟨none,[.m 13 5,.bin (some 14) .eql (.t 13) (.s []),.m 15 14]⟩,⟨some (15,false),[.m 16 5,.idx (some 17) (.t 16) (.i 0),.bin (some 18) .eql (.t 17) (.k (.int .u8 35))]⟩,⟨none,[.pt 19 15 18,.m 12 19]⟩])<|.cond (.t 12) (.n [.mov (some 4) (.k (.bool true))]<|.ret) (.n [.m 21 5,.bin (some 22) .eql (.t 21) (.s [103,114,111,117,112]),.m 20 22]<|.cond (.t 20) (.n [.m 23 0,.m 24 6,.e 25 50 (F 397) [.t 23,.t 24],.m 4 25]<|.ret) (.seq (.ops false [⟨none,[.m 27 5,.bin (some 28) .eql (.t 27) (.s [97,108,108,111,119]),.m 29 28]⟩,⟨some (29,false),[.m 30 5,.bin (some 31) .eql (.t 30) (.s [100,101,110,121])]⟩,⟨none,[.pt 32 29 31,.m 26 32]⟩])<|.cond (.t 26) (.n [.m 33 0,.m 34 6,.m 35 5,.bin (some 36) .eql (.t 35) (.s [97,108,108,111,119]),.e 37 50 (F 398) [.t 33,.t 34,.t 36],.m 4 37]<|.ret) (.seq (.ops false [⟨none,[.m 39 5,.bin (some 40) .eql (.t 39) (.s [103,117,97,114,100]),.m 41 40]⟩,⟨some (41,false),[.m 42 5,.bin (some 43) .eql (.t 42) (.s [115,116,114,105,99,116])]⟩,⟨none,[.pt 44 41 43,.m 38 44]⟩])<|.cond (.t 38) (.n [.m 45 0,.m 46 6,.m 47 5,.bin (some 48) .eql (.t 47) (.s [115,116,114,105,99,116]),.e 49 50 (F 399) [.t 45,.t 46,.t 48],.m 4 49]<|.ret) (.skip)))))<|.n [.mov (some 4) (.k (.bool false))]<|.ret
abbrev bL6(P:Program)(F T:Nat->Nat):Prop:=Fn P (F 390) 50 [(4,none)] (c390 F T)
def c391(F T:Nat->Nat):C:=.n [.box 1 (T 16) (.t 0),.mov (some 2) (.i 0)]<|.seq (.seq (.ops false [⟨none,[.f 11 0 1,.l 12 11,.ll 13 12,.bi 14 .gtr 13 24,.m 15 14]⟩,⟨some (15,false),[.f 16 1 1,.l 17 16,.ll 18 17,.bi 19 .gtr 18 64]⟩,⟨none,[.pt 20 15 19,.m 21 20]⟩,⟨some (21,false),[.f 22 2 1,.l 23 22,.ll 24 23,.bi 25 .gtr 24 64]⟩,⟨none,[.pt 26 21 25]⟩])<|.cond (.t 26) (.n [.mov (some 2) (.i 3)]<|.ret) (.skip))<|.seqc (.n [.f 27 0 1,.l 28 27,.ll 29 28,.mov (some 30) (.i 0)]<|.block 0<|.loop<|.n [.b 31 .lss 30 29]<|.seq (.cond (.t 31) (.skip) (.exit 0))<|.seq (.block 1<|.n [.m 32 30,.m 3 32]<|.n [.load (some 33) false 3 true (.t 1),.m 34 3,.c 35 (F 400) [.t 33,.t 34],.m 4 35]<|.n [.m 36 4,.bi 37 .neq 36 0]<|.cond (.t 37) (.n [.m 38 4,.m 2 38]<|.ret) (.skip))<|.o [.bi 39 .add 30 1,.m 30 39])<|.seqc (.n [.f 40 1 1,.l 41 40,.ll 42 41,.mov (some 43) (.i 0)]<|.block 2<|.loop<|.n [.b 44 .lss 43 42]<|.seq (.cond (.t 44) (.skip) (.exit 2))<|.seq (.block 3<|.n [.ia 45 6 41 43,.load (some 46) false 6 true (.t 45),.alloc 6 (T 19) [(.bool false),(.int .i64 0),(.str []),(.int .i64 0),(.int .i64 0),(.str [])],.store 6 (.t 6) (.t 46)]<|.n [.load (some 47) false 3 true (.t 1),.load (some 48) false 6 true (.t 6),.c 49 (F 401) [.t 47,.t 48],.m 7 49]<|.n [.m 50 7,.bi 51 .neq 50 0]<|.cond (.t 51) (.n [.m 52 7,.m 2 52]<|.ret) (.skip))<|.o [.bi 53 .add 43 1,.m 43 53])<|.seqc (.n [.f 54 2 1,.l 55 54,.ll 56 55,.mov (some 57) (.i 0)]<|.block 4<|.loop<|.n [.b 58 .lss 57 56]<|.seq (.cond (.t 58) (.skip) (.exit 4))<|.seq (.block 5<|.n [.ia 59 5 55 57,.load (some 60) false 5 true (.t 59),.alloc 9 (T 20) [(.bool false),(.str []),(.int .i64 0),(.str []),(.str [])],.store 5 (.t 9) (.t 60)]<|.n [.load (some 61) false 3 true (.t 1),.load (some 62) false 5 true (.t 9),.c 63 (F 402) [.t 61,.t 62],.m 10 63]<|.n [.m 64 10,.bi 65 .neq 64 0]<|.cond (.t 65) (.n [.m 66 10,.m 2 66]<|.ret) (.skip))<|.o [.bi 67 .add 57 1,.m 57 67])<|.n [.mov (some 2) (.i 0)]<|.ret
abbrev bMd(P:Program)(F T:Nat->Nat):Prop:=Fn P (F 391) 68 [(2,none)] (c391 F T)
def c396(F T:Nat->Nat):C:=.n [.mov (some 2) (.s []),.mov (some 3) (.s [])]<|.n [.m 5 0,.c 6 (F 140) [.t 5,.s [32,9]],.m 0 6]<|.n [.m 7 0,.c 8 (F 66) [.t 7,.s [32,9]],.m 4 8]<|.seq (.n [.m 9 4,.bi 10 .lss 9 0]<|.cond (.t 10) (.n [.m 11 0,.m 2 11,.mov (some 3) (.s [])]<|.ret) (.skip))<|.seq (.p [.m 12 0,.m 13 4,.slcS (some 14) (.t 12) none (some (.t 13)),.m 15 0,.m 16 4,.slcS (some 17) (.t 15) (some (.t 16)) none,.c 18 (F 140) [.t 17,.s [32,9]],.m 2 14,.m 3 18])<|.ret
abbrev aQ6(P:Program)(F T:Nat->Nat):Prop:=Fn P (F 396) 19 [(2,none),(3,none)] (c396 F T)
def c397(F T:Nat->Nat):C:=.n [.mov (some 4) (.k (.bool false))]<|.n [.m 8 1,.c 9 (F 396) [.t 8],.m 7 9,.x 10 0 7,.x 11 1 7,.m 5 10,.m 1 11]<|.n [.m 12 1,.c 13 (F 411) [.t 12,(.k (.fn (F 412) []))],.m 6 13]<|.n [.m 14 0,.m 15 0,.nchk (some 16) (.t 15),.f 17 0 16,.l 18 17,.m 19 5,.m 20 6,.build (some 21) [(.str []),.nils] [(0,1,(.t 19)),(1,1,(.t 20))],.mkl (some 22) 2 [.t 21],.app 23 (T 22) 2 (.t 18) (.t 22),.nchk (some 24) (.t 14),.f 25 0 24,.store 1 (.t 25) (.t 23)]<|.n [.m 26 5,.bin (some 27) .neq (.t 26) (.s []),.m 4 27]<|.ret
abbrev bDp(P:Program)(F T:Nat->Nat):Prop:=Fn P (F 397) 28 [(4,none)] (c397 F T)
def c398(F T:Nat->Nat):C:=.n [.mov (some 6) (.k (.bool false))]<|.n [.m 15 1,.c 16 (F 396) [.t 15],.m 14 16,.x 17 0 14,.x 18 1 14,.m 7 17,.m 1 18]<|.n [.m 20 1,.c 21 (F 396) [.t 20],.m 19 21,.x 22 0 19,.x 23 1 19,.m 8 22,.m 9 23]<|.n [.m 24 2,.c 25 (F 413) [],.m 26 7,.c 27 (F 222) [.t 25,.t 26],.bi 28 .add 27 1,.m 29 8,.build (some 30) [(.bool false),(.int .i64 0),(.str []),(.int .i64 0),(.int .i64 0),(.str [])] [(0,1,(.t 24)),(1,1,(.t 28)),(2,1,(.t 29))],.alloc 10 (T 19) [(.bool false),(.int .i64 0),(.str []),(.int .i64 0),(.int .i64 0),(.str [])],.store 6 (.t 10) (.t 30)]<|.seqc (.n [.f 31 1 10,.l 32 31,.bi 33 .eql 32 0]<|.cond (.t 33) (.n [.mov (some 6) (.k (.bool false))]<|.ret) (.skip))<|.seqc (.n [.m 34 9,.bin (some 35) .eql (.t 34) (.s [60,97,108,108,62])]<|.cond (.t 35) (.o [.f 36 3 10,.f 37 0 36,.store 1 (.t 37) (.i 1)]) (.n [.c 38 (F 414) [],.m 39 9,.c 40 (F 222) [.t 38,.t 39],.m 11 40]<|.n [.m 41 11,.bi 42 .geq 41 0]<|.cond (.t 42) (.o [.m 43 11,.build (some 44) [(.int .i64 0),(.str [])] [(0,1,(.t 43))],.build (some 45) [(.int .i64 0),(.int .i64 0),(.str [])] [(0,1,(.i 2)),(1,2,(.t 44))],.f 46 3 10,.store 3 (.t 46) (.t 45)]) (.n [.m 48 9,.c 49 (F 415) [.t 48],.m 47 49,.x 50 0 47,.x 51 1 47,.alloc 12 (T 17) [(.int .i64 0),(.str [])],.store 2 (.t 12) (.t 50),.m 13 51]<|.seq (.n [.m 52 13,.bi 53 .neq 52 0]<|.cond (.t 53) (.n [.mov (some 6) (.k (.bool false))]<|.ret) (.skip))<|.o [.load (some 54) false 2 true (.t 12),.build (some 55) [(.int .i64 0),(.int .i64 0),(.str [])] [(0,1,(.i 3)),(1,2,(.t 54))],.f 56 3 10,.store 3 (.t 56) (.t 55)])))<|.seq (.p [.m 57 0,.m 58 0,.nchk (some 59) (.t 58),.f 60 1 59,.l 61 60,.load (some 62) false 6 true (.t 10),.mkl (some 63) 6 [.t 62],.app 64 (T 19) 6 (.t 61) (.t 63),.nchk (some 65) (.t 57),.f 66 1 65,.store 1 (.t 66) (.t 64)])<|.n [.mov (some 6) (.k (.bool true))]<|.ret
abbrev bDt(P:Program)(F T:Nat->Nat):Prop:=Fn P (F 398) 67 [(6,none)] (c398 F T)
def c399(F T:Nat->Nat):C:=.n [.mov (some 6) (.k (.bool false))]<|.n [.m 14 1,.c 15 (F 396) [.t 14],.m 13 15,.x 16 0 13,.x 17 1 13,.m 7 16,.m 1 17]<|.n [.m 19 1,.c 20 (F 172) [.t 19,.s [124]],.m 18 20,.x 21 0 18,.x 22 1 18,.x 23 2 18,.m 8 21,.m 9 22,.m 10 23]<|.n [.m 24 9,.c 25 (F 140) [.t 24,.s [32,9]],.m 9 25]<|.n [.m 27 8,.c 28 (F 140) [.t 27,.s [32,9]],.c 29 (F 415) [.t 28],.m 26 29,.x 30 0 26,.x 31 1 26,.alloc 11 (T 17) [(.int .i64 0),(.str [])],.store 2 (.t 11) (.t 30),.m 12 31]<|.seqc (.seq (.ops false [⟨none,[.m 32 12,.bi 33 .neq 32 0,.m 34 33]⟩,⟨some (34,false),[.m 35 10,.m 36 35]⟩,⟨some (36,true),[.m 37 9,.bin (some 38) .eql (.t 37) (.s [])]⟩,⟨some (34,false),[.pf 39 36 38]⟩,⟨none,[.pt 40 34 39]⟩])<|.cond (.t 40) (.n [.mov (some 6) (.k (.bool false))]<|.ret) (.skip))<|.seq (.p [.m 41 0,.m 42 0,.nchk (some 43) (.t 42),.f 44 2 43,.l 45 44,.m 46 2,.m 47 7,.load (some 48) false 2 true (.t 11),.m 49 9,.build (some 50) [(.bool false),(.str []),(.int .i64 0),(.str []),(.str [])] [(0,1,(.t 46)),(1,1,(.t 47)),(2,2,(.t 48)),(4,1,(.t 49))],.mkl (some 51) 5 [.t 50],.app 52 (T 20) 5 (.t 45) (.t 51),.nchk (some 53) (.t 41),.f 54 2 53,.store 1 (.t 54) (.t 52)])<|.n [.mov (some 6) (.k (.bool true))]<|.ret
abbrev bCy(P:Program)(F T:Nat->Nat):Prop:=Fn P (F 399) 55 [(6,none)] (c399 F T)
def c400(F T:Nat->Nat):C:=.n [.box 2 (T 16) (.t 0),.mov (some 4) (.i 0)]<|.n [.f 10 0 2,.l 11 10,.m 12 1,.ia 13 2 11 12,.load (some 14) false 2 true (.t 13),.alloc 5 (T 22) [(.str []),.nils],.store 2 (.t 5) (.t 14)]<|.seq (.n [.f 15 0 5,.l 16 15,.c 17 (F 191) [.t 16],.un (some 18) .not (.t 17)]<|.cond (.t 18) (.n [.mov (some 4) (.i 1)]<|.ret) (.skip))<|.seqc (.seq (.ops false [⟨none,[.f 19 0 5,.l 20 19,.c 21 (F 416) [.t 20],.m 22 21]⟩,⟨some (22,false),[.f 23 0 2,.l 24 23,.m 25 1,.slc (some 26) 2 (.t 24) none (some (.t 25)),.clos (some 27) (F 417) [.t 5],.call (some 28) false (F 418) [.t 26,.t 27]]⟩,⟨none,[.pt 29 22 28]⟩])<|.cond (.t 29) (.n [.mov (some 4) (.i 5)]<|.ret) (.skip))<|.seqc (.n [.f 30 1 5,.l 31 30,.ll 32 31,.bi 33 .gtr 32 24]<|.cond (.t 33) (.n [.mov (some 4) (.i 3)]<|.ret) (.skip))<|.seq (.n [.f 34 1 5,.l 35 34,.ll 36 35,.mov (some 37) (.i 0)]<|.block 0<|.loop<|.n [.b 38 .lss 37 36]<|.seq (.cond (.t 38) (.skip) (.exit 0))<|.seq (.block 1<|.n [.ia 39 1 35 37,.l 40 39,.m 7 40]<|.n [.m 42 7,.c 43 (F 419) [.t 42,.s [64]],.m 41 43,.x 44 0 41,.x 45 1 41,.m 8 44,.m 9 45]<|.seq (.n [.m 46 8,.c 47 (F 191) [.t 46],.un (some 48) .not (.t 47)]<|.cond (.t 48) (.n [.mov (some 4) (.i 1)]<|.ret) (.skip))<|.seq (.ops false [⟨none,[.m 49 9,.m 50 49]⟩,⟨some (50,true),[.load (some 51) false 3 true (.t 2),.m 52 8,.c 53 (F 420) [.t 51,.t 52],.un (some 54) .not (.t 53)]⟩,⟨none,[.pf 55 50 54]⟩])<|.cond (.t 55) (.n [.mov (some 4) (.i 4)]<|.ret) (.skip))<|.o [.bi 56 .add 37 1,.m 37 56])<|.n [.mov (some 4) (.i 0)]<|.ret
abbrev bI8(P:Program)(F T:Nat->Nat):Prop:=Fn P (F 400) 57 [(4,none)] (c400 F T)
def c401(F T:Nat->Nat):C:=.n [.box 2 (T 16) (.t 0),.box 3 (T 19) (.t 1),.mov (some 4) (.i 0)]<|.seq (.seq (.ops false [⟨none,[.f 7 1 3,.l 8 7,.bi 9 .lss 8 1,.m 10 9]⟩,⟨some (10,false),[.f 11 1 3,.l 12 11,.bi 13 .gtr 12 5]⟩,⟨none,[.pt 14 10 13]⟩])<|.cond (.t 14) (.n [.mov (some 4) (.i 2)]<|.ret) (.skip))<|.seq (.n [.load (some 15) false 3 true (.t 2),.f 16 2 3,.l 17 16,.c 18 (F 420) [.t 15,.t 17],.un (some 19) .not (.t 18)]<|.cond (.t 19) (.n [.mov (some 4) (.i 4)]<|.ret) (.skip))<|.n [.f 20 3 3,.f 21 1 20,.load (some 22) false 2 true (.t 21),.alloc 5 (T 17) [(.int .i64 0),(.str [])],.store 2 (.t 5) (.t 22)]<|.n [.mov (some 6) (.k (.bool false))]<|.seq (.n [.f 23 3 3,.f 24 0 23,.l 25 24]<|.block 0<|.n [.bi 27 .eql 25 1,.m 26 27]<|.cond (.t 26) (.o [.load (some 28) false 2 true (.t 5),.build (some 29) [(.int .i64 0),(.str [])] [],.eqA (some 30) false [0,1] (.t 28) (.t 29),.m 6 30]) (.n [.bi 32 .eql 25 2,.m 31 32]<|.cond (.t 31) (.ops false [⟨none,[.f 33 0 5,.l 34 33,.bi 35 .geq 34 0,.m 36 35]⟩,⟨some (36,true),[.f 37 0 5,.l 38 37,.bi 39 .lss 38 6]⟩,⟨none,[.pf 40 36 39,.m 41 40]⟩,⟨some (41,true),[.f 42 1 5,.l 43 42,.bin (some 44) .eql (.t 43) (.s [])]⟩,⟨none,[.pf 45 41 44,.m 6 45]⟩]) (.n [.bi 47 .eql 25 3,.m 46 47]<|.cond (.t 46) (.o [.load (some 48) false 2 true (.t 5),.c 49 (F 185) [.t 48],.m 6 49]) (.skip))))<|.seq (.n [.m 50 6,.un (some 51) .not (.t 50)]<|.cond (.t 51) (.n [.mov (some 4) (.i 7)]<|.ret) (.skip))<|.n [.mov (some 4) (.i 0)]<|.ret
abbrev bIv(P:Program)(F T:Nat->Nat):Prop:=Fn P (F 401) 52 [(4,none)] (c401 F T)
def c402(F T:Nat->Nat):C:=.n [.box 2 (T 16) (.t 0),.box 3 (T 20) (.t 1),.mov (some 4) (.i 0)]<|.seq (.n [.load (some 5) false 3 true (.t 2),.f 6 1 3,.l 7 6,.c 8 (F 420) [.t 5,.t 7],.un (some 9) .not (.t 8)]<|.cond (.t 9) (.n [.mov (some 4) (.i 4)]<|.ret) (.skip))<|.seq (.seq (.ops true [⟨none,[.f 10 2 3,.load (some 11) false 2 true (.t 10),.c 12 (F 185) [.t 11],.un (some 13) .not (.t 12),.m 14 13]⟩,⟨some (14,false),[.f 15 4 3,.l 16 15,.ls 17 16,.bi 18 .gtr 17 100]⟩,⟨none,[.pt 19 14 18,.m 20 19]⟩,⟨some (20,false),[.f 21 4 3,.l 22 21,.c 23 (F 54) [.t 22,.s [10,124]]]⟩,⟨none,[.pt 24 20 23,.m 25 24]⟩,⟨some (25,false),[.f 26 4 3,.l 27 26,.c 28 (F 140) [.t 27,.s [32,9]],.f 29 4 3,.l 30 29,.b 31 .neq 28 30]⟩,⟨none,[.pt 32 25 31]⟩])<|.cond (.t 32) (.n [.mov (some 4) (.i 7)]<|.ret) (.skip))<|.n [.mov (some 4) (.i 0)]<|.ret
abbrev bLf(P:Program)(F T:Nat->Nat):Prop:=Fn P (F 402) 33 [(4,none)] (c402 F T)
def c413(F T:Nat->Nat):C:=.n [.mov (some 0) (.k .nils)]<|.n [.mkl (some 1) 1 [.s [114,101,97,100],.s [101,100,105,116],.s [109,111,118,101],.s [100,101,108,101,116,101],.s [114,101,118,105,101,119]],.m 0 1]<|.ret
abbrev aX0(P:Program)(F T:Nat->Nat):Prop:=Fn P (F 413) 2 [(0,none)] (c413 F T)
def c414(F T:Nat->Nat):C:=.n [.mov (some 0) (.k .nils)]<|.n [.mkl (some 1) 1 [.s [60,77,97,105,110,62],.s [60,84,97,108,107,62],.s [60,85,115,101,114,62],.s [60,84,101,109,112,108,97,116,101,62],.s [60,67,97,116,101,103,111,114,121,62],.s [60,80,114,111,106,101,99,116,62]],.m 0 1]<|.ret
abbrev aXm(P:Program)(F T:Nat->Nat):Prop:=Fn P (F 414) 2 [(0,none)] (c414 F T)
def c415(F T:Nat->Nat):C:=.n [.alloc 2 (T 17) [(.int .i64 0),(.str [])],.mov (some 3) (.i 0)]<|.n [.m 8 0,.c 9 (F 423) [.t 8,.s [95],.s [32]],.c 10 (F 424) [.t 9],.m 0 10]<|.seqc (.n [.m 11 0,.c 12 (F 97) [.t 11,.s [58]]]<|.cond (.t 12) (.o [.m 13 0,.slcS (some 14) (.t 13) (some (.i 1)) none,.c 15 (F 425) [.t 14,.s [32]],.m 0 15]) (.skip))<|.n [.build (some 16) [(.int .i64 0),(.str [])] [],.alloc 4 (T 17) [(.int .i64 0),(.str [])],.store 2 (.t 4) (.t 16)]<|.seqc (.n [.m 18 0,.c 19 (F 188) [.t 18],.m 17 19,.x 20 0 17,.x 21 1 17,.x 22 2 17,.m 5 20,.m 6 21,.m 7 22]<|.n [.m 23 7]<|.cond (.t 23) (.o [.m 24 5,.m 25 6,.c 26 (F 425) [.t 25,.s [32]],.f 27 0 4,.store 1 (.t 27) (.t 24),.m 0 26]) (.skip))<|.n [.m 28 0,.c 29 (F 385) [.t 28],.m 0 29]<|.seqc (.seq (.ops false [⟨none,[.m 30 0,.bin (some 31) .neq (.t 30) (.s []),.m 32 31]⟩,⟨some (32,true),[.m 33 0,.idx (some 34) (.t 33) (.i 0),.bin (some 35) .geq (.t 34) (.k (.int .u8 97))]⟩,⟨none,[.pf 36 32 35,.m 37 36]⟩,⟨some (37,true),[.m 38 0,.idx (some 39) (.t 38) (.i 0),.bin (some 40) .leq (.t 39) (.k (.int .u8 122))]⟩,⟨none,[.pf 41 37 40]⟩])<|.cond (.t 41) (.p [.m 42 0,.idx (some 43) (.t 42) (.i 0),.bin (some 44) .sub (.t 43) (.k (.int .u8 32)),.mkl (some 45) 1 [.t 44],.b2s (some 46) (.t 45),.m 47 0,.slcS (some 48) (.t 47) (some (.i 1)) none,.b 49 .add 46 48,.m 0 49]) (.skip))<|.n [.m 50 0,.f 51 1 4,.store 1 (.t 51) (.t 50)]<|.seq (.n [.m 52 0,.ls 53 52,.bi 54 .gtr 53 100]<|.cond (.t 54) (.n [.build (some 55) [(.int .i64 0),(.str [])] [],.store 2 (.t 2) (.t 55),.mov (some 3) (.i 3)]<|.ret) (.skip))<|.seq (.n [.load (some 56) false 2 true (.t 4),.c 57 (F 185) [.t 56],.un (some 58) .not (.t 57)]<|.cond (.t 58) (.n [.build (some 59) [(.int .i64 0),(.str [])] [],.store 2 (.t 2) (.t 59),.mov (some 3) (.i 1)]<|.ret) (.skip))<|.n [.load (some 60) false 2 true (.t 4),.store 2 (.t 2) (.t 60),.mov (some 3) (.i 0)]<|.ret
abbrev bMx(P:Program)(F T:Nat->Nat):Prop:=Fn P (F 415) 61 [(2,(some (2,true))),(3,none)] (c415 F T)
def c416(F T:Nat->Nat):C:=.n [.mov (some 2) (.k (.bool false))]<|.seq (.ops false [⟨none,[.m 3 0,.bin (some 4) .eql (.t 3) (.s [97,108,108]),.m 5 4]⟩,⟨some (5,false),[.m 6 0,.bin (some 7) .eql (.t 6) (.s [117,115,101,114,115])]⟩,⟨none,[.pt 8 5 7,.m 2 8]⟩])<|.ret
abbrev bAh(P:Program)(F T:Nat->Nat):Prop:=Fn P (F 416) 9 [(2,none)] (c416 F T)
def c417(F T:Nat->Nat):C:=.n [.box 2 (T 22) (.t 0),.mov (some 3) (.k (.bool false))]<|.n [.f 4 0 2,.l 5 4,.f 6 0 1,.l 7 6,.b 8 .eql 5 7,.m 3 8]<|.ret
abbrev bEj(P:Program)(F T:Nat->Nat):Prop:=Fn P (F 417) 9 [(3,none)] (c417 F T)
def c418(F T:Nat->Nat):C:=.n [.mov (some 4) (.k (.bool false))]<|.n [.m 5 0,.m 6 1,.c 7 (F 426) [.t 5,.t 6],.bi 8 .geq 7 0,.m 4 8]<|.ret
abbrev bCe(P:Program)(F T:Nat->Nat):Prop:=Fn P (F 418) 9 [(4,none)] (c418 F T)
def c420(F T:Nat->Nat):C:=.n [.box 2 (T 16) (.t 0),.box 3 (T 21) (.t 1),.mov (some 4) (.k (.bool false))]<|.seq (.ops false [⟨none,[.l 5 3,.c 6 (F 416) [.t 5],.m 7 6]⟩,⟨some (7,false),[.f 8 0 2,.l 9 8,.clos (some 10) (F 427) [.t 3],.call (some 11) false (F 418) [.t 9,.t 10]]⟩,⟨none,[.pt 12 7 11,.m 4 12]⟩])<|.ret
abbrev bEn(P:Program)(F T:Nat->Nat):Prop:=Fn P (F 420) 13 [(4,none)] (c420 F T)
def c424(F T:Nat->Nat):C:=.n [.mov (some 2) (.s [])]<|.n [.m 5 0,.ls 6 5,.mk0 7 (T 3) 1 (.t 6),.m 3 7]<|.seq (.n [.mov (some 4) (.i 0)]<|.block 0<|.loop<|.seq (.n [.m 8 4,.m 9 0,.ls 10 9,.b 11 .lss 8 10]<|.cond (.t 11) (.skip) (.exit 0))<|.seq (.block 1<|.seq (.ops false [⟨none,[.m 14 0,.m 15 4,.ix 16 14 15,.bin (some 17) .neq (.t 16) (.k (.int .u8 32)),.m 18 17]⟩,⟨some (18,false),[.m 19 3,.ll 20 19,.bi 21 .gtr 20 0,.m 22 21]⟩,⟨some (22,true),[.m 23 3,.m 24 3,.ll 25 24,.bi 26 .sub 25 1,.ia 27 1 23 26,.l 28 27,.bin (some 29) .neq (.t 28) (.k (.int .u8 32))]⟩,⟨some (18,false),[.pf 30 22 29]⟩,⟨none,[.pt 31 18 30]⟩])<|.cond (.t 31) (.o [.m 32 3,.m 33 0,.m 34 4,.ix 35 33 34,.mkl (some 36) 1 [.t 35],.app 37 (T 3) 1 (.t 32) (.t 36),.m 3 37]) (.skip))<|.o [.m 12 4,.bi 13 .add 12 1,.m 4 13])<|.n [.m 38 3,.b2s (some 39) (.t 38),.c 40 (F 173) [.t 39,.s [32]],.m 2 40]<|.ret
abbrev bJr(P:Program)(F T:Nat->Nat):Prop:=Fn P (F 424) 41 [(2,none)] (c424 F T)
def c426(F T:Nat->Nat):C:=.n [.mov (some 4) (.i 0)]<|.seq (.n [.m 6 0,.ll 7 6,.mov (some 8) (.i 0)]<|.block 0<|.loop<|.n [.b 9 .lss 8 7]<|.seq (.cond (.t 9) (.skip) (.exit 0))<|.seq (.block 1<|.n [.m 10 8,.m 5 10]<|.n [.m 11 1,.m 12 0,.m 13 5,.ia 14 2 12 13,.load (some 15) false 2 true (.t 14),.pcall (some 16) (.t 11) [.t 15]]<|.cond (.t 16) (.n [.m 17 5,.m 4 17]<|.ret) (.skip))<|.o [.bi 18 .add 8 1,.m 8 18])<|.n [.mov (some 4) (.k (.int .i64 (-1)))]<|.ret
abbrev aVm(P:Program)(F T:Nat->Nat):Prop:=Fn P (F 426) 19 [(4,none)] (c426 F T)
def c427(F T:Nat->Nat):C:=.n [.box 2 (T 22) (.t 0),.mov (some 3) (.k (.bool false))]<|.n [.f 4 0 2,.l 5 4,.l 6 1,.b 7 .eql 5 6,.m 3 7]<|.ret
abbrev aW8(P:Program)(F T:Nat->Nat):Prop:=Fn P (F 427) 8 [(3,none)] (c427 F T)
open Go.Lib
variable {P:Program} {F T:Nat->Nat}
theorem bDb(b:UInt8):wsp.contains b=isW b:=by
 simp only[wsp,isW,List.contains_cons,List.contains_nil,Bool.or_false];rw[Bool.eq_iff_iff];simp
theorem bPb(s:List UInt8):trimRightS s wsp=rtW s:=by
 induction s with
 | nil=>rfl
 | cons c r ih =>
   simp only[trimRightS,xg,wy,bDb]at ih ⊢;rw[rtW,<-ih];generalize yL isW r.reverse=w;cases w with
   | nil=>by_cases hc:isW c=true<;>simp[hc]
   | cons x w=>simp
theorem aHg(s:List UInt8):trimS s wsp=trW s:=by
 unfold trimS trW;rw[bPb];simp only[trimLeftS,lfW,bDb]
theorem aXl:∀s:List UInt8,(rtW s).length<=s.length
 | []=>Nat.le_refl _
 | c::r=>by have:=aXl r;rw[rtW];split<;>simp<;>omega
theorem aE1(s:List UInt8):(trW s).length<=s.length:=Nat.le_trans (xD (l:=rtW s) isW).length_le (aXl s)
theorem bGa:∀{t:List UInt8},indexAny t wsp<0->wdW t=t∧afW t=[]
 | [],_=>⟨rfl,rfl⟩
 | c::r,h=>by
   have hg:=indexAny_ge wsp r;rw[indexAny,bDb]at h;by_cases hc:isW c=true
   .simp[hc]at h
   .have hc':isW c=false:=by simpa using hc
    rw[if_neg hc]at h;have hr:indexAny r wsp<0:=by
     by_cases e:(indexAny r wsp==-1)=true
     .have:=eq_of_beq e;omega
     .rw[if_neg e]at h;omega
    obtain⟨h1,h2⟩:=bGa hr;simp only[wdW,afW]at h1 h2 ⊢;simp[hc',h1,h2]
theorem bGq:∀{t:List UInt8},¬indexAny t wsp<0->wdW t=t.take (indexAny t wsp).toNat∧afW t=t.drop (indexAny t wsp).toNat∧(indexAny t wsp).toNat<t.length
 | [],h=>by simp[indexAny]at h
 | c::r,h=>by
   have hg:=indexAny_ge wsp r;rw[indexAny,bDb]at h ⊢;by_cases hc:isW c=true
   .simp[wdW,afW,hc]
   .have hc':isW c=false:=by simpa using hc
    rw[if_neg hc]at h ⊢;by_cases e:(indexAny r wsp==-1)=true
    .rw[if_pos e]at h;simp at h
    .rw[if_neg e]at h ⊢;have hne:¬indexAny r wsp=-1:=λq=>e (by rw[q];rfl);obtain⟨h1,h2,h3⟩:=bGq (t:=r) (by omega);have e1:(indexAny r wsp+1).toNat=(indexAny r wsp).toNat+1:=by omega
     rw[e1];simp only[wdW,afW]at h1 h2 ⊢;simp[hc',<-h1,<-h2,h3]
structure PolL(P:Program)(F:Nat->Nat):Prop where
 trim:∀s:List UInt8,s.length<=8192->PTr P (F 140) [.str s,.str [32,9]] (.str (trW s))
 any:∀s:List UInt8,s.length<=8192->PTr P (F 66) [.str s,.str [32,9]] (.int .i64 (indexAny s wsp))
 flds:∀s:List UInt8,s.length<=8192->PTr P (F 411) [.str s,.fn (F 412) []] (.lst 1 ((aAn [] s).map .str))
 cut:∀s:List UInt8,s.length<=8192->PTr P (F 172) [.str s,.str [124]] (.tup [.str (s.takeWhile (· != 124)),.str ((s.dropWhile (· != 124)).drop 1),.bool (s.contains 124)])
theorem t396(hf:aQ6 P F T)(S:PolL P F)(s:List UInt8)(hs:s.length<=8192):PTr P (F 396) [.str s] (.tup [.str (aAr s).1,.str (aAr s).2]):=by
 have hl:=aE1 s;refine ptrC [] hf (by simp) rfl ?_;simp only[c396,push_cast,seval,-Nat.reducePow];refine aAa (S.trim s hs) (by simp only[push_cast,seval,-Nat.reducePow]) rfl ?_;refine aAa (S.any (trW s) (by omega)) (by simp only[push_cast,seval,-Nat.reducePow]) rfl ?_;unfold aAr;obtain⟨t,ht⟩:∃t,t=trW s:=⟨_,rfl⟩;rw[<-ht]at hl ⊢;by_cases h:indexAny t wsp<0
 .obtain⟨h1,h2⟩:=bGa h;simp only[push_cast,seval,-Nat.reducePow,h,h1,h2];exact aAb 3 _ rfl
 .obtain⟨h1,h2,h3⟩:=bGq h;have h0:(0:Int)<=indexAny t wsp:=by omega
  simp only[push_cast,seval,-Nat.reducePow,h,h0,h1,h2];refine⟨by omega,by omega,?_⟩;rw[List.take_length];refine aAa (S.trim _ (by rw[wg];omega)) (by simp only[push_cast,seval,-Nat.reducePow]) rfl ?_;exact aAb 3 _ rfl
theorem aCs(s:List UInt8):(aAr s).1.length<=s.length∧(aAr s).2.length<=s.length:=by
 have hl:=aE1 s;have h1:(wdW (trW s)).length<=(trW s).length:=(List.takeWhile_prefix _).length_le;have h2:(afW (trW s)).length<=(trW s).length:=(xD _).length_le;have h3:=aE1 (afW (trW s));exact⟨by unfold aAr;simp only;omega,by unfold aAr;simp only;omega⟩
theorem t413(hf:aX0 P F T):PTr P (F 413) [] (.lst 1 (aCm.map .str)):=by
 refine ptrC [] hf (by simp) rfl ?_;simp only[c413,push_cast,seval,-Nat.reducePow];exact aAb 3 _ rfl
theorem t414(hf:aXm P F T):PTr P (F 414) [] (.lst 1 (aC6.map .str)):=by
 refine ptrC [] hf (by simp) rfl ?_;simp only[c414,push_cast,seval,-Nat.reducePow];exact aAb 3 _ rfl
theorem t416(hf:bAh P F T)(n:List UInt8):PTr P (F 416) [.str n] (.bool (aIy n)):=by
 refine ptrC [] hf (by simp) rfl ?_;unfold aIy aT uT;by_cases h1:n=[97,108,108]
 .simp only[c416,push_cast,seval,-Nat.reducePow,h1];exact aAb 3 _ rfl
 .by_cases h2:n=[117,115,101,114,115]
  .have h3:decide (([117,115,101,114,115]:List UInt8)=[97,108,108])=false:=rfl;simp only[c416,push_cast,seval,-Nat.reducePow,h2,h3];exact aAb 3 _ rfl
  .simp only[c416,push_cast,seval,-Nat.reducePow,h1,h2];exact aAb 3 _ rfl
theorem t427(hf:aW8 P F T)(g:Gro)(n:List UInt8):PTr P (F 427) [g.v,.cptr [.str n]] (.bool (decide (g.n=n))):=by
 refine ptrC [] hf (by simp) rfl ?_;have h1:(V.lst 1 (g.m.map .str)).one=true:=rfl;simp only[c427,push_cast,seval,-Nat.reducePow,Gro.v,h1];exact aAb 3 _ rfl
theorem t426(hf:aVm P F T){cf:Nat}{cs:List V}(gs:List Gro)(p:Gro->Bool)(hb:aBk P cf=true)(hc:∀g,g∈gs->PTr P cf (g.v::cs) (.bool (p g)))(hci:V.imms cs=true)(hl:gs.length<=2^30):PTr P (F 426) [.lst 2 (grV gs),.fn cf cs] (.int .i64 (ixI (gs.findIdx? p))):=by
 have hlg:=aCx gs;refine ptrC [] hf (by simp) rfl ?_;simp only[c426,push_cast,seval,-Nat.reducePow,hlg];refine aAd (λm s1=>∃a q,gs=a++q∧m=q.length∧(∀g,g∈a->p g=false)∧s1.env 0=.lst 2 (grV gs)∧s1.env 1=.fn cf cs∧s1.env 7=.int .i64 gs.length∧s1.env 8=.int .i64 a.length) gs.length ?_ λm s1 hJ=>?_
 .simp only[push_cast,seval,-Nat.reducePow];exact⟨[],gs,rfl,rfl,by simp,rfl⟩
 .obtain⟨a,q,hb2,rfl,hall,j0,j1,j7,j8⟩:=hJ;have hb3:gs.length=a.length+q.length:=by rw[hb2];simp
  cases q with
  | nil =>
    have h1:¬((a.length:Nat):Int)<((gs.length:Nat):Int):=by simp at hb3;omega
    have e:gs.findIdx? p=none:=by rw[zY,hb2];simpa using hall
    simp only[push_cast,seval,-Nat.reducePow,j0,j1,j7,j8,h1,e,ixI];exact aAb 3 _ rfl
  | cons g q =>
    rw[zg]at hb3;have h1:((a.length:Nat):Int)<((gs.length:Nat):Int):=by omega
    have hg:(grV gs).getD a.length .junk=g.v:=by rw[hb2];simp[grV,ze]
    have hcg:=hc g (by rw[hb2];simp);simp only[push_cast,seval,-Nat.reducePow,j0,j1,j7,j8,h1,hg,hlg];have hm:∀L,cs.map (view L 3)=cs:=λL=>by
     conv=>rhs;rw[<-List.map_id cs]
     exact zt λx hx=>aAb 3 x (aBh hci hx)
    refine⟨by omega,by simp[Gro.v,V.cells],aPy (f:=cf) (cs:=cs) (by simp[view,hm]) hb (by simpa[view,Gro.v,V.cells]using hcg) (by simp[Gro.v,V.cells,view,V.imms,V.imm,aAp,hci]) rfl ?_⟩;cases hp:p g with
    | true =>
      have e:gs.findIdx? p=some a.length:=by rw[hb2,List.findIdx?_append,zY.2 hall];simp[hp,List.findIdx?_cons]
      simp only[push_cast,seval,-Nat.reducePow,j0,j1,j7,j8,e,ixI];exact aAb 3 _ rfl
    | false =>
      simp only[push_cast,seval,-Nat.reducePow,j0,j1,j7,j8];exact⟨⟨by omega,by omega⟩,q.length,by omega,a++[g],q,by rw[hb2];simp,rfl,λx hx=>by
       rcases List.mem_append.1 hx with hx|hx
       .exact hall x hx
       .rw[List.mem_singleton.1 hx];exact hp,by simp⟩
theorem t418(hf:bCe P F T)(h426:aVm P F T){cf:Nat}{cs:List V}(gs:List Gro)(p:Gro->Bool)(hb:aBk P cf=true)(hc:∀g,g∈gs->PTr P cf (g.v::cs) (.bool (p g)))(hci:V.imms cs=true)(hl:gs.length<=2^30):PTr P (F 418) [.lst 2 (grV gs),.fn cf cs] (.bool (gs.any p)):=by
 have hk:=t426 h426 gs p hb hc hci hl;have e:decide ((0:Int)<=ixI (gs.findIdx? p))=gs.any p:=by
  cases h:gs.findIdx? p with
  | none =>
    have h2:=zY.1 h;have:gs.any p=false:=by simpa using h2
    rw[this];rfl
  | some i=>obtain⟨h1,h2,_⟩:=List.findIdx?_eq_some_iff_getElem.1 h;have:gs.any p=true:=List.any_eq_true.2 ⟨_,List.getElem_mem h1,h2⟩;rw[this,ixI];simp
 refine ptrC [] hf (by simp) rfl ?_;simp only[c418,push_cast,seval,-Nat.reducePow];refine aAa hk (by simp only[V.imms,V.imm,aA6,hci,zn]) rfl ?_;simp only[push_cast,seval,-Nat.reducePow,e];exact aAb 3 _ rfl
theorem t420(hf:bEn P F T)(h416:bAh P F T)(h418:bCe P F T)(h426:aVm P F T)(h427:aW8 P F T)(hb:aBk P (F 427)=true)(gs:List Gro)(r d:V)(n:List UInt8)(hr:r.imm=true)(hd:d.imm=true)(hr1:r.one=true)(hd1:d.one=true)(hl:gs.length<=2^30):PTr P (F 420) [.agg [.lst 2 (grV gs),r,d],.str n] (.bool (exB gs n)):=by
 have hk:=t418 h418 h426 (cf:=F 427) (cs:=[.cptr [.str n]]) gs (λg=>decide (g.n=n)) hb (λg _=>t427 h427 g n) rfl hl;have ho:(r.one&&d.one)=true:=by rw[hr1,hd1];rfl
 refine ptrC [] hf (by simp) rfl ?_;simp only[c420,push_cast,seval,-Nat.reducePow,ho];refine aAa (t416 h416 n) (by simp only[push_cast,seval,-Nat.reducePow]) rfl ?_;unfold exB;cases hbu:aIy n with
 | true=>simp only[push_cast,seval,-Nat.reducePow];exact aAb 3 _ rfl
 | false =>
   simp only[push_cast,seval,-Nat.reducePow];have e2:∀L:Heap,L 3=some (.box (T 21) [.str n])->view L 3 (.fn (F 427) [.ptr 3 0])=.fn (F 427) [.cptr [.str n]]:=λL e=>by simp[view,e]
   rw[aAb 3 (.lst 2 (grV gs)) (by simp only[V.imm,aA6]),e2 _ (aAe _ _ _)];refine aCa hk (by simp only[V.imms,V.imm,aA6,zn]) rfl ?_;simp only[push_cast,seval,-Nat.reducePow];exact aAb 3 _ rfl
def aIb(m:List UInt8):List UInt8:=if m.head?=some 64 then m.drop 1 else m
theorem t417(hf:bEj P F T)(x:Gro)(n:List UInt8)(m:V)(hm:m.one=true):PTr P (F 417) [x.v,.cptr [.str n,m]] (.bool (decide (x.n=n))):=by
 refine ptrC [] hf (by simp) rfl ?_;have h1:(V.lst 1 (x.m.map .str)).one=true:=rfl;simp only[c417,push_cast,seval,-Nat.reducePow,Gro.v,h1];exact aAb 3 _ rfl
set_option maxHeartbeats 1000000 in
theorem t400(hf:bI8 P F T)(h416:bAh P F T)(h417:bEj P F T)(h418:bCe P F T)(h420:bEn P F T)(h426:aVm P F T)(h427:aW8 P F T)(hb:aBk P (F 427)=true)(hb2:aBk P (F 417)=true)
 (h191:∀s:List UInt8,s.length<=8192->PTr P (F 191) [.str s] (.bool (aCr s))) (h419:∀s:List UInt8,s.length<=8192->PTr P (F 419) [.str s,.str [64]] (.tup [.str (aIb s),.bool (decide (s.head?=some 64))]))
 (gs:List Gro) (r d:V) (i:Nat) (hr:r.imm=true) (hd:d.imm=true) (hr1:r.one=true) (hd1:d.one=true) (hl:gs.length<=2^30) (hi:i<gs.length) (hn:(gs.getD i ⟨[],[]⟩).n.length<=8192) (hm:∀m,m∈(gs.getD i ⟨[],[]⟩).m->m.length<=8192) (hml:(gs.getD i ⟨[],[]⟩).m.length<=2^30) :
 PTr P (F 400) [.agg [.lst 2 (grV gs),r,d],.int .i64 i] (.int .i64 (grpE gs i (gs.getD i ⟨[],[]⟩))):=by
 obtain⟨g,hgd⟩:∃g,g=gs.getD i ⟨[],[]⟩:=⟨_,rfl⟩;rw[<-hgd]at hn hm hml ⊢;have ho:(r.one&&d.one)=true:=by rw[hr1,hd1];rfl
 have hlg:=aCx gs;have hg:(grV gs).getD i .junk=g.v:=by rw[hgd];simp[grV,ze,hi]
 have h1:(V.lst 1 (g.m.map .str)).one=true:=rfl;have hgl:(g.m.map V.str).length=g.m.length:=List.length_map ..;unfold grpE;refine ptrC [] hf (by simp) rfl ?_;simp only[c400,push_cast,seval,-Nat.reducePow,ho,hlg,hg];simp only[Gro.v,push_cast,seval,-Nat.reducePow,h1];refine⟨hi,aAa (h191 g.n hn) (by simp only[push_cast,seval,-Nat.reducePow]) rfl ?_⟩;cases hnb:aCr g.n with
 | false=>simp only[push_cast,seval,-Nat.reducePow];exact aAb 3 _ rfl
 | true =>
   have e2:∀L:Heap,L 62=some (.box (T 22) [.str g.n,.lst 1 (g.m.map .str)])->view L 3 (.fn (F 417) [.ptr 62 0])=.fn (F 417) [.cptr [.str g.n,.lst 1 (g.m.map .str)]]:=λL e=>by simp[view,e,aAp,zt λ(x:V) hx=>aAb 2 x (aBh (aAp g.m) hx)]
   have hk:=t418 h418 h426 (cf:=F 417) (cs:=[.cptr [.str g.n,.lst 1 (g.m.map .str)]]) (gs.take i) (λx=>decide (x.n=g.n)) hb2 (λx _=>t417 h417 x g.n _ rfl) (by simp[V.imms,V.imm,aAp]) (by rw[List.length_take];omega);have hgt:grV (gs.take i)=(grV gs).take i:=by simp[grV]
   rw[hgt]at hk;simp only[push_cast,seval,-Nat.reducePow];refine aAx (λs1=>exB (gs.take i) g.n=false∧s1.env 2=.ptr 2 0∧s1.env 5=.ptr 62 0∧s1.L 2=some (.box (T 16) [.lst 2 (grV gs),r,d])∧s1.L 62=some (.box (T 22) [.str g.n,.lst 1 (g.m.map .str)])∧62<s1.nx) ?_ ?_
   .simp only[push_cast,seval,-Nat.reducePow];refine aAa (t416 h416 g.n) (by simp only[push_cast,seval,-Nat.reducePow]) rfl ?_;cases hbu:aIy g.n with
    | true =>
      have e:exB (gs.take i) g.n=true:=by simp[exB,hbu]
      simp only[push_cast,seval,-Nat.reducePow,e];exact aAb 3 _ rfl
    | false =>
      simp only[push_cast,seval,-Nat.reducePow,hlg];refine⟨by omega,?_⟩;rw[aAb 3 (.lst 2 _) (by simp only[V.imm,<-hgt,aA6]),e2 _ (aAe _ _ _)];refine aCa hk (by simp only[V.imms,V.imm,<-hgt,aA6,aAp,zn]) rfl ?_;cases han:(gs.take i).any (λx=>decide (x.n=g.n))with
      | true =>
        have e:exB (gs.take i) g.n=true:=by simp[exB,hbu,han]
        simp only[push_cast,seval,-Nat.reducePow,e];exact aAb 3 _ rfl
      | false =>
        have e:exB (gs.take i) g.n=false:=by simp[exB,hbu,han]
        simp only[push_cast,seval,-Nat.reducePow];exact e
   .rintro s1 ⟨hex,j2,j5,e2,e5,jn⟩;simp only[push_cast,seval,-Nat.reducePow,hex];refine aAx (λs1=>g.m.length<=24∧s1.env 2=.ptr 2 0∧s1.env 5=.ptr 62 0∧s1.L 2=some (.box (T 16) [.lst 2 (grV gs),r,d])∧s1.L 62=some (.box (T 22) [.str g.n,.lst 1 (g.m.map .str)])∧62<s1.nx) ?_ ?_
    .by_cases h24:24<g.m.length
     .have h24':(24:Int)<((g.m.length:Nat):Int):=by omega
      simp only[push_cast,seval,-Nat.reducePow,j2,j5,e2,e5,hgl,h24',h24];exact aAb 3 _ rfl
     .have h24':¬(24:Int)<((g.m.length:Nat):Int):=by omega
      simp only[push_cast,seval,-Nat.reducePow,j2,j5,e2,e5,hgl,h24'];omega
    .clear j2 j5 e2 e5 jn;rintro s1 ⟨h24,j2,j5,e2,e5,jn⟩;have h24':¬24<g.m.length:=by omega
     simp only[push_cast,seval,-Nat.reducePow,j2,j5,e2,e5,hgl,h24'];refine aAd (λm s1=>∃a q,g.m=a++q∧m=q.length∧aFm gs g.m=aFm gs q∧s1.env 2=.ptr 2 0∧s1.env 35=.lst 1 (g.m.map .str)∧s1.env 36=.int .i64 g.m.length∧s1.env 37=.int .i64 a.length∧s1.L 2=some (.box (T 16) [.lst 2 (grV gs),r,d])∧62<s1.nx) g.m.length ?_ λm s1 hJ=>?_
     .simp only[push_cast,seval,-Nat.reducePow];exact⟨[],g.m,rfl,rfl,rfl,j2,rfl,e2,by omega⟩
     .obtain⟨a,q,hb3,rfl,hall,j2,j35,j36,j37,e2,jn⟩:=hJ;have hb4:g.m.length=a.length+q.length:=by rw[hb3];simp
      cases q with
      | nil =>
        have h1:¬((a.length:Nat):Int)<((g.m.length:Nat):Int):=by simp at hb4;omega
        simp only[push_cast,seval,-Nat.reducePow,j2,j35,j36,j37,e2,h1,hall,aFm];exact aAb 3 _ rfl
      | cons x q =>
        rw[zg]at hb4;have h1:((a.length:Nat):Int)<((g.m.length:Nat):Int):=by omega
        have hx:(g.m.map V.str).getD a.length .junk=.str x:=by rw[hb3];simp[ze]
        have hxl:=hm x (by rw[hb3];simp);have hcl:(aIb x).length<=8192:=by
         unfold aIb;split
         .rw[wg];omega
         .exact hxl
        simp only[push_cast,seval,-Nat.reducePow,j2,j35,j36,j37,e2,h1,hx,hgl];refine⟨by omega,aAa (h419 x hxl) rfl rfl ?_⟩;simp only[push_cast,seval,-Nat.reducePow,j2,j35,j36,j37,e2];refine aAa (h191 _ hcl) (by simp only[push_cast,seval,-Nat.reducePow]) rfl ?_;have hgs:aFm gs g.m=if memE gs x=0 then aFm gs q else memE gs x:=hall
        have hg1:([V.str (aIb x),V.bool (decide (x.head?=some 64))]:List V).getD 1 V.junk=.bool (decide (x.head?=some 64)):=rfl;cases hnx:aCr (aIb x)with
        | false =>
          have he:memE gs x=1:=by
           unfold memE;unfold aIb at hnx;by_cases hh:x.head?=some 64
           .rw[if_pos hh]at hnx ⊢;rw[if_pos hnx]
           .rw[if_neg hh]at hnx ⊢;rw[if_pos hnx]
          rw[he]at hgs;simp only[push_cast,seval,-Nat.reducePow,hgs,he];exact aAb 3 _ rfl
        | true =>
          simp only[push_cast,seval,-Nat.reducePow,hg1];by_cases hh:x.head?=some 64
          .simp only[push_cast,seval,-Nat.reducePow,hh,j2,j35,j36,j37,e2];refine aAa (t420 h420 h416 h418 h426 h427 hb gs r d (aIb x) hr hd hr1 hd1 hl) (by simp only[V.imms,V.imm,aA6,hr,hd,zn]) rfl ?_;have hcx:aIb x=x.drop 1:=by unfold aIb;rw[if_pos hh]
           cases hxx:exB gs (aIb x)with
           | true =>
             have he:memE gs x=0:=by unfold memE;rw[if_pos hh,<-hcx,hnx,hxx];rfl
             rw[if_pos he]at hgs;simp only[push_cast,seval,-Nat.reducePow,j2,j35,j36,j37,e2];exact⟨⟨by omega,by omega⟩,q.length,by omega,a++[x],q,by rw[hb3];simp,rfl,hgs,by simp,by omega⟩
           | false =>
             have he:memE gs x=4:=by unfold memE;rw[if_pos hh,<-hcx,hnx,hxx];rfl
             rw[he]at hgs;simp only[push_cast,seval,-Nat.reducePow,j2,j35,j36,j37,e2,hgs];exact aAb 3 _ rfl
          .have hcx:aIb x=x:=by unfold aIb;rw[if_neg hh]
           have he:memE gs x=0:=by unfold memE;rw[if_neg hh,<-hcx,hnx];rfl
           rw[if_pos he]at hgs;simp only[push_cast,seval,-Nat.reducePow,hh,j2,j35,j36,j37,e2];exact⟨⟨by omega,by omega⟩,q.length,by omega,a++[x],q,by rw[hb3];simp,rfl,hgs,by simp,by omega⟩
theorem t401(hf:bIv P F T){pv a b c:V}(hp:pv=.agg [a,b,c])(hpi:V.imms [a,b,c]=true)(hp1:(a.one&&(b.one&&c.one))=true)(gs:List Gro)(h420:∀n,PTr P (F 420) [pv,.str n] (.bool (exB gs n)))(h185:∀(sp:Int) (s:List UInt8),s.length<=8192->PTr P (F 185) [ttV sp s] (.bool (aBb sp s)))(x:Rul)(hx:x.sc.n.length<=8192):
 PTr P (F 401) [pv,x.v] (.int .i64 (rulE gs x)):=by
 subst hp;refine ptrC [] hf (by simp) rfl ?_;unfold rulE;by_cases a1:x.ri<1
 .simp only[c401,push_cast,seval,-Nat.reducePow,hp1,Rul.v,a1];exact aAb 3 _ rfl
 by_cases a2:5<x.ri
 .simp only[c401,push_cast,seval,-Nat.reducePow,hp1,Rul.v,a1,a2];exact aAb 3 _ rfl
 simp only[c401,push_cast,seval,-Nat.reducePow,hp1,Rul.v,a1,a2];refine aAa (h420 x.gr) (by simpa only[V.imms,V.imm,xH]using hpi) rfl ?_;cases hex:exB gs x.gr with
 | false=>simp only[push_cast,seval,-Nat.reducePow];exact aAb 3 _ rfl
 | true =>
   unfold scpB;by_cases b1:x.sc.k=1
   .by_cases b2:x.sc.sp=0
    .by_cases b3:x.sc.n=[]
     .simp only[push_cast,seval,-Nat.reducePow,b1,b2,b3];exact aAb 3 _ rfl
     .simp only[push_cast,seval,-Nat.reducePow,b1,b2,b3];exact aAb 3 _ rfl
    .simp only[push_cast,seval,-Nat.reducePow,b1,b2];rw[zi];simp only[push_cast,seval,-Nat.reducePow];exact aAb 3 _ rfl
   .by_cases b2:x.sc.k=2
    .by_cases b3:0<=x.sc.sp
     .by_cases b4:x.sc.sp<6
      .by_cases b5:x.sc.n=[]
       .simp only[push_cast,seval,-Nat.reducePow,b1,b2,b3,b4,b5];exact aAb 3 _ rfl
       .simp only[push_cast,seval,-Nat.reducePow,b1,b2,b3,b4,b5];exact aAb 3 _ rfl
      .simp only[push_cast,seval,-Nat.reducePow,b1,b2,b3,b4];exact aAb 3 _ rfl
     .simp only[push_cast,seval,-Nat.reducePow,b1,b2,b3];exact aAb 3 _ rfl
    .by_cases b3:x.sc.k=3
     .simp only[push_cast,seval,-Nat.reducePow,b1,b2,b3];refine aAa (h185 x.sc.sp x.sc.n hx) (by simp only[push_cast,seval,-Nat.reducePow]) rfl ?_;cases hv:aBb x.sc.sp x.sc.n with
      | false=>simp only[push_cast,seval,-Nat.reducePow];exact aAb 3 _ rfl
      | true=>simp only[push_cast,seval,-Nat.reducePow];exact aAb 3 _ rfl
     .simp only[push_cast,seval,-Nat.reducePow,b1,b2,b3];exact aAb 3 _ rfl
theorem t402(hf:bLf P F T){pv a b c:V}(hp:pv=.agg [a,b,c])(hpi:V.imms [a,b,c]=true)(hp1:(a.one&&(b.one&&c.one))=true)(gs:List Gro)(h420:∀n,PTr P (F 420) [pv,.str n] (.bool (exB gs n)))(h185:∀(sp:Int) (s:List UInt8),s.length<=8192->PTr P (F 185) [ttV sp s] (.bool (aBb sp s)))
 (S:PolL P F) (h54:∀s:List UInt8,s.length<=8192->PTr P (F 54) [.str s,.str [10,124]] (.bool (s.contains 10||s.contains 124))) (x:Grd) (hx:x.n.length<=8192) (hs:x.sec.length<=8192) :
 PTr P (F 402) [pv,x.v] (.int .i64 (grdE gs x)):=by
 subst hp;refine ptrC [] hf (by simp) rfl ?_;unfold grdE;simp only[c402,push_cast,seval,-Nat.reducePow,hp1,Grd.v];refine aAa (h420 x.gr) (by simpa only[V.imms,V.imm,xH]using hpi) rfl ?_;cases hex:exB gs x.gr with
 | false=>simp only[push_cast,seval,-Nat.reducePow];exact aAb 3 _ rfl
 | true =>
   simp only[push_cast,seval,-Nat.reducePow];refine aAa (h185 x.sp x.n hx) (by simp only[push_cast,seval,-Nat.reducePow]) rfl ?_;unfold secB;cases hv:aBb x.sp x.n with
   | false=>simp only[push_cast,seval,-Nat.reducePow];exact aAb 3 _ rfl
   | true =>
     by_cases b1:100<x.sec.length
     .have b1':(100:Int)<((x.sec.length:Nat):Int):=by omega
      have b2:¬x.sec.length<=100:=by omega
      simp only[push_cast,seval,-Nat.reducePow,b1',b2];rw[zi,zi,zi];exact aAb 3 _ rfl
     .have b1':¬(100:Int)<((x.sec.length:Nat):Int):=by omega
      have b2:x.sec.length<=100:=by omega
      simp only[push_cast,seval,-Nat.reducePow,b1',b2];refine aAa (h54 _ hs) (by simp only[push_cast,seval,-Nat.reducePow]) rfl ?_;cases c1:x.sec.contains 10 with
      | true =>
        have e:(decide (trW x.sec=x.sec)&&false&&!x.sec.contains 124)=false:=by simp
        rw[Bool.true_or];simp only[push_cast,seval,-Nat.reducePow,e];exact aAb 3 _ rfl
      | false =>
        cases c2:x.sec.contains 124 with
        | true=>simp only[push_cast,seval,-Nat.reducePow];rw[Bool.and_false];exact aAb 3 _ rfl
        | false =>
          simp only[push_cast,seval,-Nat.reducePow];refine aAa (S.trim _ hs) (by simp only[push_cast,seval,-Nat.reducePow]) rfl ?_;by_cases ht:trW x.sec=x.sec
          .simp only[push_cast,seval,-Nat.reducePow,ht];exact aAb 3 _ rfl
          .simp only[push_cast,seval,-Nat.reducePow,ht];exact aAb 3 _ rfl
structure PolB(p:Pol):Prop where
 g:∀x,x∈p.g->x.n.length<=8192∧(∀m,m∈x.m->m.length<=8192)∧x.m.length<=2^30
 r:∀x,x∈p.r->x.sc.n.length<=8192
 d:∀x,x∈p.d->x.n.length<=8192∧x.sec.length<=8192
 gl:p.g.length<=2^30
 rl:p.r.length<=2^30
 dl:p.d.length<=2^30
def Pol.w(p:Pol):V:=.agg [.lst 2 (grV p.g),.lst 6 (ruV p.r),.lst 5 (gdV p.d)]
set_option maxHeartbeats 1000000 in
theorem t391(hf:bMd P F T)(p:Pol)(hB:PolB p)(h400:∀i:Nat,i<p.g.length->PTr P (F 400) [p.w,.int .i64 i] (.int .i64 (grpE p.g i (p.g.getD i ⟨[],[]⟩))))(h401:∀x,x∈p.r->PTr P (F 401) [p.w,x.v] (.int .i64 (rulE p.g x)))(h402:∀x,x∈p.d->PTr P (F 402) [p.w,x.v] (.int .i64 (grdE p.g x))):
 PTr P (F 391) [p.w] (.int .i64 (valE p)):=by
 have l1:=aCx p.g;have l2:=aE7 p.r;have l3:=aG6 p.d;have b1:=hB.gl;have b2:=hB.rl;have b3:=hB.dl;have hpi:V.imms [p.w]=true:=by simp only[Pol.w,V.imms,V.imm,aA6,aBv,aBy,zn]
 refine ptrC [] hf (by simp) rfl ?_;unfold valE;by_cases c1:24<p.g.length
 .have c1':(24:Int)<((p.g.length:Nat):Int):=by omega
  simp only[c391,push_cast,seval,-Nat.reducePow,Pol.w,l1,c1',c1];exact aAb 3 _ rfl
 have c1':¬(24:Int)<((p.g.length:Nat):Int):=by omega
 by_cases c2:64<p.r.length
 .have c2':(64:Int)<((p.r.length:Nat):Int):=by omega
  simp only[c391,push_cast,seval,-Nat.reducePow,Pol.w,l1,l2,c1',c1,c2',c2];exact aAb 3 _ rfl
 have c2':¬(64:Int)<((p.r.length:Nat):Int):=by omega
 by_cases c3:64<p.d.length
 .have c3':(64:Int)<((p.d.length:Nat):Int):=by omega
  simp only[c391,push_cast,seval,-Nat.reducePow,Pol.w,l1,l2,l3,c1',c1,c2',c2,c3',c3];exact aAb 3 _ rfl
 have c3':¬(64:Int)<((p.d.length:Nat):Int):=by omega
 simp only[c391,push_cast,seval,-Nat.reducePow,Pol.w,l1,l2,l3,c1',c1,c2',c2,c3',c3];refine aAx (λs1=>aH5 p.g 0 p.g=0∧s1.env 1=.ptr 1 0∧s1.L 1=some (.box (T 16) [.lst 2 (grV p.g),.lst 6 (ruV p.r),.lst 5 (gdV p.d)])∧1<s1.nx) ?_ ?_
 .simp only[push_cast,seval,-Nat.reducePow,l1];refine aAd (λm s1=>∃a q,p.g=a++q∧m=q.length∧aH5 p.g 0 p.g=aH5 p.g a.length q∧s1.env 1=.ptr 1 0∧s1.env 29=.int .i64 p.g.length∧s1.env 30=.int .i64 a.length∧s1.L 1=some (.box (T 16) [.lst 2 (grV p.g),.lst 6 (ruV p.r),.lst 5 (gdV p.d)])∧1<s1.nx) p.g.length ?_ λm s1 hJ=>?_
  .simp only[push_cast,seval,-Nat.reducePow];exact⟨[],p.g,rfl,rfl,rfl,rfl⟩
  .obtain⟨a,q,hb,rfl,hall,j1,j29,j30,e1,jn⟩:=hJ;have hb2:p.g.length=a.length+q.length:=by rw[hb];simp
   cases q with
   | nil =>
     have h1:¬((a.length:Nat):Int)<((p.g.length:Nat):Int):=by simp at hb2;omega
     simp only[push_cast,seval,-Nat.reducePow,j1,j29,j30,e1,h1];exact⟨hall,by omega⟩
   | cons x q =>
     rw[zg]at hb2;have h1:((a.length:Nat):Int)<((p.g.length:Nat):Int):=by omega
     have hx:p.g.getD a.length ⟨[],[]⟩=x:=by rw[hb];simp[ze]
     have hc:=h400 a.length (by omega);rw[hx]at hc;have hgs:aH5 p.g 0 p.g=if grpE p.g a.length x=0 then aH5 p.g (a.length+1) q else grpE p.g a.length x:=hall
     simp only[push_cast,seval,-Nat.reducePow,j1,j29,j30,e1,h1];refine aAa hc (by simp only[V.imms,V.imm,aA6,aBv,aBy,zn]) rfl ?_;by_cases he:grpE p.g a.length x=0
     .rw[if_pos he]at hgs;simp only[push_cast,seval,-Nat.reducePow,j1,j29,j30,e1,he];exact⟨⟨by omega,by omega⟩,q.length,by omega,a++[x],q,by rw[hb];simp,rfl,by rw[hgs,List.length_append];rfl,by simp,by omega⟩
     .rw[if_neg he]at hgs;have he':¬((grpE p.g a.length x:Nat):Int)=0:=by omega
      simp only[push_cast,seval,-Nat.reducePow,j1,j29,j30,e1,he',hgs,he,or_self,if_false];exact aAb 3 _ rfl
 .rintro s1 ⟨g0,j1,e1,jn⟩;simp only[push_cast,seval,-Nat.reducePow,g0];refine aAx (λs1=>aFl p.g p.r=0∧s1.env 1=.ptr 1 0∧s1.L 1=some (.box (T 16) [.lst 2 (grV p.g),.lst 6 (ruV p.r),.lst 5 (gdV p.d)])∧1<s1.nx) ?_ ?_
  .simp only[push_cast,seval,-Nat.reducePow,j1,e1,l2];refine aAd (λm s1=>∃a q,p.r=a++q∧m=q.length∧aFl p.g p.r=aFl p.g q∧s1.env 1=.ptr 1 0∧s1.env 41=.lst 6 (ruV p.r)∧s1.env 42=.int .i64 p.r.length∧s1.env 43=.int .i64 a.length∧s1.L 1=some (.box (T 16) [.lst 2 (grV p.g),.lst 6 (ruV p.r),.lst 5 (gdV p.d)])∧1<s1.nx) p.r.length ?_ λm s1 hJ=>?_
   .simp only[push_cast,seval,-Nat.reducePow];exact⟨[],p.r,rfl,rfl,rfl,j1,rfl,e1,by omega⟩
   .obtain⟨a,q,hb,rfl,hall,j1,j41,j42,j43,e1,jn⟩:=hJ;have hb2:p.r.length=a.length+q.length:=by rw[hb];simp
    cases q with
    | nil =>
      have h1:¬((a.length:Nat):Int)<((p.r.length:Nat):Int):=by simp at hb2;omega
      simp only[push_cast,seval,-Nat.reducePow,j1,j41,j42,j43,e1,h1];exact⟨hall,by omega⟩
    | cons x q =>
      rw[zg]at hb2;have h1:((a.length:Nat):Int)<((p.r.length:Nat):Int):=by omega
      have hx:(ruV p.r).getD a.length .junk=x.v:=by rw[hb];simp[ruV,ze]
      have hc:=h401 x (by rw[hb];simp);have n1:∀n,¬1=s1.nx+n:=λn=>by omega
      have hgs:aFl p.g p.r=if rulE p.g x=0 then aFl p.g q else rulE p.g x:=by rw[hall,aFl]
      simp only[push_cast,seval,-Nat.reducePow,j1,j41,j42,j43,e1,h1,hx,l2,Rul.v,n1];simp only[Rul.v]at hc;refine⟨by omega,aAa hc (by simp only[V.imms,V.imm,aA6,aBv,aBy,zn]) rfl ?_⟩;by_cases he:rulE p.g x=0
      .rw[if_pos he]at hgs;simp only[push_cast,seval,-Nat.reducePow,j1,j41,j42,j43,e1,he,n1];exact⟨⟨by omega,by omega⟩,q.length,by omega,a++[x],q,by rw[hb];simp,rfl,hgs,by simp,by omega⟩
      .rw[if_neg he]at hgs;have he':¬((rulE p.g x:Nat):Int)=0:=by omega
       simp only[push_cast,seval,-Nat.reducePow,j1,j41,j42,j43,e1,he',hgs,he,n1,or_self,if_false];exact aAb 3 _ rfl
  .clear j1 e1 jn;rintro s1 ⟨r0,j1,e1,jn⟩;simp only[push_cast,seval,-Nat.reducePow,r0];refine aAx (λs1=>aFv p.g p.d=0∧s1.env 1=.ptr 1 0∧s1.L 1=some (.box (T 16) [.lst 2 (grV p.g),.lst 6 (ruV p.r),.lst 5 (gdV p.d)])∧1<s1.nx) ?_ ?_
   .simp only[push_cast,seval,-Nat.reducePow,j1,e1,l3];refine aAd (λm s1=>∃a q,p.d=a++q∧m=q.length∧aFv p.g p.d=aFv p.g q∧s1.env 1=.ptr 1 0∧s1.env 55=.lst 5 (gdV p.d)∧s1.env 56=.int .i64 p.d.length∧s1.env 57=.int .i64 a.length∧s1.L 1=some (.box (T 16) [.lst 2 (grV p.g),.lst 6 (ruV p.r),.lst 5 (gdV p.d)])∧1<s1.nx) p.d.length ?_ λm s1 hJ=>?_
    .simp only[push_cast,seval,-Nat.reducePow];exact⟨[],p.d,rfl,rfl,rfl,j1,rfl,e1,by omega⟩
    .obtain⟨a,q,hb,rfl,hall,j1,j41,j42,j43,e1,jn⟩:=hJ;have hb2:p.d.length=a.length+q.length:=by rw[hb];simp
     cases q with
     | nil =>
       have h1:¬((a.length:Nat):Int)<((p.d.length:Nat):Int):=by simp at hb2;omega
       simp only[push_cast,seval,-Nat.reducePow,j1,j41,j42,j43,e1,h1];exact⟨hall,by omega⟩
     | cons x q =>
       rw[zg]at hb2;have h1:((a.length:Nat):Int)<((p.d.length:Nat):Int):=by omega
       have hx:(gdV p.d).getD a.length .junk=x.v:=by rw[hb];simp[gdV,ze]
       have hc:=h402 x (by rw[hb];simp);have n1:∀n,¬1=s1.nx+n:=λn=>by omega
       have hgs:aFv p.g p.d=if grdE p.g x=0 then aFv p.g q else grdE p.g x:=by rw[hall,aFv]
       simp only[push_cast,seval,-Nat.reducePow,j1,j41,j42,j43,e1,h1,hx,l3,Grd.v,n1];simp only[Grd.v]at hc;refine⟨by omega,aAa hc (by simp only[V.imms,V.imm,aA6,aBv,aBy,zn]) rfl ?_⟩;by_cases he:grdE p.g x=0
       .rw[if_pos he]at hgs;simp only[push_cast,seval,-Nat.reducePow,j1,j41,j42,j43,e1,he,n1];exact⟨⟨by omega,by omega⟩,q.length,by omega,a++[x],q,by rw[hb];simp,rfl,hgs,by simp,by omega⟩
       .rw[if_neg he]at hgs;have he':¬((grdE p.g x:Nat):Int)=0:=by omega
        simp only[push_cast,seval,-Nat.reducePow,j1,j41,j42,j43,e1,he',hgs,he,n1,or_self,if_false];exact aAb 3 _ rfl
   .rintro s1 ⟨d0,j1,e1,jn⟩;simp only[push_cast,seval,-Nat.reducePow,d0,or_self,if_false];exact aAb 3 _ rfl
end Go.Ab
