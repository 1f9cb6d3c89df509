import Derived.Test.YtikmbicdjpkipaaGreatDoorAbH3
import Derived.Test.YtikmbicdjpkipaaGreatDoorAbX9
import Derived.Test.YtikmbicdjpkipaaGreatDoorAbC2
import Derived.Test.YtikmbicdjpkipaaGreatDoorAbY9
import Derived.Test.YtikmbicdjpkipaaGreatDoorAbJ1
import Derived.Test.YtikmbicdjpkipaaGreatDoorAbL1
import Derived.Test.YtikmbicdjpkipaaGreatDoorAbR8
import Derived.Test.YtikmbicdjpkipaaGreatDoorAbF4
import Derived.Lib.FieldsP
import Derived.Lib.MapLaws
import Derived.Test.YtikmbicdjpkipaaGreatDoorAbC1
import Derived.Lib.Replace
open List renaming getD->zI,drop_of_length_le->zZ,length_cons->zg,getElem?_append->wD,take_length->zu,isPrefixOf->yI,getD_cons_zero->zk,map_nil->yb,length_map->zb,getD_eq_getElem?_getD->ze,all_append->xz,all_cons->yF,all_eq_true->zx,head?_cons->xP,length_pos_iff->xM,mem_singleton->zp,mem_cons->zD,not_mem_nil->xq,length_drop->wg,nil_append->yf,map_map->yY,map_congr_left->zt,map_id->xL,getElem?_map->yu,contains_iff_mem->yj
open Nat renaming le_refl->zz
open Bool renaming false_eq_true->zK,and_self->zn,false_and->zi,true_and->zy,and_eq_true->zc
open Option renaming getD_some->xx,isSome->wV,map_eq_some_iff->zm
open ByteArray renaming size->zC
set_option linter.unusedSimpArgs false
set_option linter.unusedVariables false
namespace Go.Ab
open Go.Lib
variable {P:Program} {F T:Nat->Nat}
structure TitL(P:Program)(F:Nat->Nat):Prop where
 rep:∀s:List UInt8,s.length<=8192->PTr P (F 423) [.str s,.str [95],.str [32]] (.str (s.map undB))
 tpre:∀s:List UInt8,s.length<=8192->PTr P (F 425) [.str s,.str [32]] (.str (cutB s))
 lt:∀s:List UInt8,s.length<=8192->PTr P (F 144) [.str s,.str [32]] (.str (ltr s))
 rt:∀s:List UInt8,s.length<=8192->PTr P (F 143) [.str s,.str [32]] (.str (rtr s))
 jn:∀l:List (List UInt8),l≠[]->l.length<=8193->(join l [47]).length<=2^40->PTr P (F 289) [.lst 1 (l.map .str),.str [47]] (.str (join l [47]))
def SpsP(P:Program)(F:Nat->Nat)(ty:Nat):Prop:=∀(s:List UInt8) (L:Heap) (nx:Nat),s.length<=8192->ECall P (F 171) [.str s,.str [47]] L nx λr L' nx'=>r=.own nx 1 0 (aAj s).length∧L'=upd L nx (some (.vec ty 1 ((aAj s).map .str)))∧nx'=nx+1
theorem t424(hf:bJr P F T)(hts:∀s:List UInt8,s.length<=100000->PTr P (F 173) [.str s,.str [32]] (.str (unbl s)))(s:List UInt8)(hs:s.length<=8192):PTr P (F 424) [.str s] (.str (unbl (blF [] s))):=by
 refine ptrC [] hf (by simp) rfl ?_;simp only[c424,push_cast,seval,-Nat.reducePow];refine⟨by omega,aAd (λm s1=>∃i out id,i<=s.length∧m=s.length-i∧blF [] s=blF out (s.drop i)∧out.length<=i∧s1.env 0=.str s∧s1.env 4=.int .i64 ((i:Nat):Int)∧s1.env 3=.own id 1 0 out.length∧s1.L id=some (.vec (T 3) 1 (aAs out))∧id<s1.nx) s.length ?_ λm s1 hJ=>?_⟩
 .simp only[push_cast,seval,-Nat.reducePow];exact⟨0,[],48,by omega,rfl,rfl,by simp,rfl,rfl,by rw[aAe];rfl,by omega⟩
 .obtain⟨i,out,id,hi,rfl,hb,ho,j0,j4,j3,eL,jn⟩:=hJ;have hbl:(aAs out).length=out.length:=by simp[aAs]
  have htk:(aAs out).take out.length=aAs out:=List.take_of_length_le (by omega);by_cases h:i<s.length
  .have h1:((i:Nat):Int)<((s.length:Nat):Int):=by omega
   obtain⟨c,hc⟩:∃c,s.getD i 0=c:=⟨_,rfl⟩;obtain⟨hdt,hd⟩:=aHs h hc;rw[hd,blF]at hb;by_cases c32:c=32
   .subst c32;rcases List.eq_nil_or_concat out with rfl|⟨o2,x,rfl⟩
    .simp only[push_cast,seval,-Nat.reducePow,j0,j4,j3,eL,h1,hc,hbl,htk];exact⟨h,⟨by omega,by omega⟩,s.length-(i+1),by omega,i+1,[],id,by omega,rfl,by rw[hb,if_pos ⟨rfl,.inl rfl⟩],by simp,by simp,rfl,eL,by omega⟩
    .have hol:(o2.concat x).length=o2.length+1:=by simp
     have hgb:(aAs (o2.concat x)).getD o2.length .junk=.int .u8 x.toNat:=by simp[aAs,zI]
     have hpo:(0:Int)<((o2.length:Nat):Int)+1:=by omega
     have hps:(((o2.length:Nat):Int)+1-1).toNat=o2.length:=by omega
     by_cases hx:((x.toNat:Nat):Int)=32
     .simp only[push_cast,seval,-Nat.reducePow,j0,j4,j3,eL,h1,hc,hbl,htk,hol,hgb,hpo,hps,hx];rw[hol]at ho;exact⟨h,⟨by omega,by omega⟩,by omega,by omega,by omega,⟨by omega,by omega⟩,s.length-(i+1),by omega,i+1,o2.concat x,id,by omega,rfl,by rw[hb,if_pos ⟨rfl,.inr (by rw[n32 hx];simp)⟩],by omega,by simp,by rw[hol],eL,by omega⟩
     .simp only[push_cast,seval,-Nat.reducePow,j0,j4,j3,eL,h1,hc,hbl,htk,hol,hgb,hpo,hps,hx];rw[hol]at ho htk;refine⟨h,⟨by omega,by omega⟩,by omega,by omega,by omega,h,by omega,⟨by omega,by omega⟩,s.length-(i+1),by omega,i+1,o2.concat x++[32],s1.nx+119,by omega,rfl,by rw[hb,if_neg (λh=>h.2.elim (by simp) λh=>hx (by simp at h;rw[h];rfl))],by simp;omega,by simp,by simp,?_,by omega⟩;rw[aAe,htk];simp[aAs]
   .have c32':¬((c.toNat:Nat):Int)=32:=λe=>c32 (n32 e);simp only[push_cast,seval,-Nat.reducePow,j0,j4,j3,eL,h1,hc,hbl,htk,c32'];refine⟨h,h,by omega,⟨by omega,by omega⟩,s.length-(i+1),by omega,i+1,out++[c],s1.nx+119,by omega,rfl,by rw[hb,if_neg (λh=>c32 h.1)],by simp;omega,by simp,by simp,?_,by omega⟩;rw[aAe];simp[aAs]
  .have h1:¬((i:Nat):Int)<((s.length:Nat):Int):=by omega
   obtain rfl:i=s.length:=by omega
   rw[zZ (zz _),blF]at hb;rw[hb];simp only[push_cast,seval,-Nat.reducePow,j0,j4,j3,eL,h1,hbl,htk];refine⟨out,rfl,aAa (hts out (by omega)) (by rfl) (by rfl) ?_⟩;exact aAb 3 (.str _) rfl
def aI7(first:Bool):List (List UInt8)->List (List UInt8)
 | []=>[]
 | [p]=>[if first then p else ltr p]
 | p::q::r=>rtr (if first then p else ltr p)::aI7 false (q::r)
theorem aKj:∀(l:List (List UInt8)) (b:Bool),(aI7 b l).length=l.length
 | [],_=>rfl
 | [_],_=>rfl
 | p::q::r,b=>by rw[aI7,zg,aKj (q::r)];rfl
theorem aTc:∀(l:List (List UInt8)) (b:Bool) (i:Nat),i<l.length->(aI7 b l).getD i []=(if i+1<l.length then rtr else id) ((if b=true∧i=0 then id else ltr) (l.getD i []))
 | [p],b,0,_=>by cases b<;>simp[aI7]
 | p::q::r,b,0,_=>by cases b<;>simp[aI7]
 | p::q::r,b,i+1,h=>by have:=aTc (q::r) false i (by simpa using h);rw[aI7,List.getD_cons_succ,this];simp
theorem aKm:∀(l:List (List UInt8)) (b:Bool),l≠[]->join (aI7 b l) [47]=slG b l
 | [p],b,_=>by simp[aI7,slG,join]
 | p::q::r,b,_=>by
   have ih:=aKm (q::r) false (by simp);rw[aI7,slG,<-ih];cases h:aI7 false (q::r)with
   | nil=>have:=aKj (q::r) false;rw[h]at this;simp at this
   | cons x y=>simp[join]
theorem aNg:∀s:List UInt8,(ltr s).length<=s.length
 | []=>zz _
 | c::r=>by have:=aNg r;rw[ltr];split<;>simp<;>omega
theorem aRu:∀s:List UInt8,(rtr s).length<=s.length
 | []=>zz _
 | c::r=>by have:=aRu r;rw[rtr];split<;>simp<;>omega
theorem aXp{M:Nat}:∀(l:List (List UInt8)) (b:Bool),(∀v,v∈l->v.length<=M)->(slG b l).length<=l.length*(M+1)
 | [],_,_=>by simp[slG]
 | [p],b,h=>by have h1:=h p (by simp);have h2:=aNg p;cases b<;>simp[slG]<;>omega
 | p::q::r,b,h=>by have ih:=aXp (q::r) false λv hv=>h v (by simp at hv ⊢;exact .inr hv);have h1:=h p (by simp);have h2:=aNg p;have h3:=aRu p;have h4:=aRu (ltr p);rw[slG,List.length_append,zg,zg,Nat.succ_mul];cases b<;>simp only[if_true,if_false,zK]<;>omega
theorem aTu{α:Type}(R p:List α)(i:Nat)(d:α)(hR:R.length=p.length)(hi:i<p.length):(R.take i++p.drop i).set i (R.getD i d)=R.take (i+1)++p.drop (i+1):=by
 have hiR:i<R.length:=by omega
 have e2:R.take (i+1)=R.take i++[R[i]]:=by rw[<-List.take_concat_get (h:=hiR),List.concat_eq_append]
 have hl:(R.take i).length=i:=by rw[List.length_take];omega
 rw[List.drop_eq_getElem_cons hi,e2,List.set_append_right _ _ (by omega),hl,Nat.sub_self,List.set_cons_zero];rw[List.append_assoc];congr 1;simp[zI,hiR]
theorem bS4(hf:bKi P F T){ty:Nat}(L:TitL P F)(hS:SpsP P F ty)(s:List UInt8)(hs:s.length<=8192):PTr P (F 385) [.str s] (.str (slG true (aAj s))):=by
 obtain⟨p,hp⟩:∃p,p=aAj s:=⟨_,rfl⟩;have hpn:p≠[]:=by obtain⟨x,y,e⟩:=aFf s;rw[hp,e];simp
 have hpl:p.length<=s.length+1:=by rw[hp];exact aGb s
 have hpi:∀v,v∈p->v.length<=s.length:=λv hv=>by rw[hp]at hv;exact aD6 v hv
 obtain⟨R,hR⟩:∃R,R=aI7 true p:=⟨_,rfl⟩;have hRl:R.length=p.length:=by rw[hR,aKj]
 refine ptrC [] hf (by simp) rfl ?_;simp only[c385,push_cast,seval,-Nat.reducePow];refine aAg (hS s _ _ hs) ?_;rintro r L1 nx1 ⟨rfl,rfl,rfl⟩;rw[<-hp];simp only[push_cast,seval,-Nat.reducePow];refine aAd (λm s1=>∃i:Nat,i<=p.length∧m=p.length-i∧s1.env 3=.own 76 1 0 p.length∧s1.env 8=.int .i64 p.length∧s1.env 9=.int .i64 i∧s1.L 76=some (.vec ty 1 ((R.take i++p.drop i).map .str))) p.length ?_ λm s1 hJ=>?_
 .simp only[push_cast,seval,-Nat.reducePow];exact⟨0,by omega,rfl,rfl,rfl⟩
 .obtain⟨i,hi,rfl,j3,j8,j9,jL⟩:=hJ;have hcl:((R.take i++p.drop i).map V.str).length=p.length:=by simp;omega
  by_cases h:i<p.length
  .have h1:((i:Nat):Int)<((p.length:Nat):Int):=by omega
   obtain⟨x,hx⟩:∃x,x=p.getD i []:=⟨_,rfl⟩;have hRi:=aTc p true i h;rw[<-hR,<-hx]at hRi;have hgx:((R.take i++p.drop i).map V.str).getD i .junk=.str x:=by rw[aEe (by simp;omega),hx];congr 1;simp[zI,hRl,Nat.min_eq_left hi,wD,h]
   have hset:∀y,y=R.getD i []->((R.take i++p.drop i).map V.str).set i (.str y)=(R.take (i+1)++p.drop (i+1)).map V.str:=λy hy=>by rw[<-List.map_set,hy,aTu R p i [] hRl h]
   have hxl:x.length<=8192:=by
    have:x∈p:=by rw[hx];simp[zI,h]
    have:=hpi x this;omega
   have hll:=(L.lt x hxl);have hcl2:∀y,(((R.take i++p.drop i).map V.str).set i (.str y)).length=p.length:=λy=>by rw[List.length_set,hcl]
   have hg2:∀y,(((R.take i++p.drop i).map V.str).set i (.str y)).getD i .junk=.str y:=λy=>by
    have:i<((R.take i++p.drop i).map V.str).length:=by rw[hcl];exact h
    simp only[zI,List.getElem?_set_self this,xx]
   have hs2:∀y z,(((R.take i++p.drop i).map V.str).set i (.str y)).set i (.str z)=((R.take i++p.drop i).map V.str).set i (.str z):=λy z=>List.set_set ..;have hrc:∀y z:List UInt8,(V.str y).recell [V.str z]=V.str z:=λ_ _=>rfl;have hltr:(ltr x).length<=8192:=by have:=aNg x;omega
   have hsame:R.getD i []=x->R.take i++p.drop i=R.take (i+1)++p.drop (i+1):=λe=>by
    rw[<-aTu R p i [] hRl h,e,hx];apply List.ext_getElem?;intro k;rw[List.getElem?_set];split
    .rename_i hk;subst hk;have hm:min i p.length=i:=by omega
     simp[wD,hRl,h,zI,hm]
     try omega
    .rfl
   by_cases i0:i=0
   .have g0:¬(0:Int)<((i:Nat):Int):=by omega
    rw[show(if true=true∧i=0 then id else ltr) x=x by rw[if_pos ⟨rfl,i0⟩];rfl]at hRi;by_cases il:((i:Nat):Int)<((p.length:Nat):Int)-1
    .have hRi:R.getD i []=rtr x:=by rw[hRi,if_pos (by omega)]
     simp only[push_cast,seval,-Nat.reducePow,j3,j8,j9,jL,h1,hcl,hgx,g0,il];refine⟨⟨by omega,by omega⟩,h,h,aAa (L.rt x hxl) (by rfl) (by rfl) ?_⟩;simp only[push_cast,seval,-Nat.reducePow,j3,j8,j9,jL,h1,hcl,hgx,hrc,hset (rtr x) hRi.symm];exact⟨h,h,⟨by omega,by omega⟩,p.length-(i+1),by omega,i+1,by omega,rfl,by simp,rfl⟩
    .have hRi:R.getD i []=x:=by rw[hRi,if_neg (by omega)];rfl
     simp only[push_cast,seval,-Nat.reducePow,j3,j8,j9,jL,h1,hcl,hgx,g0,il];exact⟨⟨by omega,by omega⟩,⟨by omega,by omega⟩,p.length-(i+1),by omega,i+1,by omega,rfl,by simp,by rw[hsame hRi]⟩
   .have g0:(0:Int)<((i:Nat):Int):=by omega
    rw[show(if true=true∧i=0 then id else ltr) x=ltr x by rw[if_neg (λe=>i0 e.2)]]at hRi;simp only[push_cast,seval,-Nat.reducePow,j3,j8,j9,jL,h1,hcl,hgx,g0];refine⟨h,h,aAa hll (by rfl) (by rfl) ?_⟩;by_cases il:((i:Nat):Int)<((p.length:Nat):Int)-1
    .have hRi:R.getD i []=rtr (ltr x):=by rw[hRi,if_pos (by omega)]
     simp only[push_cast,seval,-Nat.reducePow,j3,j8,j9,jL,h1,hcl,hgx,g0,il,hrc,hcl2,hg2];refine⟨h,h,⟨by omega,by omega⟩,h,h,aAa (L.rt _ hltr) (by rfl) (by rfl) ?_⟩;simp only[push_cast,seval,-Nat.reducePow,j3,j8,j9,jL,h1,hcl2,hg2,hrc,hs2,hset (rtr (ltr x)) hRi.symm];exact⟨h,h,⟨by omega,by omega⟩,p.length-(i+1),by omega,i+1,by omega,rfl,by simp,rfl⟩
    .have hRi:R.getD i []=ltr x:=by rw[hRi,if_neg (by omega)];rfl
     simp only[push_cast,seval,-Nat.reducePow,j3,j8,j9,jL,h1,hcl,hgx,g0,il,hrc,hset (ltr x) hRi.symm];exact⟨h,h,⟨by omega,by omega⟩,⟨by omega,by omega⟩,p.length-(i+1),by omega,i+1,by omega,rfl,by simp,rfl⟩
  .have h1:¬((i:Nat):Int)<((p.length:Nat):Int):=by omega
   obtain rfl:i=p.length:=by omega
   have hf:R.take p.length++p.drop p.length=R:=by rw[<-hRl,zu,zZ (by omega),List.append_nil]
   rw[hf]at jL;simp only[push_cast,seval,-Nat.reducePow,j3,j8,j9,jL,h1];have e:p.length=(R.map V.str).length:=by simp[hRl]
   rw[e,aHk jL (aAp R),aAb 3 (.str _) rfl];have hRn:R≠[]:=λe=>hpn (by rw[e]at hRl;simpa using hRl.symm);have hj:=L.jn R hRn (by omega) (by rw[hR,aKm p true hpn];have:=aXp p true hpi;have:p.length*(s.length+1)<=8193*8193:=Nat.mul_le_mul (by omega) (by omega);omega);refine aCa hj (by simp only[V.imms,V.imm,aAp,zn]) rfl ?_;rw[hR,aKm p true hpn];exact aAb 3 (.str _) rfl
structure TitK(P:Program)(F T:Nat->Nat):Prop where
 f415:bMx P F T
 f424:bJr P F T
 f385:bKi P F T
 f97:Is97 P F T
 f98:Is98 P F T
 f185:bFk P F T
 f187:aYs P F T
 f188:bBr P F T
 f189:aU7 P F T
 f190:aUo P F T
 tc:TitC P F
 tl:TitL P F
 sps:∃ty,SpsP P F ty
theorem bIo(s:List UInt8):(upF s).length=s.length:=by
 cases s with
 | nil=>rfl
 | cons c r=>rw[upF];split<;>rfl
theorem aZr:∀(s:List UInt8) (p:UInt8),(slR p s).length<=s.length
 | [],p=>by simp[slR]
 | c::r,p=>by rw[slR];have:=aZr r c;split<;>simp<;>omega
set_option maxHeartbeats 1000000 in
theorem t415(C:TitK P F T)(s:List UInt8)(hs:s.length<=8192):PTr P (F 415) [.str s] (.tup [ttV (titF s).2.1 (titF s).2.2,.int .i64 (titF s).1]):=by
 refine ptrC [] C.f415 (by simp) rfl ?_;obtain⟨ty,hS⟩:=C.sps;unfold titF;have lq:=aZ5 s;have hnd:=aXf s;obtain⟨q,hq⟩:∃q,q=sglF s:=⟨_,rfl⟩;simp only[c415,push_cast,seval,-Nat.reducePow];refine aAa (C.tl.rep s hs) (by rfl) (by rfl) ?_;refine aAa (t424 C.f424 C.tc.tsuf (s.map undB) (by simpa using hs)) (by rfl) (by rfl) ?_;rw[show unbl (blF [] (s.map undB))=q from hq.symm];rw[<-hq]at lq hnd ⊢;simp only[push_cast,seval,-Nat.reducePow];refine aAx (λs1=>s1.env 0=.str (aEg q)∧s1.env 2=.ptr 2 0∧s1.L 2=some (.box (T 17) [.int .i64 0,.str []])∧2<s1.nx) ?_ ?_
 .simp only[push_cast,seval,-Nat.reducePow];refine aAa (t97 C.f97 C.f98 q [58]) (by rfl) (by rfl) ?_;cases q with
  | nil=>have e:([58]:List UInt8).isPrefixOf []=false:=rfl;simp only[push_cast,seval,-Nat.reducePow,e];rfl
  | cons c r =>
    by_cases hc:c=58
    .subst hc;have e:([58]:List UInt8).isPrefixOf (58::r)=true:=by simp[yI]
     simp only[push_cast,seval,-Nat.reducePow,e,zg];refine aAa (C.tl.tpre _ (by simp at lq ⊢;omega)) (by rfl) (by rfl) ?_;simp only[push_cast,seval,-Nat.reducePow];rw[zu,aEg,if_pos rfl]
    .have e:([58]:List UInt8).isPrefixOf (c::r)=false:=by simp[yI];exact λh=>hc h.symm
     simp only[push_cast,seval,-Nat.reducePow,e];rw[aEg,if_neg hc]
 have lc:=aP9 q;have hnc:=bAb hnd;obtain⟨w,hw⟩:∃w,w=aEg q:=⟨_,rfl⟩;rw[<-hw]at lc hnc ⊢;rintro s1 ⟨j0,j2,e2,jn⟩;simp only[push_cast,seval,-Nat.reducePow,j0,j2,e2];obtain⟨b,k,i,hpw,hk0,hk1⟩:∃(b:Bool) (k:Nat) (x:List UInt8),aOx w=.tup [.int .i64 k,.str x,.bool b]∧(b=false->aF1 w=(0,w))∧(b=true->aF1 w=(k,cutB x)∧x.length<=w.length):=by
  unfold aOx aF1 aGl;cases h:colF w with
  | none=>exact⟨false,0,[],rfl,λ_=>rfl,λh=>nomatch h⟩
  | some i =>
    by_cases h0:nsF (unbl (w.take i)) 5 1=0
    .exact⟨false,0,[],by simp[h0],λ_=>by simp[h0],λh=>nomatch h⟩
    .exact⟨true,nsF (unbl (w.take i)) 5 1,w.drop (i+1),by simp[h0],(λh=>nomatch h),λ_=>⟨by simp[h0],by simp⟩⟩
 have h188:=t188 C.f188 C.tc C.f189 C.f190 w (by omega);rw[hpw]at h188;have ln:=aTg w;have hnn:=aUv hnc;refine aAx (λs1=>∃k,s1.env 0=.str (aF1 w).2∧s1.env 4=.ptr k 0∧s1.L k=some (.box (T 17) [.int .i64 (aF1 w).1,.str []])∧2<k∧k<s1.nx∧s1.env 2=.ptr 2 0∧s1.L 2=some (.box (T 17) [.int .i64 0,.str []])) ?_ ?_
 .simp only[push_cast,seval,-Nat.reducePow,j0,j2,e2];refine aAa h188 (by rfl) (by rfl) ?_;cases b with
  | false=>simp only[push_cast,seval,-Nat.reducePow,j0,j2,e2];exact⟨s1.nx+4,by rw[hk0 rfl],rfl,by rw[aAe,hk0 rfl];rfl,by omega,by omega⟩
  | true=>obtain⟨hn,hx⟩:=hk1 rfl;simp only[push_cast,seval,-Nat.reducePow,j0,j2,e2];refine aAa (C.tl.tpre _ (by omega)) (by rfl) (by rfl) ?_;simp only[push_cast,seval,-Nat.reducePow,j0,j2,e2];exact⟨s1.nx+4,by rw[hn],rfl,by rw[aAe,hn],by omega,by omega⟩
 clear hpw hk0 hk1 h188;obtain⟨nm,hnm⟩:∃nm,nm=aF1 w:=⟨_,rfl⟩;rw[<-hnm]at ln hnn ⊢;clear j0 j2 e2 jn;rintro s2 ⟨k,j0,j4,ek,hk2,hkn,j2,e2⟩;have hk2':¬k=2:=by omega
 have hk2'':¬2=k:=by omega
 have hsl:=bS4 C.f385 C.tl hS nm.2 (by omega);rw[bH9 nm.2.length nm.2 true (zz _) hnn,if_pos rfl]at hsl;simp only[push_cast,seval,-Nat.reducePow,j0,j4,j2,e2,ek];refine aAa hsl (by rfl) (by rfl) ?_;have lr:=aZr nm.2 0;obtain⟨n,hn⟩:∃n,n=slR 0 nm.2:=⟨_,rfl⟩;rw[<-hn]at lr ⊢;simp only[push_cast,seval,-Nat.reducePow,j0,j4,j2,e2,ek];refine aAx (λs1=>s1.env 0=.str (upF n)∧s1.env 4=.ptr k 0∧s1.L k=some (.box (T 17) [.int .i64 nm.1,.str []])∧k<s1.nx∧s1.env 2=.ptr 2 0∧s1.L 2=some (.box (T 17) [.int .i64 0,.str []])) ?_ ?_
 .cases n with
  | nil=>simp only[push_cast,seval,-Nat.reducePow,j4,j2,e2,ek];exact⟨rfl,by omega⟩
  | cons c r =>
    have hne:¬(c::r:List UInt8)=[]:=by simp
    by_cases h1:(97:Int)<=((c.toNat:Nat):Int)
    .by_cases h2:((c.toNat:Nat):Int)<=122
     .simp only[push_cast,seval,-Nat.reducePow,j4,j2,e2,ek,hne,zg,zk,h1,h2];refine⟨by omega,by omega,by omega,⟨by omega,by omega⟩,[UInt8.ofNat (c.toNat-32)],?_,by simp at lr ⊢;omega,?_,by omega⟩
      .simp only[aAs,List.map];rw[show(UInt8.ofNat (c.toNat-32)).toNat=c.toNat-32 by simp;omega,show(((c.toNat-32:Nat):Nat):Int)=(c.toNat:Int)-32 by omega]
      .rw[upF,if_pos (by omega),zu];rfl
     .simp only[push_cast,seval,-Nat.reducePow,j4,j2,e2,ek,hne,zg,zk,h1,h2];exact⟨by omega,by omega,by rw[upF,if_neg (by omega)],by omega⟩
    .simp only[push_cast,seval,-Nat.reducePow,j4,j2,e2,ek,hne,zg,zk,h1];exact⟨by omega,by rw[upF,if_neg (by omega)],by omega⟩
 have lu:=bIo n;obtain⟨u,hu⟩:∃u,u=upF n:=⟨_,rfl⟩;rw[<-hu]at lu ⊢;clear j0 j4 ek j2 e2;rintro s4 ⟨j0,j4,ek,hkn,j2,e2⟩;by_cases hl:100<u.length
 .have hl':(100:Int)<((u.length:Nat):Int):=by omega
  simp only[push_cast,seval,-Nat.reducePow,j0,j4,j2,e2,ek,hk2',hk2'',hl,hl'];exact aAb 3 _ rfl
 .have hl':¬(100:Int)<((u.length:Nat):Int):=by omega
  have hv:=t185 C.f185 C.tc C.f187 C.f188 C.f189 C.f190 nm.1 u (by omega);rw[ttV]at hv;simp only[push_cast,seval,-Nat.reducePow,j0,j4,j2,e2,ek,hk2',hk2'',hl,hl'];refine aAa hv (by rfl) (by rfl) ?_;cases hva:aBb nm.1 u with
  | true=>simp only[push_cast,seval,-Nat.reducePow,j0,j4,j2,e2,ek,hk2',hk2''];exact aAb 3 _ rfl
  | false=>simp only[push_cast,seval,-Nat.reducePow,j0,j4,j2,e2,ek,hk2',hk2''];exact aAb 3 _ rfl
theorem aTl{s:List UInt8}(h:(polF s).2.2≠0):(polF s).1=⟨[],[],[]⟩:=by
 unfold polF at h ⊢;split
 .rfl
 .rename_i h1;rw[if_neg h1]at h;split
  .rfl
  .rename_i h2;rw[if_neg h2]at h;split
   .rfl
   .rename_i h3;rw[if_neg h3]at h;exact absurd rfl h
def polS(s:Stt):Pol:=match aA7 s polT with
 | none=>⟨[],[],[]⟩
 | some p=>(polF (curS p).text).1
theorem bSq(hf:bLi P F T)(s:Stt)(h346:PTr P (F 346) [s.v,tV polT] (aE8 (aA7 s polT)))(h360:∀p,aA7 s polT=some p->PTr P (F 360) [p.v] (curS p).v)(h361:∀w:List UInt8,PTr P (F 361) [.str w] (.tup [(polF w).1.v,.int .i64 (polF w).2.1,.int .i64 (polF w).2.2])):PTr P (F 359) [s.v] (polS s).v:=by
 have mG:∀p:Pol,((ln 2 (grV p.g)).one&&((ln 6 (ruV p.r)).one&&(ln 5 (gdV p.d)).one))=true:=λp=>by rw[aBl,aBl,aBl];rfl
 have iG:∀p:Pol,V.imm (.agg [ln 2 (grV p.g),ln 6 (ruV p.r),ln 5 (gdV p.d)])=true:=λp=>p.v_imm;refine ptrC [] hf (by simp) (Pol.v_imm _) ?_;unfold polS;simp only[c359,push_cast,seval,-Nat.reducePow,Stt.v,Stt.cs,stoV,pplV,watV,lasV];simp only[Stt.v,Stt.cs,stoV,pplV,watV,lasV,polT,tV,tCs]at h346;cases h:aA7 s polT with
 | none=>rw[show aA7 s (5,[80,111,108,105,99,121])=none from h]at h346;refine aAa h346 (by simp only[push_cast,seval,-Nat.reducePow,V.imm,V.imms,aAh,aAo,aAv,aAw]) (by rfl) ?_;simp only[push_cast,seval,-Nat.reducePow,aE8];exact aAb 3 _ rfl
 | some p =>
   have h1v:(revV p.hist).one=true:=rfl;rw[show aA7 s (5,[80,111,108,105,99,121])=some p from h]at h346;have hc:=h360 p h;have hp:=h361 (curS p).text;refine aAa h346 (by simp only[push_cast,seval,-Nat.reducePow,V.imm,V.imms,aAh,aAo,aAv,aAw]) (by simp[aE8,V.imm,V.imms,aF4]) ?_;simp only[push_cast,seval,-Nat.reducePow,aE8,Sto.v,h1v];simp only[Rev.v,Sto.v]at hc;refine aAa hc (by simp only[V.imm,V.imms,aBd,zn]) (by rfl) ?_;simp only[push_cast,seval,-Nat.reducePow];refine aAa hp (by rfl) (by simp only[V.imm,V.imms,Pol.v_imm,zn]) ?_;simp only[push_cast,seval,-Nat.reducePow,Pol.v,mG];by_cases he:(polF (curS p).text).2.2=0
   .have he':(((polF (curS p).text).2.2:Nat):Int)=0:=by omega
    simp only[push_cast,seval,-Nat.reducePow,he',mG];exact aAb 3 _ (iG _)
   .have he':¬(((polF (curS p).text).2.2:Nat):Int)=0:=by omega
    simp only[push_cast,seval,-Nat.reducePow,he',mG];rw[aTl he];exact aAb 3 _ rfl
theorem bUc(hf:bLa P F T)(h350:bD1 P F T)(h351f:bDh P F T)(h299:aR7 P F T)(h300:aH8 P F T)(h301:aQy P F T)(s:Stt)(hl:s.pages.length<=2^30)(hh:∀p,aA7 s polT=some p->p.hist.length<=2^30)(h316:∀p,aA7 s polT=some p->PTr P (F 316) [.str (curS p).text] (.tup [(polF (curS p).text).1.v,.int .i64 (polF (curS p).text).2.1,.int .i64 (polF (curS p).text).2.2])):PTr P (F 334) [s.v] (polS s).v:=by
 have mG:∀p:Pol,((ln 2 (grV p.g)).one&&((ln 6 (ruV p.r)).one&&(ln 5 (gdV p.d)).one))=true:=λp=>by rw[aBl,aBl,aBl];rfl
 have iG:∀p:Pol,V.imm (.agg [ln 2 (grV p.g),ln 6 (ruV p.r),ln 5 (gdV p.d)])=true:=λp=>p.v_imm;have h351:PTr P (F 351) [s.v,tV polT] (.tup [.str (match aA7 s polT with|some p=>(curS p).text|none=>[]),.bool (aA7 s polT).isSome]):=by
  cases h:aA7 s polT with
  | some p=>exact t351 h351f h299 h300 h301 s polT p h hl (hh p h)
  | none=>have h1:=t299 h299 h300 s polT hl;rw[h]at h1;have h2:=(t301 h301 ⟨zTtl,[]⟩ (by simp)).le (args:=[.agg [.int .i64 0,.str [],.nils]]) (by simp only[Sto.v,revV,zTtl,yb,aBt,aC3,aMj,aJv,V.le_refl,and_self]);refine ptrC [] h351f (by simp) rfl ?_;simp only[c351,push_cast,seval,-Nat.reducePow,Stt.v,Stt.cs,stoV,pplV,watV,lasV,tV,tCs];refine aAa h1 (by simp only[push_cast,seval,-Nat.reducePow,V.imm,V.imms,aAh,aAo,aAv,aAw]) (by rfl) ?_;simp only[push_cast,seval,-Nat.reducePow,aE8];have e:curS ⟨zTtl,[]⟩=zRev:=rfl;rw[e]at h2;simp only[Rev.v,zRev]at h2;refine aAa h2 (by rfl) (by rfl) ?_;simp only[push_cast,seval,-Nat.reducePow];rfl
 refine ptrC [] hf (by simp) (Pol.v_imm _) ?_;unfold polS;simp only[c334,push_cast,seval,-Nat.reducePow,Stt.v,Stt.cs,stoV,pplV,watV,lasV];refine aAa (t350 h350) (by rfl) (by rfl) ?_;simp only[push_cast,seval,-Nat.reducePow,tV,tCs];simp only[Stt.v,Stt.cs,stoV,pplV,watV,lasV,tV,tCs]at h351;refine aAa h351 (by simp only[push_cast,seval,-Nat.reducePow,V.imm,V.imms,aAh,aAo,aAv,aAw]) (by rfl) ?_;cases h:aA7 s polT with
 | none=>simp only[push_cast,seval,-Nat.reducePow,wV];exact aAb 3 _ rfl
 | some p =>
   simp only[push_cast,seval,-Nat.reducePow,wV];refine aAa (h316 p h) (by rfl) (by simp only[V.imm,V.imms,Pol.v_imm,zn]) ?_;simp only[push_cast,seval,-Nat.reducePow,Pol.v,mG];by_cases he:(polF (curS p).text).2.2=0
   .have he':(((polF (curS p).text).2.2:Nat):Int)=0:=by omega
    simp only[push_cast,seval,-Nat.reducePow,he',mG];exact aAb 3 _ (iG _)
   .have he':¬(((polF (curS p).text).2.2:Nat):Int)=0:=by omega
    simp only[push_cast,seval,-Nat.reducePow,he',mG];rw[aTl he];exact aAb 3 _ rfl
theorem aXd:∀(l:List (List UInt8)) (k i:Nat) (p:Pol),PolT k p->(∀x,x∈l->x.length<=8192)->PolT (k+l.length) (aEb l i p).1
 | [],k,i,p,h,_=>h
 | x::r,k,i,p,h,hl=>by
   rw[aEb];cases hq:aLk p x with
   | none=>exact⟨by simp,by simp,by simp,by simp,by simp,by simp⟩
   | some q=>have:=aXd r (k+1) (i+1) q (bB5 h (hl x (by simp)) hq) λy hy=>hl y (by simp[hy]);rw[zg];rw[show k+(r.length+1)=k+1+r.length by omega];exact this
theorem bOw(w:List UInt8):PolT 8193 (polF w).1:=by
 have h0:PolT 8193 ⟨[],[],[]⟩:=⟨by simp,by simp,by simp,by simp,by simp,by simp⟩;unfold polF;split
 .exact h0
 .rename_i h;split
  .exact h0
  .split
   .exact h0
   .obtain⟨l1,l2⟩:=aKt w;have:=aXd (lnF w) 0 0 ⟨[],[],[]⟩ ⟨by simp,by simp,by simp,by simp,by simp,by simp⟩ λx hx=>by have:=l1 x hx;omega
    exact this.up (by omega)
theorem bNd(s:Stt):PolT 8193 (polS s):=by
 unfold polS;split
 .exact⟨by simp,by simp,by simp,by simp,by simp,by simp⟩
 .exact bOw _
def SmS(s:Stt):Prop:=s.pages.length<=2^30∧∀p,aA7 s polT=some p->p.hist.length<=2^30∧(curS p).text.length<=8000
structure PlC(P:Program)(F T:Nat->Nat):Prop where
 f299:aR7 P F T
 f300:aH8 P F T
 f301:aQy P F T
 f334:bLa P F T
 f346:bE8 P F T
 f350:bD1 P F T
 f351:bDh P F T
 f357:bFl P F T
 f359:bLi P F T
 f360:bI2 P F T
 f371:bDf P F T
 c0:PTr P (F 357) [revV []] (revV [])
 h361:∀w:List UInt8,PTr P (F 361) [.str w] (.tup [(polF w).1.v,.int .i64 (polF w).2.1,.int .i64 (polF w).2.2])
 h316:∀w:List UInt8,w.length<=8000->PTr P (F 316) [.str w] (.tup [(polF w).1.v,.int .i64 (polF w).2.1,.int .i64 (polF w).2.2])
theorem PlC.cl(C:PlC P F T)(h:List Rev)(hl:h.length<=2^30):PTr P (F 357) [revV h] (revV h):=by
 cases h with
 | nil=>exact C.c0
 | cons x r=>exact t357 C.f357 (x::r) (by simp) hl
theorem PlC.page(C:PlC P F T)(s:Stt)(t:Ttl)(hl:s.pages.length<=2^30)(hh:∀p,aA7 s t=some p->p.hist.length<=2^30):PTr P (F 346) [s.v,tV t] (aE8 (aA7 s t)):=by
 cases h:aA7 s t with
 | none=>refine bQw C.f346 s t ?_ hl;unfold aA7 at h;exact aDv (Option.map_eq_none_iff.1 h)
 | some p=>exact t346 C.f346 C.f371 s t p h (C.cl _ (hh p h)) hl
theorem PlC.pol(C:PlC P F T)(s:Stt)(h:SmS s):PTr P (F 359) [s.v] (polS s).v∧PTr P (F 334) [s.v] (polS s).v:=
 ⟨bSq C.f359 s (C.page s polT h.1 λp hp=>(h.2 p hp).1) (λp hp=>t360 C.f360 p (h.2 p hp).1) C.h361,
  bUc C.f334 C.f350 C.f351 C.f299 C.f300 C.f301 s h.1 (λp hp=>(h.2 p hp).1) λp hp=>C.h316 _ (h.2 p hp).2⟩
end Go.Ab
namespace Go.Ab
def c380(F T:Nat->Nat):C:=.n [.box 1 (T 34) (.t 0),.mov (some 2) (.k (.bool false))]<|.seq (.ops false [⟨none,[.f 3 2 1,.l 4 3,.c 5 (F 428) [.t 4],.m 6 5]⟩,⟨some (6,true),[.f 7 3 1,.l 8 7,.c 9 (F 428) [.t 8]]⟩,⟨none,[.pf 10 6 9,.m 11 10]⟩,⟨some (11,true),[.f 12 4 1,.l 13 12,.ll 14 13,.bi 15 .leq 14 10]⟩,⟨none,[.pf 16 11 15,.m 17 16]⟩,⟨some (17,true),[.f 18 6 1,.l 19 18,.ll 20 19,.bi 21 .leq 20 20]⟩,⟨none,[.pf 22 17 21,.m 23 22]⟩,⟨some (23,true),[.f 24 7 1,.l 25 24,.ll 26 25,.bi 27 .leq 26 20]⟩,⟨none,[.pf 28 23 27,.m 2 28]⟩])<|.ret
abbrev bG8(P:Program)(F T:Nat->Nat):Prop:=Fn P (F 380) 29 [(2,none)] (c380 F T)
def c428(F T:Nat->Nat):C:=.n [.mov (some 2) (.k (.bool false))]<|.seq (.n [.m 5 0,.ll 6 5,.bi 7 .gtr 6 10]<|.cond (.t 7) (.n [.mov (some 2) (.k (.bool false))]<|.ret) (.skip))<|.seq (.n [.mov (some 3) (.i 0)]<|.block 0<|.loop<|.seq (.n [.m 8 3,.m 9 0,.ll 10 9,.b 11 .lss 8 10]<|.cond (.t 11) (.skip) (.exit 0))<|.seq (.block 1<|.seq (.seq (.ops false [⟨none,[.m 14 0,.m 15 3,.ia 16 3 14 15,.f 17 2 16,.l 18 17,.ll 19 18,.bi 20 .gtr 19 6,.m 21 20]⟩,⟨some (21,false),[.m 22 0,.m 23 3,.ia 24 3 22 23,.f 25 0 24,.f 26 1 25,.l 27 26,.ls 28 27,.bi 29 .gtr 28 200]⟩,⟨none,[.pt 30 21 29]⟩])<|.cond (.t 30) (.n [.mov (some 2) (.k (.bool false))]<|.ret) (.skip))<|.n [.mov (some 4) (.i 0)]<|.block 2<|.loop<|.seq (.n [.m 31 4,.m 32 0,.m 33 3,.ia 34 3 32 33,.f 35 2 34,.l 36 35,.ll 37 36,.b 38 .lss 31 37]<|.cond (.t 38) (.skip) (.exit 2))<|.seq (.block 3<|.n [.m 41 0,.m 42 3,.ia 43 3 41 42,.f 44 2 43,.l 45 44,.m 46 4,.ia 47 6 45 46,.f 48 3 47,.l 49 48,.ls 50 49,.bi 51 .gtr 50 300]<|.cond (.t 51) (.n [.mov (some 2) (.k (.bool false))]<|.ret) (.skip))<|.o [.m 39 4,.bi 40 .add 39 1,.m 4 40])<|.o [.m 12 3,.bi 13 .add 12 1,.m 3 13])<|.n [.mov (some 2) (.k (.bool true))]<|.ret
abbrev bC7(P:Program)(F T:Nat->Nat):Prop:=Fn P (F 428) 52 [(2,none)] (c428 F T)
def c419(F T:Nat->Nat):C:=.n [.mov (some 4) (.s []),.mov (some 5) (.k (.bool false))]<|.n [.m 6 0,.m 7 1,.c 8 (F 432) [.t 6,.t 7],.x 9 0 8,.x 10 1 8,.m 4 9,.m 5 10]<|.ret
abbrev bKv(P:Program)(F T:Nat->Nat):Prop:=Fn P (F 419) 11 [(4,none),(5,none)] (c419 F T)
def c425(F T:Nat->Nat):C:=.n [.mov (some 4) (.s [])]<|.n [.m 5 0,.m 6 1,.c 7 (F 433) [.t 5,.t 6],.m 4 7]<|.ret
abbrev bMz(P:Program)(F T:Nat->Nat):Prop:=Fn P (F 425) 8 [(4,none)] (c425 F T)
def c432(F T:Nat->Nat):C:=.n [.mov (some 4) (.s []),.mov (some 5) (.k (.bool false))]<|.seq (.n [.m 6 0,.m 7 1,.c 8 (F 98) [.t 6,.t 7],.un (some 9) .not (.t 8)]<|.cond (.t 9) (.n [.m 10 0,.m 4 10,.mov (some 5) (.k (.bool false))]<|.ret) (.skip))<|.n [.m 11 0,.m 12 1,.ls 13 12,.slcS (some 14) (.t 11) (some (.t 13)) none,.m 4 14,.mov (some 5) (.k (.bool true))]<|.ret
abbrev bFc(P:Program)(F T:Nat->Nat):Prop:=Fn P (F 432) 15 [(4,none),(5,none)] (c432 F T)
def c433(F T:Nat->Nat):C:=.n [.mov (some 4) (.s [])]<|.seq (.n [.m 5 0,.m 6 1,.c 7 (F 98) [.t 5,.t 6]]<|.cond (.t 7) (.n [.m 8 0,.m 9 1,.ls 10 9,.slcS (some 11) (.t 8) (some (.t 10)) none,.m 4 11]<|.ret) (.skip))<|.n [.m 12 0,.m 4 12]<|.ret
abbrev bQb(P:Program)(F T:Nat->Nat):Prop:=Fn P (F 433) 13 [(4,none)] (c433 F T)
open Go.Lib
variable {P:Program} {F T:Nat->Nat}
def smR(r:Rev):Bool:=decide (r.text.length<=300)
def smP(p:Sto):Bool:=decide (p.hist.length<=6)&&decide (p.t.2.length<=200)&&p.hist.all smR
def smB(l:List Sto):Bool:=decide (l.length<=10)&&l.all smP
theorem t428(hf:bC7 P F T)(l:List Sto):PTr P (F 428) [.lst 3 (l.map Sto.v)] (.bool (smB l)):=by
 have hlm:(l.map Sto.v).length=l.length:=zb ..;refine ptrC [] hf (by simp) rfl ?_;unfold smB;by_cases h10:10<l.length
 .have h10':(10:Int)<((l.length:Nat):Int):=by omega
  have e:decide (l.length<=10)=false:=decide_eq_false (by omega);simp only[c428,push_cast,seval,-Nat.reducePow,hlm,h10',e,zi];exact aAb 3 _ rfl
 have h10':¬(10:Int)<((l.length:Nat):Int):=by omega
 have e:decide (l.length<=10)=true:=decide_eq_true (by omega);simp only[c428,push_cast,seval,-Nat.reducePow,hlm,h10',e,zy];refine aAd (λm s1=>∃a q,l=a++q∧m=q.length∧a.all smP=true∧s1.env 0=.lst 3 (l.map Sto.v)∧s1.env 3=.int .i64 ((a.length:Nat):Int)) l.length ?_ λm s1 hJ=>?_
 .simp only[push_cast,seval,-Nat.reducePow];exact⟨[],l,rfl,rfl,rfl,rfl⟩
 .obtain⟨a,q,hb,rfl,hall,j0,j3⟩:=hJ;have hb2:l.length=a.length+q.length:=by rw[hb];simp
  cases q with
  | nil =>
    have h1:¬((a.length:Nat):Int)<((l.length:Nat):Int):=by simp at hb2;omega
    have hz:l.all smP=true:=by rw[hb];simpa using hall
    simp only[push_cast,seval,-Nat.reducePow,j0,j3,h1,hlm,hz];exact aAb 3 _ rfl
  | cons p q =>
    rw[zg]at hb2;have h1:((a.length:Nat):Int)<((l.length:Nat):Int):=by omega
    have hg:(l.map Sto.v).getD a.length .junk=.agg [.int .i64 p.t.1,.str p.t.2,revV p.hist]:=by rw[hb];simp[ze,Sto.v]
    have hlr:(p.hist.map Rev.v).length=p.hist.length:=zb ..;have bad:smP p=false->l.all smP=false:=λh=>by rw[hb,xz,yF,h];simp
    have hal:a.length<l.length:=by omega
    by_cases c1:6<p.hist.length
    .have c1':(6:Int)<((p.hist.length:Nat):Int):=by omega
     have hz:=bad (by unfold smP;rw[decide_eq_false (by omega)];rfl);simp only[push_cast,seval,-Nat.reducePow,j0,j3,h1,hlm,hg,revV,hlr,c1',hz];exact⟨by omega,aAb 3 _ rfl⟩
    have c1':¬(6:Int)<((p.hist.length:Nat):Int):=by omega
    by_cases c2:200<p.t.2.length
    .have c2':(200:Int)<((p.t.2.length:Nat):Int):=by omega
     have hz:=bad (by unfold smP;rw[decide_eq_false (p:=p.t.2.length<=200) (by omega),Bool.and_false];rfl);simp only[push_cast,seval,-Nat.reducePow,j0,j3,h1,hlm,hg,revV,hlr,c1',c2',hz];exact⟨by omega,by omega,aAb 3 _ rfl⟩
    have c2':¬(200:Int)<((p.t.2.length:Nat):Int):=by omega
    have hsp:smP p=p.hist.all smR:=by unfold smP;rw[decide_eq_true (by omega),decide_eq_true (by omega)];simp
    simp only[push_cast,seval,-Nat.reducePow,j0,j3,h1,hlm,hg,revV,hlr,c1',c2'];refine⟨by omega,by omega,?_⟩;refine aAd (λm s1=>∃b r,p.hist=b++r∧m=r.length∧b.all smR=true∧s1.env 0=.lst 3 (l.map Sto.v)∧s1.env 3=.int .i64 ((a.length:Nat):Int)∧s1.env 4=.int .i64 ((b.length:Nat):Int)) p.hist.length ?_ λm s1 hJ=>?_
    .simp only[push_cast,seval,-Nat.reducePow,j0,j3];exact⟨[],p.hist,rfl,rfl,rfl,rfl⟩
    .obtain⟨b,r,hb3,rfl,hall2,j0,j3,j4⟩:=hJ;have hb4:p.hist.length=b.length+r.length:=by rw[hb3];simp
     cases r with
     | nil =>
       have h2:¬((b.length:Nat):Int)<((p.hist.length:Nat):Int):=by simp at hb4;omega
       have hz:smP p=true:=by rw[hsp,hb3];simpa using hall2
       simp only[push_cast,seval,-Nat.reducePow,j0,j3,j4,h1,h2,hlm,hg,revV,hlr];exact⟨by omega,⟨by omega,by omega⟩,q.length,by omega,a++[p],q,by rw[hb];simp,rfl,by rw[xz,hall];simp[hz],by simp⟩
     | cons x r =>
       rw[zg]at hb4;have h2:((b.length:Nat):Int)<((p.hist.length:Nat):Int):=by omega
       have hg2:(p.hist.map Rev.v).getD b.length .junk=x.v:=by rw[hb3];simp[ze]
       by_cases c3:300<x.text.length
       .have c3':(300:Int)<((x.text.length:Nat):Int):=by omega
        have hz:=bad (by rw[hsp,hb3,xz,yF,show smR x=false from decide_eq_false (by omega)];simp);simp only[push_cast,seval,-Nat.reducePow,j0,j3,j4,h1,h2,hlm,hg,revV,hlr,hg2,Rev.v,c3',hz];exact⟨by omega,by omega,by omega,aAb 3 _ rfl⟩
       .have c3':¬(300:Int)<((x.text.length:Nat):Int):=by omega
        simp only[push_cast,seval,-Nat.reducePow,j0,j3,j4,h1,h2,hlm,hg,revV,hlr,hg2,Rev.v,c3'];exact⟨by omega,by omega,by omega,⟨by omega,by omega⟩,r.length,by omega,b++[x],r,by rw[hb3];simp,rfl,by rw[xz,hall2];simp[smR];omega,by simp⟩
def smS(s:Stt):Bool:=smB s.pages&&(smB s.gone&&(decide (s.props.length<=10)&&(decide (s.watches.length<=20)&&decide (s.lasts.length<=20))))
theorem t380(hf:bG8 P F T)(h428:bC7 P F T)(s:Stt):PTr P (F 380) [s.v] (.bool (smS s)):=by
 have n1:(s.props.map Ppl.v).length=s.props.length:=zb ..;have n2:(s.watches.map Wat.v).length=s.watches.length:=zb ..;have n3:(s.lasts.map Las.v).length=s.lasts.length:=zb ..;refine ptrC [] hf (by simp) rfl ?_;unfold smS;simp only[c380,push_cast,seval,-Nat.reducePow,Stt.v,Stt.cs,stoV,pplV,watV,lasV];refine aAa (t428 h428 s.pages) (by simp only[V.imms,V.imm,aAh,zn]) (by rfl) ?_;cases h1:smB s.pages with
 | false=>simp only[push_cast,seval,-Nat.reducePow,zi];exact aAb 3 _ rfl
 | true =>
   simp only[push_cast,seval,-Nat.reducePow];refine aAa (t428 h428 s.gone) (by simp only[V.imms,V.imm,aAh,zn]) (by rfl) ?_;cases h2:smB s.gone with
   | false=>simp only[push_cast,seval,-Nat.reducePow,zi,zy];exact aAb 3 _ rfl
   | true =>
     by_cases c1:s.props.length<=10
     .have c1':((s.props.length:Nat):Int)<=10:=by omega
      by_cases c2:s.watches.length<=20
      .have c2':((s.watches.length:Nat):Int)<=20:=by omega
       by_cases c3:s.lasts.length<=20
       .have c3':((s.lasts.length:Nat):Int)<=20:=by omega
        simp only[push_cast,seval,-Nat.reducePow,n1,n2,n3,c1,c1',c2,c2',c3,c3'];exact aAb 3 _ rfl
       .have c3':¬((s.lasts.length:Nat):Int)<=20:=by omega
        simp only[push_cast,seval,-Nat.reducePow,n1,n2,n3,c1,c1',c2,c2',c3,c3'];exact aAb 3 _ rfl
      .have c2':¬((s.watches.length:Nat):Int)<=20:=by omega
       simp only[push_cast,seval,-Nat.reducePow,n1,n2,n3,c1,c1',c2,c2'];exact aAb 3 _ rfl
     .have c1':¬((s.props.length:Nat):Int)<=10:=by omega
      simp only[push_cast,seval,-Nat.reducePow,n1,n2,n3,c1,c1'];exact aAb 3 _ rfl
theorem bUl{s:Stt}(h:smS s=true):SmS s:=by
 unfold smS smB at h;simp only[zc,decide_eq_true_eq,zx]at h;obtain⟨⟨h1,h2⟩,_⟩:=h;refine⟨by omega,λp hp=>?_⟩;have hm:p∈s.pages:=by unfold aA7 at hp;obtain⟨i,hi,rfl⟩:=zm.1 hp;exact aF5 hi
 have h3:=h2 p hm;unfold smP at h3;simp only[zc,decide_eq_true_eq,zx]at h3;refine⟨by omega,?_⟩;unfold curS;cases hl:p.hist.getLast? with
 | none=>simp[zRev]
 | some r=>have:=h3.2 r (List.mem_of_getLast? hl);simp only[smR,decide_eq_true_eq]at this;simp only[xx];omega
theorem t432(hf:bFc P F T)(h98:Is98 P F T)(s:List UInt8)(c:UInt8):PTr P (F 432) [.str s,.str [c]] (.tup [.str (if s.head?=some c then s.drop 1 else s),.bool (decide (s.head?=some c))]):=by
 refine ptrC [] hf (by simp) rfl ?_;simp only[c432,push_cast,seval,-Nat.reducePow];refine aAa (t98 h98 s [c]) (by rfl) (by rfl) ?_;cases s with
 | nil=>have e:([c]:List UInt8).isPrefixOf []=false:=rfl;simp only[push_cast,seval,-Nat.reducePow,e];exact aAb 3 _ rfl
 | cons x r =>
   by_cases hx:x=c
   .subst hx;have e:([x]:List UInt8).isPrefixOf (x::r)=true:=by simp[yI]
    simp only[push_cast,seval,-Nat.reducePow,e,zg,xP];rw[zu];exact aAb 3 _ rfl
   .have e:([c]:List UInt8).isPrefixOf (x::r)=false:=by simp[yI];exact λh=>hx h.symm
    have e2:¬(some x=some c):=λh=>hx (Option.some.inj h);simp only[push_cast,seval,-Nat.reducePow,e,xP,e2];exact aAb 3 _ rfl
theorem t419(hf:bKv P F T)(h432:bFc P F T)(h98:Is98 P F T)(s:List UInt8):PTr P (F 419) [.str s,.str [64]] (.tup [.str (aIb s),.bool (decide (s.head?=some 64))]):=by
 refine ptrC [] hf (by simp) rfl ?_;simp only[c419,push_cast,seval,-Nat.reducePow];refine aAa (t432 h432 h98 s 64) (by rfl) (by rfl) ?_;simp only[push_cast,seval,-Nat.reducePow];exact aAb 3 _ rfl
theorem t425(hf:bMz P F T)(h433:bQb P F T)(h98:Is98 P F T)(s:List UInt8):PTr P (F 425) [.str s,.str [32]] (.str (cutB s)):=by
 have h433':PTr P (F 433) [.str s,.str [32]] (.str (cutB s)):=by
  refine ptrC [] h433 (by simp) rfl ?_;simp only[c433,push_cast,seval,-Nat.reducePow];refine aAa (t98 h98 s [32]) (by rfl) (by rfl) ?_;cases s with
  | nil=>have e:([32]:List UInt8).isPrefixOf []=false:=rfl;simp only[push_cast,seval,-Nat.reducePow,e];exact aAb 3 _ rfl
  | cons x r =>
    by_cases hx:x=32
    .subst hx;have e:([32]:List UInt8).isPrefixOf (32::r)=true:=by simp[yI]
     simp only[push_cast,seval,-Nat.reducePow,e,zg];rw[zu];exact(aAb 3 (.str _) rfl).trans (by rw[cutB,if_pos rfl])
    .have e:([32]:List UInt8).isPrefixOf (x::r)=false:=by simp[yI];exact λh=>hx h.symm
     simp only[push_cast,seval,-Nat.reducePow,e];exact(aAb 3 (.str _) rfl).trans (by rw[cutB,if_neg hx])
 refine ptrC [] hf (by simp) rfl ?_;simp only[c425,push_cast,seval,-Nat.reducePow];refine aAa h433' (by rfl) (by rfl) ?_;exact aAb 3 _ rfl
theorem bUu{w:List UInt8}{k:Nat}{top:Int}{s:Stt}(hw:w.length<=8000)(hk:k<=1000)(h:MstP usT ttT w k top s):SmS s∧polS s=(polF w).1:=by
 obtain⟨q,h1,h2,h3,h4⟩:=aW7 h;have hn:=h.pagn;have hh:=(h.pagp q h2).2.2;refine⟨⟨by omega,λp hp=>?_⟩,by unfold polS;rw[h1];simp only[h4]⟩;rw[h1]at hp;obtain rfl:=Option.some.inj hp;rw[h4];exact⟨by omega,hw⟩
def blP(r:Nat):Bool:=decide (r=32)||decide (r=9)
theorem aXa(c:UInt8):isW c=blP c.toNat:=by
 have h:∀k:UInt8,decide (c=k)=decide (c.toNat=k.toNat):=λk=>by rw[decide_eq_decide];exact UInt8.toNat_inj.symm
 unfold isW blP;rw[h 32,h 9];rfl
theorem aLl{c:UInt8}(h:128<=c.toNat):isW c=false:=by
 rw[aXa,blP,decide_eq_false (by omega),decide_eq_false (by omega)];rfl
theorem bPs(l:List UInt8)(hne:l≠[]):1<=(decodeL l).2∧(decodeL l).2<=l.length∧(blP (decodeL l).1=true->(decodeL l).2=1∧isW (l.getD 0 0)=true)∧(blP (decodeL l).1=false->∀b,b∈l.take (decodeL l).2->isW b=false):=by
 have hle:=decodeL_le l hne;have hpos:0<l.length:=xM.2 hne;have hx:=aXa (l.getD 0 0);rw[decodeL_N]at hle ⊢;have nb:∀r:Nat,128<=r->blP r=false:=λr h=>by rw[blP,decide_eq_false (by omega),decide_eq_false (by omega)];rfl
 rcases decodeN_shape l.length (l.getD 0 0).toNat (l.getD 1 0).toNat (l.getD 2 0).toNat (l.getD 3 0).toNat with⟨_,e⟩|⟨a1,a2,a3,a4,e⟩|⟨a1,a2,a3,a4,a5,a6,e⟩|⟨a1,a2,a3,a4,a5,a6,a7,e⟩|e
 .rw[e]at hle ⊢;refine⟨by simp,hle,λh=>⟨rfl,by rw[hx];exact h⟩,λh b hb=>?_⟩;rw[takeA l hpos,zp]at hb;rw[hb,hx];exact h
 .rw[e]at hle ⊢;refine⟨by simp,hle,λh=>(by rw[nb _ a4]at h;cases h),λh b hb=>?_⟩;rw[takeB l a2]at hb;simp only[zD,xq,or_false]at hb;rcases hb with rfl|rfl
  .exact aLl (by omega)
  .exact aLl (by omega)
 .rw[e]at hle ⊢;refine⟨by simp,hle,λh=>(by rw[nb _ (by simp only;omega)]at h;cases h),λh b hb=>?_⟩;rw[takeC l a2]at hb;simp only[zD,xq,or_false]at hb;rcases hb with rfl|rfl|rfl
  .exact aLl (by omega)
  .exact aLl (by omega)
  .exact aLl (by omega)
 .rw[e]at hle ⊢;refine⟨by simp,hle,λh=>(by rw[nb _ (by simp only;omega)]at h;cases h),λh b hb=>?_⟩;rw[takeD l a2]at hb;simp only[zD,xq,or_false]at hb;rcases hb with rfl|rfl|rfl|rfl
  .exact aLl (by omega)
  .exact aLl (by omega)
  .exact aLl (by omega)
  .exact aLl (by omega)
 .have hb0:128<=(l.getD 0 0).toNat:=by
   by_cases h:(l.getD 0 0).toNat<128
   .have e2:decodeN l.length (l.getD 0 0).toNat (l.getD 1 0).toNat (l.getD 2 0).toNat (l.getD 3 0).toNat=((l.getD 0 0).toNat,1):=by
     unfold decodeN;rw[if_pos h]
    rw[e]at e2;have:=congrArg Prod.fst e2;simp only at this;omega
   .omega
  rw[e]at hle ⊢;refine⟨by simp,hle,λh=>(by rw[nb _ (by simp)]at h;cases h),λh b hb=>?_⟩;rw[takeA l hpos,zp]at hb;rw[hb];exact aLl hb0
theorem aIc:∀(u r w:List UInt8),(∀b,b∈u->isW b=false)->aAn w (u++r)=aAn (w++u) r
 | [],r,w,_=>by simp
 | c::u,r,w,h=>by rw[List.cons_append,aAn,if_neg (by rw[h c (by simp)];simp),aIc u r _ λb hb=>h b (by simp[hb])];simp
theorem bEp(s:ByteArray):∀(n pos:Nat) (st:Option Nat) (acc:List (Nat×Nat)),s.size<=pos+n->pos<=s.size->(∀a,st=some a->a<pos) ->
 (closeSpans s (spansFromP blP s n pos st acc)).map (λp=>pieceU s.data.toList p.1 p.2)=acc.map (λp=>pieceU s.data.toList p.1 p.2)++aAn (openPiece s.data.toList st pos) (s.data.toList.drop pos):=by
 have hend:∀(n:Nat) (st:Option Nat) (acc:List (Nat×Nat)),(∀a,st=some a->a<s.size)->(closeSpans s (spansFromP blP s n s.size st acc)).map (λp=>pieceU s.data.toList p.1 p.2)=acc.map (λp=>pieceU s.data.toList p.1 p.2)++aAn (openPiece s.data.toList st s.size) (s.data.toList.drop s.size):=by
  intro n st acc h;have hd:s.data.toList.drop s.size=[]:=List.drop_eq_nil_of_le (by rw[<-size_eq];exact zz _);rw[hd,spansFromP_end _ _ _ _ _ _ (Nat.lt_irrefl _),aAn];cases st with
  | none=>simp[closeSpans,openPiece]
  | some a=>have hp:=pieceU_ne s.data.toList a s.size (h a rfl) (by rw[<-size_eq];exact zz _);simp[closeSpans,openPiece,hp]
 intro n;induction n with
 | zero =>
   intro pos st acc h hp hst;obtain rfl:pos=s.size:=by omega
   exact hend 0 st acc hst
 | succ n ih =>
   intro pos st acc h hp hst;by_cases hlt:pos<s.size
   rotate_left
   .obtain rfl:pos=s.size:=by omega
    exact hend (n+1) st acc hst
   .obtain⟨D,hD⟩:∃D,D=s.data.toList.drop pos:=⟨_,rfl⟩;have hne:D≠[]:=λe=>by
     have:=congrArg List.length (hD.symm.trans e);rw[wg,<-size_eq]at this;simp at this;omega
    obtain⟨w1,w2,w3,w4⟩:=bPs D hne;have hdl:decodeL D=Utf8.decode s pos:=by rw[hD,decodeL_drop]
    have hDl:D.length=s.size-pos:=by rw[hD,wg,<-size_eq]
    rw[hdl]at w1 w2 w3 w4;simp only[spansFromP,if_pos hlt];have hdd:s.data.toList.drop (pos+(Utf8.decode s pos).2)=D.drop (Utf8.decode s pos).2:=by rw[hD,List.drop_drop]
    cases hb:blP (Utf8.decode s pos).1 with
    | true =>
      obtain⟨k1,k2⟩:=w3 hb;have hc:D=D.getD 0 0::D.drop 1:=by
       cases D with
       | nil=>exact absurd rfl hne
       | cons c r=>rfl
      rw[k1]at hdd ⊢;simp only[if_true];cases st with
      | none =>
        simp only;rw[ih _ none _ (by omega) (by omega) (λa h=>nomatch h),hdd,<-hD]
        conv=>rhs;rw[hc]
        simp only[openPiece];rw[aAn,if_pos k2,if_pos rfl]
      | some a =>
        have hpn:=pieceU_ne s.data.toList a pos (hst a rfl) (by rw[<-size_eq];omega);simp only;rw[ih _ none _ (by omega) (by omega) (λa h=>nomatch h),hdd,<-hD]
        conv=>rhs;rw[hc]
        simp only[openPiece];rw[aAn,if_pos k2,if_neg hpn];simp
    | false =>
      have k2:=w4 hb;have hc:D=D.take (Utf8.decode s pos).2++D.drop (Utf8.decode s pos).2:=(List.take_append_drop ..).symm;simp only[zK,if_false];cases st with
      | none =>
        simp only;rw[ih _ _ _ (by omega) (by omega) (λa h=>by cases h;omega),hdd,<-hD]
        conv=>rhs;rw[hc]
        simp only[openPiece];rw[aIc _ _ _ k2,yf];congr 2;rw[pieceU,<-hD,Nat.add_sub_cancel_left]
      | some a =>
        simp only;rw[ih _ _ _ (by omega) (by omega) (λb h=>by cases h;have:=hst a rfl;omega),hdd,<-hD]
        conv=>rhs;rw[hc]
        simp only[openPiece];rw[aIc _ _ _ k2];congr 2;rw[hD,pieceU_grow _ _ _ _ (Nat.le_of_lt (hst a rfl))]
theorem aZ9(s:ByteArray):(goFieldsP blP s).map (·.data.toList)=aAn [] s.data.toList:=by
 have h:=bEp s s.size 0 none [] (by omega) (by omega) λa h=>nomatch h;rw[yb,yf,List.drop_zero]at h;rw[show aAn [] s.data.toList=aAn (openPiece s.data.toList none 0) s.data.toList from rfl,<-h];unfold goFieldsP spansOfP;rw[yY];apply zt;intro p _;simp only[Function.comp,pieceU];simp
end Go.Ab
namespace Go.Ab
open Go.Lib Go.RowKit
variable {P:Program} {F T:Nat->Nat}
theorem bMc:∀(n:Nat) (s:List UInt8),s.length<=n->replaceK [95] [32] (count s [95]) s=s.map undB:=by
 intro n;induction n with
 | zero=>intro s hs;obtain rfl:s=[]:=List.length_eq_zero_iff.1 (by omega);rfl
 | succ n ih =>
   intro s hs;have hix:index s [95]=indexByte s 95:=index_one s 95;rw[aEz]at hix;cases hf:s.findIdx? (·==95)with
   | none =>
     rw[hf]at hix;rw[count_miss hix,replaceK];have hno:=aOe hf
     conv=>lhs;rw[<-xL s]
     exact zt λb hb=>by rw[undB,if_neg (hno b hb)];rfl
   | some i =>
     rw[hf]at hix;simp only at hix;obtain⟨h1,h2,h3⟩:=aL5 hf;have ih':=ih (s.drop (i+1)) (by simp;omega);rw[count_hit (by simp) hix,Nat.add_comm,replaceK_hit _ _ _ _ i hix];simp only[List.length_singleton]at ih' ⊢;rw[ih']
     conv=>rhs;rw[h1]
     rw[List.map_append,List.map_cons];have e1:(s.take i).map undB=s.take i:=by
      conv=>rhs;rw[<-xL (s.take i)]
      exact zt λb hb=>by rw[undB,if_neg (h2 b hb)];rfl
     rw[e1];simp[undB]
theorem bLp(s:List UInt8):replaceAll s [95] [32]=s.map undB:=by
 unfold replaceAll replace;rw[if_neg (by decide),replaceNum,if_pos (.inl (by omega))];exact bMc s.length s (zz _)
theorem bM4{x:Nat}(g:gint P x)(h:∀(s old new:ByteArray) (m:Int) (w:World),s.size<4294967281->w.cell? ⟨x,0,none⟩=some (.int .i64 m)->1<=old.size->s.size+countB s old*new.size<=140737488355328 ->
 Calls P (F 423) #[.string s,.string old,.string new] w λe w'=>e=.returned (.string ⟨(replaceAll s.data.toList old.data.toList new.data.toList).toArray⟩)∧Below w.heap.size w w') (s:List UInt8) (hs:s.length<=8192):PTr P (F 423) [.str s,.str [95],.str [32]] (.str (s.map undB)):=by
 intro D w vs hD hg hl hr;obtain⟨u,v,t,rfl,hu,hv,ht⟩:=vs3 hl hr;cases hu;cases hv;cases ht
 obtain⟨m,hm⟩:=hg.1 x g;have hc:countB ⟨s.toArray⟩ ⟨([95]:List UInt8).toArray⟩=count s [95]:=rfl;have hcl:=count_le s [95];refine(h ⟨s.toArray⟩ ⟨([95]:List UInt8).toArray⟩ ⟨([32]:List UInt8).toArray⟩ m w (by simp[zC];omega) hm (by simp[zC]) (by rw[hc];simp[zC];omega)).mono ?_;rintro e w' ⟨rfl,hb⟩;refine⟨_,rfl,hb,?_⟩;show Rep _ _ _ (.str (s.map undB)) (.string ⟨(replaceAll s [95] [32]).toArray⟩);rw[bLp];exact .str _ (by simp;omega)
theorem bN6(h:∀(bk o c:Nat) (xs:List ByteArray) (sep:ByteArray) (w:World),(∀(j:Nat) x,xs[j]?=some x->w.cell? ⟨bk,o+j,none⟩=some (.string x))->bk<w.heap.size->xs.length<=140737488355328->xs.length<=c->(join (xs.map (·.data.toList)) sep.data.toList).length<=140737488355328 ->
 Calls P (F 289) #[.slice (some ⟨bk,o,none⟩) xs.length c,.string sep] w λe w'=>e=.returned (.string ⟨(join (xs.map (·.data.toList)) sep.data.toList).toArray⟩)∧Below w.heap.size w w') (l:List (List UInt8)) (hne:l≠[]) (hl:l.length<=8193) (hj:(join l [47]).length<=2^40):PTr P (F 289) [.lst 1 (l.map .str),.str [47]] (.str (join l [47])):=by
 intro D w vs hD hg hn hr;obtain⟨u,v,rfl,hu,hv⟩:=vs2 hn hr;cases hv
 obtain⟨a,cap,b,q,rfl,hc,h63,ha,hz,hs,hrp⟩:=aEq hu;have hlen:(l.map V.str).length=l.length:=zb ..;rw[hlen]at hc ha ⊢;have hpos:0<l.length:=xM.2 hne;obtain⟨rfl,hb,_⟩:=ha hpos;have e1:(l.map λs=>(⟨s.toArray⟩:ByteArray)).map (·.data.toList)=l:=by rw[yY];exact List.map_id' l
 have h1:=h b q cap (l.map λs=>⟨s.toArray⟩) ⟨([47]:List UInt8).toArray⟩ w (λj x hx=>by
  rw[yu,zm]at hx;obtain⟨s,hs1,rfl⟩:=hx;have hb1:(((l.map V.str)[j]?).bind λe=>e.cells[0]?)=some (.str s):=by simp[hs1,V.cells]
  have k1:=hs j 0 _ hb1;have k2:=hrp j 0 _ hb1;rw[show q+j*1+0=q+j by omega]at k1 k2;obtain⟨c,hc⟩:=Option.isSome_iff_exists.1 k1;rw[aDk,hc]at k2;simp only[xx]at k2;cases k2
  exact hc) hb (by simp;omega) (by simp;omega) (by rw[e1];simpa using(by omega:(join l [47]).length<=140737488355328))
 rw[e1,zb]at h1;refine h1.mono ?_;rintro e w' ⟨rfl,hbel⟩;exact⟨_,rfl,hbel,.str _ (by omega)⟩
theorem bL3(h:∀(s chars:ByteArray) (w:World),2<=chars.size->s.size<4294967281->chars.size<4294967281->(∀b∈chars.data.toList,b.toNat<128) ->
 Calls P (F 66) #[.string s,.string chars] w λe w'=>e=.returned (.int .i64 (indexAny s.data.toList chars.data.toList))∧Below w.heap.size w w') (s:List UInt8) (hs:s.length<=8192):PTr P (F 66) [.str s,.str [32,9]] (.int .i64 (indexAny s wsp)):=by
 intro D w vs hD hg hl hr;obtain⟨u,v,rfl,hu,hv⟩:=vs2 hl hr;cases hu;cases hv
 refine(h ⟨s.toArray⟩ ⟨([32,9]:List UInt8).toArray⟩ w (by simp[zC]) (by simp[zC];omega) (by simp[zC]) (by simp)).mono ?_;rintro e w' ⟨rfl,hb⟩;exact⟨_,rfl,hb,.int _ _⟩
theorem bNp{x:Nat}(g:gint P x)(h2:∀(s sep:ByteArray) (m:Int) (w:World),s.size<4294967281->w.cell? ⟨x,0,none⟩=some (.int .i64 m) ->
 Calls P (F 172) #[.string s,.string sep] w λe w'=>e=.returned (.tuple #[.string ⟨(cut s.data.toList sep.data.toList).1.toArray⟩,.string ⟨(cut s.data.toList sep.data.toList).2.1.toArray⟩,.bool (cut s.data.toList sep.data.toList).2.2])∧∃n,w'=w.drewN n) (s:List UInt8) (hs:s.length<=8192) :
 PTr P (F 172) [.str s,.str [124]] (.tup [.str (s.takeWhile (· != 124)),.str ((s.dropWhile (· != 124)).drop 1),.bool (s.contains 124)]):=by
 intro D w vs hD hg hl hr;obtain⟨u,v,rfl,hu,hv⟩:=vs2 hl hr;cases hu;cases hv
 obtain⟨m,hm⟩:=hg.1 x g;obtain⟨l1,l2⟩:=aNb s;have hc:cut s [124]=(barT s,barS s,s.contains 124):=by
  have hi:index s [124]=indexByte s 124:=index_one s 124;rw[aEz]at hi;have hb:=aN2 s;cases hf:s.findIdx? (·==124)with
  | none=>rw[hf]at hi hb;obtain⟨b1,b2,b3⟩:=hb;rw[b1,b2,b3,cut,if_neg (by rw[hi];decide)]
  | some i=>rw[hf]at hi hb;obtain⟨b1,b2,b3⟩:=hb;rw[b1,b2,b3,cut,if_pos (by rw[hi];simp),hi];rfl
 refine(h2 ⟨s.toArray⟩ ⟨([124]:List UInt8).toArray⟩ m w (by simp[zC];omega) hm).mono ?_;rintro e w' ⟨rfl,n,rfl⟩;refine⟨_,rfl,⟨rfl,rfl,rfl,zz _,λ_ _=>rfl⟩,?_⟩;show Rep _ _ _ (.tup [.str (barT s),.str (barS s),.bool (s.contains 124)]) (.tuple #[.string ⟨(cut s [124]).1.toArray⟩,.string ⟨(cut s [124]).2.1.toArray⟩,.bool (cut s [124]).2.2]);rw[hc];refine .tup _ _ rfl λi c hi=>?_
 match i,hi with
 | 0,hi=>simp at hi;subst hi;exact .str _ (by omega)
 | 1,hi=>simp at hi;subst hi;exact .str _ (by omega)
 | 2,hi=>simp only[List.getElem?_cons_succ,List.getElem?_cons_zero,Option.some.injEq]at hi;subst hi;exact .bool _
theorem aUf:∀(l cs:List UInt8),(∀b,b∈l->cs.contains b=false)->indexAny l cs=-1
 | [],_,_=>rfl
 | x::r,cs,h=>by rw[indexAny,h x (by simp),aUf r cs λb hb=>h b (by simp[hb])];rfl
theorem bIg(A:AnyC P F)(s:List UInt8)(hs:s.length<=8192):PTr P (F 54) [.str s,.str [10,124]] (.bool (s.contains 10||s.contains 124)):=by
 have h:=A s [10,124] (by simp) (by simp) (by omega) (by simp);have e:containsAny s [10,124]=(s.contains 10||s.contains 124):=by
  cases hc:containsAny s [10,124]with
  | false =>
    have hn:=aQq hc;have n1:s.contains 10=false:=by
     cases hx:s.contains 10 with
     | false=>rfl
     | true=>have:=hn 10 (yj.1 hx);simp at this
    have n2:s.contains 124=false:=by
     cases hx:s.contains 124 with
     | false=>rfl
     | true=>have:=hn 124 (yj.1 hx);simp at this
    rw[n1,n2];rfl
  | true =>
    cases hx:s.contains 10 with
    | true=>rfl
    | false =>
      cases hy:s.contains 124 with
      | true=>rfl
      | false =>
        have hn:indexAny s [10,124]=-1:=aUf s _ λb hb=>by
         cases hz:([10,124]:List UInt8).contains b with
         | false=>rfl
         | true =>
           simp at hz;rcases hz with rfl|rfl
           .rw[yj.2 hb]at hx;cases hx
           .rw[yj.2 hb]at hy;cases hy
        rw[containsAny,hn]at hc;cases hc
 rw[e]at h;exact h
theorem bHi{ty:TypeId}(h:∀(s:ByteArray) (w:World),s.size<=4294967296->Calls P (F 411) #[.string s,.func (.func (F 412)) #[] #[]] w λe w'=>∃A,e=.returned (.slice (some ⟨A,0,none⟩) (goFieldsP blP s).length (goFieldsP blP s).length)∧w.heap.size<=A ∧
 w'.ownsRow w.heap.size ty 1 (.slice (some ⟨A,0,none⟩) (goFieldsP blP s).length (goFieldsP blP s).length) (goFieldsP blP s).length ((goFieldsP blP s).map Value.string)∧Below w.heap.size w w') (s:List UInt8) (hs:s.length<=8192) :
 PTr P (F 411) [.str s,.fn (F 412) []] (.lst 1 ((aAn [] s).map .str)):=by
 intro D w vs hD hg hl hr;obtain⟨u,v,rfl,hu,hv⟩:=vs2 hl hr;cases hu
 obtain⟨ws,rfl,hwl,_⟩:=aOr hv;have hws:ws=#[]:=Array.eq_empty_of_size_eq_zero (by simpa[V.czL]using hwl.symm);subst hws;refine(h ⟨s.toArray⟩ w (by simp[zC];omega)).mono ?_;rintro e w' ⟨A,rfl,hA,ho,hb⟩;have hw:=aZ9 ⟨s.toArray⟩;obtain⟨L,hL⟩:∃L,L=goFieldsP blP ⟨s.toArray⟩:=⟨_,rfl⟩;rw[<-hL]at ho hw ⊢;simp only at hw;obtain⟨wl,hwe⟩:=aGa s [];have hlen:L.length=(aAn [] s).length:=by rw[<-hw,zb]
 have hget:∀(i:Nat) (q:List UInt8),(aAn [] s)[i]?=some q->∃x,L[i]?=some x∧x=⟨q.toArray⟩:=λi q hq=>by rw[<-hw,yu,zm]at hq;obtain⟨x,hx,rfl⟩:=hq;exact⟨x,hx,rfl⟩
 have hcell:∀(i:Nat) (q:List UInt8),(aAn [] s)[i]?=some q->w'.cell? ⟨A,0+i*1+0,none⟩=some (.string ⟨q.toArray⟩):=λi q hq=>by obtain⟨x,hx,rfl⟩:=hget i q hq;have hi:i<L.length:=(List.getElem?_eq_some_iff.1 hx).1;have hc:=World.ownsRow.cellAt ho i (by omega);rw[show 0+i*1+0=i by omega,hc,yu,hx];rfl
 have hqq:∀(i j:Nat) (c:V),(((aAn [] s).map V.str)[i]?.bind λ(e:V)=>e.cells[j]?)=some c->j=0∧∃q:List UInt8,(aAn [] s)[i]?=some q∧c=V.str q:=λi j c h=>by
  rw[yu]at h;cases hq:(aAn [] s)[i]? with
  | none=>rw[hq]at h;simp at h
  | some q =>
    rw[hq]at h;simp only[Option.map_some,Option.bind_some,V.cells]at h;cases j with
    | zero=>exact⟨rfl,q,rfl,by simpa using h.symm⟩
    | succ j=>simp at h
 refine⟨_,rfl,hb,?_⟩;rw[hlen];have hml:((aAn [] s).map V.str).length=(aAn [] s).length:=zb ..
 conv=>arg 5;rw[<-hml]
 refine .lst 1 _ _ _ A 0 (zz _) (by rw[hml];omega) (λhp=>⟨rfl,?_,λh=>by have:=hD _ h;omega⟩) (λe he=>?_) (λi j c h=>?_) (λi j c h=>?_)
 .have h0:0<(aAn [] s).length:=by rw[<-hml];exact hp
  have hc:=hcell 0 _ (List.getElem?_eq_getElem h0);exact(aP1 hc).2
 .obtain⟨q,_,rfl⟩:=List.mem_map.1 he;rfl
 .obtain⟨rfl,q,hq,rfl⟩:=hqq i j c h;rw[hcell i q hq];rfl
 .obtain⟨rfl,q,hq,rfl⟩:=hqq i j c h;rw[aDk,hcell i q hq];have hql:=wl q (List.mem_of_getElem? hq);exact .str _ (by simp at hql;omega)
structure PrgF(P:Program)(F T:Nat->Nat):Prop where
 f361:bJh P F T
 f390:bL6 P F T
 f391:bMd P F T
 f396:aQ6 P F T
 f397:bDp P F T
 f398:bDt P F T
 f399:bCy P F T
 f400:bI8 P F T
 f401:bIv P F T
 f402:bLf P F T
 f413:aX0 P F T
 f414:aXm P F T
 f416:bAh P F T
 f417:bEj P F T
 f418:bCe P F T
 f419:bKv P F T
 f420:bEn P F T
 f426:aVm P F T
 f427:aW8 P F T
 f432:bFc P F T
 f98:Is98 P F T
 f191:aZw P F T
 f222:aOw P F T
 b417:aBk P (F 417)=true
 b427:aBk P (F 427)=true
 tit:TitK P F T
 lib:PolL P F
 anyc:AnyC P F
 spl:∃ty,SplP P F ty
theorem p361(C:PrgF P F T)(w:List UInt8):PTr P (F 361) [.str w] (.tup [(polF w).1.v,.int .i64 (polF w).2.1,.int .i64 (polF w).2.2]):=by
 obtain⟨ty,hS⟩:=C.spl;have K:=C.tit;have h185:∀(sp:Int) (s:List UInt8),s.length<=8192->PTr P (F 185) [ttV sp s] (.bool (aBb sp s)):=λsp s h=>t185 K.f185 K.tc K.f187 K.f188 K.f189 K.f190 sp s (by omega);refine t361 C.f361 ⟨C.f390,C.f396,C.f397,C.f398,C.f399,C.f413,C.f414,C.lib,λs hs=>t415 K s hs,λl x hl=>t222 C.f222 l x hl⟩ hS (λp hB=>?_) w;have hi1:V.imms [.lst 2 (grV p.g),.lst 6 (ruV p.r),.lst 5 (gdV p.d)]=true:=by simp only[V.imms,V.imm,aA6,aBv,aBy,zn]
 have h420:∀n,PTr P (F 420) [p.w,.str n] (.bool (exB p.g n)):=λn=>t420 C.f420 C.f416 C.f418 C.f426 C.f427 C.b427 p.g _ _ n (by simp only[V.imm,aBv]) (by simp only[V.imm,aBy]) rfl rfl hB.gl;refine t391 C.f391 p hB (λi hi=>?_) (λx hx=>t401 C.f401 rfl hi1 rfl p.g h420 h185 x (hB.r x hx)) (λx hx=>t402 C.f402 rfl hi1 rfl p.g h420 h185 C.lib (λs hs=>bIg C.anyc s hs) x (hB.d x hx).1 (hB.d x hx).2);have hg:p.g.getD i ⟨[],[]⟩∈p.g:=by simp[zI,hi]
 have hb:=hB.g _ hg;exact t400 C.f400 C.f416 C.f417 C.f418 C.f420 C.f426 C.f427 C.b427 C.b417 (λs _=>t191 C.f191 s) (λs _=>t419 C.f419 C.f432 C.f98 s) p.g _ _ i (by simp only[V.imm,aBv]) (by simp only[V.imm,aBy]) rfl rfl hB.gl hi hb.1 hb.2.1 hb.2.2
end Go.Ab
