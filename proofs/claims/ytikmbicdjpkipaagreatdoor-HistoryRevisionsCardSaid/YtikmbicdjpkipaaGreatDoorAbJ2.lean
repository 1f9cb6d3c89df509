import Derived.Test.YtikmbicdjpkipaaGreatDoorAbJ1
open List renaming length_map->zb,map->zw,take->zA,take_of_length_le->zj,length_cons->zg,getD_eq_getElem?_getD->ze,drop->yK,map_append->yZ,map_cons->zE,drop_drop->xW,drop_left'->wq
set_option linter.unusedSimpArgs false
set_option linter.unusedVariables false
namespace Go.Ab
variable {P:Program} {F T:Nat->Nat}
theorem aSs{l:List Sto}{t:Ttl}:∀{k i:Nat},aLm l t k=some i->i<k
 | 0,i,h=>by cases h
 | k+1,i,h=>by
   rw[aLm]at h;split at h
   .grind
   .have:=aSs h;omega
theorem t326(hf:bEq P F T)(s:Stt)(t:Ttl)(hl:s.gone.length<=2^30):PTr P (F 326) [s.v,tV t] (.int .i64 (ixI (aPt s.gone t))):=by
 obtain⟨t1,t2⟩:=t;have hlen:(s.gone.map Sto.v).length=s.gone.length:=zb ..;refine ptrC [] hf (by simp) rfl ?_;simp only[c326,push_cast,seval,-Nat.reducePow,Stt.v,Stt.cs,tV,tCs,stoV,pplV,watV,lasV];refine⟨by omega,aAd (λm s1=>m<=s.gone.length∧aLm s.gone (t1,t2) s.gone.length=aLm s.gone (t1,t2) m∧s1.env 2=.ptr 2 0∧s1.env 3=.ptr 3 0∧s1.env 5=.int .i64 ((m:Int)-1)∧s1.L 2=some (.box (T 34) [V.int IntKind.i64 s.seq,V.int IntKind.i64 s.clock,V.lst 3 (zw Sto.v s.pages),V.lst 3 (zw Sto.v s.gone),V.lst 8 (zw Ppl.v s.props),V.int IntKind.i64 s.proposed,V.lst 3 (zw Wat.v s.watches),V.lst 2 (zw Las.v s.lasts)])∧s1.L 3=some (.box (T 17) [.int .i64 t1,.str t2])) s.gone.length ?_ λm s1 hJ=>?_⟩
 .simp only[push_cast,seval,-Nat.reducePow,hlen]
 .obtain⟨hm,hgn,j2,j3,j5,jL2,jL3⟩:=hJ;cases m with
  | zero =>
    have h1:¬(0:Int)<=((0:Nat):Int)-1:=by omega
    simp only[push_cast,seval,-Nat.reducePow,j2,j3,j5,jL2,jL3,h1];rw[aPt,hgn];rfl
  | succ k =>
    have h1:(0:Int)<=((k+1:Nat):Int)-1:=by omega
    have e1:(((k+1:Nat):Int)-1).toNat=k:=by omega
    have hg:(s.gone.map Sto.v).getD k .junk=.agg [.int .i64 (s.gone.getD k zSto).t.1,.str (s.gone.getD k zSto).t.2,revV (s.gone.getD k zSto).hist]:=aIl (by omega);obtain⟨p,hp⟩:∃p,p=s.gone.getD k zSto:=⟨_,rfl⟩;rw[<-hp]at hg;rw[aLm,<-hp]at hgn;have e2:(((k+1:Nat):Int)-1)=(k:Nat):=by omega
    rw[e2]at j5 h1;have e3:((k:Nat):Int).toNat=k:=rfl;simp only[push_cast,seval,-Nat.reducePow,j2,j3,j5,jL2,jL3,h1,e3,hg,hlen];refine⟨by omega,?_⟩;by_cases hpt:p.t=(t1,t2)
    .have hd:(decide (p.t.1=t1)&&decide (p.t.2=t2))=true:=by grind
     rw[if_pos hpt]at hgn;simp only[push_cast,seval,-Nat.reducePow,hd,j5];rw[aPt,hgn];rfl
    .have hd:(decide (p.t.1=t1)&&decide (p.t.2=t2))=false:=by
      grind
     rw[if_neg hpt]at hgn;simp only[push_cast,seval,-Nat.reducePow,hd,j2,j3,j5,jL2,jL3];grind
theorem t309(hf:bHb P F T)(h300:aH8 P F T)(h326:bEq P F T)(h318:aI8 P F T)(h323:aRa P F T)(h324:aVc P F T)(s:Stt)(c:Chg)(hl:s.pages.length<=2^29)(hg:s.gone.length<=2^29):PTr P (F 309) [s.v,c.v] (outS (resS s c)):=by
 have hlen:(s.pages.map Sto.v).length=s.pages.length:=zb ..;have hlg:(s.gone.map Sto.v).length=s.gone.length:=zb ..;have c1:=t326 h326 s c.t (by omega);have c2:=t300 h300 s.pages c.t (by omega);refine ptrC [] hf (by simp) (aA3 _) ?_;simp only[c309,push_cast,seval,-Nat.reducePow,Stt.v,Stt.cs,Chg.v,Chg.cs,stoV,pplV,watV,lasV,revV];refine aAa c1 (by simp only[push_cast,seval,-Nat.reducePow,aAh,aAo,aAv,aAw]) (by rfl) ?_;simp only[push_cast,seval,-Nat.reducePow];refine aAa c2 (by simp only[push_cast,seval,-Nat.reducePow,aAh]) (by rfl) ?_;cases hf2:aDn s.pages c.t with
 | some i =>
   have h0:(0:Int)<=((i:Nat):Int):=by omega
   simp only[push_cast,seval,-Nat.reducePow,ixI,h0];rw[show resS s c=(s,5)from by simp[resS,hf2]];rfl
 | none =>
   have hm1:¬(0:Int)<=-1:=by decide
   cases hf3:aPt s.gone c.t with
   | none=>simp only[push_cast,seval,-Nat.reducePow,ixI,hm1];rw[show resS s c=(s,4)from by simp[resS,hf2,hf3]];rfl
   | some i =>
     have hi:i<s.gone.length:=aSs hf3;have h0:¬((i:Nat):Int)<0:=by omega
     have hg1:(s.gone.map Sto.v).getD i .junk=.agg [.int .i64 (s.gone.getD i zSto).t.1,.str (s.gone.getD i zSto).t.2,revV (s.gone.getD i zSto).hist]:=aIl hi;have h1v:(revV (s.gone.getD i zSto).hist).one=true:=rfl;by_cases hpl:200<=s.pages.length
     .have hpl':(200:Int)<=((s.pages.length:Nat):Int):=by omega
      simp only[push_cast,seval,-Nat.reducePow,ixI,hm1,h0,hlen,hpl'];rw[show resS s c=(s,8)from by simp[resS,hf2,hf3,hpl]];rfl
     .have hpl':¬(200:Int)<=((s.pages.length:Nat):Int):=by omega
      simp only[push_cast,seval,-Nat.reducePow,ixI,hm1,h0,hlen,hlg,hpl',hg1,h1v];refine⟨hi,aAa (t323 h323 h318 s.pages (s.gone.getD i zSto) (by omega)) (by simp only[push_cast,seval,-Nat.reducePow,aAh,V.imm,V.imms,Sto.v,aBd]) (by simp only[push_cast,seval,-Nat.reducePow,aAh]) ?_⟩;simp only[push_cast,seval,-Nat.reducePow];refine aAa (t324 h324 s.gone i hi (by omega)) (by simp only[push_cast,seval,-Nat.reducePow,aAh]) (by simp only[push_cast,seval,-Nat.reducePow,aAh]) ?_;simp only[push_cast,seval,-Nat.reducePow];rw[show resS s c=({ s with pages:=insS s.pages (s.gone.getD i zSto),gone:=wtoS s.gone i },0)from by simp[resS,hf2,hf3,hpl]];rfl
theorem t313(hf:bI1 P F T)(s:Stt)(c:Chg)(hp:s.props.length<=2^29)(hq:-1<=s.proposed):PTr P (F 313) [s.v,c.v] (outS (prpS s c)):=by
 have hlp:(s.props.map Ppl.v).length=s.props.length:=zb ..;refine ptrC [] hf (by simp) (aA3 _) ?_;simp only[c313,push_cast,seval,-Nat.reducePow,Stt.v,Stt.cs,Chg.v,Chg.cs,stoV,pplV,watV,lasV,revV,hlp];by_cases h1:40<=s.props.length
 .have h1':(40:Int)<=((s.props.length:Nat):Int):=by omega
  simp only[push_cast,seval,-Nat.reducePow,h1'];rw[show prpS s c=(s,8)from by simp[prpS,h1]];rfl
 .have h1':¬(40:Int)<=((s.props.length:Nat):Int):=by omega
  by_cases h2:1073741824<=s.proposed
  .simp only[push_cast,seval,-Nat.reducePow,h1',h2];rw[show prpS s c=(s,8)from by simp[prpS,h2]];rfl
  .simp only[push_cast,seval,-Nat.reducePow,h1',h2,hlp];have tk:zA s.props.length (s.props.map Ppl.v)=s.props.map Ppl.v:=zj (by simp);rw[show prpS s c=({ s with proposed:=s.proposed+1,props:=s.props++[⟨s.proposed+1,c.user,c.note,c.t,c.n,c.text,s.clock⟩] },0)from by simp[prpS,h1,h2]];refine⟨⟨by omega,by omega⟩,by omega,by omega,?_⟩;rw[aDp,aB8 (ty:=T 39) (es:=(s.props++[(⟨s.proposed+1,c.user,c.note,c.t,c.n,c.text,s.clock⟩:Ppl)]).map Ppl.v) ?_ (by simp) (aAo _)]
   .rfl
   .rw[tk];simp only[updJ,Nat.reduceEqDiff,if_false,if_true];simp[Ppl.v]
theorem t314(hf:bIs P F T)(s:Stt)(c:Chg)(hp:s.props.length<=2^29):PTr P (F 314) [s.v,c.v] (outS (shtS s c)):=by
 have hlp:(s.props.map Ppl.v).length=s.props.length:=zb ..;obtain⟨fl,hfl⟩:∃fl:List Ppl->List Ppl,fl=λl=>l.filter λp=>decide (p.id≠c.n):=⟨_,rfl⟩;have hgo:∀a r,fl (a++r)=fl a++fl r:=λa r=>by grind
 have hle:∀a,(fl a).length<=a.length:=λa=>by grind
 have hres:shtS s c=if(fl s.props).length=s.props.length then(s,4)else({ s with props:=fl s.props },0):=by rw[hfl];rfl
 refine ptrC [] hf (by simp) (aA3 _) ?_;simp only[c314,push_cast,seval,-Nat.reducePow,Stt.v,Stt.cs,Chg.v,Chg.cs,stoV,pplV,watV,lasV,revV];refine aAd (λm s1=>∃a r id,s.props=a++r∧m=r.length∧s1.env 2=.ptr 2 0∧s1.env 3=.ptr 3 0∧s1.env 4=.ptr 4 0∧s1.env 7=.int .i64 a.length∧s1.env 6=.own id 8 0 (fl a).length∧s1.L id=some (.vec (T 39) 8 ((fl a).map Ppl.v)) ∧
  s1.L 2=some (.box (T 34) [V.int IntKind.i64 s.seq,V.int IntKind.i64 s.clock,V.lst 3 (zw Sto.v s.pages),V.lst 3 (zw Sto.v s.gone),V.lst 8 (zw Ppl.v s.props),V.int IntKind.i64 s.proposed,V.lst 3 (zw Wat.v s.watches),V.lst 2 (zw Las.v s.lasts)]) ∧
  s1.L 3=some (.box (T 37) [V.int IntKind.i64 c.kind,V.str c.user,V.str c.note,V.int IntKind.i64 c.t.fst,V.str c.t.snd,V.int IntKind.i64 c.to.fst,V.str c.to.snd,V.str c.text,V.int IntKind.i64 c.n,V.lst 6 (zw Rev.v c.hist)]) ∧
  s1.L 4=some (.box (T 34) [V.int IntKind.i64 0,V.int IntKind.i64 0,V.nils,V.nils,V.nils,V.int IntKind.i64 0,V.nils,V.nils])∧4<id∧id<s1.nx) s.props.length ?_ λm s1 hJ=>?_
 .simp only[push_cast,seval,-Nat.reducePow];exact⟨[],s.props,84,rfl,rfl,rfl,by grind,by rw[hfl];rfl,by decide,by decide⟩
 .obtain⟨a,r,id,hal,rfl,j2,j3,j4,j7,j6,jL,jL2,jL3,jL4,hid4,hid⟩:=hJ;have hal2:s.props.length=a.length+r.length:=by grind
  have hla:=hle a;have i2:(2:Nat)≠id:=by omega
  have i3:(3:Nat)≠id:=by omega
  have i4:(4:Nat)≠id:=by omega
  cases r with
  | nil =>
    have h1:¬((a.length:Nat):Int)<((s.props.length:Nat):Int):=by grind
    have han:fl s.props=fl a:=by grind
    by_cases he:(fl s.props).length=s.props.length
    .have he':(((fl a).length:Nat):Int)=((s.props.length:Nat):Int):=by grind
     simp only[push_cast,seval,-Nat.reducePow,j2,j3,j4,j6,j7,jL,jL2,jL3,jL4,hlp,h1,he'];rw[hres,if_pos he];rfl
    .have he':¬(((fl a).length:Nat):Int)=((s.props.length:Nat):Int):=by grind
     simp only[push_cast,seval,-Nat.reducePow,j2,j3,j4,j6,j7,jL,jL2,jL3,jL4,hlp,h1,he'];rw[hres,if_neg he,han,aDp,aB8 (ty:=T 39) (es:=(fl a).map Ppl.v) ?_ (by simp) (aAo _)]
     .rfl
     .rw[aAc _ _ _ _ (by omega),aAc _ _ _ _ (by omega)];exact jL
  | cons x r =>
    rw[zg]at hal2;have h1:((a.length:Nat):Int)<((s.props.length:Nat):Int):=by omega
    have hg:(s.props.map Ppl.v).getD a.length .junk=.agg [.int .i64 x.id,.str x.user,.str x.note,.int .i64 x.t.1,.str x.t.2,.int .i64 x.base,.str x.text,.int .i64 x.minute]:=by rw[hal];simp[ze,Ppl.v]
    have tk:zA (fl a).length ((fl a).map Ppl.v)=(fl a).map Ppl.v:=zj (by simp);simp only[push_cast,seval,-Nat.reducePow,j2,j3,j4,j6,j7,jL,jL2,jL3,jL4,hlp,h1,hg];refine⟨by omega,?_⟩;by_cases hx:x.id=c.n
    .have hn:fl (a++[x])=fl a:=by grind
     simp only[push_cast,seval,-Nat.reducePow,hx,j2,j3,j4,j6,j7,jL,jL2,jL3,jL4,hlp,h1,hg];exact⟨⟨by omega,by omega⟩,r.length,by omega,a++[x],r,id,by grind,rfl,by simp,by rw[hn],by grind,hid4,by omega⟩
    .have hn:fl (a++[x])=fl a++[x]:=by grind
     simp only[push_cast,seval,-Nat.reducePow,hx,j2,j3,j4,j6,j7,jL,jL2,jL3,jL4,hlp,h1,hg,tk];refine⟨by omega,by simp,by omega,⟨by omega,by omega⟩,r.length,by omega,a++[x],r,s1.nx+115,by grind,rfl,by simp,by grind,?_,?_,?_,?_,by omega,by omega⟩
     .rw[aAe,hn];grind
     .rw[aAc _ _ _ _ i2];omega
     .rw[aAc _ _ _ _ i3];omega
     .rw[aAc _ _ _ _ i4];omega
theorem bPy{α:Type}{f:α->Bool}:∀(a r:List α),(∀x,x∈a->f x=true)->(a++r).takeWhile f=a++r.takeWhile f∧(a++r).dropWhile f=r.dropWhile f
 | [],r,_=>⟨rfl,rfl⟩
 | x::a,r,h=>by simp_all
theorem t298(hf:bIq P F T)(s:Stt)(u:List UInt8)(seq:Int)(hl:s.lasts.length<=2^29):PTr P (F 298) [s.v,.str u,.int .i64 seq] (outS (notS s u seq)):=by
 have hll:(s.lasts.map Las.v).length=s.lasts.length:=zb ..;refine ptrC [] hf (by simp) (aA3 _) ?_;simp only[c298,push_cast,seval,-Nat.reducePow,Stt.v,Stt.cs,stoV,pplV,watV,lasV];refine aAy (λh=>?_) (λh=>?_)
 .simp only[push_cast,seval,-Nat.reducePow];rw[show notS s u seq=(s,0)from by simp[notS,h]];rfl
 .simp only[push_cast,seval,-Nat.reducePow];refine aAd (λm s1=>∃a r id,s.lasts=a++r∧m=r.length∧(∀x,x∈a->Op.bytesLess x.user u=true)∧s1.env 1=.str u∧s1.env 2=.int .i64 seq∧s1.env 3=.ptr 3 0∧s1.env 6=.ptr 6 0∧s1.env 9=.int .i64 a.length∧s1.env 8=.own id 2 0 a.length∧s1.L id=some (.vec (T 38) 2 (a.map Las.v)) ∧
   s1.L 3=some (.box (T 34) [V.int IntKind.i64 s.seq,V.int IntKind.i64 s.clock,V.lst 3 (zw Sto.v s.pages),V.lst 3 (zw Sto.v s.gone),V.lst 8 (zw Ppl.v s.props),V.int IntKind.i64 s.proposed,V.lst 3 (zw Wat.v s.watches),V.lst 2 (zw Las.v s.lasts)]) ∧
   s1.L 6=some (.box (T 34) [V.int IntKind.i64 0,V.int IntKind.i64 0,V.nils,V.nils,V.nils,V.int IntKind.i64 0,V.nils,V.nils])∧6<id∧id<s1.nx) s.lasts.length ?_ λm s1 hJ=>?_
  .simp only[push_cast,seval,-Nat.reducePow];exact⟨[],s.lasts,240,rfl,rfl,(by simp),rfl,rfl,aAe _ _ _,by decide,by decide⟩
  .obtain⟨a,r,id,hal,rfl,hlt,j1,j2,j3,j6,j9,j8,jL,jL3,jL6,hid6,hid⟩:=hJ;have hal2:s.lasts.length=a.length+r.length:=by grind
   have i3:(3:Nat)≠id:=by omega
   have i6:(6:Nat)≠id:=by omega
   obtain⟨w1,w2⟩:=bPy (f:=λx:Las=>Op.bytesLess x.user u) a r hlt;rw[<-hal]at w1 w2;cases r with
   | nil =>
     have h1:¬((a.length:Nat):Int)<((s.lasts.length:Nat):Int):=by grind
     simp only[push_cast,seval,-Nat.reducePow,j1,j2,j3,j6,j8,j9,jL,jL3,jL6,hll,h1];have hN:notS s u seq=if 60<=s.lasts.length then(s,8)else({ s with lasts:=a++[⟨u,seq⟩] },0):=by simp only[notS,h,if_false,w1,w2];simp
     have tk:zA a.length (a.map Las.v)=a.map Las.v:=zj (by simp);refine aAy (λh60=>?_) (λh60=>?_)
     .simp only[push_cast,seval,-Nat.reducePow,j1,j2,j3,j6,j8,j9,jL,jL3,jL6,hll,h1,tk,i3,i6];rw[hN,if_pos (by omega)];rfl
     .simp only[push_cast,seval,-Nat.reducePow,j1,j2,j3,j6,j8,j9,jL,jL3,jL6,hll,h1,tk,i3,i6];have tr1:zA (a.length+1) (zw Las.v a++[V.agg [V.str u,V.int IntKind.i64 seq]])=zw Las.v a++[V.agg [V.str u,V.int IntKind.i64 seq]]:=zj (by simp);have tr2:yK a.length (zA s.lasts.length (zw Las.v s.lasts))=[]:=by grind
      refine⟨by simp,by omega,by omega,by simp,by grind,?_⟩;rw[hN,if_neg (by omega),aDp,aB8 (ty:=T 38) (es:=(a++[(⟨u,seq⟩:Las)]).map Las.v) ?_ ?_ (aAw _)]
      .rfl
      .rw[aAc _ _ _ _ (by omega),aAc _ _ _ _ (by omega),aAe,tr1,tr2];simp[Las.v]
      grind
   | cons x r =>
     rw[zg]at hal2;have h1:((a.length:Nat):Int)<((s.lasts.length:Nat):Int):=by omega
     have hg:(s.lasts.map Las.v).getD a.length .junk=.agg [.str x.user,.int .i64 x.seq]:=by rw[hal];simp[ze,Las.v]
     have tk:zA a.length (a.map Las.v)=a.map Las.v:=zj (by simp);by_cases hx:Op.bytesLess x.user u=true
     .simp only[push_cast,seval,-Nat.reducePow,hx,j1,j2,j3,j6,j8,j9,jL,jL3,jL6,hll,h1,hg,tk];refine⟨by omega,by omega,by simp,by omega,⟨by omega,by omega⟩,r.length,by omega,a++[x],r,s1.nx+116,by grind,rfl,(λy hy=>?_),by simp,by simp,?_,?_,?_,by omega,by omega⟩
      .grind
      .rw[aAe];grind
      .rw[aAc _ _ _ _ i3];omega
      .rw[aAc _ _ _ _ i6];omega
     .have hx':Op.bytesLess x.user u=false:=by grind
      have d1:(x::r).takeWhile (λx=>Op.bytesLess x.user u)=[]:=by simp_all
      have d2:(x::r).dropWhile (λx=>Op.bytesLess x.user u)=x::r:=by simp_all
      simp only[push_cast,seval,-Nat.reducePow,hx',j1,j2,j3,j6,j8,j9,jL,jL3,jL6,hll,h1,hg,tk];refine⟨by omega,by omega,?_⟩;refine aAy (λhu=>?_) (λhu=>?_)
      .simp only[push_cast,seval,-Nat.reducePow,hx',hu,j1,j2,j3,j6,j8,j9,jL,jL3,jL6,hll,h1,hg,tk,i3,i6];have hN:notS s u seq=({ s with lasts:=a++⟨u,seq⟩::r },0):=by
        simp only[notS,h,if_false,w1,w2,d1,d2];grind
       have hN:notS s u seq=if(1:Nat)=0 then(s,8)else({ s with lasts:=a++⟨u,seq⟩::r },0):=by grind
       have tn:((a.length:Int)+1).toNat=a.length+1:=by omega
       have tr1:zA (a.length+1) (zw Las.v a++[V.agg [V.str u,V.int IntKind.i64 seq]])=zw Las.v a++[V.agg [V.str u,V.int IntKind.i64 seq]]:=zj (by simp);have tr2:yK ((a.length:Int)+1).toNat (zA s.lasts.length (zw Las.v s.lasts))=r.map Las.v:=by rw[tn,zj (by simp),hal,yZ,zE,<-xW,wq (by simp)];rfl
       refine⟨by simp,by omega,⟨by omega,by omega⟩,by omega,by omega,by simp,by grind,?_⟩;rw[hN,if_neg (by omega),aDp,aB8 (ty:=T 38) (es:=(a++(⟨u,seq⟩:Las)::r).map Las.v) ?_ ?_ (aAw _)]
       .rfl
       .rw[aAc _ _ _ _ (by omega),aAc _ _ _ _ (by omega),aAe,tr1,tr2];simp[Las.v]
       grind
      .simp only[push_cast,seval,-Nat.reducePow,hx',hu,j1,j2,j3,j6,j8,j9,jL,jL3,jL6,hll,h1,hg,tk,i3,i6];have hN:notS s u seq=if 60<=s.lasts.length then(s,8)else({ s with lasts:=a++⟨u,seq⟩::x::r },0):=by
        simp only[notS,h,if_false,w1,w2,d1,d2];grind
       refine aAy (λh60=>?_) (λh60=>?_)
       .simp only[push_cast,seval,-Nat.reducePow,hx',hu,j1,j2,j3,j6,j8,j9,jL,jL3,jL6,hll,h1,hg,tk,i3,i6];rw[hN,if_pos (by omega)];rfl
       .simp only[push_cast,seval,-Nat.reducePow,hx',hu,j1,j2,j3,j6,j8,j9,jL,jL3,jL6,hll,h1,hg,tk,i3,i6];have tr1:zA (a.length+1) (zw Las.v a++[V.agg [V.str u,V.int IntKind.i64 seq]])=zw Las.v a++[V.agg [V.str u,V.int IntKind.i64 seq]]:=zj (by simp);have tr2:yK a.length (zA s.lasts.length (zw Las.v s.lasts))=(x::r).map Las.v:=by grind
        refine⟨by simp,by omega,by omega,by simp,by grind,?_⟩;rw[hN,if_neg (by omega),aDp,aB8 (ty:=T 38) (es:=(a++(⟨u,seq⟩:Las)::x::r).map Las.v) ?_ ?_ (aAw _)]
        .rfl
        .rw[aAc _ _ _ _ (by omega),aAc _ _ _ _ (by omega),aAe,tr1,tr2];simp[Las.v]
        grind
theorem aX8(l:List Sto)(i:Nat):(wtoS l i).length<=l.length+1:=by
 unfold wtoS;grind
theorem bBk(l:List Sto)(p:Sto):(insS l p).length=l.length+1:=by
 unfold insS;have h:=congrArg List.length (List.takeWhile_append_dropWhile (p:=λq:Sto=>decide (cmpF q.t p.t<0)) (l:=l));grind
theorem t310(hf:bJs P F T)(h300:aH8 P F T)(h318:aI8 P F T)(h323:aRa P F T)(h324:aVc P F T)(h325:aX1 P F T){ok:Ttl->Bool}(s:Stt)(c:Chg)(seq:Int)(h327:PTr P (F 327) [tV c.to] (.str (redS ok c.to)))
 (hl:s.pages.length<=2^29) (hp:s.props.length<=2^29):PTr P (F 310) [s.v,c.v,.int .i64 seq] (outS (movS ok s c seq)):=by
 have hlen:(s.pages.map Sto.v).length=s.pages.length:=zb ..;have c1:=t300 h300 s.pages c.t (by omega);have c2:=t300 h300 s.pages c.to (by omega);refine ptrC [] hf (by simp) (aA3 _) ?_;simp only[c310,push_cast,seval,-Nat.reducePow,Stt.v,Stt.cs,Chg.v,Chg.cs,stoV,pplV,watV,lasV,revV];refine aAa c1 (by simp only[push_cast,seval,-Nat.reducePow,aAh]) (by rfl) ?_;cases hf1:aDn s.pages c.t with
 | none =>
   have hm1:(-1:Int)<0:=by decide
   simp only[push_cast,seval,-Nat.reducePow,ixI,hm1];rw[show movS ok s c seq=(s,4)from by simp[movS,hf1]];rfl
 | some i =>
   have hi:i<s.pages.length:=(aBu hf1).1;have h0:¬((i:Nat):Int)<0:=by omega
   simp only[push_cast,seval,-Nat.reducePow,ixI,h0];refine aAa c2 (by simp only[push_cast,seval,-Nat.reducePow,aAh]) (by rfl) ?_;cases hf2:aDn s.pages c.to with
   | some j =>
     have h0':(0:Int)<=((j:Nat):Int):=by omega
     simp only[push_cast,seval,-Nat.reducePow,ixI,h0'];rw[show movS ok s c seq=(s,5)from by simp[movS,hf1,hf2]];rfl
   | none =>
     have hm1:¬(0:Int)<=-1:=by decide
     have hg1:(s.pages.map Sto.v).getD i .junk=.agg [.int .i64 (s.pages.getD i zSto).t.1,.str (s.pages.getD i zSto).t.2,revV (s.pages.getD i zSto).hist]:=aIl hi;have h1v:(revV (s.pages.getD i zSto).hist).one=true:=rfl;obtain⟨p,hpp⟩:∃p,p=s.pages.getD i zSto:=⟨_,rfl⟩;have hp2:s.pages[i]?.getD zSto=p:=by grind
     rw[<-hpp]at hg1 h1v;have hwl:(wtoS s.pages i).length<=s.pages.length+1:=aX8 _ _;have hil:(insS (wtoS s.pages i) ⟨c.to,p.hist⟩).length<=s.pages.length+2:=by have:=bBk (wtoS s.pages i) ⟨c.to,p.hist⟩;omega
     by_cases hn:c.n=1
     .by_cases hpl:200<=s.pages.length
      .have hpl':(200:Int)<=((s.pages.length:Nat):Int):=by omega
       simp only[push_cast,seval,-Nat.reducePow,ixI,hm1,hn,hlen,hpl'];rw[show movS ok s c seq=(s,8)from by simp[movS,hf1,hf2,hn,hpl]];rfl
      .have hpl':¬(200:Int)<=((s.pages.length:Nat):Int):=by omega
       simp only[push_cast,seval,-Nat.reducePow,ixI,hm1,hn,hlen,hpl',hg1,h1v];refine⟨hi,aAa (t324 h324 s.pages i hi (by omega)) (by simp only[push_cast,seval,-Nat.reducePow,aAh]) (by simp only[push_cast,seval,-Nat.reducePow,aAh]) ?_⟩;simp only[push_cast,seval,-Nat.reducePow];refine aAa (t323 h323 h318 (wtoS s.pages i) ⟨c.to,p.hist⟩ (by omega)) (by simp only[push_cast,seval,-Nat.reducePow,aAh,V.imm,V.imms,Sto.v,aBd]) (by simp only[push_cast,seval,-Nat.reducePow,aAh]) ?_;simp only[push_cast,seval,-Nat.reducePow,hn];refine aAa h327 (by rfl) (by rfl) ?_;simp only[push_cast,seval,-Nat.reducePow];refine aAa (t323 h323 h318 (insS (wtoS s.pages i) ⟨c.to,p.hist⟩) ⟨c.t,[⟨1,c.user,[],redS ok c.to,s.clock,seq⟩]⟩ (by omega)) (by simp only[push_cast,seval,-Nat.reducePow,aAh]) (by simp only[push_cast,seval,-Nat.reducePow,aAh]) ?_;simp only[push_cast,seval,-Nat.reducePow];refine aAa (t325 h325 s.props c.t (by omega)) (by simp only[push_cast,seval,-Nat.reducePow,aAo]) (by simp only[push_cast,seval,-Nat.reducePow,aAo]) ?_;simp only[push_cast,seval,-Nat.reducePow];rw[show movS ok s c seq=({ s with pages:=insS (insS (wtoS s.pages i) ⟨c.to,p.hist⟩) ⟨c.t,[⟨1,c.user,[],redS ok c.to,s.clock,seq⟩]⟩,props:=aC4 s.props c.t },0)from by simp[movS,hf1,hf2,hn,hpl,hp2]];rfl
     .simp only[push_cast,seval,-Nat.reducePow,ixI,hm1,hn,hlen,hg1,h1v];refine⟨hi,aAa (t324 h324 s.pages i hi (by omega)) (by simp only[push_cast,seval,-Nat.reducePow,aAh]) (by simp only[push_cast,seval,-Nat.reducePow,aAh]) ?_⟩;simp only[push_cast,seval,-Nat.reducePow];refine aAa (t323 h323 h318 (wtoS s.pages i) ⟨c.to,p.hist⟩ (by omega)) (by simp only[push_cast,seval,-Nat.reducePow,aAh,V.imm,V.imms,Sto.v,aBd]) (by simp only[push_cast,seval,-Nat.reducePow,aAh]) ?_;simp only[push_cast,seval,-Nat.reducePow,hn];refine aAa (t325 h325 s.props c.t (by omega)) (by simp only[push_cast,seval,-Nat.reducePow,aAo]) (by simp only[push_cast,seval,-Nat.reducePow,aAo]) ?_;simp only[push_cast,seval,-Nat.reducePow];rw[show movS ok s c seq=({ s with pages:=insS (wtoS s.pages i) ⟨c.to,p.hist⟩,props:=aC4 s.props c.t },0)from by simp[movS,hf1,hf2,hn, hp2]];rfl
theorem t315(hf:aZi P F T):PTr P (F 315) [] (tV polT):=by
 refine ptrC [] hf (by simp) rfl ?_;simp only[c315,push_cast,seval,-Nat.reducePow];exact aAb 3 _ rfl
theorem t319(hf:bLk P F T){nm:List UInt8->Bool}(s:List UInt8)(h217:PTr P (F 217) [.str s] (.bool (nm s))):PTr P (F 319) [.str s] (.bool (decide (s=[])||nm s)):=by
 refine ptrC [] hf (by simp) rfl ?_;by_cases h:s=[]
 .simp only[c319,push_cast,seval,-Nat.reducePow,h];exact aAb 3 _ rfl
 .simp only[c319,push_cast,seval,-Nat.reducePow,h];refine aAa h217 (by simp only[push_cast,seval,-Nat.reducePow]) (by simp only[push_cast,seval,-Nat.reducePow]) ?_;simp only[push_cast,seval,-Nat.reducePow];exact aAb 3 _ rfl
theorem t320(hf:aXo P F T)(h318:aI8 P F T)(a b:Wat):PTr P (F 320) [a.v,b.v] (.bool (befW a b)):=by
 refine ptrC [] hf (by simp) rfl ?_;have hc:=t318 h318 a.t b.t;by_cases h:Op.bytesLess a.user b.user=true
 .simp only[c320,push_cast,seval,-Nat.reducePow,Wat.v,h];rw[show befW a b=true from by simp[befW,h]];exact aAb 3 _ rfl
 .have h':Op.bytesLess a.user b.user=false:=by simpa using h
  by_cases hu:a.user=b.user
  .have h2:Op.bytesLess b.user b.user=false:=by rw[<-hu,hu];rw[hu]at h';exact h'
   simp only[c320,push_cast,seval,-Nat.reducePow,Wat.v,h',h2,hu];refine aAa hc (by simp only[push_cast,seval,-Nat.reducePow]) (by simp only[push_cast,seval,-Nat.reducePow]) ?_;simp only[push_cast,seval,-Nat.reducePow];rw[show befW a b=decide (cmpF a.t b.t<0)from by simp[befW,h',hu,h2]];exact aAb 3 _ rfl
  .simp only[c320,push_cast,seval,-Nat.reducePow,Wat.v,h',hu];rw[show befW a b=false from by simp[befW,h',hu]];exact aAb 3 _ rfl
theorem bGt{x:Wat}{u:List UInt8}{t:Ttl}(h:x≠⟨u,t⟩):(decide (x.user=u)&&(decide (x.t.1=t.1)&&decide (x.t.2=t.2)))=false:=by
 cases hd:(decide (x.user=u)&&(decide (x.t.1=t.1)&&decide (x.t.2=t.2)))with
 | false=>rfl
 | true=>simp only[Bool.and_eq_true,decide_eq_true_eq]at hd;obtain⟨q1,q2,q3⟩:=hd;refine absurd ?_ h;rw[<-q1,<-(Prod.ext q2 q3:x.t=t)]
theorem t312(hf:bJg P F T)(h318:aI8 P F T)(h320:aXo P F T)(s:Stt)(c:Chg)(hl:s.watches.length<=2^29):PTr P (F 312) [s.v,c.v] (outS (wtcS s c)):=by
 have hlw:(s.watches.map Wat.v).length=s.watches.length:=zb ..;obtain⟨w,hw⟩:∃w:Wat,w=⟨c.user,c.t⟩:=⟨_,rfl⟩;have wu:w.user=c.user:=by rw[hw]
 have wt:w.t=c.t:=by rw[hw]
 refine ptrC [] hf (by simp) (aA3 _) ?_;simp only[c312,push_cast,seval,-Nat.reducePow,Stt.v,Stt.cs,Chg.v,Chg.cs,stoV,pplV,watV,lasV,revV];refine aAd (λm s1=>∃a r id,s.watches=a++r∧m=r.length∧(∀x,x∈a->befW x w=true)∧s1.env 2=.ptr 2 0∧s1.env 3=.ptr 3 0∧s1.env 4=.ptr 4 0∧s1.env 6=.ptr 92 0∧s1.env 8=.int .i64 a.length∧s1.env 7=.own id 3 0 a.length∧s1.L id=some (.vec (T 40) 3 (a.map Wat.v)) ∧
  s1.L 2=some (.box (T 34) [V.int IntKind.i64 s.seq,V.int IntKind.i64 s.clock,V.lst 3 (zw Sto.v s.pages),V.lst 3 (zw Sto.v s.gone),V.lst 8 (zw Ppl.v s.props),V.int IntKind.i64 s.proposed,V.lst 3 (zw Wat.v s.watches),V.lst 2 (zw Las.v s.lasts)]) ∧
  s1.L 3=some (.box (T 37) [V.int IntKind.i64 c.kind,V.str c.user,V.str c.note,V.int IntKind.i64 c.t.fst,V.str c.t.snd,V.int IntKind.i64 c.to.fst,V.str c.to.snd,V.str c.text,V.int IntKind.i64 c.n,V.lst 6 (zw Rev.v c.hist)]) ∧
  s1.L 4=some (.box (T 34) [V.int IntKind.i64 0,V.int IntKind.i64 0,V.nils,V.nils,V.nils,V.int IntKind.i64 0,V.nils,V.nils]) ∧
  s1.L 92=some (.box (T 40) [V.str c.user,V.int IntKind.i64 c.t.fst,V.str c.t.snd])∧92<id∧id<s1.nx) s.watches.length ?_ λm s1 hJ=>?_
 .simp only[push_cast,seval,-Nat.reducePow];exact⟨[],s.watches,258,rfl,rfl,(by simp),rfl,rfl,aAe _ _ _,by decide,by decide⟩
 .obtain⟨a,r,id,hal,rfl,hlt,j2,j3,j4,j6,j8,j7,jL,jL2,jL3,jL4,jL6,hid6,hid⟩:=hJ;have hal2:s.watches.length=a.length+r.length:=by grind
  have i2:(2:Nat)≠id:=by omega
  have i3:(3:Nat)≠id:=by omega
  have i4:(4:Nat)≠id:=by omega
  have i6:(92:Nat)≠id:=by omega
  obtain⟨w1,w2⟩:=bPy (f:=λx:Wat=>befW x w) a r hlt;rw[<-hal]at w1 w2;have tk:zA a.length (a.map Wat.v)=a.map Wat.v:=zj (by simp);cases r with
  | nil =>
    have h1:¬((a.length:Nat):Int)<((s.watches.length:Nat):Int):=by grind
    simp only[push_cast,seval,-Nat.reducePow,j2,j3,j4,j6,j7,j8,jL,jL2,jL3,jL4,jL6,hlw,h1,i2,i3,i4,i6];refine aAy (λh8=>?_) (λh8=>?_)
    .simp only[push_cast,seval,-Nat.reducePow,j2,j3,j4,j6,j7,j8,jL,jL2,jL3,jL4,jL6,hlw,h1,tk,i2,i3,i4,i6];rw[show wtcS s c=(s,4)from by
      simp only[wtcS,<-hw,w1,w2,h8];simp]
     rfl
    .simp only[push_cast,seval,-Nat.reducePow,j2,j3,j4,j6,j7,j8,jL,jL2,jL3,jL4,jL6,hlw,h1,tk,i2,i3,i4,i6];refine aAy (λh100=>?_) (λh100=>?_)
     .simp only[push_cast,seval,-Nat.reducePow,j2,j3,j4,j6,j7,j8,jL,jL2,jL3,jL4,jL6,hlw,h1,tk,i2,i3,i4,i6];rw[show wtcS s c=(s,8)from by
       simp only[wtcS,<-hw,w1,w2,h8];simp;omega]
      rfl
     .simp only[push_cast,seval,-Nat.reducePow,j2,j3,j4,j6,j7,j8,jL,jL2,jL3,jL4,jL6,hlw,h1,tk,i2,i3,i4,i6];have tr1:zA (a.length+1) (zw Wat.v a++[V.agg [V.str c.user,V.int IntKind.i64 c.t.fst,V.str c.t.snd]])=zw Wat.v a++[V.agg [V.str c.user,V.int IntKind.i64 c.t.fst,V.str c.t.snd]]:=zj (by simp);have tr2:yK a.length (zA s.watches.length (zw Wat.v s.watches))=[]:=by grind
      rw[show wtcS s c=({ s with watches:=a++[w] },0)from by simp only[wtcS,<-hw,w1,w2,h8];simp;omega]
      refine⟨by simp,by omega,by omega,by omega,by simp,by grind,?_⟩;rw[aDp,aB8 (ty:=T 40) (es:=(a++[w]).map Wat.v) ?_ ?_ (aAv _)]
      .rfl
      .rw[aAc _ _ _ _ (by omega),aAc _ _ _ _ (by omega),aAe,tr1,tr2];simp[Wat.v,wu,wt]
      grind
  | cons x r =>
    rw[zg]at hal2;have h1:((a.length:Nat):Int)<((s.watches.length:Nat):Int):=by omega
    have hg:(s.watches.map Wat.v).getD a.length .junk=.agg [.str x.user,.int .i64 x.t.1,.str x.t.2]:=by rw[hal];simp[ze,Wat.v]
    have hb:=t320 h320 h318 x w;rw[hw]at hb;simp only[push_cast,seval,-Nat.reducePow,j2,j3,j4,j6,j7,j8,jL,jL2,jL3,jL4,jL6,hlw,h1,hg,i2,i3,i4,i6];refine⟨by omega,aAa hb (by rfl) (by rfl) ?_⟩;rw[<-hw];cases hx:befW x w with
    | true =>
      simp only[push_cast,seval,-Nat.reducePow,hx,j2,j3,j4,j6,j7,j8,jL,jL2,jL3,jL4,jL6,hlw,h1,hg,tk,i2,i3,i4,i6];refine⟨by omega,by simp,by omega,⟨by omega,by omega⟩,r.length,by omega,a++[x],r,s1.nx+122,by grind,rfl,(λy hy=>?_),by simp,by simp,?_,by omega,by omega⟩
      .grind
      .rw[aAe];grind
    | false =>
      simp only[push_cast,seval,-Nat.reducePow,hx,j2,j3,j4,j6,j7,j8,jL,jL2,jL3,jL4,jL6,hlw,h1,hg,tk,i2,i3,i4,i6];refine⟨by omega,?_⟩;have d1:(x::r).takeWhile (λx=>befW x w)=[]:=by simp_all
      have d2:(x::r).dropWhile (λx=>befW x w)=x::r:=by simp_all
      refine aAy (λh8=>?_) (λh8=>?_)
      .by_cases hxw:x=w
       .have e1:x.user=c.user:=by grind
        have e2:x.t.1=c.t.1:=by grind
        have e3:x.t.2=c.t.2:=by grind
        simp only[push_cast,seval,-Nat.reducePow,e1,e2,e3,hx,j2,j3,j4,j6,j7,j8,jL,jL2,jL3,jL4,jL6,hlw,h1,hg,tk,i2,i3,i4,i6];have tn:((a.length:Int)+1).toNat=a.length+1:=by omega
        have tr2:yK ((a.length:Int)+1).toNat (zA s.watches.length (zw Wat.v s.watches))=r.map Wat.v:=by rw[tn,zj (by simp),hal,yZ,zE,<-xW,wq (by simp)];rfl
        rw[show wtcS s c=({ s with watches:=a++r },0)from by simp only[wtcS,<-hw,w1,w2,d1,d2,h8];grind]
        refine⟨⟨by omega,by omega⟩,by omega,by omega,by simp,by grind,?_⟩;rw[aDp,aB8 (ty:=T 40) (es:=(a++r).map Wat.v) ?_ ?_ (aAv _)]
        .rfl
        .rw[aAc _ _ _ _ (by omega),aAc _ _ _ _ (by omega),aAe,tr2];simp
        grind
       .have hd:(decide (x.user=c.user)&&(decide (x.t.1=c.t.1)&&decide (x.t.2=c.t.2)))=false:=bGt (by grind);simp only[push_cast,seval,-Nat.reducePow,hd,hx,j2,j3,j4,j6,j7,j8,jL,jL2,jL3,jL4,jL6,hlw,h1,hg,tk,i2,i3,i4,i6];rw[show wtcS s c=(s,4)from by
         simp only[wtcS,<-hw,w1,w2,d1,d2,h8];grind]
        rfl
      .by_cases hxw:x=w
       .have e1:x.user=c.user:=by grind
        have e2:x.t.1=c.t.1:=by grind
        have e3:x.t.2=c.t.2:=by grind
        simp only[push_cast,seval,-Nat.reducePow,e1,e2,e3,hx,j2,j3,j4,j6,j7,j8,jL,jL2,jL3,jL4,jL6,hlw,h1,hg,tk,i2,i3,i4,i6];rw[show wtcS s c=(s,5)from by simp only[wtcS,<-hw,w1,w2,d1,d2,h8];grind]
        rfl
       .have hd:(decide (x.user=c.user)&&(decide (x.t.1=c.t.1)&&decide (x.t.2=c.t.2)))=false:=bGt (by grind);simp only[push_cast,seval,-Nat.reducePow,hd,hx,j2,j3,j4,j6,j7,j8,jL,jL2,jL3,jL4,jL6,hlw,h1,hg,tk,i2,i3,i4,i6];refine aAy (λh100=>?_) (λh100=>?_)
        .simp only[push_cast,seval,-Nat.reducePow,hx,j2,j3,j4,j6,j7,j8,jL,jL2,jL3,jL4,jL6,hlw,h1,tk,i2,i3,i4,i6];rw[show wtcS s c=(s,8)from by
          simp only[wtcS,<-hw,w1,w2,d1,d2,h8];grind]
         rfl
        .simp only[push_cast,seval,-Nat.reducePow,hx,j2,j3,j4,j6,j7,j8,jL,jL2,jL3,jL4,jL6,hlw,h1,tk,i2,i3,i4,i6];have tr1:zA (a.length+1) (zw Wat.v a++[V.agg [V.str c.user,V.int IntKind.i64 c.t.fst,V.str c.t.snd]])=zw Wat.v a++[V.agg [V.str c.user,V.int IntKind.i64 c.t.fst,V.str c.t.snd]]:=zj (by simp);have tr2:yK a.length (zA s.watches.length (zw Wat.v s.watches))=(x::r).map Wat.v:=by grind
         rw[show wtcS s c=({ s with watches:=a++w::x::r },0)from by simp only[wtcS,<-hw,w1,w2,d1,d2,h8];simp[hxw];omega]
         refine⟨by simp,by omega,by omega,by omega,by simp,by grind,?_⟩;rw[aDp,aB8 (ty:=T 40) (es:=(a++w::x::r).map Wat.v) ?_ ?_ (aAv _)]
         .rfl
         .rw[aAc _ _ _ _ (by omega),aAc _ _ _ _ (by omega),aAe,tr1,tr2];simp[Wat.v,wu,wt]
         grind
theorem aBx(l:List Rev):V.imms (l.map Rev.v)=true:=aA2 _ _ λ_=>rfl
theorem bNk(c:Chg):c.v=.agg [V.int IntKind.i64 c.kind,V.str c.user,V.str c.note,V.int IntKind.i64 c.t.fst,V.str c.t.snd,V.int IntKind.i64 c.to.fst,V.str c.to.snd,V.str c.text,V.int IntKind.i64 c.n,V.lst 6 (zw Rev.v c.hist)]:=rfl
theorem t296(hf:bHz P F T){ok:Ttl->Bool}(s:Stt)(c:Chg)(seq:Int)
 (h307:c.kind=1->PTr P (F 307) [s.v,c.v,.int .i64 seq] (outS (putS s c seq))) (h308:c.kind=2->PTr P (F 308) [s.v,c.v] (outS (remS s c))) (h309:c.kind=3->PTr P (F 309) [s.v,c.v] (outS (resS s c)))
 (h310:c.kind=4->PTr P (F 310) [s.v,c.v,.int .i64 seq] (outS (movS ok s c seq))) (h311:c.kind=5->PTr P (F 311) [s.v,c.v,.int .i64 seq] (outS (takS s c seq)))
 (h312:c.kind=7∨c.kind=8->PTr P (F 312) [s.v,c.v] (outS (wtcS s c))) (h313:c.kind=9->PTr P (F 313) [s.v,c.v] (outS (prpS s c))) (h314:PTr P (F 314) [s.v,c.v] (outS (shtS s c)))
 (hc1:0<=s.clock) (hc2:s.clock<=52595999) (hn6:c.kind=6->0<=c.n):PTr P (F 296) [s.v,c.v,.int .i64 seq] (outS (aBs ok s c seq)):=by
 refine ptrC [] hf (by simp) (aA3 _) ?_;by_cases k1:c.kind=1
 .obtain⟨kd,cu,cn,ct,cto,ctx,cnn,ch⟩:=c;obtain rfl:kd=1:=k1;have h:=h307 rfl;rw[show aBs ok s ⟨1,cu,cn,ct,cto,ctx,cnn,ch⟩ seq=putS s ⟨1,cu,cn,ct,cto,ctx,cnn,ch⟩ seq from rfl];simp only[c296,push_cast,seval,-Nat.reducePow,Stt.v,Stt.cs,Chg.v,Chg.cs,stoV,pplV,watV,lasV,revV];refine aAa h (by simp only[push_cast,seval,-Nat.reducePow,V.imm,V.imms,aAh,aAo,aAv,aAw,aBx]) (aA3 _) ?_;simp only[push_cast,seval,-Nat.reducePow,outS,Stt.v,Stt.cs,stoV,pplV,watV,lasV];rfl
 by_cases k2:c.kind=2
 .obtain⟨kd,cu,cn,ct,cto,ctx,cnn,ch⟩:=c;obtain rfl:kd=2:=k2;have h:=h308 rfl;rw[show aBs ok s ⟨2,cu,cn,ct,cto,ctx,cnn,ch⟩ seq=remS s ⟨2,cu,cn,ct,cto,ctx,cnn,ch⟩from rfl];simp only[c296,push_cast,seval,-Nat.reducePow,Stt.v,Stt.cs,Chg.v,Chg.cs,stoV,pplV,watV,lasV,revV];refine aAa h (by simp only[push_cast,seval,-Nat.reducePow,V.imm,V.imms,aAh,aAo,aAv,aAw,aBx]) (aA3 _) ?_;simp only[push_cast,seval,-Nat.reducePow,outS,Stt.v,Stt.cs,stoV,pplV,watV,lasV];rfl
 by_cases k3:c.kind=3
 .obtain⟨kd,cu,cn,ct,cto,ctx,cnn,ch⟩:=c;obtain rfl:kd=3:=k3;have h:=h309 rfl;rw[show aBs ok s ⟨3,cu,cn,ct,cto,ctx,cnn,ch⟩ seq=resS s ⟨3,cu,cn,ct,cto,ctx,cnn,ch⟩from rfl];simp only[c296,push_cast,seval,-Nat.reducePow,Stt.v,Stt.cs,Chg.v,Chg.cs,stoV,pplV,watV,lasV,revV];refine aAa h (by simp only[push_cast,seval,-Nat.reducePow,V.imm,V.imms,aAh,aAo,aAv,aAw,aBx]) (aA3 _) ?_;simp only[push_cast,seval,-Nat.reducePow,outS,Stt.v,Stt.cs,stoV,pplV,watV,lasV];rfl
 by_cases k4:c.kind=4
 .obtain⟨kd,cu,cn,ct,cto,ctx,cnn,ch⟩:=c;obtain rfl:kd=4:=k4;have h:=h310 rfl;rw[show aBs ok s ⟨4,cu,cn,ct,cto,ctx,cnn,ch⟩ seq=movS ok s ⟨4,cu,cn,ct,cto,ctx,cnn,ch⟩ seq from rfl];simp only[c296,push_cast,seval,-Nat.reducePow,Stt.v,Stt.cs,Chg.v,Chg.cs,stoV,pplV,watV,lasV,revV];refine aAa h (by simp only[push_cast,seval,-Nat.reducePow,V.imm,V.imms,aAh,aAo,aAv,aAw,aBx]) (aA3 _) ?_;simp only[push_cast,seval,-Nat.reducePow,outS,Stt.v,Stt.cs,stoV,pplV,watV,lasV];rfl
 by_cases k5:c.kind=5
 .obtain⟨kd,cu,cn,ct,cto,ctx,cnn,ch⟩:=c;obtain rfl:kd=5:=k5;have h:=h311 rfl;rw[show aBs ok s ⟨5,cu,cn,ct,cto,ctx,cnn,ch⟩ seq=takS s ⟨5,cu,cn,ct,cto,ctx,cnn,ch⟩ seq from rfl];simp only[c296,push_cast,seval,-Nat.reducePow,Stt.v,Stt.cs,Chg.v,Chg.cs,stoV,pplV,watV,lasV,revV];refine aAa h (by simp only[push_cast,seval,-Nat.reducePow,V.imm,V.imms,aAh,aAo,aAv,aAw,aBx]) (aA3 _) ?_;simp only[push_cast,seval,-Nat.reducePow,outS,Stt.v,Stt.cs,stoV,pplV,watV,lasV];rfl
 by_cases k6:c.kind=6
 .obtain⟨kd,cu,cn,ct,cto,ctx,cnn,ch⟩:=c;obtain rfl:kd=6:=k6;simp only[c296,push_cast,seval,-Nat.reducePow,Stt.v,Stt.cs,Chg.v,Chg.cs,stoV,pplV,watV,lasV,revV];refine⟨⟨by omega,by omega⟩,aAy (λh=>?_) (λh=>?_)⟩
  .simp only[push_cast,seval,-Nat.reducePow,outS,Stt.v,Stt.cs,stoV,pplV,watV,lasV];rw[show aBs ok s ⟨6,cu,cn,ct,cto,ctx,cnn,ch⟩ seq=(s,2)from by simp[aBs,h]];rfl
  .simp only[push_cast,seval,-Nat.reducePow,outS,Stt.v,Stt.cs,stoV,pplV,watV,lasV];rw[show aBs ok s ⟨6,cu,cn,ct,cto,ctx,cnn,ch⟩ seq=({ s with clock:=s.clock+cnn },0)from by simp[aBs,h]];have hn:=hn6 rfl;simp only at hn;exact⟨⟨by omega,by omega⟩,aAb 3 _ (aA3 ({ s with clock:=s.clock+cnn },0))⟩
 by_cases k7:c.kind=7
 .obtain⟨kd,cu,cn,ct,cto,ctx,cnn,ch⟩:=c;obtain rfl:kd=7:=k7;have h:=h312 (.inl rfl);rw[show aBs ok s ⟨7,cu,cn,ct,cto,ctx,cnn,ch⟩ seq=wtcS s ⟨7,cu,cn,ct,cto,ctx,cnn,ch⟩from rfl];simp only[c296,push_cast,seval,-Nat.reducePow,Stt.v,Stt.cs,Chg.v,Chg.cs,stoV,pplV,watV,lasV,revV];refine aAa h (by simp only[push_cast,seval,-Nat.reducePow,V.imm,V.imms,aAh,aAo,aAv,aAw,aBx]) (aA3 _) ?_;simp only[push_cast,seval,-Nat.reducePow,outS,Stt.v,Stt.cs,stoV,pplV,watV,lasV];rfl
 by_cases k8:c.kind=8
 .obtain⟨kd,cu,cn,ct,cto,ctx,cnn,ch⟩:=c;obtain rfl:kd=8:=k8;have h:=h312 (.inr rfl);rw[show aBs ok s ⟨8,cu,cn,ct,cto,ctx,cnn,ch⟩ seq=wtcS s ⟨8,cu,cn,ct,cto,ctx,cnn,ch⟩from rfl];simp only[c296,push_cast,seval,-Nat.reducePow,Stt.v,Stt.cs,Chg.v,Chg.cs,stoV,pplV,watV,lasV,revV];refine aAa h (by simp only[push_cast,seval,-Nat.reducePow,V.imm,V.imms,aAh,aAo,aAv,aAw,aBx]) (aA3 _) ?_;simp only[push_cast,seval,-Nat.reducePow,outS,Stt.v,Stt.cs,stoV,pplV,watV,lasV];rfl
 by_cases k9:c.kind=9
 .obtain⟨kd,cu,cn,ct,cto,ctx,cnn,ch⟩:=c;obtain rfl:kd=9:=k9;have h:=h313 rfl;rw[show aBs ok s ⟨9,cu,cn,ct,cto,ctx,cnn,ch⟩ seq=prpS s ⟨9,cu,cn,ct,cto,ctx,cnn,ch⟩from rfl];simp only[c296,push_cast,seval,-Nat.reducePow,Stt.v,Stt.cs,Chg.v,Chg.cs,stoV,pplV,watV,lasV,revV];refine aAa h (by simp only[push_cast,seval,-Nat.reducePow,V.imm,V.imms,aAh,aAo,aAv,aAw,aBx]) (aA3 _) ?_;simp only[push_cast,seval,-Nat.reducePow,outS,Stt.v,Stt.cs,stoV,pplV,watV,lasV];rfl
 rw[show aBs ok s c seq=shtS s c from by simp[aBs,k1,k2,k3,k4,k5,k6,k7,k8,k9]];simp only[c296,push_cast,seval,-Nat.reducePow,k1,k2,k3,k4,k5,k6,k7,k8,k9,Stt.v,Stt.cs,Chg.v,Chg.cs,stoV,pplV,watV,lasV,revV];refine aAa h314 (by simp only[push_cast,seval,-Nat.reducePow,V.imm,V.imms,aAh,aAo,aAv,aAw,aBx]) (aA3 _) ?_;simp only[push_cast,seval,-Nat.reducePow,outS,Stt.v,Stt.cs,stoV,pplV,watV,lasV];rfl
def aD5(pol:List UInt8->Bool)(c:Chg):Bool:=
 if c.kind=1 then(if c.t=polT then !pol c.text else false)else if c.kind=2∨c.kind=3∨c.kind=5 then decide (c.t=polT)else if c.kind=4 then decide (c.t=polT)||decide (c.to=polT)else false
theorem aGz(t:Ttl):decide (t=polT)=(decide (t.1=5)&&decide (t.2=[80,111,108,105,99,121])):=by
 obtain⟨a,b⟩:=t;simp[polT,Prod.ext_iff]
theorem t297(hf:bHt P F T)(h315:aZi P F T){pol:List UInt8->Bool}(c:Chg)(h316:c.t=polT->∃x y z n e,PTr P (F 316) [.str c.text] (.tup [.agg [x,y,z],.int .i64 n,.int .i64 e])∧x.imm=true∧y.imm=true∧z.imm=true∧(x.one&&(y.one&&z.one))=true∧(pol c.text=true↔e=0)):PTr P (F 297) [c.v] (.bool (aD5 pol c)):=by
 have hp:=t315 h315;refine ptrC [] hf (by simp) rfl ?_;by_cases k1:c.kind=1
 .simp only[c297,push_cast,seval,-Nat.reducePow,Chg.v,Chg.cs,revV,k1];refine aAa hp (by simp only[push_cast,seval,-Nat.reducePow]) (by simp only[push_cast,seval,-Nat.reducePow,tV,tCs]) ?_;simp only[push_cast,seval,-Nat.reducePow,tV,tCs,polT];by_cases ht:c.t=polT
  .have e1:c.t.1=5:=by rw[ht];rfl
   have e2:c.t.2=[80,111,108,105,99,121]:=by rw[ht];rfl
   obtain⟨x,y,z,n,e,h316,ix,iy,iz,ho,he⟩:=h316 ht;simp only[push_cast,seval,-Nat.reducePow,e1,e2];refine aAa h316 (by simp only[push_cast,seval,-Nat.reducePow]) (by simp only[V.imm,V.imms,ix,iy,iz,Bool.and_self]) ?_;by_cases h0:e=0
   .simp only[push_cast,seval,-Nat.reducePow,h0];rw[show aD5 pol c=false from by simp[aD5,k1,ht,he.2 h0]];exact⟨if_pos ho,aAb 3 _ (by rfl)⟩
   .simp only[push_cast,seval,-Nat.reducePow,h0];rw[show aD5 pol c=true from by
     have:pol c.text=false:=by
      cases hpc:pol c.text with
      | false=>rfl
      | true=>exact absurd (he.1 hpc) h0
     simp[aD5,k1,ht,this]]
    exact⟨if_pos ho,aAb 3 _ (by rfl)⟩
  .have hd:=aGz c.t;rw[decide_eq_false ht]at hd;simp only[push_cast,seval,-Nat.reducePow,<-hd];rw[show aD5 pol c=false from by simp[aD5,k1,ht]];exact aAb 3 _ rfl
 by_cases k2:c.kind=2
 .simp only[c297,push_cast,seval,-Nat.reducePow,Chg.v,Chg.cs,revV,k1,k2];refine aAa hp (by simp only[push_cast,seval,-Nat.reducePow]) (by simp only[push_cast,seval,-Nat.reducePow,tV,tCs]) ?_;simp only[push_cast,seval,-Nat.reducePow,tV,tCs,polT];rw[show aD5 pol c=(decide (c.t.1=5)&&decide (c.t.2=[80,111,108,105,99,121]))from by rw[<-aGz];simp[aD5,k2]];exact aAb 3 _ rfl
 by_cases k3:c.kind=3
 .simp only[c297,push_cast,seval,-Nat.reducePow,Chg.v,Chg.cs,revV,k1,k2,k3];refine aAa hp (by simp only[push_cast,seval,-Nat.reducePow]) (by simp only[push_cast,seval,-Nat.reducePow,tV,tCs]) ?_;simp only[push_cast,seval,-Nat.reducePow,tV,tCs,polT];rw[show aD5 pol c=(decide (c.t.1=5)&&decide (c.t.2=[80,111,108,105,99,121]))from by rw[<-aGz];simp[aD5,k3]];exact aAb 3 _ rfl
 by_cases k5:c.kind=5
 .simp only[c297,push_cast,seval,-Nat.reducePow,Chg.v,Chg.cs,revV,k1,k2,k3,k5];refine aAa hp (by simp only[push_cast,seval,-Nat.reducePow]) (by simp only[push_cast,seval,-Nat.reducePow,tV,tCs]) ?_;simp only[push_cast,seval,-Nat.reducePow,tV,tCs,polT];rw[show aD5 pol c=(decide (c.t.1=5)&&decide (c.t.2=[80,111,108,105,99,121]))from by rw[<-aGz];simp[aD5,k5]];exact aAb 3 _ rfl
 by_cases k4:c.kind=4
 .simp only[c297,push_cast,seval,-Nat.reducePow,Chg.v,Chg.cs,revV,k1,k2,k3,k5,k4];refine aAa hp (by simp only[push_cast,seval,-Nat.reducePow]) (by simp only[push_cast,seval,-Nat.reducePow,tV,tCs]) ?_;simp only[push_cast,seval,-Nat.reducePow,tV,tCs,polT];by_cases ht:c.t=polT
  .have hd:=aGz c.t;rw[decide_eq_true ht]at hd;simp only[push_cast,seval,-Nat.reducePow,<-hd];rw[show aD5 pol c=true from by simp[aD5,k4,ht]];exact aAb 3 _ rfl
  .have hd:=aGz c.t;rw[decide_eq_false ht]at hd;simp only[push_cast,seval,-Nat.reducePow,<-hd];refine aAa hp (by simp only[push_cast,seval,-Nat.reducePow]) (by simp only[push_cast,seval,-Nat.reducePow,tV,tCs]) ?_;simp only[push_cast,seval,-Nat.reducePow,tV,tCs,polT];rw[show aD5 pol c=(decide (c.to.1=5)&&decide (c.to.2=[80,111,108,105,99,121]))from by rw[<-aGz];simp[aD5,k4,ht]];exact aAb 3 _ rfl
 simp only[c297,push_cast,seval,-Nat.reducePow,Chg.v,Chg.cs,revV,k1,k2,k3,k5,k4];rw[show aD5 pol c=false from by simp[aD5,k1,k2,k3,k5,k4]];exact aAb 3 _ rfl
end Go.Ab
