/- Several texts of one kind, merged. No condition. -/
import Derived.Test.YtikmbicdjpkipaaGreatDoorAbJ1
set_option linter.unusedSimpArgs false
set_option linter.unusedVariables false
namespace Go.Ab
variable {P:Program} {F T:Nat→Nat}
theorem aP9 {l:List Sto} {t:Ttl}:∀ {k i:Nat},aJl l t k=some i→i<k
 | 0,i,h=>by cases h
 | k+1,i,h=>by
   rw [aJl] at h
   split at h
   ·cases h; omega
   ·have:=aP9 h; omega
theorem t326 (hf:bAq P F T) (s:Stt) (t:Ttl) (hl:s.gone.length≤2^30):PTr P (F 326) [s.v,tV t] (.int .i64 (ixI (aMp s.gone t))):=by
 obtain ⟨t1,t2⟩:=t
 have hlen:(s.gone.map Sto.v).length=s.gone.length:=List.length_map ..
 refine ptrC [] hf (by simp) rfl ?_
 simp only [c326,push_cast,seval,-Nat.reducePow,Stt.v,Stt.cs,tV,tCs,stoV,pplV,watV,lasV]
 refine ⟨by omega,aAm (fun m s1=>m≤s.gone.length∧aJl s.gone (t1,t2) s.gone.length=aJl s.gone (t1,t2) m∧s1.env 2=.ptr 2 0∧s1.env 3=.ptr 3 0∧s1.env 5=.int .i64 ((m:Int)-1)∧s1.L 2=some (.box (T 34) [V.int IntKind.i64 s.seq,V.int IntKind.i64 s.clock,V.lst 3 (List.map Sto.v s.pages),V.lst 3 (List.map Sto.v s.gone),V.lst 8 (List.map Ppl.v s.props),V.int IntKind.i64 s.proposed,V.lst 3 (List.map Wat.v s.watches),V.lst 2 (List.map Las.v s.lasts)])∧s1.L 3=some (.box (T 17) [.int .i64 t1,.str t2])) s.gone.length ?_ fun m s1 hJ=>?_⟩
 ·simp only [push_cast,seval,-Nat.reducePow,hlen]
 ·obtain ⟨hm,hgn,j2,j3,j5,jL2,jL3⟩:=hJ
  cases m with
  | zero =>
    have h1:¬ (0:Int)≤((0:Nat):Int)-1:=by omega
    simp only [push_cast,seval,-Nat.reducePow,j2,j3,j5,jL2,jL3,h1]
    rw [aMp,hgn]
    exact aAc 3 _ rfl
  | succ k =>
    have h1:(0:Int)≤((k+1:Nat):Int)-1:=by omega
    have e1:(((k+1:Nat):Int)-1).toNat=k:=by omega
    have hg:(s.gone.map Sto.v).getD k .junk=.agg [.int .i64 (s.gone.getD k zSto).t.1,.str (s.gone.getD k zSto).t.2,revV (s.gone.getD k zSto).hist]:=aGp (by omega)
    obtain ⟨p,hp⟩:∃ p,p=s.gone.getD k zSto:=⟨_,rfl⟩
    rw [← hp] at hg
    rw [aJl,← hp] at hgn
    have e2:(((k+1:Nat):Int)-1)=(k:Nat):=by omega
    rw [e2] at j5 h1
    have e3:((k:Nat):Int).toNat=k:=rfl
    simp only [push_cast,seval,-Nat.reducePow,j2,j3,j5,jL2,jL3,h1,e3,hg,hlen]
    refine ⟨by omega,?_⟩
    by_cases hpt:p.t=(t1,t2)
    ·have hd:(decide (p.t.1=t1)&&decide (p.t.2=t2))=true:=by simp [hpt]
     rw [if_pos hpt] at hgn
     simp only [push_cast,seval,-Nat.reducePow,hd,j5]
     rw [aMp,hgn]
     exact aAc 3 _ rfl
    ·have hd:(decide (p.t.1=t1)&&decide (p.t.2=t2))=false:=by
      simp only [Bool.and_eq_false_iff,decide_eq_false_iff_not]
      by_cases h:p.t.1=t1
      ·exact .inr fun h2=>hpt (by rw [← h,← h2])
      ·exact .inl h
     rw [if_neg hpt] at hgn
     simp only [push_cast,seval,-Nat.reducePow,hd,j2,j3,j5,jL2,jL3]
     exact ⟨⟨by omega,by omega⟩,k,by omega,by omega,hgn,rfl⟩
theorem t309 (hf:bDn P F T) (h300:aIm P F T) (h326:bAq P F T) (h318:aHo P F T) (h323:aNm P F T) (h324:aS8 P F T) (s:Stt) (c:Chg) (hl:s.pages.length≤2^29) (hg:s.gone.length≤2^29):PTr P (F 309) [s.v,c.v] (outS (resS s c)):=by
 have hlen:(s.pages.map Sto.v).length=s.pages.length:=List.length_map ..
 have hlg:(s.gone.map Sto.v).length=s.gone.length:=List.length_map ..
 have c1:=t326 h326 s c.t (by omega)
 have c2:=t300 h300 s.pages c.t (by omega)
 refine ptrC [] hf (by simp) (aAk _) ?_
 simp only [c309,push_cast,seval,-Nat.reducePow,Stt.v,Stt.cs,Chg.v,Chg.cs,stoV,pplV,watV,lasV,revV]
 refine aAa c1 (by simp only [push_cast,seval,-Nat.reducePow,aAg,aAl,aAo,aAn]) (by simp only [push_cast,seval,-Nat.reducePow]) ?_
 simp only [push_cast,seval,-Nat.reducePow]
 refine aAa c2 (by simp only [push_cast,seval,-Nat.reducePow,aAg]) (by simp only [push_cast,seval,-Nat.reducePow]) ?_
 cases hf2:aC8 s.pages c.t with
 | some i =>
   have h0:(0:Int)≤((i:Nat):Int):=by omega
   simp only [push_cast,seval,-Nat.reducePow,ixI,h0]
   rw [show resS s c=(s,5) from by simp [resS,hf2]]
   exact aAc 3 _ (aAk (s,5))
 | none =>
   have hm1:¬ (0:Int)≤-1:=by decide
   cases hf3:aMp s.gone c.t with
   | none =>
     simp only [push_cast,seval,-Nat.reducePow,ixI,hm1]
     rw [show resS s c=(s,4) from by simp [resS,hf2,hf3]]
     exact aAc 3 _ (aAk (s,4))
   | some i =>
     have hi:i<s.gone.length:=aP9 hf3
     have h0:¬ ((i:Nat):Int)<0:=by omega
     have hg1:(s.gone.map Sto.v).getD i .junk=.agg [.int .i64 (s.gone.getD i zSto).t.1,.str (s.gone.getD i zSto).t.2,revV (s.gone.getD i zSto).hist]:=aGp hi
     have h1v:(revV (s.gone.getD i zSto).hist).one=true:=rfl
     by_cases hpl:200≤s.pages.length
     ·have hpl':(200:Int)≤((s.pages.length:Nat):Int):=by omega
      simp only [push_cast,seval,-Nat.reducePow,ixI,hm1,h0,hlen,hpl']
      rw [show resS s c=(s,8) from by simp [resS,hf2,hf3,hpl]]
      exact aAc 3 _ (aAk (s,8))
     ·have hpl':¬ (200:Int)≤((s.pages.length:Nat):Int):=by omega
      simp only [push_cast,seval,-Nat.reducePow,ixI,hm1,h0,hlen,hlg,hpl',hg1,h1v]
      refine ⟨hi,aAa (t323 h323 h318 s.pages (s.gone.getD i zSto) (by omega)) (by simp only [push_cast,seval,-Nat.reducePow,aAg,V.imm,V.imms,Sto.v,aBl]) (by simp only [push_cast,seval,-Nat.reducePow,aAg]) ?_⟩
      simp only [push_cast,seval,-Nat.reducePow]
      refine aAa (t324 h324 s.gone i hi (by omega)) (by simp only [push_cast,seval,-Nat.reducePow,aAg]) (by simp only [push_cast,seval,-Nat.reducePow,aAg]) ?_
      simp only [push_cast,seval,-Nat.reducePow]
      rw [show resS s c=({ s with pages:=insS s.pages (s.gone.getD i zSto),gone:=wtoS s.gone i },0) from by simp [resS,hf2,hf3,hpl]]
      exact aAc 3 _ (aAk ({ s with pages:=insS s.pages (s.gone.getD i zSto),gone:=wtoS s.gone i },0))
end Go.Ab
namespace Go.Ab
variable {P:Program} {F T:Nat→Nat}
theorem t313 (hf:bEe P F T) (s:Stt) (c:Chg) (hp:s.props.length≤2^29) (hq:-1≤s.proposed):PTr P (F 313) [s.v,c.v] (outS (prpS s c)):=by
 have hlp:(s.props.map Ppl.v).length=s.props.length:=List.length_map ..
 refine ptrC [] hf (by simp) (aAk _) ?_
 simp only [c313,push_cast,seval,-Nat.reducePow,Stt.v,Stt.cs,Chg.v,Chg.cs,stoV,pplV,watV,lasV,revV,hlp]
 by_cases h1:40≤s.props.length
 ·have h1':(40:Int)≤((s.props.length:Nat):Int):=by omega
  simp only [push_cast,seval,-Nat.reducePow,h1']
  rw [show prpS s c=(s,8) from by simp [prpS,h1]]
  exact aAc 3 _ (aAk (s,8))
 ·have h1':¬ (40:Int)≤((s.props.length:Nat):Int):=by omega
  by_cases h2:1073741824≤s.proposed
  ·simp only [push_cast,seval,-Nat.reducePow,h1',h2]
   rw [show prpS s c=(s,8) from by simp [prpS,h2]]
   exact aAc 3 _ (aAk (s,8))
  ·simp only [push_cast,seval,-Nat.reducePow,h1',h2,hlp]
   have tk:List.take s.props.length (s.props.map Ppl.v)=s.props.map Ppl.v:=List.take_of_length_le (by simp)
   rw [show prpS s c=({ s with proposed:=s.proposed+1,props:=s.props++[⟨s.proposed+1,c.user,c.note,c.t,c.n,c.text,s.clock⟩] },0) from by simp [prpS,h1,h2]]
   refine ⟨⟨by omega,by omega⟩,by omega,by omega,?_⟩
   rw [aDi,aCi (ty:=T 39) (es:=(s.props++[(⟨s.proposed+1,c.user,c.note,c.t,c.n,c.text,s.clock⟩:Ppl)]).map Ppl.v) ?_ (by simp) (aAl _)]
   ·rfl
   ·rw [tk]
    simp only [updJ,Nat.reduceEqDiff,if_false,if_true]
    simp [Ppl.v]
theorem bB6 (n:Int) (a r:List Ppl):((a++r).filter fun p=>decide (p.id≠n))=(a.filter fun p=>decide (p.id≠n))++r.filter fun p=>decide (p.id≠n):=List.filter_append ..
theorem t314 (hf:bDs P F T) (s:Stt) (c:Chg) (hp:s.props.length≤2^29):PTr P (F 314) [s.v,c.v] (outS (shtS s c)):=by
 have hlp:(s.props.map Ppl.v).length=s.props.length:=List.length_map ..
 obtain ⟨fl,hfl⟩:∃ fl:List Ppl→List Ppl,fl=fun l=>l.filter fun p=>decide (p.id≠c.n):=⟨_,rfl⟩
 have hgo:∀ a r,fl (a++r)=fl a++fl r:=fun a r=>by rw [hfl]; exact bB6 c.n a r
 have hle:∀ a,(fl a).length≤a.length:=fun a=>by rw [hfl]; exact List.length_filter_le ..
 have hres:shtS s c=if (fl s.props).length=s.props.length then (s,4) else ({ s with props:=fl s.props },0):=by rw [hfl]; rfl
 refine ptrC [] hf (by simp) (aAk _) ?_
 simp only [c314,push_cast,seval,-Nat.reducePow,Stt.v,Stt.cs,Chg.v,Chg.cs,stoV,pplV,watV,lasV,revV]
 refine aAm (fun m s1=>∃ a r id,s.props=a++r∧m=r.length∧s1.env 2=.ptr 2 0∧s1.env 3=.ptr 3 0∧s1.env 4=.ptr 4 0∧s1.env 7=.int .i64 a.length∧s1.env 6=.own id 8 0 (fl a).length∧s1.L id=some (.vec (T 39) 8 ((fl a).map Ppl.v)) ∧
  s1.L 2=some (.box (T 34) [V.int IntKind.i64 s.seq,V.int IntKind.i64 s.clock,V.lst 3 (List.map Sto.v s.pages),V.lst 3 (List.map Sto.v s.gone),V.lst 8 (List.map Ppl.v s.props),V.int IntKind.i64 s.proposed,V.lst 3 (List.map Wat.v s.watches),V.lst 2 (List.map Las.v s.lasts)]) ∧
  s1.L 3=some (.box (T 37) [V.int IntKind.i64 c.kind,V.str c.user,V.str c.note,V.int IntKind.i64 c.t.fst,V.str c.t.snd,V.int IntKind.i64 c.to.fst,V.str c.to.snd,V.str c.text,V.int IntKind.i64 c.n,V.lst 6 (List.map Rev.v c.hist)]) ∧
  s1.L 4=some (.box (T 34) [V.int IntKind.i64 0,V.int IntKind.i64 0,V.nils,V.nils,V.nils,V.int IntKind.i64 0,V.nils,V.nils])∧4<id∧id<s1.nx) s.props.length ?_ fun m s1 hJ=>?_
 ·simp only [push_cast,seval,-Nat.reducePow]
  exact ⟨[],s.props,84,rfl,rfl,rfl,by rw [hfl]; rfl,by rw [hfl]; exact aAe _ _ _,by decide,by decide⟩
 ·obtain ⟨a,r,id,hal,rfl,j2,j3,j4,j7,j6,jL,jL2,jL3,jL4,hid4,hid⟩:=hJ
  have hal2:s.props.length=a.length+r.length:=by rw [hal]; simp
  have hla:=hle a
  have i2:(2:Nat)≠id:=by omega
  have i3:(3:Nat)≠id:=by omega
  have i4:(4:Nat)≠id:=by omega
  cases r with
  | nil =>
    have h1:¬ ((a.length:Nat):Int)<((s.props.length:Nat):Int):=by rw [hal]; simp
    have han:fl s.props=fl a:=by rw [hal,List.append_nil]
    by_cases he:(fl s.props).length=s.props.length
    ·have he':(((fl a).length:Nat):Int)=((s.props.length:Nat):Int):=by rw [← han]; omega
     simp only [push_cast,seval,-Nat.reducePow,j2,j3,j4,j6,j7,jL,jL2,jL3,jL4,hlp,h1,he']
     rw [hres,if_pos he]
     exact aAc 3 _ (aAk (s,4))
    ·have he':¬ (((fl a).length:Nat):Int)=((s.props.length:Nat):Int):=by rw [← han]; omega
     simp only [push_cast,seval,-Nat.reducePow,j2,j3,j4,j6,j7,jL,jL2,jL3,jL4,hlp,h1,he']
     rw [hres,if_neg he,han,aDi,aCi (ty:=T 39) (es:=(fl a).map Ppl.v) ?_ (by simp) (aAl _)]
     ·rfl
     ·rw [aAd _ _ _ _ (by omega),aAd _ _ _ _ (by omega)]; exact jL
  | cons x r =>
    rw [List.length_cons] at hal2
    have h1:((a.length:Nat):Int)<((s.props.length:Nat):Int):=by omega
    have hg:(s.props.map Ppl.v).getD a.length .junk=.agg [.int .i64 x.id,.str x.user,.str x.note,.int .i64 x.t.1,.str x.t.2,.int .i64 x.base,.str x.text,.int .i64 x.minute]:=by rw [hal]; simp [List.getD_eq_getElem?_getD,Ppl.v]
    have tk:List.take (fl a).length ((fl a).map Ppl.v)=(fl a).map Ppl.v:=List.take_of_length_le (by simp)
    simp only [push_cast,seval,-Nat.reducePow,j2,j3,j4,j6,j7,jL,jL2,jL3,jL4,hlp,h1,hg]
    refine ⟨by omega,?_⟩
    by_cases hx:x.id=c.n
    ·have hn:fl (a++[x])=fl a:=by rw [hgo]; simp [hfl,hx]
     simp only [push_cast,seval,-Nat.reducePow,hx,j2,j3,j4,j6,j7,jL,jL2,jL3,jL4,hlp,h1,hg]
     exact ⟨⟨by omega,by omega⟩,r.length,by omega,a++[x],r,id,by rw [hal]; simp,rfl,by simp,by rw [hn],by rw [hn]; exact jL,hid4,by omega⟩
    ·have hn:fl (a++[x])=fl a++[x]:=by rw [hgo]; simp [hfl,hx]
     simp only [push_cast,seval,-Nat.reducePow,hx,j2,j3,j4,j6,j7,jL,jL2,jL3,jL4,hlp,h1,hg,tk]
     refine ⟨by omega,by simp,by omega,⟨by omega,by omega⟩,r.length,by omega,a++[x],r,s1.nx+115,by rw [hal]; simp,rfl,by simp,by rw [hn]; simp,?_,?_,?_,?_,by omega,by omega⟩
     ·rw [aAe,hn]; simp [Ppl.v]
     ·rw [aAd _ _ _ _ i2]; exact jL2
     ·rw [aAd _ _ _ _ i3]; exact jL3
     ·rw [aAd _ _ _ _ i4]; exact jL4
end Go.Ab
namespace Go.Ab
variable {P:Program} {F T:Nat→Nat}
theorem bB3 {α:Type} {f:α→Bool}:∀ (a r:List α),(∀ x,x∈a→f x=true)→(a++r).takeWhile f=a++r.takeWhile f∧(a++r).dropWhile f=r.dropWhile f
 | [],r,_=>⟨rfl,rfl⟩
 | x::a,r,h=>by
   obtain ⟨i1,i2⟩:=bB3 a r fun y hy=>h y (by simp [hy])
   have hx:=h x (by simp)
   simp only [List.cons_append,List.takeWhile_cons,List.dropWhile_cons,hx,if_true,i1,i2,and_self]
theorem t298 (hf:bCe P F T) (s:Stt) (u:List UInt8) (seq:Int) (hl:s.lasts.length≤2^29):PTr P (F 298) [s.v,.str u,.int .i64 seq] (outS (notS s u seq)):=by
 have hll:(s.lasts.map Las.v).length=s.lasts.length:=List.length_map ..
 refine ptrC [] hf (by simp) (aAk _) ?_
 simp only [c298,push_cast,seval,-Nat.reducePow,Stt.v,Stt.cs,stoV,pplV,watV,lasV]
 refine aA0 (fun h=>?_) (fun h=>?_)
 ·simp only [push_cast,seval,-Nat.reducePow]
  rw [show notS s u seq=(s,0) from by simp [notS,h]]
  exact aAc 3 _ (aAk (s,0))
 ·simp only [push_cast,seval,-Nat.reducePow]
  refine aAm (fun m s1=>∃ a r id,s.lasts=a++r∧m=r.length∧(∀ x,x∈a→Op.bytesLess x.user u=true)∧s1.env 1=.str u∧s1.env 2=.int .i64 seq∧s1.env 3=.ptr 3 0∧s1.env 6=.ptr 6 0∧s1.env 9=.int .i64 a.length∧s1.env 8=.own id 2 0 a.length∧s1.L id=some (.vec (T 38) 2 (a.map Las.v)) ∧
   s1.L 3=some (.box (T 34) [V.int IntKind.i64 s.seq,V.int IntKind.i64 s.clock,V.lst 3 (List.map Sto.v s.pages),V.lst 3 (List.map Sto.v s.gone),V.lst 8 (List.map Ppl.v s.props),V.int IntKind.i64 s.proposed,V.lst 3 (List.map Wat.v s.watches),V.lst 2 (List.map Las.v s.lasts)]) ∧
   s1.L 6=some (.box (T 34) [V.int IntKind.i64 0,V.int IntKind.i64 0,V.nils,V.nils,V.nils,V.int IntKind.i64 0,V.nils,V.nils])∧6<id∧id<s1.nx) s.lasts.length ?_ fun m s1 hJ=>?_
  ·simp only [push_cast,seval,-Nat.reducePow]
   exact ⟨[],s.lasts,240,rfl,rfl,(by simp),rfl,rfl,aAe _ _ _,by decide,by decide⟩
  ·obtain ⟨a,r,id,hal,rfl,hlt,j1,j2,j3,j6,j9,j8,jL,jL3,jL6,hid6,hid⟩:=hJ
   have hal2:s.lasts.length=a.length+r.length:=by rw [hal]; simp
   have i3:(3:Nat)≠id:=by omega
   have i6:(6:Nat)≠id:=by omega
   obtain ⟨w1,w2⟩:=bB3 (f:=fun x:Las=>Op.bytesLess x.user u) a r hlt
   rw [← hal] at w1 w2
   cases r with
   | nil =>
     have h1:¬ ((a.length:Nat):Int)<((s.lasts.length:Nat):Int):=by rw [hal]; simp
     simp only [push_cast,seval,-Nat.reducePow,j1,j2,j3,j6,j8,j9,jL,jL3,jL6,hll,h1]
     have hN:notS s u seq=if 60≤s.lasts.length then (s,8) else ({ s with lasts:=a++[⟨u,seq⟩] },0):=by
      simp only [notS,h,if_false,w1,w2]
      simp
     have tk:List.take a.length (a.map Las.v)=a.map Las.v:=List.take_of_length_le (by simp)
     refine aA0 (fun h60=>?_) (fun h60=>?_)
     ·simp only [push_cast,seval,-Nat.reducePow,j1,j2,j3,j6,j8,j9,jL,jL3,jL6,hll,h1,tk,i3,i6]
      rw [hN,if_pos (by omega)]
      exact aAc 3 _ (aAk (s,8))
     ·simp only [push_cast,seval,-Nat.reducePow,j1,j2,j3,j6,j8,j9,jL,jL3,jL6,hll,h1,tk,i3,i6]
      have tr1:List.take (a.length+1) (List.map Las.v a++[V.agg [V.str u,V.int IntKind.i64 seq]])=List.map Las.v a++[V.agg [V.str u,V.int IntKind.i64 seq]]:=List.take_of_length_le (by simp)
      have tr2:List.drop a.length (List.take s.lasts.length (List.map Las.v s.lasts))=[]:=by rw [hal]; simp [List.drop_left']
      refine ⟨by simp,by omega,by omega,by simp,by rw [tr2]; simp; omega,?_⟩
      rw [hN,if_neg (by omega),aDi,aCi (ty:=T 38) (es:=(a++[(⟨u,seq⟩:Las)]).map Las.v) ?_ ?_ (aAn _)]
      ·rfl
      ·rw [aAd _ _ _ _ (by omega),aAd _ _ _ _ (by omega),aAe,tr1,tr2]
       simp [Las.v]
      ·rw [tr2]; simp [Las.v]
   | cons x r =>
     rw [List.length_cons] at hal2
     have h1:((a.length:Nat):Int)<((s.lasts.length:Nat):Int):=by omega
     have hg:(s.lasts.map Las.v).getD a.length .junk=.agg [.str x.user,.int .i64 x.seq]:=by rw [hal]; simp [List.getD_eq_getElem?_getD,Las.v]
     have tk:List.take a.length (a.map Las.v)=a.map Las.v:=List.take_of_length_le (by simp)
     by_cases hx:Op.bytesLess x.user u=true
     ·simp only [push_cast,seval,-Nat.reducePow,hx,j1,j2,j3,j6,j8,j9,jL,jL3,jL6,hll,h1,hg,tk]
      refine ⟨by omega,by omega,by simp,by omega,⟨by omega,by omega⟩,r.length,by omega,a++[x],r,s1.nx+116,by rw [hal]; simp,rfl,(fun y hy=>?_),by simp,by simp,?_,?_,?_,by omega,by omega⟩
      ·rcases List.mem_append.1 hy with hy | hy
       ·exact hlt y hy
       ·rw [List.mem_singleton.1 hy]; exact hx
      ·rw [aAe]; simp [Las.v]
      ·rw [aAd _ _ _ _ i3]; exact jL3
      ·rw [aAd _ _ _ _ i6]; exact jL6
     ·have hx':Op.bytesLess x.user u=false:=by simpa using hx
      have d1:(x::r).takeWhile (fun x=>Op.bytesLess x.user u)=[]:=by rw [List.takeWhile_cons,hx']; rfl
      have d2:(x::r).dropWhile (fun x=>Op.bytesLess x.user u)=x::r:=by rw [List.dropWhile_cons,hx']; rfl
      simp only [push_cast,seval,-Nat.reducePow,hx',j1,j2,j3,j6,j8,j9,jL,jL3,jL6,hll,h1,hg,tk]
      refine ⟨by omega,by omega,?_⟩
      refine aA0 (fun hu=>?_) (fun hu=>?_)
      ·simp only [push_cast,seval,-Nat.reducePow,hx',hu,j1,j2,j3,j6,j8,j9,jL,jL3,jL6,hll,h1,hg,tk,i3,i6]
       have hN:notS s u seq=({ s with lasts:=a++⟨u,seq⟩::r },0):=by
        simp only [notS,h,if_false,w1,w2,d1,d2]
        simp [hu]
       have hN:notS s u seq=if (1:Nat)=0 then (s,8) else ({ s with lasts:=a++⟨u,seq⟩::r },0):=by rw [hN]; rfl
       have tn:((a.length:Int)+1).toNat=a.length+1:=by omega
       have tr1:List.take (a.length+1) (List.map Las.v a++[V.agg [V.str u,V.int IntKind.i64 seq]])=List.map Las.v a++[V.agg [V.str u,V.int IntKind.i64 seq]]:=List.take_of_length_le (by simp)
       have tr2:List.drop ((a.length:Int)+1).toNat (List.take s.lasts.length (List.map Las.v s.lasts))=r.map Las.v:=by rw [tn,List.take_of_length_le (by simp),hal,List.map_append,List.map_cons,← List.drop_drop,List.drop_left' (by simp)]; rfl
       refine ⟨by simp,by omega,⟨by omega,by omega⟩,by omega,by omega,by simp,by rw [tr2]; simp; omega,?_⟩
       rw [hN,if_neg (by omega),aDi,aCi (ty:=T 38) (es:=(a++(⟨u,seq⟩:Las)::r).map Las.v) ?_ ?_ (aAn _)]
       ·rfl
       ·rw [aAd _ _ _ _ (by omega),aAd _ _ _ _ (by omega),aAe,tr1,tr2]
        simp [Las.v]
       ·rw [tr2]; simp [Las.v]; omega
      ·simp only [push_cast,seval,-Nat.reducePow,hx',hu,j1,j2,j3,j6,j8,j9,jL,jL3,jL6,hll,h1,hg,tk,i3,i6]
       have hN:notS s u seq=if 60≤s.lasts.length then (s,8) else ({ s with lasts:=a++⟨u,seq⟩::x::r },0):=by
        simp only [notS,h,if_false,w1,w2,d1,d2]
        simp [hu]
       refine aA0 (fun h60=>?_) (fun h60=>?_)
       ·simp only [push_cast,seval,-Nat.reducePow,hx',hu,j1,j2,j3,j6,j8,j9,jL,jL3,jL6,hll,h1,hg,tk,i3,i6]
        rw [hN,if_pos (by omega)]
        exact aAc 3 _ (aAk (s,8))
       ·simp only [push_cast,seval,-Nat.reducePow,hx',hu,j1,j2,j3,j6,j8,j9,jL,jL3,jL6,hll,h1,hg,tk,i3,i6]
        have tr1:List.take (a.length+1) (List.map Las.v a++[V.agg [V.str u,V.int IntKind.i64 seq]])=List.map Las.v a++[V.agg [V.str u,V.int IntKind.i64 seq]]:=List.take_of_length_le (by simp)
        have tr2:List.drop a.length (List.take s.lasts.length (List.map Las.v s.lasts))=(x::r).map Las.v:=by rw [List.take_of_length_le (by simp),hal,List.map_append,List.drop_left' (by simp)]
        refine ⟨by simp,by omega,by omega,by simp,by rw [tr2]; simp; omega,?_⟩
        rw [hN,if_neg (by omega),aDi,aCi (ty:=T 38) (es:=(a++(⟨u,seq⟩:Las)::x::r).map Las.v) ?_ ?_ (aAn _)]
        ·rfl
        ·rw [aAd _ _ _ _ (by omega),aAd _ _ _ _ (by omega),aAe,tr1,tr2]
         simp [Las.v]
        ·rw [tr2]; simp [Las.v]; omega
end Go.Ab
namespace Go.Ab
variable {P:Program} {F T:Nat→Nat}
theorem aT9 (l:List Sto) (i:Nat):(wtoS l i).length≤l.length+1:=by
 unfold wtoS; simp; omega
theorem aWg (l:List Sto) (p:Sto):(insS l p).length=l.length+1:=by
 unfold insS
 have h:=congrArg List.length (List.takeWhile_append_dropWhile (p:=fun q:Sto=>decide (cmpF q.t p.t<0)) (l:=l))
 rw [List.length_append] at h
 rw [List.length_append,List.length_cons]; omega
theorem t310 (hf:bFe P F T) (h300:aIm P F T) (h318:aHo P F T) (h323:aNm P F T) (h324:aS8 P F T) (h325:aVx P F T) {ok:Ttl→Bool} (s:Stt) (c:Chg) (seq:Int) (h327:PTr P (F 327) [tV c.to] (.str (redS ok c.to)))
 (hl:s.pages.length≤2^29) (hp:s.props.length≤2^29):PTr P (F 310) [s.v,c.v,.int .i64 seq] (outS (movS ok s c seq)):=by
 have hlen:(s.pages.map Sto.v).length=s.pages.length:=List.length_map ..
 have c1:=t300 h300 s.pages c.t (by omega)
 have c2:=t300 h300 s.pages c.to (by omega)
 refine ptrC [] hf (by simp) (aAk _) ?_
 simp only [c310,push_cast,seval,-Nat.reducePow,Stt.v,Stt.cs,Chg.v,Chg.cs,stoV,pplV,watV,lasV,revV]
 refine aAa c1 (by simp only [push_cast,seval,-Nat.reducePow,aAg]) (by simp only [push_cast,seval,-Nat.reducePow]) ?_
 cases hf1:aC8 s.pages c.t with
 | none =>
   have hm1:(-1:Int)<0:=by decide
   simp only [push_cast,seval,-Nat.reducePow,ixI,hm1]
   rw [show movS ok s c seq=(s,4) from by simp [movS,hf1]]
   exact aAc 3 _ (aAk (s,4))
 | some i =>
   have hi:i<s.pages.length:=(aBr hf1).1
   have h0:¬ ((i:Nat):Int)<0:=by omega
   simp only [push_cast,seval,-Nat.reducePow,ixI,h0]
   refine aAa c2 (by simp only [push_cast,seval,-Nat.reducePow,aAg]) (by simp only [push_cast,seval,-Nat.reducePow]) ?_
   cases hf2:aC8 s.pages c.to with
   | some j =>
     have h0':(0:Int)≤((j:Nat):Int):=by omega
     simp only [push_cast,seval,-Nat.reducePow,ixI,h0']
     rw [show movS ok s c seq=(s,5) from by simp [movS,hf1,hf2]]
     exact aAc 3 _ (aAk (s,5))
   | none =>
     have hm1:¬ (0:Int)≤-1:=by decide
     have hg1:(s.pages.map Sto.v).getD i .junk=.agg [.int .i64 (s.pages.getD i zSto).t.1,.str (s.pages.getD i zSto).t.2,revV (s.pages.getD i zSto).hist]:=aGp hi
     have h1v:(revV (s.pages.getD i zSto).hist).one=true:=rfl
     obtain ⟨p,hpp⟩:∃ p,p=s.pages.getD i zSto:=⟨_,rfl⟩
     have hp2:s.pages[i]?.getD zSto=p:=by rw [hpp,List.getD_eq_getElem?_getD]
     rw [← hpp] at hg1 h1v
     have hwl:(wtoS s.pages i).length≤s.pages.length+1:=aT9 _ _
     have hil:(insS (wtoS s.pages i) ⟨c.to,p.hist⟩).length≤s.pages.length+2:=by
      have:=aWg (wtoS s.pages i) ⟨c.to,p.hist⟩
      omega
     by_cases hn:c.n=1
     ·by_cases hpl:200≤s.pages.length
      ·have hpl':(200:Int)≤((s.pages.length:Nat):Int):=by omega
       simp only [push_cast,seval,-Nat.reducePow,ixI,hm1,hn,hlen,hpl']
       rw [show movS ok s c seq=(s,8) from by simp [movS,hf1,hf2,hn,hpl]]
       exact aAc 3 _ (aAk (s,8))
      ·have hpl':¬ (200:Int)≤((s.pages.length:Nat):Int):=by omega
       simp only [push_cast,seval,-Nat.reducePow,ixI,hm1,hn,hlen,hpl',hg1,h1v]
       refine ⟨hi,aAa (t324 h324 s.pages i hi (by omega)) (by simp only [push_cast,seval,-Nat.reducePow,aAg]) (by simp only [push_cast,seval,-Nat.reducePow,aAg]) ?_⟩
       simp only [push_cast,seval,-Nat.reducePow]
       refine aAa (t323 h323 h318 (wtoS s.pages i) ⟨c.to,p.hist⟩ (by omega)) (by simp only [push_cast,seval,-Nat.reducePow,aAg,V.imm,V.imms,Sto.v,aBl]) (by simp only [push_cast,seval,-Nat.reducePow,aAg]) ?_
       simp only [push_cast,seval,-Nat.reducePow,hn]
       refine aAa h327 (by simp only [push_cast,seval,-Nat.reducePow]) (by simp only [push_cast,seval,-Nat.reducePow]) ?_
       simp only [push_cast,seval,-Nat.reducePow]
       refine aAa (t323 h323 h318 (insS (wtoS s.pages i) ⟨c.to,p.hist⟩) ⟨c.t,[⟨1,c.user,[],redS ok c.to,s.clock,seq⟩]⟩ (by omega)) (by simp only [push_cast,seval,-Nat.reducePow,aAg]) (by simp only [push_cast,seval,-Nat.reducePow,aAg]) ?_
       simp only [push_cast,seval,-Nat.reducePow]
       refine aAa (t325 h325 s.props c.t (by omega)) (by simp only [push_cast,seval,-Nat.reducePow,aAl]) (by simp only [push_cast,seval,-Nat.reducePow,aAl]) ?_
       simp only [push_cast,seval,-Nat.reducePow]
       rw [show movS ok s c seq=({ s with pages:=insS (insS (wtoS s.pages i) ⟨c.to,p.hist⟩) ⟨c.t,[⟨1,c.user,[],redS ok c.to,s.clock,seq⟩]⟩,props:=aCb s.props c.t },0) from by simp [movS,hf1,hf2,hn,hpl,hp2]]
       exact aAc 3 _ (aAk ({ s with pages:=insS (insS (wtoS s.pages i) ⟨c.to,p.hist⟩) ⟨c.t,[⟨1,c.user,[],redS ok c.to,s.clock,seq⟩]⟩,props:=aCb s.props c.t },0))
     ·simp only [push_cast,seval,-Nat.reducePow,ixI,hm1,hn,hlen,hg1,h1v]
      refine ⟨hi,aAa (t324 h324 s.pages i hi (by omega)) (by simp only [push_cast,seval,-Nat.reducePow,aAg]) (by simp only [push_cast,seval,-Nat.reducePow,aAg]) ?_⟩
      simp only [push_cast,seval,-Nat.reducePow]
      refine aAa (t323 h323 h318 (wtoS s.pages i) ⟨c.to,p.hist⟩ (by omega)) (by simp only [push_cast,seval,-Nat.reducePow,aAg,V.imm,V.imms,Sto.v,aBl]) (by simp only [push_cast,seval,-Nat.reducePow,aAg]) ?_
      simp only [push_cast,seval,-Nat.reducePow,hn]
      refine aAa (t325 h325 s.props c.t (by omega)) (by simp only [push_cast,seval,-Nat.reducePow,aAl]) (by simp only [push_cast,seval,-Nat.reducePow,aAl]) ?_
      simp only [push_cast,seval,-Nat.reducePow]
      rw [show movS ok s c seq=({ s with pages:=insS (wtoS s.pages i) ⟨c.to,p.hist⟩,props:=aCb s.props c.t },0) from by simp [movS,hf1,hf2,hn, hp2]]
      exact aAc 3 _ (aAk ({ s with pages:=insS (wtoS s.pages i) ⟨c.to,p.hist⟩,props:=aCb s.props c.t },0))
end Go.Ab
namespace Go.Ab
variable {P:Program} {F T:Nat→Nat}
theorem t315 (hf:aTo P F T):PTr P (F 315) [] (tV polT):=by
 refine ptrC [] hf (by simp) rfl ?_
 simp only [c315,push_cast,seval,-Nat.reducePow]
 exact aAc 3 _ rfl
theorem t319 (hf:bB5 P F T) {nm:List UInt8→Bool} (s:List UInt8) (h217:PTr P (F 217) [.str s] (.bool (nm s))):PTr P (F 319) [.str s] (.bool (decide (s=[])||nm s)):=by
 refine ptrC [] hf (by simp) rfl ?_
 by_cases h:s=[]
 ·simp only [c319,push_cast,seval,-Nat.reducePow,h]
  exact aAc 3 _ rfl
 ·simp only [c319,push_cast,seval,-Nat.reducePow,h]
  refine aAa h217 (by simp only [push_cast,seval,-Nat.reducePow]) (by simp only [push_cast,seval,-Nat.reducePow]) ?_
  simp only [push_cast,seval,-Nat.reducePow]
  exact aAc 3 _ rfl
theorem t320 (hf:aWd P F T) (h318:aHo P F T) (a b:Wat):PTr P (F 320) [a.v,b.v] (.bool (befW a b)):=by
 refine ptrC [] hf (by simp) rfl ?_
 have hc:=t318 h318 a.t b.t
 by_cases h:Op.bytesLess a.user b.user=true
 ·simp only [c320,push_cast,seval,-Nat.reducePow,Wat.v,h]
  rw [show befW a b=true from by simp [befW,h]]
  exact aAc 3 _ rfl
 ·have h':Op.bytesLess a.user b.user=false:=by simpa using h
  by_cases hu:a.user=b.user
  ·have h2:Op.bytesLess b.user b.user=false:=by rw [← hu,hu]; rw [hu] at h'; exact h'
   simp only [c320,push_cast,seval,-Nat.reducePow,Wat.v,h',h2,hu]
   refine aAa hc (by simp only [push_cast,seval,-Nat.reducePow]) (by simp only [push_cast,seval,-Nat.reducePow]) ?_
   simp only [push_cast,seval,-Nat.reducePow]
   rw [show befW a b=decide (cmpF a.t b.t<0) from by simp [befW,h',hu,h2]]
   exact aAc 3 _ rfl
  ·simp only [c320,push_cast,seval,-Nat.reducePow,Wat.v,h',hu]
   rw [show befW a b=false from by simp [befW,h',hu]]
   exact aAc 3 _ rfl
end Go.Ab
namespace Go.Ab
variable {P:Program} {F T:Nat→Nat}
theorem bBg {x:Wat} {u:List UInt8} {t:Ttl} (h:x≠⟨u,t⟩):(decide (x.user=u)&&(decide (x.t.1=t.1)&&decide (x.t.2=t.2)))=false:=by
 cases hd:(decide (x.user=u)&&(decide (x.t.1=t.1)&&decide (x.t.2=t.2))) with
 | false=>rfl
 | true =>
   simp only [Bool.and_eq_true,decide_eq_true_eq] at hd
   obtain ⟨q1,q2,q3⟩:=hd
   refine absurd ?_ h
   rw [← q1,← (Prod.ext q2 q3:x.t=t)]
theorem t312 (hf:bDe P F T) (h318:aHo P F T) (h320:aWd P F T) (s:Stt) (c:Chg) (hl:s.watches.length≤2^29):PTr P (F 312) [s.v,c.v] (outS (wtcS s c)):=by
 have hlw:(s.watches.map Wat.v).length=s.watches.length:=List.length_map ..
 obtain ⟨w,hw⟩:∃ w:Wat,w=⟨c.user,c.t⟩:=⟨_,rfl⟩
 have wu:w.user=c.user:=by rw [hw]
 have wt:w.t=c.t:=by rw [hw]
 refine ptrC [] hf (by simp) (aAk _) ?_
 simp only [c312,push_cast,seval,-Nat.reducePow,Stt.v,Stt.cs,Chg.v,Chg.cs,stoV,pplV,watV,lasV,revV]
 refine aAm (fun m s1=>∃ a r id,s.watches=a++r∧m=r.length∧(∀ x,x∈a→befW x w=true)∧s1.env 2=.ptr 2 0∧s1.env 3=.ptr 3 0∧s1.env 4=.ptr 4 0∧s1.env 6=.ptr 92 0∧s1.env 8=.int .i64 a.length∧s1.env 7=.own id 3 0 a.length∧s1.L id=some (.vec (T 40) 3 (a.map Wat.v)) ∧
  s1.L 2=some (.box (T 34) [V.int IntKind.i64 s.seq,V.int IntKind.i64 s.clock,V.lst 3 (List.map Sto.v s.pages),V.lst 3 (List.map Sto.v s.gone),V.lst 8 (List.map Ppl.v s.props),V.int IntKind.i64 s.proposed,V.lst 3 (List.map Wat.v s.watches),V.lst 2 (List.map Las.v s.lasts)]) ∧
  s1.L 3=some (.box (T 37) [V.int IntKind.i64 c.kind,V.str c.user,V.str c.note,V.int IntKind.i64 c.t.fst,V.str c.t.snd,V.int IntKind.i64 c.to.fst,V.str c.to.snd,V.str c.text,V.int IntKind.i64 c.n,V.lst 6 (List.map Rev.v c.hist)]) ∧
  s1.L 4=some (.box (T 34) [V.int IntKind.i64 0,V.int IntKind.i64 0,V.nils,V.nils,V.nils,V.int IntKind.i64 0,V.nils,V.nils]) ∧
  s1.L 92=some (.box (T 40) [V.str c.user,V.int IntKind.i64 c.t.fst,V.str c.t.snd])∧92<id∧id<s1.nx) s.watches.length ?_ fun m s1 hJ=>?_
 ·simp only [push_cast,seval,-Nat.reducePow]
  exact ⟨[],s.watches,258,rfl,rfl,(by simp),rfl,rfl,aAe _ _ _,by decide,by decide⟩
 ·obtain ⟨a,r,id,hal,rfl,hlt,j2,j3,j4,j6,j8,j7,jL,jL2,jL3,jL4,jL6,hid6,hid⟩:=hJ
  have hal2:s.watches.length=a.length+r.length:=by rw [hal]; simp
  have i2:(2:Nat)≠id:=by omega
  have i3:(3:Nat)≠id:=by omega
  have i4:(4:Nat)≠id:=by omega
  have i6:(92:Nat)≠id:=by omega
  obtain ⟨w1,w2⟩:=bB3 (f:=fun x:Wat=>befW x w) a r hlt
  rw [← hal] at w1 w2
  have tk:List.take a.length (a.map Wat.v)=a.map Wat.v:=List.take_of_length_le (by simp)
  cases r with
  | nil =>
    have h1:¬ ((a.length:Nat):Int)<((s.watches.length:Nat):Int):=by rw [hal]; simp
    simp only [push_cast,seval,-Nat.reducePow,j2,j3,j4,j6,j7,j8,jL,jL2,jL3,jL4,jL6,hlw,h1,i2,i3,i4,i6]
    refine aA0 (fun h8=>?_) (fun h8=>?_)
    ·simp only [push_cast,seval,-Nat.reducePow,j2,j3,j4,j6,j7,j8,jL,jL2,jL3,jL4,jL6,hlw,h1,tk,i2,i3,i4,i6]
     rw [show wtcS s c=(s,4) from by
      simp only [wtcS,← hw,w1,w2,h8]; simp]
     exact aAc 3 _ (aAk (s,4))
    ·simp only [push_cast,seval,-Nat.reducePow,j2,j3,j4,j6,j7,j8,jL,jL2,jL3,jL4,jL6,hlw,h1,tk,i2,i3,i4,i6]
     refine aA0 (fun h100=>?_) (fun h100=>?_)
     ·simp only [push_cast,seval,-Nat.reducePow,j2,j3,j4,j6,j7,j8,jL,jL2,jL3,jL4,jL6,hlw,h1,tk,i2,i3,i4,i6]
      rw [show wtcS s c=(s,8) from by
       simp only [wtcS,← hw,w1,w2,h8]
       simp; omega]
      exact aAc 3 _ (aAk (s,8))
     ·simp only [push_cast,seval,-Nat.reducePow,j2,j3,j4,j6,j7,j8,jL,jL2,jL3,jL4,jL6,hlw,h1,tk,i2,i3,i4,i6]
      have tr1:List.take (a.length+1) (List.map Wat.v a++[V.agg [V.str c.user,V.int IntKind.i64 c.t.fst,V.str c.t.snd]])=List.map Wat.v a++[V.agg [V.str c.user,V.int IntKind.i64 c.t.fst,V.str c.t.snd]]:=List.take_of_length_le (by simp)
      have tr2:List.drop a.length (List.take s.watches.length (List.map Wat.v s.watches))=[]:=by rw [List.take_of_length_le (by simp),hal,List.map_append,List.drop_left' (by simp)]; rfl
      rw [show wtcS s c=({ s with watches:=a++[w] },0) from by
       simp only [wtcS,← hw,w1,w2,h8]
       simp; omega]
      refine ⟨by simp,by omega,by omega,by omega,by simp,by rw [tr2]; simp; omega,?_⟩
      rw [aDi,aCi (ty:=T 40) (es:=(a++[w]).map Wat.v) ?_ ?_ (aAo _)]
      ·rfl
      ·rw [aAd _ _ _ _ (by omega),aAd _ _ _ _ (by omega),aAe,tr1,tr2]
       simp [Wat.v,wu,wt]
      ·rw [tr2]; simp
  | cons x r =>
    rw [List.length_cons] at hal2
    have h1:((a.length:Nat):Int)<((s.watches.length:Nat):Int):=by omega
    have hg:(s.watches.map Wat.v).getD a.length .junk=.agg [.str x.user,.int .i64 x.t.1,.str x.t.2]:=by rw [hal]; simp [List.getD_eq_getElem?_getD,Wat.v]
    have hb:=t320 h320 h318 x w
    rw [hw] at hb
    simp only [push_cast,seval,-Nat.reducePow,j2,j3,j4,j6,j7,j8,jL,jL2,jL3,jL4,jL6,hlw,h1,hg,i2,i3,i4,i6]
    refine ⟨by omega,aAa hb (by simp only [push_cast,seval,-Nat.reducePow]) (by simp only [push_cast,seval,-Nat.reducePow]) ?_⟩
    rw [← hw]
    cases hx:befW x w with
    | true =>
      simp only [push_cast,seval,-Nat.reducePow,hx,j2,j3,j4,j6,j7,j8,jL,jL2,jL3,jL4,jL6,hlw,h1,hg,tk,i2,i3,i4,i6]
      refine ⟨by omega,by simp,by omega,⟨by omega,by omega⟩,r.length,by omega,a++[x],r,s1.nx+122,by rw [hal]; simp,rfl,(fun y hy=>?_),by simp,by simp,?_,by omega,by omega⟩
      ·rcases List.mem_append.1 hy with hy | hy
       ·exact hlt y hy
       ·rw [List.mem_singleton.1 hy]; exact hx
      ·rw [aAe]; simp [Wat.v]
    | false =>
      simp only [push_cast,seval,-Nat.reducePow,hx,j2,j3,j4,j6,j7,j8,jL,jL2,jL3,jL4,jL6,hlw,h1,hg,tk,i2,i3,i4,i6]
      refine ⟨by omega,?_⟩
      have d1:(x::r).takeWhile (fun x=>befW x w)=[]:=by rw [List.takeWhile_cons,hx]; rfl
      have d2:(x::r).dropWhile (fun x=>befW x w)=x::r:=by rw [List.dropWhile_cons,hx]; rfl
      refine aA0 (fun h8=>?_) (fun h8=>?_)
      ·by_cases hxw:x=w
       ·have e1:x.user=c.user:=by rw [hxw,wu]
        have e2:x.t.1=c.t.1:=by rw [hxw,wt]
        have e3:x.t.2=c.t.2:=by rw [hxw,wt]
        simp only [push_cast,seval,-Nat.reducePow,e1,e2,e3,hx,j2,j3,j4,j6,j7,j8,jL,jL2,jL3,jL4,jL6,hlw,h1,hg,tk,i2,i3,i4,i6]
        have tn:((a.length:Int)+1).toNat=a.length+1:=by omega
        have tr2:List.drop ((a.length:Int)+1).toNat (List.take s.watches.length (List.map Wat.v s.watches))=r.map Wat.v:=by rw [tn,List.take_of_length_le (by simp),hal,List.map_append,List.map_cons,← List.drop_drop,List.drop_left' (by simp)]; rfl
        rw [show wtcS s c=({ s with watches:=a++r },0) from by
         simp only [wtcS,← hw,w1,w2,d1,d2,h8]
         simp [hxw]]
        refine ⟨⟨by omega,by omega⟩,by omega,by omega,by simp,by rw [tr2]; simp; omega,?_⟩
        rw [aDi,aCi (ty:=T 40) (es:=(a++r).map Wat.v) ?_ ?_ (aAo _)]
        ·rfl
        ·rw [aAd _ _ _ _ (by omega),aAd _ _ _ _ (by omega),aAe,tr2]
         simp
        ·rw [tr2]; simp
       ·have hd:(decide (x.user=c.user)&&(decide (x.t.1=c.t.1)&&decide (x.t.2=c.t.2)))=false:=bBg (by rw [← hw]; exact hxw)
        simp only [push_cast,seval,-Nat.reducePow,hd,hx,j2,j3,j4,j6,j7,j8,jL,jL2,jL3,jL4,jL6,hlw,h1,hg,tk,i2,i3,i4,i6]
        rw [show wtcS s c=(s,4) from by
         simp only [wtcS,← hw,w1,w2,d1,d2,h8]
         simp [hxw]]
        exact aAc 3 _ (aAk (s,4))
      ·by_cases hxw:x=w
       ·have e1:x.user=c.user:=by rw [hxw,wu]
        have e2:x.t.1=c.t.1:=by rw [hxw,wt]
        have e3:x.t.2=c.t.2:=by rw [hxw,wt]
        simp only [push_cast,seval,-Nat.reducePow,e1,e2,e3,hx,j2,j3,j4,j6,j7,j8,jL,jL2,jL3,jL4,jL6,hlw,h1,hg,tk,i2,i3,i4,i6]
        rw [show wtcS s c=(s,5) from by
         simp only [wtcS,← hw,w1,w2,d1,d2,h8]
         simp [hxw]]
        exact aAc 3 _ (aAk (s,5))
       ·have hd:(decide (x.user=c.user)&&(decide (x.t.1=c.t.1)&&decide (x.t.2=c.t.2)))=false:=bBg (by rw [← hw]; exact hxw)
        simp only [push_cast,seval,-Nat.reducePow,hd,hx,j2,j3,j4,j6,j7,j8,jL,jL2,jL3,jL4,jL6,hlw,h1,hg,tk,i2,i3,i4,i6]
        refine aA0 (fun h100=>?_) (fun h100=>?_)
        ·simp only [push_cast,seval,-Nat.reducePow,hx,j2,j3,j4,j6,j7,j8,jL,jL2,jL3,jL4,jL6,hlw,h1,tk,i2,i3,i4,i6]
         rw [show wtcS s c=(s,8) from by
          simp only [wtcS,← hw,w1,w2,d1,d2,h8]
          simp [hxw]; omega]
         exact aAc 3 _ (aAk (s,8))
        ·simp only [push_cast,seval,-Nat.reducePow,hx,j2,j3,j4,j6,j7,j8,jL,jL2,jL3,jL4,jL6,hlw,h1,tk,i2,i3,i4,i6]
         have tr1:List.take (a.length+1) (List.map Wat.v a++[V.agg [V.str c.user,V.int IntKind.i64 c.t.fst,V.str c.t.snd]])=List.map Wat.v a++[V.agg [V.str c.user,V.int IntKind.i64 c.t.fst,V.str c.t.snd]]:=List.take_of_length_le (by simp)
         have tr2:List.drop a.length (List.take s.watches.length (List.map Wat.v s.watches))=(x::r).map Wat.v:=by rw [List.take_of_length_le (by simp),hal,List.map_append,List.drop_left' (by simp)]
         rw [show wtcS s c=({ s with watches:=a++w::x::r },0) from by
          simp only [wtcS,← hw,w1,w2,d1,d2,h8]
          simp [hxw]; omega]
         refine ⟨by simp,by omega,by omega,by omega,by simp,by rw [tr2]; simp; omega,?_⟩
         rw [aDi,aCi (ty:=T 40) (es:=(a++w::x::r).map Wat.v) ?_ ?_ (aAo _)]
         ·rfl
         ·rw [aAd _ _ _ _ (by omega),aAd _ _ _ _ (by omega),aAe,tr1,tr2]
          simp [Wat.v,wu,wt]
         ·rw [tr2]; simp; omega
end Go.Ab
namespace Go.Ab
variable {P:Program} {F T:Nat→Nat}
theorem aBp (l:List Rev):V.imms (l.map Rev.v)=true:=aA7 _ _ fun _=>rfl
theorem bH1 (c:Chg):c.v=.agg [V.int IntKind.i64 c.kind,V.str c.user,V.str c.note,V.int IntKind.i64 c.t.fst,V.str c.t.snd,V.int IntKind.i64 c.to.fst,V.str c.to.snd,V.str c.text,V.int IntKind.i64 c.n,V.lst 6 (List.map Rev.v c.hist)]:=rfl
theorem t296 (hf:bE5 P F T) {ok:Ttl→Bool} (s:Stt) (c:Chg) (seq:Int)
 (h307:c.kind=1→PTr P (F 307) [s.v,c.v,.int .i64 seq] (outS (putS s c seq))) (h308:c.kind=2→PTr P (F 308) [s.v,c.v] (outS (remS s c))) (h309:c.kind=3→PTr P (F 309) [s.v,c.v] (outS (resS s c)))
 (h310:c.kind=4→PTr P (F 310) [s.v,c.v,.int .i64 seq] (outS (movS ok s c seq))) (h311:c.kind=5→PTr P (F 311) [s.v,c.v,.int .i64 seq] (outS (takS s c seq)))
 (h312:c.kind=7∨c.kind=8→PTr P (F 312) [s.v,c.v] (outS (wtcS s c))) (h313:c.kind=9→PTr P (F 313) [s.v,c.v] (outS (prpS s c))) (h314:PTr P (F 314) [s.v,c.v] (outS (shtS s c)))
 (hc1:0≤s.clock) (hc2:s.clock≤52595999) (hn6:c.kind=6→0≤c.n):PTr P (F 296) [s.v,c.v,.int .i64 seq] (outS (aBh ok s c seq)):=by
 refine ptrC [] hf (by simp) (aAk _) ?_
 by_cases k1:c.kind=1
 ·obtain ⟨kd,cu,cn,ct,cto,ctx,cnn,ch⟩:=c
  obtain rfl:kd=1:=k1
  have h:=h307 rfl
  rw [show aBh ok s ⟨1,cu,cn,ct,cto,ctx,cnn,ch⟩ seq=putS s ⟨1,cu,cn,ct,cto,ctx,cnn,ch⟩ seq from rfl]
  simp only [c296,push_cast,seval,-Nat.reducePow,Stt.v,Stt.cs,Chg.v,Chg.cs,stoV,pplV,watV,lasV,revV]
  refine aAa h (by simp only [push_cast,seval,-Nat.reducePow,V.imm,V.imms,aAg,aAl,aAo,aAn,aBp]) (aAk _) ?_
  simp only [push_cast,seval,-Nat.reducePow,outS,Stt.v,Stt.cs,stoV,pplV,watV,lasV]
  exact aAc 3 _ (aAk _)
 by_cases k2:c.kind=2
 ·obtain ⟨kd,cu,cn,ct,cto,ctx,cnn,ch⟩:=c
  obtain rfl:kd=2:=k2
  have h:=h308 rfl
  rw [show aBh ok s ⟨2,cu,cn,ct,cto,ctx,cnn,ch⟩ seq=remS s ⟨2,cu,cn,ct,cto,ctx,cnn,ch⟩ from rfl]
  simp only [c296,push_cast,seval,-Nat.reducePow,Stt.v,Stt.cs,Chg.v,Chg.cs,stoV,pplV,watV,lasV,revV]
  refine aAa h (by simp only [push_cast,seval,-Nat.reducePow,V.imm,V.imms,aAg,aAl,aAo,aAn,aBp]) (aAk _) ?_
  simp only [push_cast,seval,-Nat.reducePow,outS,Stt.v,Stt.cs,stoV,pplV,watV,lasV]
  exact aAc 3 _ (aAk _)
 by_cases k3:c.kind=3
 ·obtain ⟨kd,cu,cn,ct,cto,ctx,cnn,ch⟩:=c
  obtain rfl:kd=3:=k3
  have h:=h309 rfl
  rw [show aBh ok s ⟨3,cu,cn,ct,cto,ctx,cnn,ch⟩ seq=resS s ⟨3,cu,cn,ct,cto,ctx,cnn,ch⟩ from rfl]
  simp only [c296,push_cast,seval,-Nat.reducePow,Stt.v,Stt.cs,Chg.v,Chg.cs,stoV,pplV,watV,lasV,revV]
  refine aAa h (by simp only [push_cast,seval,-Nat.reducePow,V.imm,V.imms,aAg,aAl,aAo,aAn,aBp]) (aAk _) ?_
  simp only [push_cast,seval,-Nat.reducePow,outS,Stt.v,Stt.cs,stoV,pplV,watV,lasV]
  exact aAc 3 _ (aAk _)
 by_cases k4:c.kind=4
 ·obtain ⟨kd,cu,cn,ct,cto,ctx,cnn,ch⟩:=c
  obtain rfl:kd=4:=k4
  have h:=h310 rfl
  rw [show aBh ok s ⟨4,cu,cn,ct,cto,ctx,cnn,ch⟩ seq=movS ok s ⟨4,cu,cn,ct,cto,ctx,cnn,ch⟩ seq from rfl]
  simp only [c296,push_cast,seval,-Nat.reducePow,Stt.v,Stt.cs,Chg.v,Chg.cs,stoV,pplV,watV,lasV,revV]
  refine aAa h (by simp only [push_cast,seval,-Nat.reducePow,V.imm,V.imms,aAg,aAl,aAo,aAn,aBp]) (aAk _) ?_
  simp only [push_cast,seval,-Nat.reducePow,outS,Stt.v,Stt.cs,stoV,pplV,watV,lasV]
  exact aAc 3 _ (aAk _)
 by_cases k5:c.kind=5
 ·obtain ⟨kd,cu,cn,ct,cto,ctx,cnn,ch⟩:=c
  obtain rfl:kd=5:=k5
  have h:=h311 rfl
  rw [show aBh ok s ⟨5,cu,cn,ct,cto,ctx,cnn,ch⟩ seq=takS s ⟨5,cu,cn,ct,cto,ctx,cnn,ch⟩ seq from rfl]
  simp only [c296,push_cast,seval,-Nat.reducePow,Stt.v,Stt.cs,Chg.v,Chg.cs,stoV,pplV,watV,lasV,revV]
  refine aAa h (by simp only [push_cast,seval,-Nat.reducePow,V.imm,V.imms,aAg,aAl,aAo,aAn,aBp]) (aAk _) ?_
  simp only [push_cast,seval,-Nat.reducePow,outS,Stt.v,Stt.cs,stoV,pplV,watV,lasV]
  exact aAc 3 _ (aAk _)
 by_cases k6:c.kind=6
 ·obtain ⟨kd,cu,cn,ct,cto,ctx,cnn,ch⟩:=c
  obtain rfl:kd=6:=k6
  simp only [c296,push_cast,seval,-Nat.reducePow,Stt.v,Stt.cs,Chg.v,Chg.cs,stoV,pplV,watV,lasV,revV]
  refine ⟨⟨by omega,by omega⟩,aA0 (fun h=>?_) (fun h=>?_)⟩
  ·simp only [push_cast,seval,-Nat.reducePow,outS,Stt.v,Stt.cs,stoV,pplV,watV,lasV]
   rw [show aBh ok s ⟨6,cu,cn,ct,cto,ctx,cnn,ch⟩ seq=(s,2) from by simp [aBh,h]]
   exact aAc 3 _ (aAk (s,2))
  ·simp only [push_cast,seval,-Nat.reducePow,outS,Stt.v,Stt.cs,stoV,pplV,watV,lasV]
   rw [show aBh ok s ⟨6,cu,cn,ct,cto,ctx,cnn,ch⟩ seq=({ s with clock:=s.clock+cnn },0) from by simp [aBh,h]]
   have hn:=hn6 rfl
   simp only at hn
   exact ⟨⟨by omega,by omega⟩,aAc 3 _ (aAk ({ s with clock:=s.clock+cnn },0))⟩
 by_cases k7:c.kind=7
 ·obtain ⟨kd,cu,cn,ct,cto,ctx,cnn,ch⟩:=c
  obtain rfl:kd=7:=k7
  have h:=h312 (.inl rfl)
  rw [show aBh ok s ⟨7,cu,cn,ct,cto,ctx,cnn,ch⟩ seq=wtcS s ⟨7,cu,cn,ct,cto,ctx,cnn,ch⟩ from rfl]
  simp only [c296,push_cast,seval,-Nat.reducePow,Stt.v,Stt.cs,Chg.v,Chg.cs,stoV,pplV,watV,lasV,revV]
  refine aAa h (by simp only [push_cast,seval,-Nat.reducePow,V.imm,V.imms,aAg,aAl,aAo,aAn,aBp]) (aAk _) ?_
  simp only [push_cast,seval,-Nat.reducePow,outS,Stt.v,Stt.cs,stoV,pplV,watV,lasV]
  exact aAc 3 _ (aAk _)
 by_cases k8:c.kind=8
 ·obtain ⟨kd,cu,cn,ct,cto,ctx,cnn,ch⟩:=c
  obtain rfl:kd=8:=k8
  have h:=h312 (.inr rfl)
  rw [show aBh ok s ⟨8,cu,cn,ct,cto,ctx,cnn,ch⟩ seq=wtcS s ⟨8,cu,cn,ct,cto,ctx,cnn,ch⟩ from rfl]
  simp only [c296,push_cast,seval,-Nat.reducePow,Stt.v,Stt.cs,Chg.v,Chg.cs,stoV,pplV,watV,lasV,revV]
  refine aAa h (by simp only [push_cast,seval,-Nat.reducePow,V.imm,V.imms,aAg,aAl,aAo,aAn,aBp]) (aAk _) ?_
  simp only [push_cast,seval,-Nat.reducePow,outS,Stt.v,Stt.cs,stoV,pplV,watV,lasV]
  exact aAc 3 _ (aAk _)
 by_cases k9:c.kind=9
 ·obtain ⟨kd,cu,cn,ct,cto,ctx,cnn,ch⟩:=c
  obtain rfl:kd=9:=k9
  have h:=h313 rfl
  rw [show aBh ok s ⟨9,cu,cn,ct,cto,ctx,cnn,ch⟩ seq=prpS s ⟨9,cu,cn,ct,cto,ctx,cnn,ch⟩ from rfl]
  simp only [c296,push_cast,seval,-Nat.reducePow,Stt.v,Stt.cs,Chg.v,Chg.cs,stoV,pplV,watV,lasV,revV]
  refine aAa h (by simp only [push_cast,seval,-Nat.reducePow,V.imm,V.imms,aAg,aAl,aAo,aAn,aBp]) (aAk _) ?_
  simp only [push_cast,seval,-Nat.reducePow,outS,Stt.v,Stt.cs,stoV,pplV,watV,lasV]
  exact aAc 3 _ (aAk _)
 rw [show aBh ok s c seq=shtS s c from by simp [aBh,k1,k2,k3,k4,k5,k6,k7,k8,k9]]
 simp only [c296,push_cast,seval,-Nat.reducePow,k1,k2,k3,k4,k5,k6,k7,k8,k9,Stt.v,Stt.cs,Chg.v,Chg.cs,stoV,pplV,watV,lasV,revV]
 refine aAa h314 (by simp only [push_cast,seval,-Nat.reducePow,V.imm,V.imms,aAg,aAl,aAo,aAn,aBp]) (aAk _) ?_
 simp only [push_cast,seval,-Nat.reducePow,outS,Stt.v,Stt.cs,stoV,pplV,watV,lasV]
 exact aAc 3 _ (aAk _)
end Go.Ab
namespace Go.Ab
variable {P:Program} {F T:Nat→Nat}
def aCu (pol:List UInt8→Bool) (c:Chg):Bool :=
 if c.kind=1 then (if c.t=polT then !pol c.text else false) else if c.kind=2∨c.kind=3∨c.kind=5 then decide (c.t=polT) else if c.kind=4 then decide (c.t=polT)||decide (c.to=polT) else false
theorem aFs (t:Ttl):decide (t=polT)=(decide (t.1=5)&&decide (t.2=[80,111,108,105,99,121])):=by
 obtain ⟨a,b⟩:=t
 simp [polT,Prod.ext_iff]
theorem t297 (hf:bEs P F T) (h315:aTo P F T) {pol:List UInt8→Bool} (c:Chg) (h316:c.t=polT→∃ x y z n e,PTr P (F 316) [.str c.text] (.tup [.agg [x,y,z],.int .i64 n,.int .i64 e])∧x.imm=true∧y.imm=true∧z.imm=true∧(x.one&&(y.one&&z.one))=true∧(pol c.text=true↔e=0)):PTr P (F 297) [c.v] (.bool (aCu pol c)):=by
 have hp:=t315 h315
 refine ptrC [] hf (by simp) rfl ?_
 by_cases k1:c.kind=1
 ·simp only [c297,push_cast,seval,-Nat.reducePow,Chg.v,Chg.cs,revV,k1]
  refine aAa hp (by simp only [push_cast,seval,-Nat.reducePow]) (by simp only [push_cast,seval,-Nat.reducePow,tV,tCs]) ?_
  simp only [push_cast,seval,-Nat.reducePow,tV,tCs,polT]
  by_cases ht:c.t=polT
  ·have e1:c.t.1=5:=by rw [ht]; rfl
   have e2:c.t.2=[80,111,108,105,99,121]:=by rw [ht]; rfl
   obtain ⟨x,y,z,n,e,h316,ix,iy,iz,ho,he⟩:=h316 ht
   simp only [push_cast,seval,-Nat.reducePow,e1,e2]
   refine aAa h316 (by simp only [push_cast,seval,-Nat.reducePow]) (by simp only [V.imm,V.imms,ix,iy,iz,Bool.and_self]) ?_
   by_cases h0:e=0
   ·simp only [push_cast,seval,-Nat.reducePow,h0]
    rw [show aCu pol c=false from by simp [aCu,k1,ht,he.2 h0]]
    exact ⟨if_pos ho,aAc 3 _ (by rfl)⟩
   ·simp only [push_cast,seval,-Nat.reducePow,h0]
    rw [show aCu pol c=true from by
     have:pol c.text=false:=by
      cases hpc:pol c.text with
      | false=>rfl
      | true=>exact absurd (he.1 hpc) h0
     simp [aCu,k1,ht,this]]
    exact ⟨if_pos ho,aAc 3 _ (by rfl)⟩
  ·have hd:=aFs c.t
   rw [decide_eq_false ht] at hd
   simp only [push_cast,seval,-Nat.reducePow,← hd]
   rw [show aCu pol c=false from by simp [aCu,k1,ht]]
   exact aAc 3 _ rfl
 by_cases k2:c.kind=2
 ·simp only [c297,push_cast,seval,-Nat.reducePow,Chg.v,Chg.cs,revV,k1,k2]
  refine aAa hp (by simp only [push_cast,seval,-Nat.reducePow]) (by simp only [push_cast,seval,-Nat.reducePow,tV,tCs]) ?_
  simp only [push_cast,seval,-Nat.reducePow,tV,tCs,polT]
  rw [show aCu pol c=(decide (c.t.1=5)&&decide (c.t.2=[80,111,108,105,99,121])) from by rw [← aFs]; simp [aCu,k2]]
  exact aAc 3 _ rfl
 by_cases k3:c.kind=3
 ·simp only [c297,push_cast,seval,-Nat.reducePow,Chg.v,Chg.cs,revV,k1,k2,k3]
  refine aAa hp (by simp only [push_cast,seval,-Nat.reducePow]) (by simp only [push_cast,seval,-Nat.reducePow,tV,tCs]) ?_
  simp only [push_cast,seval,-Nat.reducePow,tV,tCs,polT]
  rw [show aCu pol c=(decide (c.t.1=5)&&decide (c.t.2=[80,111,108,105,99,121])) from by rw [← aFs]; simp [aCu,k3]]
  exact aAc 3 _ rfl
 by_cases k5:c.kind=5
 ·simp only [c297,push_cast,seval,-Nat.reducePow,Chg.v,Chg.cs,revV,k1,k2,k3,k5]
  refine aAa hp (by simp only [push_cast,seval,-Nat.reducePow]) (by simp only [push_cast,seval,-Nat.reducePow,tV,tCs]) ?_
  simp only [push_cast,seval,-Nat.reducePow,tV,tCs,polT]
  rw [show aCu pol c=(decide (c.t.1=5)&&decide (c.t.2=[80,111,108,105,99,121])) from by rw [← aFs]; simp [aCu,k5]]
  exact aAc 3 _ rfl
 by_cases k4:c.kind=4
 ·simp only [c297,push_cast,seval,-Nat.reducePow,Chg.v,Chg.cs,revV,k1,k2,k3,k5,k4]
  refine aAa hp (by simp only [push_cast,seval,-Nat.reducePow]) (by simp only [push_cast,seval,-Nat.reducePow,tV,tCs]) ?_
  simp only [push_cast,seval,-Nat.reducePow,tV,tCs,polT]
  by_cases ht:c.t=polT
  ·have hd:=aFs c.t
   rw [decide_eq_true ht] at hd
   simp only [push_cast,seval,-Nat.reducePow,← hd]
   rw [show aCu pol c=true from by simp [aCu,k4,ht]]
   exact aAc 3 _ rfl
  ·have hd:=aFs c.t
   rw [decide_eq_false ht] at hd
   simp only [push_cast,seval,-Nat.reducePow,← hd]
   refine aAa hp (by simp only [push_cast,seval,-Nat.reducePow]) (by simp only [push_cast,seval,-Nat.reducePow,tV,tCs]) ?_
   simp only [push_cast,seval,-Nat.reducePow,tV,tCs,polT]
   rw [show aCu pol c=(decide (c.to.1=5)&&decide (c.to.2=[80,111,108,105,99,121])) from by rw [← aFs]; simp [aCu,k4,ht]]
   exact aAc 3 _ rfl
 simp only [c297,push_cast,seval,-Nat.reducePow,Chg.v,Chg.cs,revV,k1,k2,k3,k5,k4]
 rw [show aCu pol c=false from by simp [aCu,k1,k2,k3,k5,k4]]
 exact aAc 3 _ rfl
end Go.Ab
