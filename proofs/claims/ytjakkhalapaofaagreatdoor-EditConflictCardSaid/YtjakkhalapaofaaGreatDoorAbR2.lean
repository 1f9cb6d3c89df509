/- Several texts of one kind, merged. No condition. -/
import Derived.Test.YtjakkhalapaofaaGreatDoorAbR1
import Derived.Test.YtjakkhalapaofaaGreatDoorAbR0
set_option linter.unusedSimpArgs false
set_option linter.unusedVariables false
namespace Go.Ab
variable {P:Program} {F T:Nat→Nat}
theorem aYk {k:Nat} (h1:1≤k) (h2:k≤3):aCr (k:Nat) false=tagO k:=by
 have a1:(1:Int)≤(k:Nat):=by omega
 have a2:((k:Nat):Int)≤3:=by omega
 simp [aCr,a1,a2,tagO]
theorem aYg {k:Nat} (h1:1≤k) (h2:k≤3):aCr (k:Nat) true=tagC k:=by
 have a1:(1:Int)≤(k:Nat):=by omega
 have a2:((k:Nat):Int)≤3:=by omega
 simp [aCr,a1,a2,tagC]
theorem bCt {k:Nat}:(tagO k).length≤20:=by have:=aEg (k:Nat); simp [tagO]; omega
theorem bC7 {k:Nat}:(tagC k).length≤20:=by have:=aEg (k:Nat); simp [tagC]; omega
def spV (i:Nat) (q:Nat×Nat):V:=.tup [.int .i64 q.1,.int .i64 (if q.1=0 then 0 else (i+q.2:Nat):Nat)]
theorem bMi {L:Heap} {i k n:Nat} {q:Nat×Nat} {a e:Int} (h:q=(k,n)) (hk:k≠0) (ha:a=k) (he:e=((i+n:Nat):Int)):view L 3 (.tup [.int .i64 a,.int .i64 e])=spV i q:=by
 subst h ha he; simp [view,spV,hk]
end Go.Ab
namespace Go.Ab
variable {P:Program} {F T:Nat→Nat}
theorem t81 (hf:Is81 P F T) (s:List UInt8) (t:Tok) (h1:t.fr≤t.to) (h2:t.to≤s.length) (h3:s.length≤8192):PTr P (F 81) [.str s,.agg t.vs] (.str (t.text s)):=by
 refine ptrC [] hf (by simp) rfl ?_
 have a1:¬ ((t.fr:Nat):Int)<0:=by omega
 have a2:¬ ((t.to:Nat):Int)<((t.fr:Nat):Int):=by omega
 have a3:¬ ((s.length:Nat):Int)<((t.to:Nat):Int):=by omega
 simp only [c81,push_cast,seval,-Nat.reducePow,Tok.vs,a1,a2,a3]
 exact ⟨h1,h2,rfl⟩
end Go.Ab
namespace Go.Ab
variable {P:Program} {F T:Nat→Nat}
def El.rc (e:El):List V:=[.int .i64 e.kind,.int .i64 e.tag,.int .i64 e.count,.lst 5 (encs e.list),.lst 3 (encA e.args)]
def rvs (els:List El):List V:=els.reverse.map fun e=>.agg e.rc
theorem aNn:rvs []=[]:=rfl
theorem aEq (e:El) (r:List El):rvs (e::r)=rvs r++[.agg e.rc]:=by simp [rvs]
theorem aCu (els:List El):(rvs els).length=els.length:=by simp [rvs]
theorem bI2 (e:El) (r:List El):(rvs (e::r)).getD r.length .junk=.agg e.rc:=by
 rw [aEq,List.getD_eq_getElem?_getD,← aCu r]; simp
theorem bDu (e:El) (r:List El):(rvs (e::r)).take r.length=rvs r:=by
 rw [aEq,← aCu r]; simp
theorem aRc (e:El):V.imms e.rc=true:=by simp [El.rc,V.imms,V.imm,aAr,aCe]
theorem aTw (els:List El):V.imms (rvs els)=true:=by
 induction els with
 | nil=>rfl
 | cons e r ih=>rw [aEq,aCq,ih]; simp [V.imms,V.imm,aRc]
structure RP (T:Nat→Nat) (L:Heap) (nx p:Nat) (els:List El):Prop where
 box:L p=some (.box (T 9) [.lst 5 (rvs els)])
 lt:p<nx
structure RD (T:Nat→Nat) (L:Heap) (nx p:Nat) (els:List El) (L':Heap) (nx':Nat):Prop where
 box:L' p=some (.box (T 9) [.lst 5 (rvs els)])
 le:nx≤nx'
 fr:∀ b ty cs,b<nx→b≠p→L b=some (.box ty cs)→V.imms cs=true→L' b=some (.box ty cs)
theorem RD.rp {L L':Heap} {nx nx' p:Nat} {els:List El} (h:RD T L nx p els L' nx') (hp:p<nx):RP T L' nx' p els:=⟨h.box,Nat.lt_of_lt_of_le hp h.le⟩
theorem RD.trans {L L1 L2:Heap} {nx n1 n2 p:Nat} {a b:List El} (h:RD T L nx p a L1 n1) (k:RD T L1 n1 p b L2 n2):RD T L nx p b L2 n2 :=
 ⟨k.box,Nat.le_trans h.le k.le,fun x ty cs hx hne hb hi=>k.fr x ty cs (Nat.lt_of_lt_of_le hx h.le) hne (h.fr x ty cs hx hne hb hi) hi⟩
theorem aHo {L:Heap} {nx p:Nat} (h:p<nx):∀ (n:Nat) (x:Option Blk) (M:Heap),upd M (nx+n) x p=M p:=fun n x M=>aAd _ _ _ _ (by omega)
theorem bJ6 {s:St} {p id ty ty0 sz:Nat} {es:List V} {n:Nat} (hp:s.L p=some (.box ty0 [.own id sz 0 n])) (hid:s.L id=some (.vec ty sz es)) (hn:n=es.length) (hi:V.imms es=true) :
 ∃ s',FzS s s'∧s'.nx=s.nx∧s'.L p=some (.box ty0 [.lst sz es])∧(∀ i,(s.env i).imm=true→s'.env i=s.env i)∧(∀ i a b,s.env i=.ptr a b→s'.env i=.ptr a b) ∧
   (∀ b ty cs,s.L b=some (.box ty cs)→V.imms cs=true→s'.L b=some (.box ty cs)):=by
 have key:∀ b ty1 cs,s.L b=some (.box ty1 cs)→aBc id es s.L b=some (.box ty1 (V.fzL id es cs)):=by
  intro b ty1 cs hb
  have hne:b≠id:=by rintro rfl; rw [hid] at hb; cases hb
  simp [aBc,hne,hb,Blk.fz]
 refine ⟨s.fz id es,.step id ty sz es hid hi (.refl _),rfl,?_,fun i h=>aJk id es _ h,fun i a b h=>?_,fun b ty1 cs hb hc=>?_⟩
 ·rw [show (s.fz id es).L p=aBc id es s.L p from rfl,key p ty0 _ hp]
  subst hn
  simp [V.fzL,V.fz]
 ·show (s.env i).fz id es=_
  rw [h]; rfl
 ·rw [show (s.fz id es).L b=aBc id es s.L b from rfl,key b ty1 cs hb,aC2 id es cs hc]
theorem aUx {s:St} {K:St→Prop} {p id ty ty0 sz:Nat} {es:List V} {n:Nat} (hp:s.L p=some (.box ty0 [.own id sz 0 n])) (hid:s.L id=some (.vec ty sz es)) (hn:n=es.length) (hi:V.imms es=true)
 (h:∀ s':St,s'.nx=s.nx→s'.L p=some (.box ty0 [.lst sz es])→(∀ i,(s.env i).imm=true→s'.env i=s.env i)→(∀ i a b,s.env i=.ptr a b→s'.env i=.ptr a b) →
  (∀ b ty cs,s.L b=some (.box ty cs)→V.imms cs=true→s'.L b=some (.box ty cs))→K s'):∃ s',FzS s s'∧K s':=by
 obtain ⟨s',h1,h2,h3,h4,h5,h6⟩:=bJ6 hp hid hn hi
 exact ⟨s',h1,h s' h2 h3 h4 h5 h6⟩
theorem aUv {d ty sz:Nat} {ys:List V} {s:St} {K:St→Prop} (hne:ys≠[]) (h:ys.length≤2^32∧K ((s.add (s.nx+d) (.vec ty sz ys)).set d (.own (s.nx+d) sz 0 ys.length))):aQr d ty sz .nils (.lst sz ys) s K :=
 aC3 (by rw [aPr]; exact ⟨fun e=>absurd e hne,fun _=>h⟩)
theorem t62 (hf:Is62 P F T) {L:Heap} {nx p:Nat} {e:El} {r:List El} (h:RP T L nx p (e::r)) (hl:r.length<2^30) :
 ECall P (F 62) [.ptr p 0] L nx (fun v L' nx'=>v=.agg e.rc∧nx≤nx'∧∀ b,b<nx→L' b=L b):=by
 have h0:=h.box
 have hp:=h.lt
 have ht:=bI2 e r
 have hn:=aCu (e::r)
 have hq:=aHo (L:=L) hp
 have hqb:∀ (b:Nat),b<nx→∀ (n:Nat) (x:Option Blk) (M:Heap),upd M (nx+n) x b=M b:=fun b hb=>aHo (L:=L) hb
 refine aB1 [] hf (by simp) ?_
 have e1:((r.length:Nat):Int)+1-1=(r.length:Nat):=by omega
 simp only [c62,push_cast,seval,-Nat.reducePow,h0,hn,List.length_cons,e1,ht,hq,El.rc]
 refine ⟨by omega,by omega,by omega,by omega,fun b hb=>?_⟩
 rw [hqb b hb,hqb b hb]
theorem t85 (hf:Is85 P F T) {L:Heap} {nx p:Nat} {e e':El} {r:List El} (h:RP T L nx p (e::r)) (hl:r.length<2^30) :
 ECall P (F 85) [.ptr p 0,.agg e'.rc] L nx (fun _ L' nx'=>RD T L nx p (e'::r) L' nx'):=by
 have h0:=h.box
 have hp:=h.lt
 have ht:=bDu e r
 have hn:=aCu (e::r)
 have hnr:=aCu r
 have hc:=aEq e' r
 have hi:=aTw (e'::r)
 have hq:=aHo (L:=L) hp
 have hu:=fun (x:Option Blk) (M:Heap)=>aAf M p x
 have hui:=fun (n:Nat) (x:Option Blk) (M:Heap)=>aAf M (nx+n) x
 have hpi:∀ (n:Nat) (x:Option Blk) (M:Heap),upd M p x (nx+n)=M (nx+n):=fun n x M=>aAd _ _ _ _ (by omega)
 have hir:=aRc e'
 have e1:((r.length:Nat):Int)+1-1=(r.length:Nat):=by omega
 have fin:∀ s':St,∀ m,s'.nx=m→nx≤m→s'.L p=some (.box (T 9) [.lst 5 (rvs (e'::r))])→(∀ b ty cs,b<nx→b≠p→L b=some (.box ty cs)→V.imms cs=true→s'.L b=some (.box ty cs))→RD T L nx p (e'::r) s'.L m :=
  fun s' m a b c d=>⟨c,b,d⟩
 have a1:∀ b,b<nx→∀ (n:Nat) (x:Option Blk) (M:Heap),upd M (nx+n) x b=M b:=fun b hb n x M=>aAd _ _ _ _ (by omega)
 have a2:∀ b,b≠p→∀ (x:Option Blk) (M:Heap),upd M p x b=M b:=fun b hb x M=>aAd _ _ _ _ hb
 refine aB1 [] hf (by simp) ?_
 by_cases hne:r=[]
 ·subst hne
  simp only [c85,push_cast,seval,-Nat.reducePow,h0,hq,hir,hn,e1,El.rc,hui,aNn,aEq]
  refine aC3 ?_
  simp only [push_cast,seval,-Nat.reducePow,h0,hq,hir,hn,e1,El.rc,hui,aNn,aEq,aOd]
  refine aC3 ?_
  simp only [push_cast,seval,-Nat.reducePow,h0,hq,hir,hn,e1,El.rc,hui,aNn,aEq,aKk]
  refine ⟨by omega,aUx (p:=p) (id:=nx+41) (ty:=T 11) (ty0:=T 9) (sz:=5) (es:=rvs [e']) (n:=1) ?_ ?_ ?_ hi ?_⟩
  ·simp only [push_cast,seval,-Nat.reducePow,hu]
  ·simp only [push_cast,seval,-Nat.reducePow,hpi,hui,aEq,aNn,El.rc]
  ·simp [aCu]
  ·intro s' f2 f3 f4 f5 f6
   have f2':s'.nx=nx+44:=f2
   refine ⟨by omega,⟨f3,by omega,fun b ty cs hb hbp hLb hcc=>f6 b ty cs ?_ hcc⟩⟩
   simp only [push_cast,seval,-Nat.reducePow,a1 b hb,a2 b hbp,hLb]
 ·have hrn:rvs r≠[]:=by intro x; have:=congrArg List.length x; rw [hnr] at this; exact hne (List.length_eq_zero_iff.1 this)
  simp only [c85,push_cast,seval,-Nat.reducePow,h0,hq,hir,hn,List.length_cons,e1,ht,El.rc]
  refine ⟨⟨by omega,by omega⟩,by omega,aUv hrn ?_⟩
  have tk:(rvs r).take r.length=rvs r:=List.take_of_length_le (by omega)
  simp only [push_cast,seval,-Nat.reducePow,h0,hq,hir,hn,List.length_cons,e1,ht,El.rc,hnr,hui,tk]
  refine ⟨by omega,by omega,aUx (p:=p) (id:=nx+41) (ty:=T 11) (ty0:=T 9) (sz:=5) (es:=rvs (e'::r)) (n:=r.length+1) ?_ ?_ ?_ hi ?_⟩
  ·simp only [push_cast,seval,-Nat.reducePow,hu]
  ·simp only [push_cast,seval,-Nat.reducePow,hpi,hui,hc,El.rc]
  ·simp [aCu]
  ·intro s' f2 f3 f4 f5 f6
   have f2':s'.nx=nx+44:=f2
   refine ⟨by omega,⟨f3,by omega,fun b ty cs hb hbp hLb hcc=>f6 b ty cs ?_ hcc⟩⟩
   simp only [push_cast,seval,-Nat.reducePow,a1 b hb,a2 b hbp,hLb]
end Go.Ab
namespace Go.Ab
variable {P:Program} {F T:Nat→Nat}
theorem aF2 (i:List Node) (a:Node):encs (i++[a])=encs i++[.agg a.cs]:=by simp [aG8,encs]
theorem PTr.res {f:Nat} {args:List V} {r r':V} (h:PTr P f args r) (hl:r.le r'):PTr P f args r':=by
 intro D w vs hD hg hn hr
 refine (h D w vs hD hg hn hr).mono ?_
 rintro e w' ⟨v,h1,h2,h3⟩
 exact ⟨v,h1,h2,h3.le hl⟩
theorem aU6 {l:List Node} {n:Node} (h:n.kind=1) (hs:n.text≠[]):addN n l=aB6 l n.text:=by simp [addN,h,hs]
theorem bOe (hf:bA0 P F T) (i:List Node) (t':Int) (s':List UInt8) (ks':List Node) (as':List Arg) (s:List UInt8) (hs:s≠[]) (hb:aAv (i++[.mk 1 t' s' ks' as'])+s.length≤2^29) :
 PTr P (F 109) [.lst 5 (encs (i++[.mk 1 t' s' ks' as'])),.agg (tx s).cs] (.lst 5 (encs i++[.agg [.int .i64 1,.int .i64 0,.str (s'++s),.nils,.nils]])):=by
 have hlen:=aC6 (i++[.mk 1 t' s' ks' as'])
 have hne:encs (i++[.mk 1 t' s' ks' as'])≠[]:=by rw [aF2]; simp
 have hl:(encs (i++[.mk 1 t' s' ks' as'])).length=i.length+1:=by rw [aA8]; simp
 have hget:(encs (i++[.mk 1 t' s' ks' as'])).getD i.length .junk=.agg (Node.mk 1 t' s' ks' as').cs:=aK5 i _ []
 have e1:((i.length:Nat):Int)+1-1=(i.length:Nat):=by omega
 have hp:(0:Int)<((i.length:Nat):Int)+1:=by omega
 have bl:s'.length+s.length≤2^30:=by simp [aA4,aAv,Node.bulk] at hb; omega
 have lb:i.length+2≤2^30:=by simp at hlen; omega
 have hset:(encs (i++[.mk 1 t' s' ks' as'])).set i.length (.agg [.int .i64 1,.int .i64 0,.str (s'++s),.nils,.nils])=encs i++[.agg [.int .i64 1,.int .i64 0,.str (s'++s),.nils,.nils]]:=by
  rw [aF2,← aA8 i,List.set_append_right _ _ (Nat.le_refl _)]; simp
 refine ptrC [] hf (by simp) (by simp [V.imm,V.imms,aCq,aAr]) ?_
 simp only [c109,push_cast,seval,-Nat.reducePow,Node.cs,tx]
 refine aUv hne ?_
 simp only [push_cast,seval,-Nat.reducePow,hl]
 refine ⟨by omega,?_⟩
 refine aAw (fun s1=>False) ?_ (fun _ h=>h.elim)
 simp only [push_cast,seval,-Nat.reducePow,hs,hp,e1,hget,Node.cs,encs,encA]
 refine ⟨by omega,by omega,by omega,by omega,by omega,by omega,by omega,?_⟩
 rw [hset]
 have hv:=aLc (L:=upd (upd (upd (fun x=>none) 3 (some (Blk.box (T 0) [V.int IntKind.i64 1,V.int IntKind.i64 0,V.str s,V.lst 5 [],V.lst 3 []]))) 56 (some (Blk.vec (T 0) 5 (encs (i++[Node.mk 1 t' s' ks' as']))))) 56 (some (Blk.vec (T 0) 5 (encs i++[.agg [.int .i64 1,.int .i64 0,.str (s'++s),.nils,.nils]])))) (sz:=5) (aAf _ _ _) (by simp [V.imm,V.imms,aCq,aAr])
 simp only [List.length_append,aA8,List.length_singleton] at hv
 exact hv
theorem t109 (hf:bA0 P F T) (l:List Node) (n:Node) (hb:aAv l+n.bulk≤2^29) (ht:n.kind=1→n=tx n.text):PTr P (F 109) [.lst 5 (encs l),.agg n.cs] (ln 5 (encs (addN n l))):=by
 have hlen:=aC6 l
 by_cases hA:n.kind=1∧n.text≠[]∧∃ i a,l=i++[a]∧a.kind=1
 ·obtain ⟨h1,h2,i,a,rfl,h3⟩:=hA
  obtain ⟨k',t',s',ks',as'⟩:=a
  simp only [Node.kind] at h3
  subst h3
  have hn:=ht h1
  generalize n.text=s at hn h2
  subst hn
  have h0:=bOe hf i t' s' ks' as' s h2 (by simp [tx,Node.bulk,aAv,aCh] at hb; omega)
  refine h0.res ?_
  have e:addN (tx s) (i++[Node.mk 1 t' s' ks' as'])=i++[tx (s'++s)]:=by
   rw [aU6 rfl (by exact h2)]; simp [aB6,tx,Node.text]
  rw [e,aF2]
  have hln:ln 5 (encs i++[.agg (tx (s'++s)).cs])=.lst 5 (encs i++[.agg (tx (s'++s)).cs]):=by cases encs i <;> rfl
  rw [hln,aUg]
  have:∀ a:List V,V.leL (a++[.agg [.int .i64 1,.int .i64 0,.str (s'++s),.nils,.nils]]) (a++[.agg (tx (s'++s)).cs]):=by
   intro a
   induction a with
   | nil=>simp only [List.nil_append,tx,Node.cs,encs,encA,aBh,aDk,aJh,aMx,aFs,and_true]
   | cons x r ih=>simp only [List.cons_append,aBh]; exact ⟨V.le_refl _,ih⟩
  exact this _
 refine ptrC [] hf (by simp) (by simp only [aDe,aAr]) ?_
 obtain ⟨k,t,s,ks,as⟩:=n
 simp only [Node.bulk] at hb
 simp only [Node.kind,Node.text] at ht
 rcases List.eq_nil_or_concat l with rfl | ⟨i,a,rfl⟩
 ·simp only [c109,push_cast,seval,-Nat.reducePow,Node.cs,encs]
  refine aC3 ?_
  simp only [push_cast,seval,-Nat.reducePow,aOd]
  refine aAw (fun s1=>s1.env 3=.ptr 3 0∧s1.env 5=.nils∧s1.L 3=some (.box (T 0) (Node.mk k t s ks as).cs)∧¬ (k=1∧s=[])) ?_ ?_
  ·by_cases hk:k=1
   ·subst hk
    by_cases hs:s=[]
    ·subst hs
     simp only [push_cast,seval,-Nat.reducePow]
     simp [view,addN,Node.kind,Node.text,encs,ln]
    ·simp only [push_cast,seval,-Nat.reducePow,hs,Node.cs]
   ·simp only [push_cast,seval,-Nat.reducePow,hk,Node.cs]
    simp [hk]
  ·rintro s1 ⟨j3,j5,jL,hno⟩
   have hadd:addN (.mk k t s ks as) []=[.mk k t s ks as]:=by
    unfold addN
    simp only [Node.kind,Node.text]
    by_cases hk:k=1
    ·have hs:s≠[]:=fun e=>hno ⟨hk,e⟩
     have h1:=ht hk
     simp only [hk,hs,aB6,if_true,if_false,List.getLast?_nil,List.nil_append]
     rw [← hk,h1,hk]; rfl
    ·simp [hk]
   simp only [Node.cs] at jL
   simp only [push_cast,seval,-Nat.reducePow,j3,j5,jL]
   refine aC3 ?_
   simp only [push_cast,seval,-Nat.reducePow,j3,j5,jL,aKk]
   rw [hadd]
   simp [view,encs,ln,Node.cs,upd]
 ·rw [List.concat_eq_append] at hb hlen hA ⊢
  have hne:encs (i++[a])≠[]:=by rw [aF2]; simp
  have hl:(encs (i++[a])).length=i.length+1:=by rw [aA8]; simp
  simp only [c109,push_cast,seval,-Nat.reducePow,Node.cs]
  refine aUv hne ?_
  simp only [push_cast,seval,-Nat.reducePow,hl]
  have hget:(encs (i++[a])).getD i.length .junk=.agg a.cs:=aK5 i a []
  obtain ⟨k',t',s',ks',as'⟩:=a
  have e1:((i.length:Nat):Int)+1-1=(i.length:Nat):=by omega
  have hp:(0:Int)<((i.length:Nat):Int)+1:=by omega
  have bl:s'.length+s.length≤2^30:=by simp [aA4,aAv,Node.bulk] at hb; omega
  have lb:i.length+2≤2^30:=by simp at hlen; omega
  refine ⟨by omega,?_⟩
  refine aAw (fun s1=>s1.env 3=.ptr 3 0∧s1.env 5=.own 56 5 0 (i.length+1)∧s1.L 3=some (.box (T 0) (Node.mk k t s ks as).cs)∧s1.L 56=some (.vec (T 0) 5 (encs (i++[.mk k' t' s' ks' as'])))∧¬ (k=1∧(s=[]∨k'=1))) ?_ ?_
  ·by_cases hk:k=1
   ·subst hk
    by_cases hs:s=[]
    ·subst hs
     simp only [push_cast,seval,-Nat.reducePow]
     have e:addN (Node.mk 1 t [] ks as) (i++[.mk k' t' s' ks' as'])=i++[.mk k' t' s' ks' as']:=by simp [addN,Node.kind,Node.text]
     have hv:=aLc (L:=upd (upd (fun x=>none) 3 (some (Blk.box (T 0) [V.int IntKind.i64 1,V.int IntKind.i64 t,V.str [],V.lst 5 (encs ks),V.lst 3 (encA as)]))) 56 (some (Blk.vec (T 0) 5 (encs (i++[Node.mk k' t' s' ks' as']))))) (sz:=5) (aAf _ _ _) (aAr _)
     rw [hl] at hv
     rw [e,hv]
     have hln:∀ z:List V,z≠[]→ln 5 z=.lst 5 z:=fun z hz=>by cases z with | nil=>exact absurd rfl hz | cons _ _=>rfl
     rw [hln _ hne]
    ·have hk':k'≠1:=fun e=>hA ⟨rfl,hs,i,_,rfl,e⟩
     simp only [push_cast,seval,-Nat.reducePow,hs,hp,e1,hget,hk',Node.cs]
     simp [hs,hk']
     omega
   ·simp only [push_cast,seval,-Nat.reducePow,hk,Node.cs]
    simp [hk]
  ·rintro s1 ⟨j3,j5,jL,jv,hno⟩
   have hadd:addN (.mk k t s ks as) (i++[.mk k' t' s' ks' as'])=i++[.mk k' t' s' ks' as']++[.mk k t s ks as]:=by
    unfold addN
    simp only [Node.kind,Node.text]
    by_cases hk:k=1
    ·have hs:s≠[]:=fun e=>hno ⟨hk,.inl e⟩
     have hk':k'≠1:=fun e=>hno ⟨hk,.inr e⟩
     have h1:=ht hk
     have hpush:aB6 (i++[.mk k' t' s' ks' as']) s=i++[.mk k' t' s' ks' as']++[tx s]:=by simp [aB6,hk',tx]
     simp only [hk,hs,if_true,if_false,hpush]
     rw [← hk,h1]
    ·simp [hk]
   simp only [Node.cs] at jL
   have tk:(encs (i++[Node.mk k' t' s' ks' as'])).take (i.length+1)=encs (i++[Node.mk k' t' s' ks' as']):=List.take_of_length_le (by omega)
   simp only [push_cast,seval,-Nat.reducePow,j3,j5,jL,jv,hl,tk]
   refine ⟨by omega,?_⟩
   have hln:∀ (z:List V) (y:V),ln 5 (z++[y])=.lst 5 (z++[y]):=fun z y=>by cases z <;> rfl
   rw [hadd,aF2 (i++[Node.mk k' t' s' ks' as']) (Node.mk k t s ks as),hln]
   have hv:=aLc (L:=upd (upd s1.L 56 none) (s1.nx+48) (some (Blk.vec (T 0) 5 (encs (i++[Node.mk k' t' s' ks' as'])++[V.agg (Node.mk k t s ks as).cs])))) (sz:=5) (aAf _ _ _) (by simp [V.imm,V.imms,aCq,aAr,Node.cs,aCe])
   simp only [List.length_append,hl,List.length_singleton] at hv
   exact hv
end Go.Ab
