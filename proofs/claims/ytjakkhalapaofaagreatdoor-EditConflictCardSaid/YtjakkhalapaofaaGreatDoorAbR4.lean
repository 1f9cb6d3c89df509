/- Several texts of one kind, merged. No condition. -/
import Derived.Test.YtjakkhalapaofaaGreatDoorAbR2
set_option linter.unusedSimpArgs false
set_option linter.unusedVariables false
namespace Go.Ab
variable {P:Program} {F T:Nat→Nat}
theorem aKx (i:List Arg) (a:Arg):encA (i++[a])=encA i++[.agg a.cs]:=by simp [aKf,encA]
theorem bA6 {z:Nat} {l:List V}:V.le (ln z l) (.lst z l):=aXl (V.leL_refl l)
theorem bHv {a:List V} {x y:V} (h:x.le y):V.leL (a++[x]) (a++[y]):=by
 induction a with
 | nil=>simp only [List.nil_append,aBh,aDk,and_true]; exact h
 | cons z r ih=>simp only [List.cons_append,aBh]; exact ⟨V.le_refl _,ih⟩
theorem bAf {s:St} {K:St→Prop} {p id ty ty0 sz:Nat} {es pre:List V} {n:Nat} (hp:s.L p=some (.box ty0 (pre++[.own id sz 0 n]))) (hid:s.L id=some (.vec ty sz es)) (hn:n=es.length) (hi:V.imms es=true) (hpre:V.imms pre=true)
 (h:∀ s':St,s'.nx=s.nx→s'.L p=some (.box ty0 (pre++[.lst sz es]))→(∀ i,(s.env i).imm=true→s'.env i=s.env i)→(∀ i a b,s.env i=.ptr a b→s'.env i=.ptr a b) →
  (∀ b ty cs,s.L b=some (.box ty cs)→V.imms cs=true→s'.L b=some (.box ty cs))→K s'):∃ s',FzS s s'∧K s':=by
 have key:∀ b ty1 cs,s.L b=some (.box ty1 cs)→aBc id es s.L b=some (.box ty1 (V.fzL id es cs)):=by
  intro b ty1 cs hb
  have hne:b≠id:=by rintro rfl; rw [hid] at hb; cases hb
  simp [aBc,hne,hb,Blk.fz]
 refine ⟨s.fz id es,.step id ty sz es hid hi (.refl _),h _ rfl ?_ (fun i h=>aJk id es _ h) (fun i a b h=>?_) fun b ty1 cs hb hc=>?_⟩
 ·rw [show (s.fz id es).L p=aBc id es s.L p from rfl,key p ty0 _ hp,aBx,List.map_append,← aBx,aC2 id es pre hpre]
  subst hn
  simp [V.fz]
 ·show (s.env i).fz id es=_
  rw [h]; rfl
 ·rw [show (s.fz id es).L b=aBc id es s.L b from rfl,key b ty1 cs hb,aC2 id es cs hc]
theorem RD.grow {L L':Heap} {nx n' m p:Nat} {els:List El} (h:RD T L nx p els L' n') (hm:n'≤m):RD T L nx p els L' m:=⟨h.box,Nat.le_trans h.le hm,h.fr⟩
theorem t82 (hf:Is82 P F T) (h62:Is62 P F T) (h85:Is85 P F T) (h109:bA0 P F T) {L:Heap} {nx p:Nat} {e:El} {r:List El} (h:RP T L nx p (e::r)) (n:Node) (ht:n.kind=1→n=tx n.text) (hb:pot (e::r)+n.bulk≤2^29) :
 ECall P (F 82) [.ptr p 0,.agg n.cs] L nx (fun _ L' nx'=>RD T L nx p (addS n (e::r)) L' nx'):=by
 have h0:=h.box
 have hp:=h.lt
 have hpl:=aM7 r
 simp only [pot,El.pot] at hb
 have hq:=aHo (L:=L) hp
 have h109':=fun l hl=>t109 h109 l n hl ht
 have himm:=bAx n
 obtain ⟨k,t,s,ks,as⟩:=n
 simp only [Node.cs] at himm h109'
 refine aB1 [] hf (by simp) ?_
 simp only [c82,push_cast,seval,-Nat.reducePow,Node.cs]
 refine aAe (t62 h62 (L:=upd L (nx+3) (some (Blk.box (T 0) (Node.mk k t s ks as).cs))) (nx:=nx+96) (p:=p) (e:=e) (r:=r) ⟨by rw [hq]; exact h0,by omega⟩ (by omega)) ?_
 rintro v L1 n1 ⟨rfl,g1,g2⟩
 have k1:L1 p=some (.box (T 9) [.lst 5 (rvs (e::r))]):=by rw [g2 p (by omega),hq]; exact h0
 have k3:L1 (nx+3)=some (.box (T 0) (Node.mk k t s ks as).cs):=by rw [g2 _ (by omega)]; exact aAf _ _ _
 have hp1:p<n1:=by omega
 have hq1:=aHo (L:=L1) hp1
 simp only [push_cast,seval,-Nat.reducePow,k1,hq1,El.rc]
 have hq3:∀ (n:Nat) (x:Option Blk) (M:Heap),upd M (n1+n) x (nx+3)=M (nx+3):=fun n x M=>aAd _ _ _ _ (by omega)
 have hui:=fun (n:Nat) (x:Option Blk) (M:Heap)=>aAf M (n1+n) x
 have k3':L1 (nx+3)=some (.box (T 0) [.int .i64 k,.int .i64 t,.str s,.lst 5 (encs ks),.lst 3 (encA as)]):=k3
 have hfr:∀ b ty cs,b<nx→b≠p→L b=some (.box ty cs)→V.imms cs=true→L1 b=some (.box ty cs):=by
  intro b ty cs hb hbp hLb hc
  rw [g2 b (by omega),aAd _ _ _ _ (by omega),hLb]
 refine aAw (fun s1=>∃ m cs',s1.env 0=.ptr p 0∧s1.env 4=.ptr m 0∧s1.L m=some (.box (T 11) cs')∧V.leL cs' (e.add (.mk k t s ks as)).rc∧V.imms cs'=true∧cs'.length=5∧RD T L nx p (e::r) s1.L s1.nx) ?_ ?_
 ·have branchB:¬ (e.kind=3∧e.args≠[])→(e.add (.mk k t s ks as)).rc=[.int .i64 e.kind,.int .i64 e.tag,.int .i64 e.count,.lst 5 (encs (addN (.mk k t s ks as) e.list)),.lst 3 (encA e.args)]:=fun hx=>by
   simp only [El.add,if_neg hx,El.rc]
  have hbl:aAv e.list+(Node.mk k t s ks as).bulk≤2^29:=by omega
  have aux:∀ (M:Heap) (m2:Nat) (cs0:List V),M (n1+4)=some (.box (T 11) cs0)→V.leL cs0 (e.add (.mk k t s ks as)).rc→V.imms cs0=true→cs0.length=5→n1≤m2→M p=L1 p→(∀ b,b<n1→b≠p→M b=L1 b) →
   ∃ m cs',V.ptr (n1+4) 0=V.ptr m 0∧M m=some (.box (T 11) cs')∧V.leL cs' (e.add (.mk k t s ks as)).rc∧V.imms cs'=true∧cs'.length=5∧RD T L nx p (e::r) M m2 :=
   fun M m2 cs0 b1 b2 b3 b4 b5 b6 b7=>⟨n1+4,cs0,rfl,b1,b2,b3,b4,⟨by rw [b6,k1],by omega,fun b ty cs hb hbp hLb hc=>by rw [b7 b (by omega) hbp]; exact hfr b ty cs hb hbp hLb hc⟩⟩
  have a1:∀ b,b<n1→∀ (n:Nat) (x:Option Blk) (M:Heap),upd M (n1+n) x b=M b:=fun b hb n x M=>aAd _ _ _ _ (by omega)
  by_cases h3:e.kind=3
  ·have h3':((e.kind:Nat):Int)=3:=by omega
   rcases List.eq_nil_or_concat e.args with ha | ⟨i,a,ha⟩
   ·simp only [push_cast,seval,-Nat.reducePow,h3',ha,encA,hq3,k3',hui]
    refine aAa (h109' e.list hbl) (by simp only [push_cast,seval,-Nat.reducePow,aAr,aCe]) (by simp only [push_cast,seval,-Nat.reducePow,aDe,aAr]) ?_
    simp only [push_cast,seval,-Nat.reducePow,h3',ha,encA,hq3,k3',hui]
    refine aux _ _ _ (hui _ _ _) ?_ ?_ rfl (by omega) ?_ ?_
    ·rw [branchB (fun x=>x.2 ha)]
     simp only [h3',ha,encA,aBh,aDk,aFs,true_and,and_true]
     exact bA6
    ·simp only [V.imms,V.imm,aDe,aAr,Bool.and_self]
    ·simp only [push_cast,seval,-Nat.reducePow,hq1]
    ·intro b hb hbp
     simp only [push_cast,seval,-Nat.reducePow,a1 b hb]
   ·rw [List.concat_eq_append] at ha
    obtain ⟨b,x,v⟩:=a
    have hlA:(i++[Arg.mk b x v]).length=i.length+1:=by simp
    have hpA:(0:Int)<((i.length:Nat):Int)+1:=by omega
    have hnA:encA (i++[Arg.mk b x v])≠[]:=by rw [aKx]; simp
    have hlE:(encA (i++[Arg.mk b x v])).length=i.length+1:=by rw [aCf]; simp
    have hgA:(encA (i++[Arg.mk b x v])).getD i.length .junk=.agg (Arg.mk b x v).cs:=bCa i _ []
    have e1:((i.length:Nat):Int)+1-1=(i.length:Nat):=by omega
    have hbi:i.length+1≤2^29:=by rw [ha,hlA] at hb; omega
    have hba:aAv v+(Node.mk k t s ks as).bulk≤2^29:=by
     rw [ha,aCv] at hb
     simp only [aCh,Arg.bulk] at hb
     omega
    simp only [push_cast,seval,-Nat.reducePow,h3',ha,aCf,hlA,hpA,hq3,k3',hui]
    refine aUv hnA ?_
    simp only [push_cast,seval,-Nat.reducePow,h3',ha,aCf,hlA,hpA,hq3,k3',hui,hlE,e1,hgA,Arg.cs]
    refine ⟨by omega,⟨by omega,by omega⟩,by omega,by omega,?_⟩
    refine aAa (h109' v hba) (by simp only [push_cast,seval,-Nat.reducePow,aAr,aCe]) (by simp only [push_cast,seval,-Nat.reducePow,aDe,aAr]) ?_
    simp only [push_cast,seval,-Nat.reducePow,h3',ha,aCf,hlA,hpA,hq3,k3',hui,hlE,e1,hgA,Arg.cs]
    refine ⟨⟨by omega,by omega⟩,by omega,by omega,?_⟩
    have hset:(encA (i++[Arg.mk b x v])).set i.length (.agg [.bool b,.lst 5 (encs x),ln 5 (encs (addN (.mk k t s ks as) v))])=encA i++[.agg [.bool b,.lst 5 (encs x),ln 5 (encs (addN (.mk k t s ks as) v))]]:=by
     rw [aKx,← aCf i,List.set_append_right _ _ (Nat.le_refl _)]; simp
    have h4:∀ (n m:Nat) (x:Option Blk) (M:Heap),n≠m→upd M (n1+n) x (n1+m)=M (n1+m):=fun n m x M hh=>aAd _ _ _ _ (by omega)
    refine bAf (p:=n1+4) (id:=n1+116) (ty:=T 1) (ty0:=T 11) (sz:=3) (pre:=[.int .i64 3,.int .i64 e.tag,.int .i64 e.count,.lst 5 (encs e.list)]) (es:=encA i++[.agg [.bool b,.lst 5 (encs x),ln 5 (encs (addN (.mk k t s ks as) v))]]) (n:=i.length+1) ?_ ?_ ?_ ?_ ?_ ?_
    ·simp only [push_cast,seval,-Nat.reducePow,hui]
    ·simp only [push_cast,seval,-Nat.reducePow,hui,hset]
    ·simp [aCf]
    ·simp [aCq,aCe,V.imms,V.imm,aAr,aDe]
    ·simp [V.imms,V.imm,aAr]
    ·intro s' f2 f3 f4 f5 f6
     have v0:=f5 0 p 0 (by simp only [push_cast,seval,-Nat.reducePow])
     have v4:=f5 4 (n1+4) 0 (by simp only [push_cast,seval,-Nat.reducePow])
     have hadd:(e.add (.mk k t s ks as)).rc=[.int .i64 3,.int .i64 e.tag,.int .i64 e.count,.lst 5 (encs e.list),.lst 3 (encA i++[.agg (Arg.mk b x (addN (.mk k t s ks as) v)).cs])]:=by
      have hx:e.kind=3∧e.args≠[]:=⟨h3,by rw [ha]; simp⟩
      unfold El.add
      rw [if_pos hx]
      simp only [El.rc,ha,aCt,aKx,Arg.setVal,Arg.val,h3']
     refine ⟨n1+4,_,v0,v4,f3,?_,?_,rfl,⟨?_,by rw [f2]; show nx≤_; simp only []; omega,fun b2 ty cs hb2 hbp hLb hc=>?_⟩⟩
     ·rw [hadd]
      simp only [List.cons_append,List.nil_append,aBh,aDk,aFs,true_and,and_true,aUg]
      refine bHv ?_
      simp only [Arg.cs,aJh,aBh,aDk,aFs,true_and,and_true]
      exact bA6
     ·simp [aCq,aCe,V.imms,V.imm,aAr,aDe]
     ·refine f6 p _ _ ?_ (by simp [V.imms,V.imm,aTw])
      simp only [push_cast,seval,-Nat.reducePow,hq1,k1]
     ·refine f6 b2 ty cs ?_ hc
      simp only [push_cast,seval,-Nat.reducePow,a1 b2 (by omega)]
      exact hfr b2 ty cs hb2 hbp hLb hc
  ·have h3':((e.kind:Nat):Int)≠3:=by omega
   simp only [push_cast,seval,-Nat.reducePow,h3',hq3,k3',hui]
   refine aAa (h109' e.list hbl) (by simp only [push_cast,seval,-Nat.reducePow,aAr,aCe]) (by simp only [push_cast,seval,-Nat.reducePow,aDe,aAr]) ?_
   simp only [push_cast,seval,-Nat.reducePow,h3',hq3,k3',hui]
   refine aux _ _ _ (hui _ _ _) ?_ ?_ rfl (by omega) ?_ ?_
   ·rw [branchB (fun x=>h3 x.1)]
    simp only [aBh,aDk,aFs,true_and,and_true]
    exact bA6
   ·simp only [V.imms,V.imm,aDe,aAr,aCe,Bool.and_self]
   ·simp only [push_cast,seval,-Nat.reducePow,hq1]
   ·intro b hb hbp
    simp only [push_cast,seval,-Nat.reducePow,a1 b hb]
 ·rintro s1 ⟨m,cs',j0,j4,jL,hle,hi,hlen,hrd⟩
  simp only [push_cast,seval,-Nat.reducePow,j0,j4,jL,hlen]
  have htk:cs'.take 5=cs':=List.take_of_length_le (by omega)
  rw [htk]
  have hrd:=hrd.grow (m:=s1.nx+48) (by omega)
  have hrp:=hrd.rp hp
  refine aAe ((t85 h85 (e':=e.add (.mk k t s ks as)) hrp (by omega)).le ?_) ?_
  ·simp only [aBh,aDk,aFs,true_and,and_true,aJh]; exact hle
  ·rintro q L2 n2 hq2
   have:=(hrd.trans (k:=hq2)).grow (m:=n2+48) (by omega)
   exact ⟨by have:=hrd.le; have:=hq2.le; omega,this⟩
end Go.Ab
namespace Go.Ab
variable {P:Program} {F T:Nat→Nat}
def Node.tq (n:Node):Prop:=n.kind=1→n=tx n.text
theorem bPc (q:List UInt8):(tx q).tq:=fun _=>rfl
theorem RP.grow {L:Heap} {nx m p:Nat} {els:List El} (h:RP T L nx p els) (hm:nx≤m):RP T L m p els:=⟨h.box,Nat.lt_of_lt_of_le h.lt hm⟩
theorem RD.down {L L':Heap} {nx m n' p:Nat} {els:List El} (h:RD T L m p els L' n') (hm:nx≤m):RD T L nx p els L' n':=⟨h.box,Nat.le_trans hm h.le,fun b ty cs hb=>h.fr b ty cs (Nat.lt_of_lt_of_le hb hm)⟩
theorem RP.rd {L:Heap} {nx m p:Nat} {els:List El} (h:RP T L nx p els) (hm:nx≤m):RD T L nx p els L m:=⟨h.box,hm,fun b ty cs _ _ hb _=>hb⟩
end Go.Ab
namespace Go.Ab
variable {P:Program} {F T:Nat→Nat}
theorem Jn.tq:∀ (m:Nat) {l:List Node},l.length=m→Jn l→∀ n,n∈l→n.tq
 | 0,l,hl,_,n,hn=>by rw [List.length_eq_zero_iff.1 hl] at hn; simp at hn
 | m+1,l,hl,h,n,hn=>by
   rcases List.eq_nil_or_concat l with rfl | ⟨i,a,rfl⟩
   ·simp at hn
   ·rw [List.concat_eq_append] at h hn hl
    obtain ⟨h1,h2,h3⟩:=h.snoc
    rcases List.mem_append.1 hn with hn | hn
    ·exact Jn.tq m (by simpa using hl) h1 n hn
    ·simp at hn
     subst hn
     intro hk
     have h4:=aLy (h3 hk).2
     rw [(h3 hk).2] at h4
     have:=(List.append_inj' h4 rfl).2
     simpa [tx] using this
end Go.Ab
