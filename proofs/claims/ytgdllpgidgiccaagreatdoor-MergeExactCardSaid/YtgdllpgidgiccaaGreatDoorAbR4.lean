/- Several texts of one kind, merged. No condition. -/
import Derived.Test.YtgdllpgidgiccaaGreatDoorAbR2
set_option linter.unusedSimpArgs false
set_option linter.unusedVariables false
namespace Go.Ab
variable {P:Program} {F T:Nat→Nat}
theorem aE9 (i:List Arg) (a:Arg):encA (i++[a])=encA i++[.agg a.cs]:=by simp [aLj,encA]
theorem bA0 {z:Nat} {l:List V}:V.le (ln z l) (.lst z l):=aWz (V.leL_refl l)
theorem aNv {a:List V} {x y:V} (h:x.le y):V.leL (a++[x]) (a++[y]):=by
 induction a with
 | nil=>simp only [List.nil_append,aAx,aBl,and_true]; exact h
 | cons z r ih=>simp only [List.cons_append,aAx]; exact ⟨V.le_refl _,ih⟩
theorem aIj {s:St} {K:St→Prop} {p id ty ty0 sz:Nat} {es pre:List V} {n:Nat} (hp:s.L p=some (.box ty0 (pre++[.own id sz 0 n]))) (hid:s.L id=some (.vec ty sz es)) (hn:n=es.length) (hi:V.imms es=true) (hpre:V.imms pre=true)
 (h:∀ s':St,s'.nx=s.nx→s'.L p=some (.box ty0 (pre++[.lst sz es]))→(∀ i,(s.env i).imm=true→s'.env i=s.env i)→(∀ i a b,s.env i=.ptr a b→s'.env i=.ptr a b) →
  (∀ b ty cs,s.L b=some (.box ty cs)→V.imms cs=true→s'.L b=some (.box ty cs))→K s'):∃ s',FzS s s'∧K s':=by
 have key:∀ b ty1 cs,s.L b=some (.box ty1 cs)→aBa id es s.L b=some (.box ty1 (V.fzL id es cs)):=by
  intro b ty1 cs hb
  have hne:b≠id:=by rintro rfl; rw [hid] at hb; cases hb
  simp [aBa,hne,hb,Blk.fz]
 refine ⟨s.fz id es,.step id ty sz es hid hi (.refl _),h _ rfl ?_ (fun i h=>aHs id es _ h) (fun i a b h=>?_) fun b ty1 cs hb hc=>?_⟩
 ·rw [show (s.fz id es).L p=aBa id es s.L p from rfl,key p ty0 _ hp,aCo,List.map_append,← aCo,aC5 id es pre hpre]
  subst hn
  simp [V.fz]
 ·show (s.env i).fz id es=_
  rw [h]; rfl
 ·rw [show (s.fz id es).L b=aBa id es s.L b from rfl,key b ty1 cs hb,aC5 id es cs hc]
theorem RD.grow {L L':Heap} {nx n' m p:Nat} {els:List El} (h:RD T L nx p els L' n') (hm:n'≤m):RD T L nx p els L' m:=⟨h.box,Nat.le_trans h.le hm,h.fr⟩
theorem t82 (hf:Is82 P F T) (h62:Is62 P F T) (h85:Is85 P F T) (h109:aZ8 P F T) {L:Heap} {nx p:Nat} {e:El} {r:List El} (h:RP T L nx p (e::r)) (n:Node) (ht:n.kind=1→n=tx n.text) (hb:pot (e::r)+n.bulk≤2^29) :
 ECall P (F 82) [.ptr p 0,.agg n.cs] L nx (fun _ L' nx'=>RD T L nx p (addS n (e::r)) L' nx'):=by
 have h0:=h.box
 have hp:=h.lt
 have hpl:=aBv r
 simp only [pot,El.pot] at hb
 have hq:=aFp (L:=L) hp
 have h109':=fun l hl=>t109 h109 l n hl ht
 have himm:=aSq n
 obtain ⟨k,t,s,ks,as⟩:=n
 simp only [Node.cs] at himm h109'
 refine aA2 [] hf (by simp) ?_
 simp only [c82,push_cast,seval,-Nat.reducePow,Node.cs]
 refine aAa (t62 h62 (L:=upd L (nx+3) (some (Blk.box (T 0) (Node.mk k t s ks as).cs))) (nx:=nx+96) (p:=p) (e:=e) (r:=r) ⟨by rw [hq]; exact h0,by omega⟩ (by omega)) ?_
 rintro v L1 n1 ⟨rfl,g1,g2⟩
 have k1:L1 p=some (.box (T 9) [.lst 5 (rvs (e::r))]):=by rw [g2 p (by omega),hq]; exact h0
 have k3:L1 (nx+3)=some (.box (T 0) (Node.mk k t s ks as).cs):=by rw [g2 _ (by omega)]; exact aAd _ _ _
 have hp1:p<n1:=by omega
 have hq1:=aFp (L:=L1) hp1
 simp only [push_cast,seval,-Nat.reducePow,k1,hq1,El.rc]
 have hq3:∀ (n:Nat) (x:Option Blk) (M:Heap),upd M (n1+n) x (nx+3)=M (nx+3):=fun n x M=>aAc _ _ _ _ (by omega)
 have hui:=fun (n:Nat) (x:Option Blk) (M:Heap)=>aAd M (n1+n) x
 have k3':L1 (nx+3)=some (.box (T 0) [.int .i64 k,.int .i64 t,.str s,.lst 5 (encs ks),.lst 3 (encA as)]):=k3
 have hfr:∀ b ty cs,b<nx→b≠p→L b=some (.box ty cs)→V.imms cs=true→L1 b=some (.box ty cs):=by
  intro b ty cs hb hbp hLb hc
  rw [g2 b (by omega),aAc _ _ _ _ (by omega),hLb]
 refine aAs (fun s1=>∃ m cs',s1.env 0=.ptr p 0∧s1.env 4=.ptr m 0∧s1.L m=some (.box (T 11) cs')∧V.leL cs' (e.add (.mk k t s ks as)).rc∧V.imms cs'=true∧cs'.length=5∧RD T L nx p (e::r) s1.L s1.nx) ?_ ?_
 ·have branchB:¬ (e.kind=3∧e.args≠[])→(e.add (.mk k t s ks as)).rc=[.int .i64 e.kind,.int .i64 e.tag,.int .i64 e.count,.lst 5 (encs (addN (.mk k t s ks as) e.list)),.lst 3 (encA e.args)]:=fun hx=>by
   simp only [El.add,if_neg hx,El.rc]
  have hbl:aAk e.list+(Node.mk k t s ks as).bulk≤2^29:=by omega
  have aux:∀ (M:Heap) (m2:Nat) (cs0:List V),M (n1+4)=some (.box (T 11) cs0)→V.leL cs0 (e.add (.mk k t s ks as)).rc→V.imms cs0=true→cs0.length=5→n1≤m2→M p=L1 p→(∀ b,b<n1→b≠p→M b=L1 b) →
   ∃ m cs',V.ptr (n1+4) 0=V.ptr m 0∧M m=some (.box (T 11) cs')∧V.leL cs' (e.add (.mk k t s ks as)).rc∧V.imms cs'=true∧cs'.length=5∧RD T L nx p (e::r) M m2 :=
   fun M m2 cs0 b1 b2 b3 b4 b5 b6 b7=>⟨n1+4,cs0,rfl,b1,b2,b3,b4,⟨by rw [b6,k1],by omega,fun b ty cs hb hbp hLb hc=>by rw [b7 b (by omega) hbp]; exact hfr b ty cs hb hbp hLb hc⟩⟩
  have a1:∀ b,b<n1→∀ (n:Nat) (x:Option Blk) (M:Heap),upd M (n1+n) x b=M b:=fun b hb n x M=>aAc _ _ _ _ (by omega)
  by_cases h3:e.kind=3
  ·have h3':((e.kind:Nat):Int)=3:=by omega
   rcases List.eq_nil_or_concat e.args with ha | ⟨i,a,ha⟩
   ·simp only [push_cast,seval,-Nat.reducePow,h3',ha,encA,hq3,k3',hui]
    refine aAb (h109' e.list hbl) (by simp only [push_cast,seval,-Nat.reducePow,aAm,aBg]) (by simp only [push_cast,seval,-Nat.reducePow,aCs,aAm]) ?_
    simp only [push_cast,seval,-Nat.reducePow,h3',ha,encA,hq3,k3',hui]
    refine aux _ _ _ (hui _ _ _) ?_ ?_ rfl (by omega) ?_ ?_
    ·rw [branchB (fun x=>x.2 ha)]
     simp only [h3',ha,encA,aAx,aBl,aCe,true_and,and_true]
     exact bA0
    ·simp only [V.imms,V.imm,aCs,aAm,Bool.and_self]
    ·simp only [push_cast,seval,-Nat.reducePow,hq1]
    ·intro b hb hbp
     simp only [push_cast,seval,-Nat.reducePow,a1 b hb]
   ·rw [List.concat_eq_append] at ha
    obtain ⟨b,x,v⟩:=a
    have hlA:(i++[Arg.mk b x v]).length=i.length+1:=by simp
    have hpA:(0:Int)<((i.length:Nat):Int)+1:=by omega
    have hnA:encA (i++[Arg.mk b x v])≠[]:=by rw [aE9]; simp
    have hlE:(encA (i++[Arg.mk b x v])).length=i.length+1:=by rw [aAr]; simp
    have hgA:(encA (i++[Arg.mk b x v])).getD i.length .junk=.agg (Arg.mk b x v).cs:=aL1 i _ []
    have e1:((i.length:Nat):Int)+1-1=(i.length:Nat):=by omega
    have hbi:i.length+1≤2^29:=by rw [ha,hlA] at hb; omega
    have hba:aAk v+(Node.mk k t s ks as).bulk≤2^29:=by
     rw [ha,aBy] at hb
     simp only [aA0,Arg.bulk] at hb
     omega
    simp only [push_cast,seval,-Nat.reducePow,h3',ha,aAr,hlA,hpA,hq3,k3',hui]
    refine aIl hnA ?_
    simp only [push_cast,seval,-Nat.reducePow,h3',ha,aAr,hlA,hpA,hq3,k3',hui,hlE,e1,hgA,Arg.cs]
    refine ⟨by omega,⟨by omega,by omega⟩,by omega,by omega,?_⟩
    refine aAb (h109' v hba) (by simp only [push_cast,seval,-Nat.reducePow,aAm,aBg]) (by simp only [push_cast,seval,-Nat.reducePow,aCs,aAm]) ?_
    simp only [push_cast,seval,-Nat.reducePow,h3',ha,aAr,hlA,hpA,hq3,k3',hui,hlE,e1,hgA,Arg.cs]
    refine ⟨⟨by omega,by omega⟩,by omega,by omega,?_⟩
    have hset:(encA (i++[Arg.mk b x v])).set i.length (.agg [.bool b,.lst 5 (encs x),ln 5 (encs (addN (.mk k t s ks as) v))])=encA i++[.agg [.bool b,.lst 5 (encs x),ln 5 (encs (addN (.mk k t s ks as) v))]]:=by
     rw [aE9,← aAr i,List.set_append_right _ _ (Nat.le_refl _)]; simp
    have h4:∀ (n m:Nat) (x:Option Blk) (M:Heap),n≠m→upd M (n1+n) x (n1+m)=M (n1+m):=fun n m x M hh=>aAc _ _ _ _ (by omega)
    refine aIj (p:=n1+4) (id:=n1+116) (ty:=T 1) (ty0:=T 11) (sz:=3) (pre:=[.int .i64 3,.int .i64 e.tag,.int .i64 e.count,.lst 5 (encs e.list)]) (es:=encA i++[.agg [.bool b,.lst 5 (encs x),ln 5 (encs (addN (.mk k t s ks as) v))]]) (n:=i.length+1) ?_ ?_ ?_ ?_ ?_ ?_
    ·simp only [push_cast,seval,-Nat.reducePow,hui]
    ·simp only [push_cast,seval,-Nat.reducePow,hui,hset]
    ·simp [aAr]
    ·simp [aB1,aBg,V.imms,V.imm,aAm,aCs]
    ·simp [V.imms,V.imm,aAm]
    ·intro s' f2 f3 f4 f5 f6
     have v0:=f5 0 p 0 (by simp only [push_cast,seval,-Nat.reducePow])
     have v4:=f5 4 (n1+4) 0 (by simp only [push_cast,seval,-Nat.reducePow])
     have hadd:(e.add (.mk k t s ks as)).rc=[.int .i64 3,.int .i64 e.tag,.int .i64 e.count,.lst 5 (encs e.list),.lst 3 (encA i++[.agg (Arg.mk b x (addN (.mk k t s ks as) v)).cs])]:=by
      have hx:e.kind=3∧e.args≠[]:=⟨h3,by rw [ha]; simp⟩
      unfold El.add
      rw [if_pos hx]
      simp only [El.rc,ha,aBq,aE9,Arg.setVal,Arg.val,h3']
     refine ⟨n1+4,_,v0,v4,f3,?_,?_,rfl,⟨?_,by rw [f2]; show nx≤_; simp only []; omega,fun b2 ty cs hb2 hbp hLb hc=>?_⟩⟩
     ·rw [hadd]
      simp only [List.cons_append,List.nil_append,aAx,aBl,aCe,true_and,and_true,aKc]
      refine aNv ?_
      simp only [Arg.cs,aDk,aAx,aBl,aCe,true_and,and_true]
      exact bA0
     ·simp [aB1,aBg,V.imms,V.imm,aAm,aCs]
     ·refine f6 p _ _ ?_ (by simp [V.imms,V.imm,aFo])
      simp only [push_cast,seval,-Nat.reducePow,hq1,k1]
     ·refine f6 b2 ty cs ?_ hc
      simp only [push_cast,seval,-Nat.reducePow,a1 b2 (by omega)]
      exact hfr b2 ty cs hb2 hbp hLb hc
  ·have h3':((e.kind:Nat):Int)≠3:=by omega
   simp only [push_cast,seval,-Nat.reducePow,h3',hq3,k3',hui]
   refine aAb (h109' e.list hbl) (by simp only [push_cast,seval,-Nat.reducePow,aAm,aBg]) (by simp only [push_cast,seval,-Nat.reducePow,aCs,aAm]) ?_
   simp only [push_cast,seval,-Nat.reducePow,h3',hq3,k3',hui]
   refine aux _ _ _ (hui _ _ _) ?_ ?_ rfl (by omega) ?_ ?_
   ·rw [branchB (fun x=>h3 x.1)]
    simp only [aAx,aBl,aCe,true_and,and_true]
    exact bA0
   ·simp only [V.imms,V.imm,aCs,aAm,aBg,Bool.and_self]
   ·simp only [push_cast,seval,-Nat.reducePow,hq1]
   ·intro b hb hbp
    simp only [push_cast,seval,-Nat.reducePow,a1 b hb]
 ·rintro s1 ⟨m,cs',j0,j4,jL,hle,hi,hlen,hrd⟩
  simp only [push_cast,seval,-Nat.reducePow,j0,j4,jL,hlen]
  have htk:cs'.take 5=cs':=List.take_of_length_le (by omega)
  rw [htk]
  have hrd:=hrd.grow (m:=s1.nx+48) (by omega)
  have hrp:=hrd.rp hp
  refine aAa ((t85 h85 (e':=e.add (.mk k t s ks as)) hrp (by omega)).le ?_) ?_
  ·simp only [aAx,aBl,aCe,true_and,and_true,aDk]; exact hle
  ·rintro q L2 n2 hq2
   have:=(hrd.trans (k:=hq2)).grow (m:=n2+48) (by omega)
   exact ⟨by have:=hrd.le; have:=hq2.le; omega,this⟩
end Go.Ab
namespace Go.Ab
variable {P:Program} {F T:Nat→Nat}
structure RC (P:Program) (F T:Nat→Nat):Prop where
 h37:Is37 P F T
 h60:Is60 P F T
 h61:Is61 P F T
 h62:Is62 P F T
 h82:Is82 P F T
 h83:Is83 P F T
 h85:Is85 P F T
 h86:Is86 P F T
 h87:Is87 P F T
 h88:Is88 P F T
 h89:Is89 P F T
 h90:Is90 P F T
 h91:Is91 P F T
 h92:Is92 P F T
 h109:aZ8 P F T
 h110:bLx P F T
 h111:bHg P F T
 sp:Sp P F T
def Node.tq (n:Node):Prop:=n.kind=1→n=tx n.text
theorem bCe (q:List UInt8):(tx q).tq:=fun _=>rfl
theorem RP.grow {L:Heap} {nx m p:Nat} {els:List El} (h:RP T L nx p els) (hm:nx≤m):RP T L m p els:=⟨h.box,Nat.lt_of_lt_of_le h.lt hm⟩
theorem RD.down {L L':Heap} {nx m n' p:Nat} {els:List El} (h:RD T L m p els L' n') (hm:nx≤m):RD T L nx p els L' n':=⟨h.box,Nat.le_trans hm h.le,fun b ty cs hb=>h.fr b ty cs (Nat.lt_of_lt_of_le hb hm)⟩
theorem RP.rd {L:Heap} {nx m p:Nat} {els:List El} (h:RP T L nx p els) (hm:nx≤m):RD T L nx p els L m:=⟨h.box,hm,fun b ty cs _ _ hb _=>hb⟩
theorem aY3 (n:Node):n.cs.length=5:=by obtain ⟨k,t,s,ks,as⟩:=n; rfl
theorem bB6 (n:Node):n.cs.take 5=n.cs:=List.take_of_length_le (by rw [aY3]; exact Nat.le_refl _)
theorem r82 (K:RC P F T) {L:Heap} {nx p:Nat} {els:List El} (h:RP T L nx p els) (hne:els≠[]) (n:Node) (ht:n.tq) (hb:pot els+n.bulk≤2^29) :
 ECall P (F 82) [.ptr p 0,.agg n.cs] L nx (fun _ L' nx'=>RD T L nx p (addS n els) L' nx'):=by
 cases els with
 | nil=>exact absurd rfl hne
 | cons e r=>exact t82 K.h82 K.h62 K.h85 K.h109 h n ht hb
theorem r86 (K:RC P F T) {L:Heap} {nx p:Nat} {els:List El} (h:RP T L nx p els) (hne:els≠[]) (q:List UInt8) (hb:pot els+(q.length+1)≤2^29) :
 ECall P (F 86) [.ptr p 0,.str q] L nx (fun _ L' nx'=>RD T L nx p (addS (tx q) els) L' nx'):=by
 refine aA2 [] K.h86 (by simp) ?_
 simp only [c86,push_cast,seval,-Nat.reducePow]
 refine aAa ((r82 K (h.grow (m:=nx+8) (by omega)) hne (tx q) (bCe q) (by simp [tx,Node.bulk,aAk,aA0]; omega)).le ?_) ?_
 ·simp only [tx,Node.cs,encs,encA,aAx,aBl,aDk,aD7,aCe,and_true]
 ·rintro v L1 n1 hr
  have:=(hr.down (nx:=nx) (by omega)).grow (m:=n1+8) (by omega)
  exact ⟨this.le,this⟩
theorem r89 (K:RC P F T) {L:Heap} {nx p:Nat} {els:List El} (h:RP T L nx p els) (hne:els≠[]) (l:List Node) (ht:∀ n,n∈l→n.tq) (hb:pot els+aAk l≤2^29) :
 ECall P (F 89) [.ptr p 0,.lst 5 (encs l)] L nx (fun _ L' nx'=>RD T L nx p (aBp l els) L' nx'):=by
 have hlb:=aCi l
 refine aA2 [] K.h89 (by simp) ?_
 simp only [c89,push_cast,seval,-Nat.reducePow]
 refine aAe (fun m s=>∃ a r,l=a++r∧m=r.length∧s.env 0=.ptr p 0∧s.env 1=.lst 5 (encs l)∧s.env 4=.int .i64 a.length∧RD T L nx p (aBp a els) s.L s.nx) l.length ⟨[],l,?_⟩ fun m s hJ=>?_
 ·simp only [push_cast,seval,-Nat.reducePow,aIn]
  exact h.rd (by omega)
 ·obtain ⟨a,r,rfl,rfl,j0,j1,j4,hrd⟩:=hJ
  cases r with
  | nil =>
    simp only [push_cast,seval,-Nat.reducePow,j0,j1,j4,aBe]
    exact ⟨by have:=hrd.le; omega,hrd.grow (by omega)⟩
  | cons x r =>
    have hlt:((a.length:Nat):Int)<((a++x::r).length:Nat):=by simp; omega
    have hg:=aJ0 a x r
    simp only [push_cast,seval,-Nat.reducePow,j0,j1,j4,aBe,hlt,hg,aY3,bB6]
    have hbs:aAk (a++x::r)=aAk a+(x.bulk+aAk r):=by rw [aAl]; rfl
    have hpa:=aC2 a els
    have hrd':=hrd.grow (m:=s.nx+34) (by omega)
    refine aAa (r82 K (hrd'.rp h.lt) (aE4 hne) x (ht x (by simp)) (by omega)) ?_
    rintro v L1 n1 hr
    have hr2:=hrd'.trans hr
    simp only [push_cast,seval,-Nat.reducePow,j0,j1,j4]
    refine ⟨by simp at hlb; omega,r.length,by omega,a++[x],r,by simp,rfl,by simp,?_⟩
    rw [aE5]
    exact hr2.grow (by omega)
theorem aUm:∀ l:List Arg,l.length≤aAk (l.flatMap Arg.pieces)
 | []=>by simp
 | .mk b x v::r=>by
   have:=aUm r
   cases b <;> simp [Arg.pieces,aAk,aAl,tx,Node.bulk] <;> omega
theorem aVs (b:Bool) (x v:List Node) (els:List El):aBp (Arg.mk b x v).pieces els=aBp v (if b then addS (tx [61]) (aBp x (addS (tx [124]) els)) else addS (tx [124]) els):=by
 cases b with
 | false=>simp [Arg.pieces,aB0]
 | true=>simp [Arg.pieces,aB0,aCb,aE5]
theorem r92 (K:RC P F T) {L:Heap} {nx p:Nat} {e:El} {r:List El} (h:RP T L nx p (e::r)) (hne:r≠[]) (hk:1≤e.kind∧e.kind≤3) (hg:e.kind=2→1≤e.tag∧e.tag≤3) (ha:e.kind≠3→e.args=[])
 (ht:∀ n,n∈e.pieces→n.tq) (hc:e.count≤2^29) (hb:pot r+aAk e.pieces≤2^29) :
 ECall P (F 92) [.ptr p 0] L nx (fun _ L' nx'=>RD T L nx p (aBp e.pieces r) L' nx'):=by
 have hpl:=aBv r
 have hpc:aAk e.pieces=e.head.length+1+(aAk e.list+aAk (e.args.flatMap Arg.pieces)):=by simp [El.pieces,aAk,tx,Node.bulk,aA0,aAl]
 have htl:∀ n,n∈e.list→n.tq:=fun n hn=>ht n (by simp [El.pieces,hn])
 have hp:=h.lt
 refine aA2 [] K.h92 (by simp) ?_
 simp only [c92,push_cast,seval,-Nat.reducePow]
 refine aAa (t88 K.h88 K.h62 (h.grow (m:=nx+71) (by omega)) (by omega) hne) ?_
 rintro v L1 n1 ⟨rfl,hrd⟩
 have hrd:=hrd.down (nx:=nx) (by omega)
 have hk3:e.kind=1∨e.kind=2∨e.kind=3:=by omega
 have hn1:=hrd.le
 have hq1:∀ (n:Nat) (x:Option Blk) (M:Heap),upd M (n1+n) x p=M p:=fun n x M=>aAc _ _ _ _ (by omega)
 have hui:=fun (n:Nat) (x:Option Blk) (M:Heap)=>aAd M (n1+n) x
 -- the element's own block,and the stack
 have blk:∀ (M:Heap) (m:Nat),n1+2<m→M p=L1 p→M (n1+2)=some (.box (T 11) e.rc)→(∀ b,b<n1→M b=L1 b)→RD T L nx p r M m:=fun M m a b c d =>
  ⟨by rw [b]; exact hrd.box,by omega,fun x ty cs hx hxp hLx hcs=>by rw [d x (by omega)]; exact hrd.fr x ty cs hx hxp hLx hcs⟩
 rcases hk3 with hk1 | hk2 | hk3
 ·have hk':((e.kind:Nat):Int)=1:=by omega
  have haa:=ha (by omega)
  have hhd:e.head=[91,91]:=by simp [El.head,hk1]
  have hpc':e.pieces=tx [91,91]::e.list:=by simp [El.pieces,hhd,haa]
  rw [hpc'] at hb ⊢
  have hb2:aAk (tx [91,91]::e.list)=3+aAk e.list:=by simp [aAk,tx,Node.bulk,aA0]
  simp only [push_cast,seval,-Nat.reducePow,El.rc,hk']
  have z0:=blk (upd (upd L1 (n1+2) (some (Blk.box (T 11) [V.int IntKind.i64 0,V.int IntKind.i64 0,V.int IntKind.i64 0,V.nils,V.nils]))) (n1+2) (some (Blk.box (T 11) [V.int IntKind.i64 1,V.int IntKind.i64 ↑e.tag,V.int IntKind.i64 ↑e.count,V.lst 5 (encs e.list),V.lst 3 (encA e.args)]))) (n1+284) (by omega) (by simp only [hq1]) (by rw [hui]; simp only [El.rc,hk']) (fun b hb=>by rw [aAc _ _ _ _ (by omega),aAc _ _ _ _ (by omega)])
  refine aAa (r86 K (z0.rp hp) hne [91,91] (by simp only [List.length_cons,List.length_nil]; omega)) ?_
  rintro v2 L2 n2 h2
  have b2:=h2.fr (n1+2) (T 11) _ (by omega) (by omega) (hui _ _ _) (by simp only [V.imms,V.imm,aAm,aBg,Bool.and_self])
  have z2:=z0.trans h2
  have hp2:=aA9 (tx [91,91]) r
  simp only [push_cast,seval,-Nat.reducePow,b2]
  have z2':=z2.grow (m:=n2+142) (by omega)
  have tb:(tx [91,91]).bulk=3:=by simp [tx,Node.bulk,aAk,aA0]
  refine aAa (r89 K (z2'.rp hp) (aB7 hne) e.list htl (by omega)) ?_
  rintro v3 L3 n3 h3
  have z3:=(z2'.trans h3).grow (m:=n3+71) (by omega)
  first | exact ⟨z3.le,z3⟩ | (simp only [push_cast,seval,-Nat.reducePow,b2]; exact ⟨z3.le,z3⟩)
 ·have hk':((e.kind:Nat):Int)=2:=by omega
  have haa:=ha (by omega)
  obtain ⟨g1,g2⟩:=hg hk2
  have hhd:e.head=tagO e.tag:=by simp [El.head,hk2]
  have hpc':e.pieces=tx (tagO e.tag)::e.list:=by simp [El.pieces,hhd,haa]
  rw [hpc'] at hb ⊢
  have tb:(tx (tagO e.tag)).bulk=(tagO e.tag).length+1:=by simp [tx,Node.bulk,aAk,aA0]
  have hb2:aAk (tx (tagO e.tag)::e.list)=(tagO e.tag).length+1+aAk e.list:=by rw [← tb]; rfl
  simp only [push_cast,seval,-Nat.reducePow,El.rc,hk',hui]
  have z0:=blk (upd (upd L1 (n1+2) (some (Blk.box (T 11) [V.int IntKind.i64 0,V.int IntKind.i64 0,V.int IntKind.i64 0,V.nils,V.nils]))) (n1+2) (some (Blk.box (T 11) [V.int IntKind.i64 2,V.int IntKind.i64 ↑e.tag,V.int IntKind.i64 ↑e.count,V.lst 5 (encs e.list),V.lst 3 (encA e.args)]))) (n1+355) (by omega) (by simp only [hq1]) (by rw [hui]; simp only [El.rc,hk']) (fun b hb=>by rw [aAc _ _ _ _ (by omega),aAc _ _ _ _ (by omega)])
  refine aAb (t25 K.sp.h25 (e.tag:Nat) false) (by simp only [push_cast,seval,-Nat.reducePow]) (by simp only [push_cast,seval,-Nat.reducePow]) ?_
  rw [aLh g1 g2]
  simp only [push_cast,seval,-Nat.reducePow,hui]
  refine aAa (r86 K (z0.rp hp) hne (tagO e.tag) (by omega)) ?_
  rintro v2 L2 n2 h2
  have b2:=h2.fr (n1+2) (T 11) _ (by omega) (by omega) (hui _ _ _) (by simp only [V.imms,V.imm,aAm,aBg,Bool.and_self])
  have z2:=z0.trans h2
  have hp2:=aA9 (tx (tagO e.tag)) r
  simp only [push_cast,seval,-Nat.reducePow,b2]
  have z2':=z2.grow (m:=n2+142) (by omega)
  refine aAa (r89 K (z2'.rp hp) (aB7 hne) e.list htl (by omega)) ?_
  rintro v3 L3 n3 h3
  have z3:=(z2'.trans h3).grow (m:=n3+71) (by omega)
  first | exact ⟨z3.le,z3⟩ | (simp only [push_cast,seval,-Nat.reducePow,b2]; exact ⟨z3.le,z3⟩)
 ·have hk':((e.kind:Nat):Int)=3:=by omega
  have hhd:e.head=List.replicate e.count 123:=by simp [El.head,hk3]
  have tb:(tx (List.replicate e.count 123)).bulk=e.count+1:=by simp [tx,Node.bulk,aAk,aA0]
  have hpe:e.pieces=tx (List.replicate e.count 123)::(e.list++e.args.flatMap Arg.pieces):=by simp [El.pieces,hhd]
  have hb2:aAk e.pieces=e.count+1+(aAk e.list+aAk (e.args.flatMap Arg.pieces)):=by rw [hpc,hhd]; simp
  have hp0:∀ a rr:List Arg,e.args=a++rr→pot (aBp (tx (List.replicate e.count 123)::(e.list++a.flatMap Arg.pieces)) r)+aAk (rr.flatMap Arg.pieces)≤2^29:=by
   intro a rr hh
   have h1:=aC2 (tx (List.replicate e.count 123)::(e.list++a.flatMap Arg.pieces)) r
   have h2:aAk (tx (List.replicate e.count 123)::(e.list++a.flatMap Arg.pieces))=e.count+1+(aAk e.list+aAk (a.flatMap Arg.pieces)):=by
    rw [← tb]; simp only [aAk,aAl]
   rw [hh,List.flatMap_append,aAl] at hb2
   omega
  simp only [push_cast,seval,-Nat.reducePow,El.rc,hk',hui]
  refine aAb (t111 K.h111 123 e.count (by omega)) (by simp only [push_cast,seval,-Nat.reducePow]) (by simp only [push_cast,seval,-Nat.reducePow]) ?_
  simp only [push_cast,seval,-Nat.reducePow,hui]
  have z0:=blk (upd (upd L1 (n1+2) (some (Blk.box (T 11) [V.int IntKind.i64 0,V.int IntKind.i64 0,V.int IntKind.i64 0,V.nils,V.nils]))) (n1+2) (some (Blk.box (T 11) [V.int IntKind.i64 3,V.int IntKind.i64 ↑e.tag,V.int IntKind.i64 ↑e.count,V.lst 5 (encs e.list),V.lst 3 (encA e.args)]))) (n1+426) (by omega) (by simp only [hq1]) (by rw [hui]; simp only [El.rc,hk']) (fun b hb=>by rw [aAc _ _ _ _ (by omega),aAc _ _ _ _ (by omega)])
  refine aAa (r86 K (z0.rp hp) hne (List.replicate e.count 123) (by simp only [List.length_replicate]; omega)) ?_
  rintro v2 L2 n2 h2
  have hims:V.imms [V.int IntKind.i64 3,V.int IntKind.i64 ↑e.tag,V.int IntKind.i64 ↑e.count,V.lst 5 (encs e.list),V.lst 3 (encA e.args)]=true:=by simp only [V.imms,V.imm,aAm,aBg,Bool.and_self]
  have b2:=h2.fr (n1+2) (T 11) _ (by omega) (by omega) (hui _ _ _) hims
  have z2:=z0.trans h2
  have hp2:=aA9 (tx (List.replicate e.count 123)) r
  simp only [push_cast,seval,-Nat.reducePow,b2]
  have z2':=z2.grow (m:=n2+142) (by omega)
  refine aAa (r89 K (z2'.rp hp) (aB7 hne) e.list htl (by omega)) ?_
  rintro v3 L3 n3 h3
  have hle2:=h2.le
  have hle3:=h3.le
  have b3:=h3.fr (n1+2) (T 11) _ (by omega) (by omega) b2 hims
  have z3:=z2'.trans h3
  simp only [push_cast,seval,-Nat.reducePow]
  refine aAe (fun m s=>∃ a rr,e.args=a++rr∧m=rr.length∧s.env 0=.ptr p 0∧s.env 2=.ptr (n1+2) 0∧s.env 3=.int .i64 a.length∧n1+2<s.nx∧s.L (n1+2)=some (Blk.box (T 11) [V.int IntKind.i64 3,V.int IntKind.i64 ↑e.tag,V.int IntKind.i64 ↑e.count,V.lst 5 (encs e.list),V.lst 3 (encA e.args)])∧RD T L nx p (aBp (tx (List.replicate e.count 123)::(e.list++a.flatMap Arg.pieces)) r) s.L s.nx) e.args.length ⟨[],e.args,?_⟩ fun m s hJ=>?_
  ·simp only [push_cast,seval,-Nat.reducePow,b3]
   refine ⟨by omega,?_⟩
   have:aBp (tx (List.replicate e.count 123)::(e.list++[].flatMap Arg.pieces)) r=aBp e.list (addS (tx (List.replicate e.count 123)) r):=by simp [aB0]
   rw [this]
   exact z3.grow (by omega)
  ·obtain ⟨a,rr,hh,rfl,j0,j2,j3,jn,jb,jr⟩:=hJ
   have hpp:=hp0 a rr hh
   have jle:=jr.le
   cases rr with
   | nil =>
     have hh':e.args=a:=by simpa using hh
     simp only [push_cast,seval,-Nat.reducePow,j0,j2,j3,jb,aAr,hh']
     rw [hpe,hh']
     exact ⟨by omega,jr.grow (by omega)⟩
   | cons y rr =>
     have hlt:((a.length:Nat):Int)<((e.args.length:Nat):Int):=by rw [hh]; simp; omega
     simp only [push_cast,seval,-Nat.reducePow,j0,j2,j3,jb,aAr,hlt]
     obtain ⟨b,x,v⟩:=y
     have hgA:=aL1 a (Arg.mk b x v) rr
     rw [← hh] at hgA
     have hnx:n1+2≠p:=by omega
     have hla:e.args.length=a.length+(rr.length+1):=by rw [hh]; simp
     have hbl:a.length<2^29:=by have h5:=aUm e.args; omega
     generalize hE:aBp (tx (List.replicate e.count 123)::(e.list++a.flatMap Arg.pieces)) r=E at jr hpp
     have hEne:E≠[]:=by rw [← hE]; exact aE4 hne
     have hbA:pot E+(aAk ((Arg.mk b x v).pieces)+aAk (rr.flatMap Arg.pieces))≤2^29:=by simpa [List.flatMap_cons,aAl] using hpp
     have hmem:∀ n,n∈(Arg.mk b x v).pieces→n.tq:=fun n hn=>ht n (by rw [hpe,hh]; simp only [List.mem_cons,List.mem_append,List.mem_flatMap]; exact .inr (.inr ⟨_,by simp,hn⟩))
     have hsz:aAk ((Arg.mk b x v).pieces)=2+((if b then aAk x+2 else 0)+aAk v):=by
      cases b <;> simp [Arg.pieces,aAk,aAl,tx,Node.bulk,aA0] <;> omega
     have jr0:=jr.grow (m:=s.nx+71) (by omega)
     have t1:(tx [124]).bulk=2:=rfl
     have t2:(tx [61]).bulk=2:=rfl
     refine aAs (fun s=>s.env 0=.ptr p 0∧s.env 2=.ptr (n1+2) 0∧s.env 3=.int .i64 a.length∧n1+2<s.nx∧s.L (n1+2)=some (Blk.box (T 11) [V.int IntKind.i64 3,V.int IntKind.i64 ↑e.tag,V.int IntKind.i64 ↑e.count,V.lst 5 (encs e.list),V.lst 3 (encA e.args)])∧RD T L nx p (aBp (Arg.mk b x v).pieces E) s.L s.nx) ?_ ?_
     ·simp only [push_cast,seval,-Nat.reducePow,j0,j2,j3]
      have jr1:=jr.grow (m:=s.nx+142) (by omega)
      refine aAa (r86 K (jr1.rp hp) hEne [124] (by simp only [List.length_cons,List.length_nil]; omega)) ?_
      rintro v4 L4 n4 h4
      have b4:=h4.fr (n1+2) (T 11) _ (by omega) hnx jb hims
      have z4:=jr1.trans h4
      have le4:=h4.le
      have pp4:=aA9 (tx [124]) E
      simp only [push_cast,seval,-Nat.reducePow,j0,j2,j3,b4,hgA,aAr,Arg.cs]
      refine aAs (fun s=>s.env 0=.ptr p 0∧s.env 2=.ptr (n1+2) 0∧s.env 3=.int .i64 a.length∧n1+2<s.nx∧s.L (n1+2)=some (Blk.box (T 11) [V.int IntKind.i64 3,V.int IntKind.i64 ↑e.tag,V.int IntKind.i64 ↑e.count,V.lst 5 (encs e.list),V.lst 3 (encA e.args)])∧RD T L nx p (if b then addS (tx [61]) (aBp x (addS (tx [124]) E)) else addS (tx [124]) E) s.L s.nx) ?_ ?_
      ·cases b with
       | false =>
         simp only [push_cast,seval,-Nat.reducePow,j0,j2,j3,b4,hgA,aAr,Arg.cs]
         exact ⟨by omega,by omega,z4.grow (by omega)⟩
       | true =>
         simp only [push_cast,seval,-Nat.reducePow,j0,j2,j3,b4,hgA,aAr,Arg.cs]
         have hx:∀ n,n∈x→n.tq:=fun n hn=>hmem n (by simp [Arg.pieces,hn])
         simp only [if_true] at hsz
         have z4':=z4.grow (m:=n4+213) (by omega)
         refine ⟨by omega,by omega,aAa (r89 K (z4'.rp hp) (aB7 hEne) x hx (by omega)) ?_⟩
         rintro v7 L7 n7 h7
         have le7:=h7.le
         have b7:=h7.fr (n1+2) (T 11) _ (by omega) hnx b4 hims
         have z7:=z4'.trans h7
         have pp7:=aC2 x (addS (tx [124]) E)
         simp only [push_cast,seval,-Nat.reducePow,j0,j2,j3,b7]
         have z7':=z7.grow (m:=n7+142) (by omega)
         refine aAa (r86 K (z7'.rp hp) (aE4 (aB7 hEne)) [61] (by simp only [List.length_cons,List.length_nil]; omega)) ?_
         rintro v8 L8 n8 h8
         have le8:=h8.le
         have b8:=h8.fr (n1+2) (T 11) _ (by omega) hnx b7 hims
         have z8:=z7'.trans h8
         first
          | exact ⟨j0,j2,j3,by omega,b8,z8.grow (by omega)⟩
          | (simp only [push_cast,seval,-Nat.reducePow,j0,j2,j3,b8]; exact ⟨by omega,z8.grow (by omega)⟩)
      ·rintro s5 ⟨i0,i2,i3,i4,i5,i6⟩
       simp only [push_cast,seval,-Nat.reducePow,i0,i2,i3,i5,hgA,aAr,Arg.cs]
       have hv:∀ n,n∈v→n.tq:=fun n hn=>hmem n (by simp [Arg.pieces,hn])
       have le5:=i6.le
       have i6':=i6.grow (m:=s5.nx+71) (by omega)
       have pz:pot (if b then addS (tx [61]) (aBp x (addS (tx [124]) E)) else addS (tx [124]) E)+aAk v≤2^29:=by
        cases b with
        | false=>simp only [Bool.false_eq_true,if_false] at hsz ⊢; omega
        | true =>
          simp only [if_true] at hsz ⊢
          have q1:=aC2 x (addS (tx [124]) E)
          have q2:=aA9 (tx [61]) (aBp x (addS (tx [124]) E))
          omega
       have hne5:(if b then addS (tx [61]) (aBp x (addS (tx [124]) E)) else addS (tx [124]) E)≠[]:=by
        cases b with
        | false=>simp only [Bool.false_eq_true,if_false]; exact aB7 hEne
        | true=>simp only [if_true]; exact aB7 (aE4 (aB7 hEne))
       refine ⟨by omega,aAa (r89 K (i6'.rp hp) hne5 v hv pz) ?_⟩
       rintro v9 L9 n9 h9
       have le9:=h9.le
       have b9:=h9.fr (n1+2) (T 11) _ (by omega) hnx i5 hims
       have z9:=i6'.trans h9
       rw [← aVs] at z9
       first
        | exact ⟨i0,i2,i3,by omega,b9,z9.grow (by omega)⟩
        | (simp only [push_cast,seval,-Nat.reducePow,i0,i2,i3,b9]; exact ⟨by omega,z9.grow (by omega)⟩)
     ·rintro s6 ⟨i0,i2,i3,i4,i5,i6⟩
      simp only [push_cast,seval,-Nat.reducePow,i0,i2,i3]
      refine ⟨⟨by omega,by omega⟩,rr.length,by omega,a++[Arg.mk b x v],rr,by rw [hh]; simp,rfl,by simp,by omega,i5,?_⟩
      have e9:aBp (tx (List.replicate e.count 123)::(e.list++(a++[Arg.mk b x v]).flatMap Arg.pieces)) r=aBp (Arg.mk b x v).pieces E:=by
       rw [← hE,← aCb]; simp [List.flatMap_append]
      rw [e9]
      exact i6.grow (by omega)
end Go.Ab
namespace Go.Ab
variable {P:Program} {F T:Nat→Nat}
structure Kt (els:List El):Prop where
 ex:∃ a,kt els=a++[(0,0,0)]∧∀ q,q∈a→(1≤q.1∧q.1≤3)∧(q.1=2→1≤q.2.1∧q.2.1≤3)∧(q.1=3→q.2.1=0)
structure Rv (els:List El):Prop where
 sv:Sv els
 kt:Kt els
theorem Kt.same {a b:List El} (h:Kt a) (e:Go.Ab.kt b=Go.Ab.kt a):Kt b:=⟨by rw [e]; exact h.ex⟩
theorem bBn (a:List El):(kt a).length=a.length:=by simp [kt]
theorem Kt.drop {a b:List El} {k:Nat} (h:Kt a) (e:Go.Ab.kt b=(Go.Ab.kt a).drop k) (hk:k<a.length):Kt b:=by
 obtain ⟨c,h1,h2⟩:=h.ex
 have hl:a.length=c.length+1:=by have:=congrArg List.length h1; simpa [bBn] using this
 refine ⟨c.drop k,?_,fun q hq=>h2 q (List.mem_of_mem_drop hq)⟩
 rw [e,h1,List.drop_append_of_le_length (by omega)]
theorem Kt.push {a b:List El} {q:Nat×Nat×Nat} (h:Kt a) (e:Go.Ab.kt b=q::Go.Ab.kt a) (h1:1≤q.1∧q.1≤3) (h2:q.1=2→1≤q.2.1∧q.2.1≤3) (h3:q.1=3→q.2.1=0):Kt b:=by
 obtain ⟨c,k1,k2⟩:=h.ex
 refine ⟨q::c,by rw [e,k1]; rfl,fun x hx=>?_⟩
 rcases List.mem_cons.1 hx with rfl | hx
 ·exact ⟨h1,h2,h3⟩
 ·exact k2 x hx
theorem Kt.top {e:El} {r:List El} (h:Kt (e::r)) (hr:r≠[]):(1≤e.kind∧e.kind≤3)∧(e.kind=2→1≤e.tag∧e.tag≤3)∧(e.kind=3→e.tag=0):=by
 obtain ⟨c,k1,k2⟩:=h.ex
 cases c with
 | nil =>
   exfalso
   have:=congrArg List.length k1
   simp [kt] at this
   exact hr this
 | cons q c =>
   have hq:(e.kind,e.tag,e.count)=q:=by simpa [Go.Ab.kt] using (List.cons.inj (by simpa [Go.Ab.kt] using k1)).1
   have:=k2 q (by simp)
   rw [← hq] at this
   exact this
theorem Kt.tail {e:El} {r:List El} (h:Kt (e::r)) (hr:r≠[]):Kt r:=h.drop (k:=1) (by simp [Go.Ab.kt]) (by have:=List.length_pos_iff.2 hr; simp; omega)
theorem Jn.tq:∀ (m:Nat) {l:List Node},l.length=m→Jn l→∀ n,n∈l→n.tq
 | 0,l,hl,_,n,hn=>by rw [List.length_eq_zero_iff.1 hl] at hn; simp at hn
 | m+1,l,hl,h,n,hn=>by
   rcases List.eq_nil_or_concat l with rfl | ⟨i,a,rfl⟩
   ·simp at hn
   ·rw [List.concat_eq_append] at h hn hl
    obtain ⟨h1,h2,h3⟩:=h.snoc
    rcases List.mem_append.1 hn with hn | hn
    ·exact Jn.tq m (by simpa using hl) h1 n hn
    ·simp at hn
     subst hn
     intro hk
     have h4:=aM5 (h3 hk).2
     rw [(h3 hk).2] at h4
     have:=(List.append_inj' h4 rfl).2
     simpa [tx] using this
theorem aZa {e:El} (h:e.jk):∀ n,n∈e.pieces→n.tq:=by
 intro n hn
 unfold El.pieces at hn
 rcases List.mem_cons.1 hn with rfl | hn
 ·exact bCe _
 rcases List.mem_append.1 hn with hn | hn
 ·exact h.list.tq _ rfl n hn
 ·obtain ⟨a,ha,hn⟩:=List.mem_flatMap.1 hn
  have hj:=h.argJ a ha
  obtain ⟨b,x,v⟩:=a
  simp only [Arg.pieces] at hn
  rcases List.mem_cons.1 hn with rfl | hn
  ·exact bCe _
  rcases List.mem_append.1 hn with hn | hn
  ·split at hn
   ·rcases List.mem_append.1 hn with hn | hn
    ·exact hj.1.tq _ rfl n hn
    ·simp at hn; subst hn; exact bCe _
   ·simp at hn
  ·exact hj.2.tq _ rfl n hn
theorem aNt:∀ (k:Nat) (st:List El),flatN (k+1) st=flat1 (flatN k st)
 | 0,st=>rfl
 | k+1,st=>by rw [flatN,aNt k (flat1 st)]; rfl
theorem Rv.flatN {els:List El} (h:Rv els) {k:Nat} (hk:k<els.length):Rv (Go.Ab.flatN k els) :=
 ⟨⟨h.sv.inv.drop (aKz k) hk,aK3 k h.sv.ok⟩,h.kt.drop (aOg k) hk⟩
theorem r61 (K:RC P F T) {L:Heap} {nx p:Nat} {els:List El} (h:RP T L nx p els) (hv:Rv els) (k:Nat) (hk:k<els.length) (hb:pot els≤2^29) :
 ECall P (F 61) [.ptr p 0,.int .i64 (els.length-1-k:Nat)] L nx (fun _ L' nx'=>RD T L nx p (flatN k els) L' nx'):=by
 have hpl:=aBv els
 have hp:=h.lt
 refine aA2 [] K.h61 (by simp) ?_
 simp only [c61,push_cast,seval,-Nat.reducePow]
 refine aAe (fun m s=>∃ j,j≤k∧m=k-j∧s.env 0=.ptr p 0∧s.env 1=.int .i64 (els.length-1-k:Nat)∧RD T L nx p (flatN j els) s.L s.nx) k ⟨0,?_⟩ fun m s hJ=>?_
 ·simp only [push_cast,seval,-Nat.reducePow,Nat.sub_zero]
  exact h.rd (by omega)
 ·obtain ⟨j,hj,rfl,j0,j1,hrd⟩:=hJ
  have hbx:=hrd.box
  have hle:=hrd.le
  have hlen:(rvs (flatN j els)).length=els.length-j:=by rw [aA7,aFm]
  have e1:((els.length-j:Nat):Int)-1=((els.length-j-1:Nat):Int):=by omega
  by_cases hjk:j<k
  ·have hlt:((els.length-1-k:Nat):Int)<((els.length-j-1:Nat):Int):=by omega
   simp only [push_cast,seval,-Nat.reducePow,j0,j1,hbx,hlen,e1,hlt]
   refine ⟨⟨by omega,by omega⟩,?_⟩
   have hvj:=hv.flatN (k:=j) (by omega)
   have hpj:=aFb j els
   have hl:=aFm j (els:=els)
   have hrd':=hrd.grow (m:=s.nx+28) (by omega)
   cases hf:flatN j els with
   | nil=>rw [hf] at hl; simp at hl; omega
   | cons e r =>
     have hr:r≠[]:=by rintro rfl; rw [hf] at hl; simp at hl; omega
     rw [hf] at hvj hpj hrd'
     have hkt:=hvj.kt.top hr
     have hjk:=hvj.sv.ok e (by simp)
     have hpp:=aIb e
     simp only [pot] at hpj
     have hec:2*e.count≤e.pot:=by simp only [El.pot]; omega
     refine aAa (r92 K (hrd'.rp hp) hr hkt.1 hkt.2.1 hjk.args (aZa hjk) (by omega) (by omega)) ?_
     rintro v L1 n1 h1
     have h2:=hrd'.trans h1
     have e2:flatN (j+1) els=aBp e.pieces r:=by rw [aNt,hf]; rfl
     simp only [push_cast,seval,-Nat.reducePow,j0,j1]
     refine ⟨k-(j+1),by omega,j+1,by omega,rfl,?_⟩
     rw [e2]
     exact h2.grow (by omega)
  ·have hlt:¬ ((els.length-1-k:Nat):Int)<((els.length-j-1:Nat):Int):=by omega
   have:j=k:=by omega
   subst this
   simp only [push_cast,seval,-Nat.reducePow,j0,j1,hbx,hlen,e1,hlt]
   exact ⟨⟨by omega,by omega⟩,by omega,hrd.grow (by omega)⟩
theorem aV0 (a b:List El):rvs (a++b)=rvs b++rvs a:=by simp [rvs]
theorem bF3 (a:List El) (e:El) (t:List El):(rvs (a++e::t)).getD t.length .junk=.agg e.rc:=by
 rw [aV0,aDv,List.append_assoc,List.getD_eq_getElem?_getD,← aA7 t,List.getElem?_append_right (Nat.le_refl _)]; simp
theorem r90 (K:RC P F T) {L:Heap} {nx p:Nat} {els:List El} (h:RP T L nx p els) (hl:els.length≤2^29) (hne:els≠[]) (t:Nat) :
 ECall P (F 90) [.ptr p 0,.int .i64 t] L nx (fun v L' nx'=>v=.int .i64 (aDi t els)∧L'=L∧nx≤nx'):=by
 have hb:=h.box
 have hp:=h.lt
 have hlen:=aA7 els
 have hpos:=List.length_pos_iff.2 hne
 have e1:((els.length:Nat):Int)-1=((els.length-1:Nat):Int):=by omega
 refine aA2 [] K.h90 (by simp) ?_
 simp only [c90,push_cast,seval,-Nat.reducePow,hb,hlen,e1]
 refine ⟨⟨by omega,by omega⟩,?_⟩
 refine aAe (fun m s=>∃ a r,els=a++r∧m=r.length∧r≠[]∧s.env 0=.ptr p 0∧s.env 1=.int .i64 t∧s.env 5=.int .i64 (r.length-1:Nat)∧s.L=L∧nx≤s.nx∧aDi t els=aDi t r) els.length ⟨[],els,?_⟩ fun m s hJ=>?_
 ·simp only [push_cast,seval,-Nat.reducePow]
  exact ⟨hne,by omega⟩
 ·obtain ⟨a,r,hh,rfl,hr,j0,j1,j5,jL,jn,jt⟩:=hJ
  match r,hr with
  | [e],_ =>
    simp only [push_cast,seval,-Nat.reducePow,j0,j1,j5,jL]
    rw [jt]
    exact ⟨by omega,rfl,by omega⟩
  | e::b::r,_ =>
    have hlt:(0:Int)<((r.length:Nat):Int)+1:=by omega
    have hg:(rvs els).getD (r.length+1) .junk=.agg e.rc:=by
     rw [hh]; exact bF3 a e (b::r)
    have hel:els.length=a.length+(r.length+2):=by rw [hh]; simp
    have e5:((r.length:Nat):Int)+1-1=(r.length:Nat):=by omega
    have e0:(((r.length:Nat):Int)+1).toNat=r.length+1:=by omega
    by_cases hk:e.kind=2
    ·have hk':((e.kind:Nat):Int)=2:=by omega
     by_cases ht:e.tag=t
     ·subst ht
      have hres:aDi e.tag els=r.length+1:=by rw [jt]; simp [aDi,hk]
      simp only [push_cast,seval,-Nat.reducePow,j0,j1,j5,jL,hlt,hb,e0,hg,hlen,El.rc,hk']
      exact ⟨by omega,by omega,by omega,by omega,by omega,by rw [hres]; simp,by omega⟩
     ·have ht':¬ ((e.tag:Nat):Int)=(t:Nat):=by omega
      have hres:aDi t els=aDi t (b::r):=by rw [jt]; simp [aDi,ht]
      simp only [push_cast,seval,-Nat.reducePow,j0,j1,j5,jL,hlt,hb,e0,hg,hlen,El.rc,hk',ht',e5]
      refine ⟨by omega,by omega,by omega,by omega,by omega,r.length+1,by omega,a++[e],b::r,by rw [hh]; simp,rfl,by simp,by simp,by omega,hres⟩
    ·have hk':¬ ((e.kind:Nat):Int)=2:=by omega
     have hres:aDi t els=aDi t (b::r):=by rw [jt]; simp [aDi,hk]
     simp only [push_cast,seval,-Nat.reducePow,j0,j1,j5,jL,hlt,hb,e0,hg,hlen,El.rc,hk',e5]
     refine ⟨by omega,by omega,by omega,r.length+1,by omega,a++[e],b::r,by rw [hh]; simp,rfl,by simp,by simp,by omega,hres⟩
theorem r110 (K:RC P F T) {L:Heap} {nx p:Nat} {els:List El} (h:RP T L nx p els) (hl:els.length≤2^29) (hne:els≠[]) :
 ECall P (F 110) [.ptr p 0] L nx (fun v L' nx'=>v=.int .i64 (aCr els)∧L'=L∧nx≤nx'):=by
 have hb:=h.box
 have hp:=h.lt
 have hlen:=aA7 els
 have hpos:=List.length_pos_iff.2 hne
 have e1:((els.length:Nat):Int)-1=((els.length-1:Nat):Int):=by omega
 refine aA2 [] K.h110 (by simp) ?_
 simp only [c110,push_cast,seval,-Nat.reducePow,hb,hlen,e1]
 refine ⟨⟨by omega,by omega⟩,?_⟩
 refine aAe (fun m s=>∃ a r,els=a++r∧m=r.length∧r≠[]∧s.env 0=.ptr p 0∧s.env 3=.int .i64 (r.length-1:Nat)∧s.L=L∧nx≤s.nx∧aCr els=aCr r) els.length ⟨[],els,?_⟩ fun m s hJ=>?_
 ·simp only [push_cast,seval,-Nat.reducePow]
  exact ⟨hne,by omega⟩
 ·obtain ⟨a,r,hh,rfl,hr,j0,j3,jL,jn,jt⟩:=hJ
  match r,hr with
  | [e],_ =>
    simp only [push_cast,seval,-Nat.reducePow,j0,j3,jL]
    rw [jt]
    exact ⟨by omega,rfl,by omega⟩
  | e::b::r,_ =>
    have hlt:(0:Int)<((r.length:Nat):Int)+1:=by omega
    have hg:(rvs els).getD (r.length+1) .junk=.agg e.rc:=by
     rw [hh]; exact bF3 a e (b::r)
    have hel:els.length=a.length+(r.length+2):=by rw [hh]; simp
    have e5:((r.length:Nat):Int)+1-1=(r.length:Nat):=by omega
    have e0:(((r.length:Nat):Int)+1).toNat=r.length+1:=by omega
    by_cases hk:e.kind=2
    ·have hk':((e.kind:Nat):Int)=2:=by omega
     have hres:aCr els=0:=by rw [jt]; simp [aCr,hk]
     simp only [push_cast,seval,-Nat.reducePow,j0,j3,jL,hlt,hb,e0,hg,hlen,El.rc,hk']
     exact ⟨by omega,by omega,by omega,by rw [hres]; rfl,by omega⟩
    ·have hk':¬ ((e.kind:Nat):Int)=2:=by omega
     by_cases hk3:e.kind=3
     ·have hk3':((e.kind:Nat):Int)=3:=by omega
      have hres:aCr els=r.length+1:=by rw [jt]; simp [aCr,hk3]
      simp only [push_cast,seval,-Nat.reducePow,j0,j3,jL,hlt,hb,e0,hg,hlen,El.rc,hk3']
      exact ⟨by omega,by omega,by omega,by omega,by omega,by rw [hres]; simp,by omega⟩
     ·have hk3':¬ ((e.kind:Nat):Int)=3:=by omega
      have hres:aCr els=aCr (b::r):=by rw [jt]; simp [aCr,hk,hk3]
      simp only [push_cast,seval,-Nat.reducePow,j0,j3,jL,hlt,hb,e0,hg,hlen,El.rc,hk',hk3',e5]
      refine ⟨by omega,by omega,by omega,by omega,by omega,r.length+1,by omega,a++[e],b::r,by rw [hh]; simp,rfl,by simp,by simp,by omega,hres⟩
end Go.Ab
