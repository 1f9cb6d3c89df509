/- Several texts of one kind, merged. No condition. -/
import Derived.Test.YtgdllpgidgiccaaGreatDoorAbR4
set_option linter.unusedSimpArgs false
set_option linter.unusedVariables false
namespace Go.Ab
variable {P:Program} {F T:Nat→Nat}
theorem r83 (K:RC P F T) {L:Heap} {nx p:Nat} {els:List El} (h:RP T L nx p els) (hne:els≠[]) (e:El) (s:List UInt8) (hb:pot els+(s.length+1)≤2^29) :
 ECall P (F 83) [.ptr p 0,.agg e.rc,.str s] L nx (fun _ L' nx'=>RD T L nx p (aEv e s els) L' nx'):=by
 have h0:=h.box
 have hp:=h.lt
 have hpl:=aBv els
 have hn:=aA7 els
 have hc:=aDv e els
 have hi:=aFo (e::els)
 have hpos:=List.length_pos_iff.2 hne
 have hq:=aFp (L:=L) hp
 have hu:=fun (x:Option Blk) (M:Heap)=>aAd M p x
 have hui:=fun (n:Nat) (x:Option Blk) (M:Heap)=>aAd M (nx+n) x
 have hpi:∀ (n:Nat) (x:Option Blk) (M:Heap),upd M p x (nx+n)=M (nx+n):=fun n x M=>aAc _ _ _ _ (by omega)
 have hir:=aJi e
 have e1:((els.length:Nat):Int)-1=((els.length-1:Nat):Int):=by omega
 have a1:∀ b,b<nx→∀ (n:Nat) (x:Option Blk) (M:Heap),upd M (nx+n) x b=M b:=fun b hb n x M=>aAc _ _ _ _ (by omega)
 have a2:∀ b,b≠p→∀ (x:Option Blk) (M:Heap),upd M p x b=M b:=fun b hb x M=>aAc _ _ _ _ hb
 have hrn:rvs els≠[]:=by intro x; have:=congrArg List.length x; rw [hn,List.length_nil] at this; omega
 have tk:(rvs els).take els.length=rvs els:=List.take_of_length_le (by omega)
 refine aA2 [] K.h83 (by simp) ?_
 by_cases hg:20<els.length
 ·have hg':(20:Int)≤((els.length-1:Nat):Int):=by omega
  simp only [c83,push_cast,seval,-Nat.reducePow,h0,hq,hir,hn,e1,El.rc,hui,hg']
  have hR:RD T L nx p els (upd (upd L (nx+4) (some (Blk.box (T 11) [V.int IntKind.i64 ↑e.kind,V.int IntKind.i64 ↑e.tag,V.int IntKind.i64 ↑e.count,V.lst 5 (encs e.list),V.lst 3 (encA e.args)]))) (nx+4) none) (nx+81) :=
   ⟨by rw [hq,hq]; exact h0,by omega,fun b ty cs hb hbp hLb hcs=>by rw [a1 b hb,a1 b hb]; exact hLb⟩
  refine ⟨⟨by omega,by omega⟩,aAa (r86 K (hR.rp hp) hne s hb) ?_⟩
  rintro v L1 n1 h1
  have h2:=(hR.trans h1).grow (m:=n1+27) (by omega)
  have e2:aEv e s els=addS (tx s) els:=by simp [aEv,hg]
  rw [e2]
  first | exact ⟨h2.le,h2⟩ | (simp only [push_cast,seval,-Nat.reducePow]; exact ⟨h2.le,h2⟩)
 ·have hg':¬ (20:Int)≤((els.length-1:Nat):Int):=by omega
  simp only [c83,push_cast,seval,-Nat.reducePow,h0,hq,hir,hn,e1,El.rc,hui,hg']
  refine ⟨⟨by omega,by omega⟩,aIl hrn ?_⟩
  simp only [push_cast,seval,-Nat.reducePow,h0,hq,hir,hn,e1,El.rc,hui,tk]
  have e2:aEv e s els=e::els:=by simp [aEv,hg]
  rw [e2]
  have key:∀ (id:Nat),id=id→True:=fun _ _=>trivial
  refine ⟨by omega,by omega,aKy (p:=p) (id:=nx+78) (ty:=T 11) (ty0:=T 9) (sz:=5) (es:=rvs (e::els)) (n:=els.length+1) ?_ ?_ ?_ hi ?_⟩
  ·simp only [push_cast,seval,-Nat.reducePow,hu]
  ·simp only [push_cast,seval,-Nat.reducePow,hpi,hui,hc,El.rc]
  ·simp [aA7]
  ·intro s' f2 f3 f4 f5 f6
   have f2':s'.nx=nx+81:=f2
   refine ⟨by omega,⟨f3,by omega,fun b ty cs hb hbp hLb hcc=>f6 b ty cs ?_ hcc⟩⟩
   simp only [push_cast,seval,-Nat.reducePow,a1 b hb,a2 b hbp,hLb]
theorem r87 (K:RC P F T) {L:Heap} {nx p:Nat} {els:List El} (h:RP T L nx p els) (hne:els≠[]) (hb:pot els+2≤2^29) :
 ECall P (F 87) [.ptr p 0] L nx (fun _ L' nx'=>RD T L nx p (eqF els) L' nx'):=by
 cases els with
 | nil=>exact absurd rfl hne
 | cons e r =>
   have hp:=h.lt
   have hpl:=aBv r
   simp only [pot] at hb
   have hpe:e.pot=30+2*e.count+aAk e.list+aA0 e.args+5*e.args.length:=rfl
   have hq:=aFp (L:=L) hp
   refine aA2 [] K.h87 (by simp) ?_
   simp only [c87,push_cast,seval,-Nat.reducePow]
   refine aAa (t62 K.h62 (h.grow (m:=nx+49) (by omega)) (by omega)) ?_
   rintro v L1 n1 ⟨rfl,g1,g2⟩
   have k1:L1 p=L p:=g2 p (by omega)
   have hq1:∀ (n:Nat) (x:Option Blk) (M:Heap),upd M (n1+n) x p=M p:=fun n x M=>aAc _ _ _ _ (by omega)
   have hui:=fun (n:Nat) (x:Option Blk) (M:Heap)=>aAd M (n1+n) x
   have blk:∀ (M:Heap) (m:Nat),n1+2<m→M p=L1 p→(∀ b,b<n1→M b=L1 b)→RD T L nx p (e::r) M m:=fun M m a b d =>
    ⟨by rw [b,k1]; exact h.box,by omega,fun x ty cs hx hxp hLx hcs=>by rw [d x (by omega),g2 x (by omega)]; exact hLx⟩
   have hims:=aJi e
   have a1:∀ b,b<n1→∀ (n:Nat) (x:Option Blk) (M:Heap),upd M (n1+n) x b=M b:=fun b hb n x M=>aAc _ _ _ _ (by omega)
   simp only [push_cast,seval,-Nat.reducePow,El.rc]
   have ims2:V.imms [V.int IntKind.i64 ↑e.kind,V.int IntKind.i64 ↑e.tag,V.int IntKind.i64 ↑e.count,V.lst 5 (encs e.list),V.lst 3 (encA e.args)]=true:=hims
   have txt:∀ (M:Heap) (m:Nat),RD T L nx p (e::r) M m→(eqF (e::r)=addS (tx [61]) (e::r))→∀ (K0:V→Heap→Nat→Prop),(∀ v L2 n2,RD T L nx p (eqF (e::r)) L2 n2→K0 v L2 n2)→aKe P (F 86) [.ptr p 0,.str [61]] M m (Tg.mk (a:=K0)):=by
    intro M m z hz K0 hK
    refine aAa (r86 K (z.rp hp) hne [61] (by simp only [List.length_cons,List.length_nil,pot]; omega)) ?_
    intro v L2 n2 h2
    refine hK v L2 n2 ?_
    rw [hz]
    exact z.trans h2
   refine aAs (fun s1=>s1.env 0=.ptr p 0∧s1.env 2=.ptr (n1+2) 0∧s1.L (n1+2)=some (.box (T 11) e.rc)∧n1+2<s1.nx∧RD T L nx p (e::r) s1.L s1.nx∧e.kind=3∧aDs e.args=false) ?_ ?_
   ·have zz:=blk (upd (upd L1 (n1+2) (some (Blk.box (T 11) [V.int IntKind.i64 0,V.int IntKind.i64 0,V.int IntKind.i64 0,V.nils,V.nils]))) (n1+2) (some (Blk.box (T 11) [V.int IntKind.i64 ↑e.kind,V.int IntKind.i64 ↑e.tag,V.int IntKind.i64 ↑e.count,V.lst 5 (encs e.list),V.lst 3 (encA e.args)])))
    by_cases h3:e.kind=3
    ·have h3':((e.kind:Nat):Int)=3:=by omega
     rcases List.eq_nil_or_concat e.args with ha | ⟨i,a,ha⟩
     ·have hz:eqF (e::r)=addS (tx [61]) (e::r):=by simp [eqF,ha,aDs]
      simp only [push_cast,seval,-Nat.reducePow,h3',ha,encA,hui]
      simp only [h3',ha,encA] at zz
      exact txt _ _ (zz (n1+147) (by omega) (by simp only [hq1]) (fun b hb=>by simp only [a1 b hb])) hz _ (fun v2 L2 n2 h2=>by first | exact ⟨by have:=h2.le; omega,h2.grow (by omega)⟩ | (simp only [push_cast,seval,-Nat.reducePow]; exact ⟨by have:=h2.le; omega,h2.grow (by omega)⟩))
     ·rw [List.concat_eq_append] at ha
      obtain ⟨b,x,v⟩:=a
      have hla:e.args.length=i.length+1:=by rw [ha]; simp
      have hgA:(encA e.args).getD i.length .junk=.agg (Arg.mk b x v).cs:=by rw [ha]; exact aL1 i _ []
      have e1:((i.length:Nat):Int)+1-1=(i.length:Nat):=by omega
      have e2:¬ ((i.length:Nat):Int)+1=0:=by omega
      cases b with
      | true =>
        have hz:eqF (e::r)=addS (tx [61]) (e::r):=by simp only [eqF,ha,aCd,Arg.named]; simp
        simp only [push_cast,seval,-Nat.reducePow,h3',aAr,hla,hgA,e1,e2,Arg.cs,hui]
        simp only [h3'] at zz
        exact ⟨⟨by omega,by omega⟩,by omega,txt _ _ (zz (n1+147) (by omega) (by simp only [hq1]) (fun b hb=>by simp only [a1 b hb])) hz _ (fun v2 L2 n2 h2=>by first | exact ⟨by have:=h2.le; omega,h2.grow (by omega)⟩ | (simp only [push_cast,seval,-Nat.reducePow]; exact ⟨by have:=h2.le; omega,h2.grow (by omega)⟩))⟩
      | false =>
        simp only [push_cast,seval,-Nat.reducePow,h3',aAr,hla,hgA,e1,e2,Arg.cs,hui]
        simp only [h3'] at zz
        exact ⟨⟨by omega,by omega⟩,by omega,by simp only [El.rc,h3'],by omega,zz (n1+98) (by omega) (by simp only [hq1]) (fun b hb=>by simp only [a1 b hb]),h3,by rw [ha,aCd]; rfl⟩
    ·have h3':((e.kind:Nat):Int)≠3:=by omega
     have hz:eqF (e::r)=addS (tx [61]) (e::r):=by simp [eqF,h3]
     simp only [push_cast,seval,-Nat.reducePow,h3',hui]
     exact txt _ _ (zz (n1+147) (by omega) (by simp only [hq1]) (fun b hb=>by simp only [a1 b hb])) hz _ (fun v2 L2 n2 h2=>by first | exact ⟨by have:=h2.le; omega,h2.grow (by omega)⟩ | (simp only [push_cast,seval,-Nat.reducePow]; exact ⟨by have:=h2.le; omega,h2.grow (by omega)⟩))
   ·rintro s1 ⟨j0,j2,jL,jn,jr,h3,hnm⟩
    rcases List.eq_nil_or_concat e.args with ha | ⟨i,a,ha⟩
    ·rw [ha] at hnm; simp [aDs] at hnm
    ·rw [List.concat_eq_append] at ha
     obtain ⟨b,x,v⟩:=a
     have hb0:b=false:=by rw [ha,aCd] at hnm; exact hnm
     subst hb0
     have hla:e.args.length=i.length+1:=by rw [ha]; simp
     have hgA:(encA e.args).getD i.length .junk=.agg (Arg.mk false x v).cs:=by rw [ha]; exact aL1 i _ []
     have e1:((i.length:Nat):Int)+1-1=(i.length:Nat):=by omega
     have hnA:encA e.args≠[]:=by rw [ha,aE9]; simp
     have hset:(encA e.args).set i.length (.agg [.bool true,.lst 5 (encs v),.nils])=encA i++[.agg [.bool true,.lst 5 (encs v),.nils]]:=by
      rw [ha,aE9,← aAr i,List.set_append_right _ _ (Nat.le_refl _)]; simp
     have jL':s1.L (n1+2)=some (.box (T 11) [V.int IntKind.i64 ↑e.kind,V.int IntKind.i64 ↑e.tag,V.int IntKind.i64 ↑e.count,V.lst 5 (encs e.list),V.lst 3 (encA e.args)]):=jL
     have jle:=jr.le
     have hq3:∀ (n:Nat) (x:Option Blk) (M:Heap),upd M (s1.nx+n) x (n1+2)=M (n1+2):=fun n x M=>aAc _ _ _ _ (by omega)
     have hqp:∀ (n:Nat) (x:Option Blk) (M:Heap),upd M (s1.nx+n) x p=M p:=fun n x M=>aAc _ _ _ _ (by omega)
     have hus:=fun (n:Nat) (x:Option Blk) (M:Heap)=>aAd M (s1.nx+n) x
     have huq:∀ (n:Nat) (x:Option Blk) (M:Heap),upd M (n1+2) x (s1.nx+n)=M (s1.nx+n):=fun n x M=>aAc _ _ _ _ (by omega)
     have huu:=fun (x:Option Blk) (M:Heap)=>aAd M (n1+2) x
     simp only [push_cast,seval,-Nat.reducePow,j0,j2,jL',aAr,hla]
     refine aIl hnA ?_
     simp only [push_cast,seval,-Nat.reducePow,j0,j2,jL',aAr,hla,e1,hgA,hus,hq3,Arg.cs,hset]
     refine ⟨by omega,⟨by omega,by omega⟩,⟨by omega,by omega⟩,by omega,by omega,by omega,by omega,?_⟩
     refine aIj (p:=n1+2) (id:=s1.nx+30) (ty:=T 1) (ty0:=T 11) (sz:=3) (pre:=[V.int IntKind.i64 ↑e.kind,V.int IntKind.i64 ↑e.tag,V.int IntKind.i64 ↑e.count,V.lst 5 (encs e.list)]) (es:=encA i++[.agg [.bool true,.lst 5 (encs v),.nils]]) (n:=i.length+1) ?_ ?_ ?_ ?_ ?_ ?_
     ·simp only [push_cast,seval,-Nat.reducePow,huu]
     ·simp only [push_cast,seval,-Nat.reducePow,huq,hus]
     ·simp [aAr]
     ·simp [aB1,aBg,V.imms,V.imm,aAm]
     ·simp [V.imms,V.imm,aAm]
     ·intro s' f2 f3 f4 f5 f6
      have v0:=f5 0 p 0 (by simp only [push_cast,seval,-Nat.reducePow,j0])
      have v2:=f5 2 (n1+2) 0 (by simp only [push_cast,seval,-Nat.reducePow,j2])
      have hn1p:n1+2≠p:=by omega
      have h2p:∀ (x:Option Blk) (M:Heap),upd M (n1+2) x p=M p:=fun x M=>aAc _ _ _ _ (by omega)
      have hrd:RD T L nx p (e::r) s'.L s'.nx:=by
       refine ⟨f6 p _ _ (by simp only [push_cast,seval,-Nat.reducePow,h2p,hqp,jr.box]) (by simp [V.imms,V.imm,aFo]),by rw [f2]; show nx≤_; simp only []; omega,fun b2 ty cs hb2 hbp hLb hc=>f6 b2 ty cs ?_ hc⟩
       have a3:∀ (n:Nat) (x:Option Blk) (M:Heap),upd M (s1.nx+n) x b2=M b2:=fun n x M=>aAc _ _ _ _ (by omega)
       have a4:∀ (x:Option Blk) (M:Heap),upd M (n1+2) x b2=M b2:=fun x M=>aAc _ _ _ _ (by omega)
       simp only [push_cast,seval,-Nat.reducePow,a3,a4]
       exact jr.fr b2 ty cs hb2 hbp hLb hc
      clear f4 f5 f6
      simp only [push_cast,seval,-Nat.reducePow,v0,v2,f3]
      have hrd':=hrd.grow (m:=s'.nx+49) (by omega)
      have e9:eqF (e::r)={ e with args:=i++[Arg.mk true v []] }::r:=by
       simp only [eqF,ha,h3,aCd,Arg.named,aBq,Arg.val,and_self,if_true]
      rw [e9]
      refine aAa ((t85 K.h85 (e':={ e with args:=i++[Arg.mk true v []] }) (hrd'.rp hp) (by omega)).le ?_) ?_
      ·simp only [El.rc,aE9,Arg.cs,encs,aAx,aBl,aCe,true_and,and_true,aDk,aKc]
       refine aNv ?_
       simp only [aAx,aBl,aCe,true_and,and_true,aDk,aD7]
      ·intro q L2 n2 h2
       have h4:=hrd'.trans h2
       first | exact ⟨h4.le,h4⟩ | exact ⟨by have:=h4.le; omega,h4.grow (by omega)⟩
end Go.Ab
namespace Go.Ab
variable {P:Program} {F T:Nat→Nat}
theorem bBm {c:Nat} {e:El} (h:e.jk):(useN c e).J:=mk_J h.list h.argJ
theorem bG9 {c:Nat} {e:El}:(useN c e).tq:=by
 intro h
 exfalso
 revert h
 unfold useN
 simp only [Node.kind]
 split <;> decide
theorem bBx {c:Nat} {e:El}:(useN c e).bulk=aAk e.list+aA0 e.args+1:=by simp [useN,Node.bulk]
theorem bEk {c:Nat} {e:El}:addN (useN c e) []=[useN c e]:=by
 unfold addN
 rw [if_neg]
 ·rfl
 ·unfold useN; simp only [Node.kind]; split <;> decide
theorem Rv.use {e:El} {r:List El} {c m:Nat} (h:Rv r) (he:e.jk) (hk:e.kind=3) (ht:e.tag=0) (hm:2≤m):Rv ({ e with count:=m,list:=[useN c e],args:=[] }::r):=by
 refine ⟨⟨h.sv.inv.push (q:=(e.kind,m)) rfl fun _=>hm,fun x hx=>?_⟩,h.kt.push (q:=(e.kind,e.tag,m)) rfl (by simp only; omega) (fun x=>by simp only at x; omega) (fun _=>ht)⟩
 rcases List.mem_cons.1 hx with rfl | hx
 ·refine ⟨fun _=>rfl,?_,by simp⟩
  have h0:=Jn.nil.addN (bBm (c:=c) he)
  rwa [bEk] at h0
 ·exact h.sv.ok x hx
theorem Rv.add {els:List El} (h:Rv els) {n:Node} (hn:n.J):Rv (addS n els):=⟨(h.sv.add hn).1,h.kt.same aUw⟩
theorem Rv.flat {els:List El} (h:Rv els) {k:Nat} (hk:k+1<els.length):∃ e r,Go.Ab.flatN k els=e::r∧r≠[]∧Rv (e::r)∧Rv r∧e.jk∧(Go.Ab.kt els)[k]?=some (e.kind,e.tag,e.count):=by
 obtain ⟨e,r,h1,h2,h3,h4,h5⟩:=h.sv.flat hk
 have hv:=h.flatN (k:=k) (by omega)
 rw [h1] at hv
 exact ⟨e,r,h1,h3.ne,hv,⟨h3,hv.kt.tail h3.ne⟩,h2,h5⟩
theorem aMv {n c:Nat} {st:List El} (h:¬ 2≤c∨aA1 st=none):aBk n c st=addS (tx (List.replicate c 125)) st:=by
 cases n with
 | zero=>rfl
 | succ n =>
   rw [aBk]
   rcases h with h | h
   ·rw [if_neg h]
   ·rw [h]; simp
theorem bAb {s:St} {K:St→Prop} {p id ty ty0 sz:Nat} {es es':List V} {n:Nat} (hp:s.L p=some (.box ty0 [.own id sz 0 n])) (hid:s.L id=some (.vec ty sz es)) (hn:n=es.length) (hi:V.imms es=true) (hle:V.leL es es')
 (h:∀ s':St,s'.nx=s.nx→s'.L p=some (.box ty0 [.lst sz es'])→(∀ i,(s.env i).imm=true→s'.env i=s.env i)→(∀ i a b,s.env i=.ptr a b→s'.env i=.ptr a b) →
  (∀ b ty cs,b≠p→s.L b=some (.box ty cs)→V.imms cs=true→s'.L b=some (.box ty cs))→K s'):∃ s',FzS s s'∧K s':=by
 have key:∀ b ty1 cs,s.L b=some (.box ty1 cs)→aBa id es s.L b=some (.box ty1 (V.fzL id es cs)):=by
  intro b ty1 cs hb
  have hne:b≠id:=by rintro rfl; rw [hid] at hb; cases hb
  simp [aBa,hne,hb,Blk.fz]
 have h3:(s.fz id es).L p=some (.box ty0 [.lst sz es]):=by
  rw [show (s.fz id es).L p=aBa id es s.L p from rfl,key p ty0 _ hp]
  subst hn
  simp [V.fzL,V.fz]
 refine ⟨⟨(s.fz id es).env,upd (s.fz id es).L p (some (.box ty0 [.lst sz es'])),(s.fz id es).nx⟩,.step id ty sz es hid hi (FzS.le p ty0 _ [.lst sz es'] h3 (by simp only [aAx,aBl,and_true,aKc]; exact hle) (.refl _)),h _ rfl (aAd _ _ _) (fun i h=>aHs id es _ h) (fun i a b h=>?_) fun b ty1 cs hbp hb hc=>?_⟩
 ·show (s.env i).fz id es=_
  rw [h]; rfl
 ·show upd (s.fz id es).L p _ b=_
  rw [aAc _ _ _ _ hbp,show (s.fz id es).L b=aBa id es s.L b from rfl,key b ty1 cs hb,aC5 id es cs hc]
theorem r91 (K:RC P F T) {L:Heap} {nx p:Nat} {els:List El} (h:RP T L nx p els) (hv:Rv els) (c:Nat) (hb:pot els+(c+1)≤2^29) :
 ECall P (F 91) [.ptr p 0,.int .i64 c] L nx (fun _ L' nx'=>RD T L nx p (aBk c c els) L' nx'):=by
 have hp:=h.lt
 refine aA2 [] K.h91 (by simp) ?_
 simp only [c91,push_cast,seval,-Nat.reducePow]
 refine aAe (fun m s=>∃ n st,m≤n∧m≤c∧aBk c c els=aBk n m st∧Rv st∧pot st+(m+1)≤2^29∧s.env 0=.ptr p 0∧s.env 1=.int .i64 m∧RD T L nx p st s.L s.nx) c ⟨c,els,?_⟩ fun m s hJ=>?_
 ·simp only [push_cast,seval,-Nat.reducePow]
  exact ⟨hv,hb,h.rd (by omega)⟩
 ·obtain ⟨n,st,hmn,hmc,hcl,hst,hpb,j0,j1,hrd⟩:=hJ
  have hpl:=aBv st
  have hle:=hrd.le
  have text:∀ (M:Heap) (q:Nat),RD T L nx p st M q→aBk c c els=addS (tx (List.replicate m 125)) st→∀ (K0:V→Heap→Nat→Prop),(∀ v L2 n2,RD T L nx p (aBk c c els) L2 n2→K0 v L2 n2)→aKe P (F 86) [.ptr p 0,.str (List.replicate m 125)] M q (Tg.mk (a:=K0)):=by
   intro M q z hz K0 hK
   refine aAa (r86 K (z.rp hp) hst.sv.ne (List.replicate m 125) (by simp only [List.length_replicate]; omega)) ?_
   intro v L2 n2 h2
   refine hK v L2 n2 ?_
   rw [hz]
   exact z.trans h2
  by_cases h2:2≤m
  ·have h2':(2:Int)≤((m:Nat):Int):=by omega
   obtain ⟨n,rfl⟩:∃ k,n=k+1:=⟨n-1,by omega⟩
   simp only [push_cast,seval,-Nat.reducePow,j0,j1,h2']
   have hrd1:=hrd.grow (m:=s.nx+136) (by omega)
   refine aAa (r110 K (hrd1.rp hp) (by omega) hst.sv.ne) ?_
   rintro v L1 n1 ⟨rfl,rfl,g1⟩
   have hrd2:=hrd1.grow g1
   rcases aG9 st with ⟨hB,hB0⟩ | ⟨k,hB,hBk,hB0⟩
   ·simp only [push_cast,seval,-Nat.reducePow,j0,j1,hB0]
    refine aAb (t111 K.h111 125 m (by omega)) (by simp only [push_cast,seval,-Nat.reducePow]) (by simp only [push_cast,seval,-Nat.reducePow]) ?_
    simp only [push_cast,seval,-Nat.reducePow,j0,j1]
    exact text _ _ (hrd2.grow (by omega)) (by rw [hcl]; exact aMv (.inr hB)) _ (fun v2 L2 n2 h2=>by first | exact ⟨by have:=h2.le; omega,h2.grow (by omega)⟩ | (simp only [push_cast,seval,-Nat.reducePow]; exact ⟨by have:=h2.le; omega,h2.grow (by omega)⟩))
   ·have hB0':¬ ((aCr st:Nat):Int)=0:=by omega
    have eB:aCr st=st.length-1-k:=by omega
    simp only [push_cast,seval,-Nat.reducePow,j0,j1,hB0']
    rw [eB]
    have hrd3:=hrd2.grow (m:=n1+204) (by omega)
    refine aAa (r61 K (hrd3.rp hp) hst k (by omega) (by omega)) ?_
    rintro v L3 n3 h3
    have hrd4:=hrd3.trans h3
    obtain ⟨e,r,hf,hr,hver,hvr,hjk,hkt⟩:=hst.flat (k:=k) (by omega)
    have hfp:=aFb k st
    rw [hf] at hrd4 hfp
    obtain ⟨t0,c0,hkt0⟩:=aGf hB
    rw [hkt] at hkt0
    simp only [Option.some.injEq,Prod.mk.injEq] at hkt0
    obtain ⟨hk3,-,-⟩:=hkt0
    have htag:e.tag=0:=(hver.kt.top hr).2.2 hk3
    have hcn:2≤e.count:=hver.sv.inv.cn (e.kind,e.count) (by simp [kc]) hk3
    simp only [pot] at hfp
    have hpe:e.pot=30+2*e.count+aAk e.list+aA0 e.args+5*e.args.length:=rfl
    have hpr:=aBv r
    have hk3':((e.kind:Nat):Int)=3:=by omega
    simp only [push_cast,seval,-Nat.reducePow,j0,j1]
    have hrd5:=hrd4.grow (m:=n3+136) (by omega)
    refine aAa (t88 K.h88 K.h62 (hrd5.rp hp) (by omega) hr) ?_
    rintro v L4 n4 ⟨rfl,h4⟩
    have hrd6:=hrd5.trans h4
    have le6:=hrd6.le
    simp only [push_cast,seval,-Nat.reducePow,j0,j1,El.rc]
    have hims:=aJi e
    have hu2:=useK m e.count
    have hq4:∀ (n:Nat) (x:Option Blk) (M:Heap),upd M (n4+n) x p=M p:=fun n x M=>aAc _ _ _ _ (by omega)
    have hui:=fun (n:Nat) (x:Option Blk) (M:Heap)=>aAd M (n4+n) x
    have a4:∀ b,b<nx→∀ (n:Nat) (x:Option Blk) (M:Heap),upd M (n4+n) x b=M b:=fun b hb n x M=>aAc _ _ _ _ (by omega)
    have z4:∀ (M:Heap) (q:Nat),n4≤q→M p=L4 p→(∀ b,b<nx→M b=L4 b)→RD T L nx p r M q:=fun M q a b d =>
     ⟨by rw [b]; exact hrd6.box,by omega,fun x ty cs hx hxp hLx hcs=>by rw [d x hx]; exact hrd6.fr x ty cs hx hxp hLx hcs⟩
    refine aAs (fun s1=>s1.env 0=.ptr p 0∧s1.env 1=.int .i64 m∧s1.env 5=.ptr (n4+5) 0∧s1.L (n4+5)=some (.box (T 11) e.rc)∧n4+5<s1.nx∧s1.env 6=.int .i64 (useK m e.count:Nat)∧s1.env 7=.int .i64 (if useK m e.count=3 then 5 else 4)∧RD T L nx p r s1.L s1.nx) ?_ ?_
    ·by_cases g3:3≤m
     ·have g3':(3:Int)≤((m:Nat):Int):=by omega
      by_cases g4:3≤e.count
      ·have g4':(3:Int)≤((e.count:Nat):Int):=by omega
       have hu:useK m e.count=3:=by simp [useK,g3,g4]
       simp only [push_cast,seval,-Nat.reducePow,j0,j1,El.rc,g3',g4',hui,hu]
       exact ⟨by omega,z4 _ _ (by omega) (by simp only [hq4]) (fun b hb=>by simp only [a4 b hb])⟩
      ·have g4':¬ (3:Int)≤((e.count:Nat):Int):=by omega
       have hu:useK m e.count=2:=by simp [useK,g4]
       simp only [push_cast,seval,-Nat.reducePow,j0,j1,El.rc,g3',g4',hui,hu]
       exact ⟨by omega,z4 _ _ (by omega) (by simp only [hq4]) (fun b hb=>by simp only [a4 b hb])⟩
     ·have g3':¬ (3:Int)≤((m:Nat):Int):=by omega
      have hu:useK m e.count=2:=by simp [useK,g3]
      simp only [push_cast,seval,-Nat.reducePow,j0,j1,El.rc,g3',hui,hu]
      exact ⟨by omega,z4 _ _ (by omega) (by simp only [hq4]) (fun b hb=>by simp only [a4 b hb])⟩
    ·rintro s1 ⟨i0,i1,i5,iL,inx,i6,i7,ir⟩
     have hu:2≤useK m e.count∧useK m e.count≤m∧useK m e.count≤e.count:=by unfold useK; split <;> omega
     have iL':s1.L (n4+5)=some (.box (T 11) [V.int IntKind.i64 ↑e.kind,V.int IntKind.i64 ↑e.tag,V.int IntKind.i64 ↑e.count,V.lst 5 (encs e.list),V.lst 3 (encA e.args)]):=iL
     have hq5:∀ (n:Nat) (x:Option Blk) (M:Heap),upd M (s1.nx+n) x (n4+5)=M (n4+5):=fun n x M=>aAc _ _ _ _ (by omega)
     have hus:=fun (n:Nat) (x:Option Blk) (M:Heap)=>aAd M (s1.nx+n) x
     have hN:(useN m e).cs=[.int .i64 (if useK m e.count=3 then 5 else 4),.int .i64 0,.str [],.lst 5 (encs e.list),.lst 3 (encA e.args)]:=rfl
     have ec:aBk (n+1) m st=if 2≤e.count-useK m e.count then aBk n (m-useK m e.count) ({ e with count:=e.count-useK m e.count,list:=[useN m e],args:=[] }::r)
      else aBk n (m-useK m e.count) (addS (useN m e) (if e.count-useK m e.count=1 then addS (tx [123]) r else r)):=by
      rw [aBk,if_pos h2,hB]; simp only [hf]
     generalize useK m e.count=uk at hu i6 i7 hN ec
     have ek:((m:Nat):Int)-(uk:Nat)=((m-uk:Nat):Int):=by omega
     have ec2:((e.count:Nat):Int)-(uk:Nat)=((e.count-uk:Nat):Int):=by omega
     simp only [push_cast,seval,-Nat.reducePow,i0,i1,i5,iL',i6,i7,hus,hq5,ek,ec2,aAm,aBg]
     have hjn:=bBm (c:=m) hjk
     have ile:=ir.le
     have hqp5:∀ (n:Nat) (x:Option Blk) (M:Heap),upd M (s1.nx+n) x p=M p:=fun n x M=>aAc _ _ _ _ (by omega)
     have hbx:=ir.box
     have hnr:=aA7 r
     have hrn:rvs r≠[]:=by intro x; have:=congrArg List.length x; rw [hnr,List.length_nil] at this; exact hr (List.length_eq_zero_iff.1 this)
     have tk:(rvs r).take r.length=rvs r:=List.take_of_length_le (by omega)
     have b5:∀ b,b<s1.nx→∀ (n:Nat) (x:Option Blk) (M:Heap),upd M (s1.nx+n) x b=M b:=fun b hb n x M=>aAc _ _ _ _ (by omega)
     have z5:∀ (M:Heap) (q:Nat),s1.nx≤q→(∀ b,b<s1.nx→M b=s1.L b)→RD T L nx p r M q:=fun M q a d =>
      ⟨by rw [d p (by omega)]; exact hbx,by omega,fun x ty cs hx hxp hLx hcs=>by rw [d x (by omega)]; exact ir.fr x ty cs hx hxp hLx hcs⟩
     have hbn:=bBx (c:=m) (e:=e)
     have hcs:=hN
     generalize (if uk=3 then (5:Int) else 4)=kn at hN hcs i7
     refine ⟨⟨by omega,by omega⟩,⟨by omega,by omega⟩,?_⟩
     refine aAh (fun g=>?_) (fun g=>?_)
     ·have g':2≤e.count-uk:=by omega
      rw [if_pos g'] at ec
      simp only [push_cast,seval,-Nat.reducePow,i0,i1,i5,iL',i6,i7,hus,hq5,ek,ec2,hqp5,hbx]
      refine aIl hrn ?_
      simp only [push_cast,seval,-Nat.reducePow,i0,i1,i5,iL',i6,i7,hus,hq5,ek,ec2,hqp5,hbx,hnr,tk]
      have hE:rvs ({ e with count:=e.count-uk,list:=[useN m e],args:=[] }::r)=rvs r++[.agg [.int .i64 3,.int .i64 0,.int .i64 (e.count-uk:Nat),.lst 5 [.agg (useN m e).cs],.lst 3 []]]:=by
       rw [aDv]; simp only [El.rc,hk3,htag,encs,encA]; rfl
      have hpu:∀ (x:Option Blk) (M:Heap),upd M p x p=x:=fun x M=>aAd _ _ _
      have hpi:∀ (n:Nat) (x:Option Blk) (M:Heap),upd M p x (s1.nx+n)=M (s1.nx+n):=fun n x M=>aAc _ _ _ _ (by omega)
      refine ⟨by omega,by omega,bAb (p:=p) (id:=s1.nx+326) (ty:=T 11) (ty0:=T 9) (sz:=5) (es:=rvs r++[.agg [.int .i64 3,.int .i64 0,.int .i64 (e.count-uk:Nat),.lst 5 [.agg (useN m e).cs],.nils]]) (es':=rvs ({ e with count:=e.count-uk,list:=[useN m e],args:=[] }::r)) (n:=r.length+1) ?_ ?_ ?_ ?_ ?_ ?_⟩
      ·simp only [push_cast,seval,-Nat.reducePow,hpu]
      ·simp only [push_cast,seval,-Nat.reducePow,hpi,hus,hN]
      ·simp [aA7]
      ·simp [aB1,aFo,V.imms,V.imm,aSq]
      ·rw [hE]
       refine aNv ?_
       simp only [aAx,aBl,aCe,true_and,and_true,aDk,aD7]
      ·intro s' f2 f3 f4 f5 f6
       have v0:=f5 0 p 0 (by simp only [push_cast,seval,-Nat.reducePow,i0])
       have v1:=f4 1 (by simp only [push_cast,seval,-Nat.reducePow])
       have v1':s'.env 1=.int .i64 (m-uk:Nat):=by rw [v1]; simp only [push_cast,seval,-Nat.reducePow]
       have f2':s'.nx=s1.nx+340:=f2
       refine ⟨m-uk,by omega,n,_,by omega,by omega,hcl.trans ec,hvr.use (c:=m) hjk hk3 htag g',?_,v0,v1',⟨f3,by omega,fun b ty cs hb hbp hLb hcc=>f6 b ty cs hbp ?_ hcc⟩⟩
       ·have hub:aAk [useN m e]=(useN m e).bulk:=by simp [aAk]
        simp only [pot,El.pot,hub,hbn,aA0,List.length_nil]
        omega
       ·have a5:∀ (x:Option Blk) (M:Heap),upd M p x b=M b:=fun x M=>aAc _ _ _ _ hbp
        simp only [push_cast,seval,-Nat.reducePow,a5,b5 b (by omega)]
        exact ir.fr b ty cs hb hbp hLb hcc
     ·have g':¬ 2≤e.count-uk:=by omega
      rw [if_neg g'] at ec
      simp only [push_cast,seval,-Nat.reducePow,i0,i1,i5,iL',i6,i7,hus,hq5,ek,ec2]
      refine aAs (fun s2=>s2.env 0=.ptr p 0∧s2.env 1=.int .i64 (m-uk:Nat)∧s2.env 8=.cptr (useN m e).cs∧RD T L nx p (if e.count-uk=1 then addS (tx [123]) r else r) s2.L s2.nx) ?_ ?_
      ·have zz:=z5 (upd (upd (upd s1.L (s1.nx+8) (some (Blk.box (T 0) [V.int IntKind.i64 0,V.int IntKind.i64 0,V.str [],V.nils,V.nils]))) (s1.nx+8) (some (Blk.box (T 0) [V.int IntKind.i64 kn,V.int IntKind.i64 0,V.str [],V.lst 5 (encs e.list),V.lst 3 (encA e.args)]))) (s1.nx+8) none)
       by_cases g1:e.count-uk=1
       ·have g1':((e.count-uk:Nat):Int)=1:=by omega
        simp only [push_cast,seval,-Nat.reducePow,i0,i1,i5,iL',i6,i7,hus,hq5,ek,ec2,g1',hN]
        rw [if_pos g1]
        refine aAa (r86 K ((zz (s1.nx+408) (by omega) (fun b hb=>by simp only [b5 b hb])).rp hp) hr [123] (by simp only [List.length_cons,List.length_nil]; omega)) ?_
        intro v2 L6 n6 h6
        have z6:=(zz (s1.nx+408) (by omega) (fun b hb=>by simp only [b5 b hb])).trans h6
        first
         | exact ⟨i0,rfl,rfl,z6.grow (by omega)⟩
         | (simp only [push_cast,seval,-Nat.reducePow,i0,hN]; exact z6.grow (by omega))
       ·have g1':¬ ((e.count-uk:Nat):Int)=1:=by omega
        rw [if_neg g1]
        simp only [push_cast,seval,-Nat.reducePow,i0,i1,i5,iL',i6,i7,hus,hq5,ek,ec2,g1',hN]
        exact zz _ (by omega) (fun b hb=>by simp only [b5 b hb])
      ·rintro s2 ⟨x0,x1,x8,xr⟩
       simp only [push_cast,seval,-Nat.reducePow,x0,x1,x8,aY3,bB6]
       have xr':=xr.grow (m:=s2.nx+68) (by omega)
       have hsl:(if e.count-uk=1 then addS (tx [123]) r else r)≠[]:=by split; exact aB7 hr; exact hr
       have tb:(tx [123]).bulk=2:=rfl
       have pp1:pot (if e.count-uk=1 then addS (tx [123]) r else r)≤pot r+2:=by split <;> (have:=aA9 (tx [123]) r; omega)
       have rv1:Rv (if e.count-uk=1 then addS (tx [123]) r else r):=by split; exact hvr.add (tx_J _); exact hvr
       have pp2:=aA9 (useN m e) (if e.count-uk=1 then addS (tx [123]) r else r)
       refine aAa (r82 K (xr'.rp hp) hsl (useN m e) bG9 (by omega)) ?_
       intro v2 L7 n7 h7
       have z7:=xr'.trans h7
       first
        | exact ⟨m-uk,by omega,n,_,by omega,by omega,hcl.trans ec,rv1.add hjn,by omega,x0,x1,z7.grow (by omega)⟩
        | (simp only [push_cast,seval,-Nat.reducePow,x0,x1]; exact ⟨m-uk,by omega,n,_,by omega,by omega,hcl.trans ec,rv1.add hjn,by omega,rfl,z7.grow (by omega)⟩)
  ·have h2':¬ (2:Int)≤((m:Nat):Int):=by omega
   simp only [push_cast,seval,-Nat.reducePow,j0,j1,h2']
   refine aAb (t111 K.h111 125 m (by omega)) (by simp only [push_cast,seval,-Nat.reducePow]) (by simp only [push_cast,seval,-Nat.reducePow]) ?_
   simp only [push_cast,seval,-Nat.reducePow,j0,j1]
   exact text _ _ (hrd.grow (by omega)) (by rw [hcl]; exact aMv (.inl h2)) _ (fun v2 L2 n2 h2=>by first | exact ⟨by have:=h2.le; omega,h2.grow (by omega)⟩ | (simp only [push_cast,seval,-Nat.reducePow]; exact ⟨by have:=h2.le; omega,h2.grow (by omega)⟩))
end Go.Ab
namespace Go.Ab
variable {P:Program} {F T:Nat→Nat}
theorem aLn:∀ (n c:Nat) {st:List El},Rv st→Rv (aBk n c st)
 | 0,c,st,h=>h.add (tx_J _)
 | n+1,c,st,h=>by
   rw [aBk]
   split
   ·rename_i h2
    cases hb:aA1 st with
    | none=>exact h.add (tx_J _)
    | some k =>
      obtain ⟨e,r,hf,hr,hver,hvr,hjk,hkt⟩:=h.flat (k:=k) (aH7 hb)
      obtain ⟨t0,c0,hkt0⟩:=aGf hb
      rw [hkt] at hkt0
      simp only [Option.some.injEq,Prod.mk.injEq] at hkt0
      obtain ⟨hk3,-,-⟩:=hkt0
      have htag:e.tag=0:=(hver.kt.top hr).2.2 hk3
      simp only [hf]
      split
      ·rename_i hm
       exact aLn n _ (hvr.use (c:=c) hjk hk3 htag hm)
      ·refine aLn n _ (Rv.add ?_ (bBm hjk))
       split
       ·exact hvr.add (tx_J _)
       ·exact hvr
   ·exact h.add (tx_J _)
theorem Rv.take {s:List UInt8} {t:Tok} {st:List El} (hg:t.good s) (h:Rv st):Rv (aBb s t st):=by
 have hsv:=(Sv.take hg h.sv).1
 refine ⟨hsv,?_⟩
 have same:∀ n:Node,Kt (addS n st):=fun n=>h.kt.same aUw
 have opn:∀ (e:El) (q:List UInt8),(1≤e.kind∧e.kind≤3)→(e.kind=2→1≤e.tag∧e.tag≤3)→(e.kind=3→e.tag=0)→Kt (aEv e q st):=by
  intro e q h1 h2 h3
  unfold aEv
  split
  ·exact same _
  ·exact h.kt.push (q:=(e.kind,e.tag,e.count)) rfl h1 h2 h3
 clear hsv
 unfold aBb
 split
 ·exact same _
 split
 ·exact same _
 split
 ·exact opn _ _ ⟨Nat.le_succ_of_le (Nat.le_succ 1),Nat.le_refl 3⟩ (fun x=>by simp at x) (fun _=>rfl)
 split
 ·exact opn _ _ ⟨by decide,by decide⟩ (fun x=>by simp at x) (fun x=>by simp at x)
 split
 ·rename_i h11
  exact opn _ _ ⟨Nat.le_succ 1,Nat.le_succ 2⟩ (fun _=>hg.wf.tag h11) (fun x=>by simp at x)
 split
 ·cases st with
  | nil=>exact h.kt
  | cons e r =>
    simp only [barF]
    split
    ·exact h.kt.same rfl
    ·exact same _
 split
 ·cases st with
  | nil=>exact h.kt
  | cons e r =>
    simp only [eqF]
    split
    ·exact h.kt.same rfl
    ·exact same _
 split
 ·cases st with
  | nil=>exact h.kt
  | cons e r =>
    simp only [aIr]
    split
    ·rename_i hk
     exact (h.kt.tail (h.sv.inv.kind1 hk)).same bB9
    ·exact same _
 split
 ·unfold tagF
  cases hb:aDw (t.tag s) st with
  | none=>exact same _
  | some k =>
    obtain ⟨e,r,hf,hr,hver,hvr,hjk,hkt⟩:=h.flat (k:=k) (aLt hb)
    simp only [hf]
    exact hvr.kt.same aUw
 split
 ·exact (aLn _ _ h).kt
 ·exact same _
theorem r60 (K:RC P F T) {L:Heap} {nx p:Nat} {els:List El} (h:RP T L nx p els) (hv:Rv els) (s:List UInt8) (hs:s.length≤8192) (t:Tok) (hg:t.good s) (hb:pot els+(s.length+1)*4≤2^29) :
 ECall P (F 60) [.ptr p 0,.str s,.agg t.vs] L nx (fun _ L' nx'=>RD T L nx p (aBb s t els) L' nx'):=by
 have hp:=h.lt
 have hne:=hv.sv.ne
 have hw:=hg.wf
 have htl:=Tok.text_length hg.le
 have hle:=hg.le
 have hlt:=hg.lt
 have h81:=t81 K.sp.h81 s t (by omega) hg.le hs
 have hq:=aFp (L:=L) hp
 have a1:∀ b,b<nx→∀ (n:Nat) (x:Option Blk) (M:Heap),upd M (nx+n) x b=M b:=fun b hb n x M=>aAc _ _ _ _ (by omega)
 have hui:=fun (n:Nat) (x:Option Blk) (M:Heap)=>aAd M (nx+n) x
 have z0:∀ (M:Heap) (q:Nat),nx≤q→(∀ b,b<nx→M b=L b)→RD T L nx p els M q:=fun M q a d =>
  ⟨by rw [d p hp]; exact h.box,a,fun x ty cs hx hxp hLx hcs=>by rw [d x hx]; exact hLx⟩
 have hk:=hw.kind
 obtain ⟨kd,fr,to⟩:=t
 have tk:aBb s ⟨kd,fr,to⟩ els=aBb s ⟨kd,fr,to⟩ els:=rfl
 refine aA2 [] K.h60 (by simp) ?_
 simp only [c60,push_cast,seval,-Nat.reducePow,Tok.vs]
 refine aAb h81 (by simp only [push_cast,seval,-Nat.reducePow,Tok.vs]) (by simp only [push_cast,seval,-Nat.reducePow]) ?_
 simp only at hk htl hle hlt
 have hcase:kd=9∨kd=10∨kd=3∨kd=5∨kd=11∨kd=7∨kd=8∨kd=6∨kd=12∨kd=4∨kd=1∨kd=2:=by omega
 rcases hcase with rfl | rfl | rfl | rfl | rfl | rfl | rfl | rfl | rfl | rfl | rfl | rfl
 ·have e9:aBb s ⟨9,fr,to⟩ els=addS (.mk 2 0 (Tok.text s ⟨9,fr,to⟩) [] []) els:=by simp [aBb]
  rw [e9]
  simp only [push_cast,seval,-Nat.reducePow,hui]
  have z1:=z0 (upd L (nx+5) (some (Blk.box (T 8) [V.int IntKind.i64 9,V.int IntKind.i64 ↑fr,V.int IntKind.i64 ↑to]))) (nx+655) (by omega) (fun b hb=>a1 b hb _ _ _)
  refine aAa ((r82 K (z1.rp hp) hne (.mk 2 0 (Tok.text s ⟨9,fr,to⟩) [] []) (fun x=>by simp [Node.kind] at x) (by simp only [Node.bulk,aAk,aA0]; omega)).le (by simp only [El.rc,Node.cs,encs,encA,aAx,aBl,aDk,aD7,aCe,and_true])) ?_
  intro v2 L2 n2 h2
  have z2:=z1.trans h2
  first | exact ⟨by have:=z2.le; omega,z2.grow (by omega)⟩ | (simp only [push_cast,seval,-Nat.reducePow]; exact ⟨by have:=z2.le; omega,z2.grow (by omega)⟩)
 ·have h17:=hw.wiki rfl
  have e9:aBb s ⟨10,fr,to⟩ els=addS (.mk 3 0 (((Tok.text s ⟨10,fr,to⟩).take ((Tok.text s ⟨10,fr,to⟩).length-9)).drop 8) [] []) els:=by simp [aBb]
  rw [e9]
  have e10:(((Tok.text s ⟨10,fr,to⟩).length:Nat):Int)-9=(((Tok.text s ⟨10,fr,to⟩).length-9:Nat):Int):=by omega
  simp only [push_cast,seval,-Nat.reducePow,hui,e10]
  have z1:=z0 (upd L (nx+5) (some (Blk.box (T 8) [V.int IntKind.i64 10,V.int IntKind.i64 ↑fr,V.int IntKind.i64 ↑to]))) (nx+786) (by omega) (fun b hb=>a1 b hb _ _ _)
  refine ⟨by omega,by omega,by omega,aAa ((r82 K (z1.rp hp) hne (.mk 3 0 (((Tok.text s ⟨10,fr,to⟩).take ((Tok.text s ⟨10,fr,to⟩).length-9)).drop 8) [] []) (fun x=>by simp [Node.kind] at x) (by simp only [Node.bulk,aAk,aA0,List.length_drop,List.length_take]; omega)).le (by simp only [El.rc,Node.cs,encs,encA,aAx,aBl,aDk,aD7,aCe,and_true])) ?_⟩
  intro v2 L2 n2 h2
  have z2:=z1.trans h2
  first | exact ⟨by have:=z2.le; omega,z2.grow (by omega)⟩ | (simp only [push_cast,seval,-Nat.reducePow]; exact ⟨by have:=z2.le; omega,z2.grow (by omega)⟩)
 ·have e9:aBb s ⟨3,fr,to⟩ els=aEv ⟨3,0,(Tok.text s ⟨3,fr,to⟩).length,[],[]⟩ (Tok.text s ⟨3,fr,to⟩) els:=by simp [aBb]
  rw [e9]
  simp only [push_cast,seval,-Nat.reducePow,hui]
  have z1:=z0 (upd L (nx+5) (some (Blk.box (T 8) [V.int IntKind.i64 3,V.int IntKind.i64 ↑fr,V.int IntKind.i64 ↑to]))) (nx+917) (by omega) (fun b hb=>a1 b hb _ _ _)
  refine aAa ((r83 K (z1.rp hp) hne ⟨3,0,(Tok.text s ⟨3,fr,to⟩).length,[],[]⟩ (Tok.text s ⟨3,fr,to⟩) (by omega)).le (by simp only [El.rc,Node.cs,encs,encA,aAx,aBl,aDk,aD7,aCe,and_true]; first | trivial | exact ⟨V.le_refl _,trivial⟩)) ?_
  intro v2 L2 n2 h2
  have z2:=z1.trans h2
  first | exact ⟨by have:=z2.le; omega,z2.grow (by omega)⟩ | (simp only [push_cast,seval,-Nat.reducePow]; exact ⟨by have:=z2.le; omega,z2.grow (by omega)⟩)
 ·have e9:aBb s ⟨5,fr,to⟩ els=aEv ⟨1,0,0,[],[]⟩ (Tok.text s ⟨5,fr,to⟩) els:=by simp [aBb]
  rw [e9]
  simp only [push_cast,seval,-Nat.reducePow,hui]
  have z1:=z0 (upd L (nx+5) (some (Blk.box (T 8) [V.int IntKind.i64 5,V.int IntKind.i64 ↑fr,V.int IntKind.i64 ↑to]))) (nx+1048) (by omega) (fun b hb=>a1 b hb _ _ _)
  refine aAa ((r83 K (z1.rp hp) hne ⟨1,0,0,[],[]⟩ (Tok.text s ⟨5,fr,to⟩) (by omega)).le (by simp only [El.rc,Node.cs,encs,encA,aAx,aBl,aDk,aD7,aCe,and_true]; first | trivial | exact ⟨V.le_refl _,trivial⟩)) ?_
  intro v2 L2 n2 h2
  have z2:=z1.trans h2
  first | exact ⟨by have:=z2.le; omega,z2.grow (by omega)⟩ | (simp only [push_cast,seval,-Nat.reducePow]; exact ⟨by have:=z2.le; omega,z2.grow (by omega)⟩)
 ·have e9:aBb s ⟨11,fr,to⟩ els=aEv ⟨2,Tok.tag s ⟨11,fr,to⟩,0,[],[]⟩ (Tok.text s ⟨11,fr,to⟩) els:=by simp [aBb]
  rw [e9]
  simp only [push_cast,seval,-Nat.reducePow,hui]
  refine aAb (t84 K.sp.h84 K.sp.h81 K.sp.h25 s ⟨11,fr,to⟩ (by simp only; omega) (by simp only; omega) hs (.inl rfl) hg.tagO hg.tagC) (by simp only [push_cast,seval,-Nat.reducePow]) (by simp only [push_cast,seval,-Nat.reducePow]) ?_
  simp only [push_cast,seval,-Nat.reducePow,hui]
  have z1:=z0 (upd L (nx+5) (some (Blk.box (T 8) [V.int IntKind.i64 11,V.int IntKind.i64 ↑fr,V.int IntKind.i64 ↑to]))) (nx+1179) (by omega) (fun b hb=>a1 b hb _ _ _)
  refine aAa ((r83 K (z1.rp hp) hne ⟨2,Tok.tag s ⟨11,fr,to⟩,0,[],[]⟩ (Tok.text s ⟨11,fr,to⟩) (by omega)).le (by simp only [El.rc,Node.cs,encs,encA,aAx,aBl,aDk,aD7,aCe,and_true]; first | trivial | exact ⟨V.le_refl _,trivial⟩)) ?_
  intro v2 L2 n2 h2
  have z2:=z1.trans h2
  first | exact ⟨by have:=z2.le; omega,z2.grow (by omega)⟩ | (simp only [push_cast,seval,-Nat.reducePow]; exact ⟨by have:=z2.le; omega,z2.grow (by omega)⟩)
 ·cases els with
  | nil=>exact absurd rfl hne
  | cons e r =>
  have hx:Tok.text s ⟨7,fr,to⟩=[124]:=by
   have hf:=(hg.txt.resolve_left (by simp)).bar rfl
   rw [Tok.text_eq]; exact hf
  have e9:aBb s ⟨7,fr,to⟩ (e::r)=barF (e::r):=by simp [aBb]
  rw [e9]
  rw [hx]
  simp only [push_cast,seval,-Nat.reducePow,hui]
  have z1:=z0 (upd L (nx+5) (some (Blk.box (T 8) [V.int IntKind.i64 7,V.int IntKind.i64 ↑fr,V.int IntKind.i64 ↑to]))) (nx+1310) (by omega) (fun b hb=>a1 b hb _ _ _)
  have hpl:=aBv r
  simp only [pot] at hb
  refine aAa (t62 K.h62 (z1.rp hp) (by omega)) ?_
  rintro v1 L1 n1 ⟨rfl,g1,g2⟩
  have hui1:=fun (n:Nat) (x:Option Blk) (M:Heap)=>aAd M (n1+n) x
  have b1:∀ b,b<n1→∀ (n:Nat) (x:Option Blk) (M:Heap),upd M (n1+n) x b=M b:=fun b hb n x M=>aAc _ _ _ _ (by omega)
  have z3:∀ (M:Heap) (q:Nat),n1≤q→(∀ b,b<n1→M b=L1 b)→RD T L nx p (e::r) M q:=fun M q a d =>
   ⟨by rw [d p (by omega),g2 p (by omega)]; exact z1.box,by omega,fun x ty cs hx hxp hLx hcs=>by rw [d x (by omega),g2 x (by omega)]; exact z1.fr x ty cs hx hxp hLx hcs⟩
  simp only [push_cast,seval,-Nat.reducePow,El.rc]
  by_cases h3:e.kind=3
  ·have h3':((e.kind:Nat):Int)=3:=by omega
   have e8:barF (e::r)={ e with args:=e.args++[.mk false [] []] }::r:=by simp [barF,h3]
   rw [e8]
   simp only [push_cast,seval,-Nat.reducePow,h3',hui1]
   have hpe:e.pot=30+2*e.count+aAk e.list+aA0 e.args+5*e.args.length:=rfl
   have hle2:V.leL (encA e.args++[.agg [.bool false,.nils,.nils]]) (encA (e.args++[.mk false [] []])):=by
    rw [aE9]
    refine aNv ?_
    simp only [Arg.cs,encs,aAx,aBl,aCe,true_and,and_true,aDk,aD7]
   have hlA:=aAr e.args
   have tkA:(encA e.args).take e.args.length=encA e.args:=List.take_of_length_le (by omega)
   have hpu:∀ (x:Option Blk) (M:Heap),upd M (n1+7) x (n1+7)=x:=fun x M=>aAd _ _ _
   have h7:∀ (n:Nat) (x:Option Blk) (M:Heap),n≠7→upd M (n1+7) x (n1+n)=M (n1+n):=fun n x M hh=>aAc _ _ _ _ (by omega)
   by_cases hae:encA e.args=[]
   ·rw [hae] at hle2 ⊢
    refine aBw ?_
    simp only [push_cast,seval,-Nat.reducePow,h3',hui1,aK1]
    refine aBw ?_
    simp only [push_cast,seval,-Nat.reducePow,h3',hui1,aI1]
    refine ⟨by omega,aIj (p:=n1+7) (id:=n1+332) (ty:=T 1) (ty0:=T 11) (sz:=3) (pre:=[V.int IntKind.i64 3,V.int IntKind.i64 ↑e.tag,V.int IntKind.i64 ↑e.count,V.lst 5 (encs e.list)]) (es:=[.agg [.bool false,.nils,.nils]]) (n:=1) ?_ ?_ ?_ ?_ ?_ ?_⟩
    ·simp only [push_cast,seval,-Nat.reducePow,hpu]
    ·simp only [push_cast,seval,-Nat.reducePow,hui1,h7 332 _ _ (by decide)]
    ·rfl
    ·simp [aB1,aBg,V.imms,V.imm]
    ·simp [V.imms,V.imm,aAm]
    ·intro s' f2 f3 f4 f5 f6
     have v0:=f5 0 p 0 (by simp only [push_cast,seval,-Nat.reducePow])
     have v7:=f5 7 (n1+7) 0 (by simp only [push_cast,seval,-Nat.reducePow])
     have f2':s'.nx=n1+393:=f2
     have hrd:RD T L nx p (e::r) s'.L (s'.nx+131):=by
      refine ⟨f6 p _ _ (by simp only [push_cast,seval,-Nat.reducePow,b1 p (by omega),g2 p (by omega)]; exact z1.box) (by simp [V.imms,V.imm,aFo]),by omega,fun b ty cs hb hbp hLb hcc=>f6 b ty cs ?_ hcc⟩
      simp only [push_cast,seval,-Nat.reducePow,b1 b (by omega),g2 b (by omega)]
      exact z1.fr b ty cs hb hbp hLb hcc
     clear f4 f5 f6
     simp only [push_cast,seval,-Nat.reducePow,v0,v7,f3]
     refine aAa ((t85 K.h85 (e':={ e with args:=e.args++[.mk false [] []] }) (hrd.rp hp) (by omega)).le ?_) ?_
     ·simp only [El.rc,h3',aAx,aBl,aCe,true_and,and_true,aDk,aKc]
      exact hle2
     ·intro v2 L2 n2 h2
      have z2:=hrd.trans h2
      first | exact ⟨by have:=z2.le; omega,z2.grow (by omega)⟩ | (simp only [push_cast,seval,-Nat.reducePow]; exact ⟨by have:=z2.le; omega,z2.grow (by omega)⟩)
   ·refine aIl hae ?_
    simp only [push_cast,seval,-Nat.reducePow,h3',hui1,hlA,tkA]
    refine ⟨by omega,by omega,aIj (p:=n1+7) (id:=n1+332) (ty:=T 1) (ty0:=T 11) (sz:=3) (pre:=[V.int IntKind.i64 3,V.int IntKind.i64 ↑e.tag,V.int IntKind.i64 ↑e.count,V.lst 5 (encs e.list)]) (es:=encA e.args++[.agg [.bool false,.nils,.nils]]) (n:=e.args.length+1) ?_ ?_ ?_ ?_ ?_ ?_⟩
    ·simp only [push_cast,seval,-Nat.reducePow,hpu]
    ·simp only [push_cast,seval,-Nat.reducePow,hui1,h7 332 _ _ (by decide)]
    ·simp [aAr]
    ·simp [aB1,aBg,V.imms,V.imm]
    ·simp [V.imms,V.imm,aAm]
    ·intro s' f2 f3 f4 f5 f6
     have v0:=f5 0 p 0 (by simp only [push_cast,seval,-Nat.reducePow])
     have v7:=f5 7 (n1+7) 0 (by simp only [push_cast,seval,-Nat.reducePow])
     have f2':s'.nx=n1+393:=f2
     have hrd:RD T L nx p (e::r) s'.L (s'.nx+131):=by
      refine ⟨f6 p _ _ (by simp only [push_cast,seval,-Nat.reducePow,b1 p (by omega),g2 p (by omega)]; exact z1.box) (by simp [V.imms,V.imm,aFo]),by omega,fun b ty cs hb hbp hLb hcc=>f6 b ty cs ?_ hcc⟩
      simp only [push_cast,seval,-Nat.reducePow,b1 b (by omega),g2 b (by omega)]
      exact z1.fr b ty cs hb hbp hLb hcc
     clear f4 f5 f6
     simp only [push_cast,seval,-Nat.reducePow,v0,v7,f3]
     refine aAa ((t85 K.h85 (e':={ e with args:=e.args++[.mk false [] []] }) (hrd.rp hp) (by omega)).le ?_) ?_
     ·simp only [El.rc,h3',aAx,aBl,aCe,true_and,and_true,aDk,aKc]
      exact hle2
     ·intro v2 L2 n2 h2
      have z2:=hrd.trans h2
      first | exact ⟨by have:=z2.le; omega,z2.grow (by omega)⟩ | (simp only [push_cast,seval,-Nat.reducePow]; exact ⟨by have:=z2.le; omega,z2.grow (by omega)⟩)
  ·have h3':¬ ((e.kind:Nat):Int)=3:=by omega
   simp only [push_cast,seval,-Nat.reducePow,h3',hui1]
   have e8:barF (e::r)=addS (tx [124]) (e::r):=by simp [barF,h3]
   rw [e8]
   have z4:=z3 (upd (upd L1 (n1+7) (some (Blk.box (T 11) [V.int IntKind.i64 0,V.int IntKind.i64 0,V.int IntKind.i64 0,V.nils,V.nils]))) (n1+7) (some (Blk.box (T 11) [V.int IntKind.i64 ↑e.kind,V.int IntKind.i64 ↑e.tag,V.int IntKind.i64 ↑e.count,V.lst 5 (encs e.list),V.lst 3 (encA e.args)]))) (n1+393) (by omega) (fun b hb=>by simp only [b1 b hb])
   refine aAa (r86 K (z4.rp hp) hne [124] (by simp only [List.length_cons,List.length_nil,pot]; omega)) ?_
   intro v2 L2 n2 h2
   have z2:=z4.trans h2
   first | exact ⟨by have:=z2.le; omega,z2.grow (by omega)⟩ | (simp only [push_cast,seval,-Nat.reducePow]; exact ⟨by have:=z2.le; omega,z2.grow (by omega)⟩)
 ·have e9:aBb s ⟨8,fr,to⟩ els=eqF els:=by simp [aBb]
  rw [e9]
  simp only [push_cast,seval,-Nat.reducePow,hui]
  have z1:=z0 (upd L (nx+5) (some (Blk.box (T 8) [V.int IntKind.i64 8,V.int IntKind.i64 ↑fr,V.int IntKind.i64 ↑to]))) (nx+1441) (by omega) (fun b hb=>a1 b hb _ _ _)
  refine aAa (r87 K (z1.rp hp) hne (by omega)) ?_
  intro v2 L2 n2 h2
  have z2:=z1.trans h2
  first | exact ⟨by have:=z2.le; omega,z2.grow (by omega)⟩ | (simp only [push_cast,seval,-Nat.reducePow]; exact ⟨by have:=z2.le; omega,z2.grow (by omega)⟩)
 ·cases els with
  | nil=>exact absurd rfl hne
  | cons e r =>
  have hx:Tok.text s ⟨6,fr,to⟩=[93,93]:=by
   have hf:=(hg.txt.resolve_left (by simp)).linkC rfl
   rw [Tok.text_eq]; exact hf
  have e9:aBb s ⟨6,fr,to⟩ (e::r)=aIr (e::r):=by simp [aBb]
  rw [e9]
  rw [hx]
  simp only [push_cast,seval,-Nat.reducePow,hui]
  have z1:=z0 (upd L (nx+5) (some (Blk.box (T 8) [V.int IntKind.i64 6,V.int IntKind.i64 ↑fr,V.int IntKind.i64 ↑to]))) (nx+1572) (by omega) (fun b hb=>a1 b hb _ _ _)
  have hpl:=aBv r
  simp only [pot] at hb
  refine aAa (t62 K.h62 (z1.rp hp) (by omega)) ?_
  rintro v1 L1 n1 ⟨rfl,g1,g2⟩
  have z3:RD T L nx p (e::r) L1 n1 :=
   ⟨by rw [g2 p (by omega)]; exact z1.box,by omega,fun x ty cs hx hxp hLx hcs=>by rw [g2 x (by omega)]; exact z1.fr x ty cs hx hxp hLx hcs⟩
  simp only [push_cast,seval,-Nat.reducePow,El.rc]
  refine aAh (fun g=>?_) (fun g=>?_)
  ·have hk1:e.kind=1:=by omega
   have hr:r≠[]:=hv.sv.inv.kind1 hk1
   have hjk:=hv.sv.ok e (by simp)
   have e8:aIr (e::r)=aBp (tx [91,91]::(e.list++[tx [93,93]])) r:=by simp [aIr,hk1]
   rw [e8]
   simp only [push_cast,seval,-Nat.reducePow]
   have z3':=z3.grow (m:=n1+262) (by omega)
   have hla:=hjk.args (by omega)
   have hpe:e.pot=30+2*e.count+aAk e.list+aA0 e.args+5*e.args.length:=rfl
   refine aAa (t88 K.h88 K.h62 (z3'.rp hp) (by omega) hr) ?_
   rintro v3 L3 n3 ⟨rfl,h3⟩
   have z4:=z3'.trans h3
   have hui3:=fun (n:Nat) (x:Option Blk) (M:Heap)=>aAd M (n3+n) x
   have b3:∀ b,b<n3→∀ (n:Nat) (x:Option Blk) (M:Heap),upd M (n3+n) x b=M b:=fun b hb n x M=>aAc _ _ _ _ (by omega)
   have le4:=z4.le
   have z5:∀ (M:Heap) (q:Nat),n3≤q→(∀ b,b<n3→M b=L3 b)→RD T L nx p r M q:=fun M q a d =>
    ⟨by rw [d p (by omega)]; exact z4.box,by omega,fun x ty cs hx hxp hLx hcs=>by rw [d x (by omega)]; exact z4.fr x ty cs hx hxp hLx hcs⟩
   simp only [push_cast,seval,-Nat.reducePow,El.rc]
   have z6:=z5 (upd (upd L3 (n3+8) (some (Blk.box (T 11) [V.int IntKind.i64 0,V.int IntKind.i64 0,V.int IntKind.i64 0,V.nils,V.nils]))) (n3+8) (some (Blk.box (T 11) [V.int IntKind.i64 ↑e.kind,V.int IntKind.i64 ↑e.tag,V.int IntKind.i64 ↑e.count,V.lst 5 (encs e.list),V.lst 3 (encA e.args)]))) (n3+262) (by omega) (fun b hb=>by simp only [b3 b hb])
   refine aAa (r86 K (z6.rp hp) hr [91,91] (by simp only [List.length_cons,List.length_nil]; omega)) ?_
   intro v4 L4 n4 h4
   have b4:=h4.fr (n3+8) (T 11) _ (by omega) (by omega) (hui3 _ _ _) (by simp only [V.imms,V.imm,aAm,aBg,Bool.and_self])
   have z7:=z6.trans h4
   have tb:(tx [91,91]).bulk=3:=rfl
   have tb2:(tx [93,93]).bulk=3:=rfl
   have pp4:=aA9 (tx [91,91]) r
   simp only [push_cast,seval,-Nat.reducePow,b4]
   have z8:=z7.grow (m:=n4+262) (by omega)
   refine aAa (r89 K (z8.rp hp) (aB7 hr) e.list (hjk.list.tq _ rfl) (by omega)) ?_
   intro v5 L5 n5 h5
   have z9:=z8.trans h5
   have pp5:=aC2 e.list (addS (tx [91,91]) r)
   simp only [push_cast,seval,-Nat.reducePow]
   have z10:=z9.grow (m:=n5+262) (by omega)
   refine aAa (r86 K (z10.rp hp) (aE4 (aB7 hr)) [93,93] (by simp only [List.length_cons,List.length_nil]; omega)) ?_
   intro v2 L2 n2 h2
   have z2:=z10.trans h2
   have e10:aBp (tx [91,91]::(e.list++[tx [93,93]])) r=addS (tx [93,93]) (aBp e.list (addS (tx [91,91]) r)):=by rw [aB0,aE5]
   rw [e10]
   first | exact ⟨by have:=z2.le; omega,z2.grow (by omega)⟩ | (simp only [push_cast,seval,-Nat.reducePow]; exact ⟨by have:=z2.le; omega,z2.grow (by omega)⟩)
  ·have hk1:¬ e.kind=1:=by omega
   have e8:aIr (e::r)=addS (tx [93,93]) (e::r):=by simp [aIr,hk1]
   rw [e8]
   simp only [push_cast,seval,-Nat.reducePow]
   have z3':=z3.grow (m:=n1+262) (by omega)
   refine aAa (r86 K (z3'.rp hp) hne [93,93] (by simp only [List.length_cons,List.length_nil,pot]; omega)) ?_
   intro v2 L2 n2 h2
   have z2:=z3'.trans h2
   first | exact ⟨by have:=z2.le; omega,z2.grow (by omega)⟩ | (simp only [push_cast,seval,-Nat.reducePow]; exact ⟨by have:=z2.le; omega,z2.grow (by omega)⟩)
 ·cases els with
  | nil=>exact absurd rfl hne
  | cons e r =>
  obtain ⟨kt,q1,q2,hx⟩:=hg.tagC rfl
  have htag:Tok.tag s ⟨12,fr,to⟩=kt:=by rw [Tok.tag,if_neg (by simp),if_pos rfl,hx]; exact aL8 q1 q2
  have e9:aBb s ⟨12,fr,to⟩ (e::r)=tagF kt (tagC kt) (e::r):=by simp only [aBb]; simp [htag,hx]
  rw [e9]
  rw [hx]
  simp only [push_cast,seval,-Nat.reducePow,hui]
  refine aAb (t84 K.sp.h84 K.sp.h81 K.sp.h25 s ⟨12,fr,to⟩ (by simp only; omega) (by simp only; omega) hs (.inr rfl) hg.tagO hg.tagC) (by simp only [push_cast,seval,-Nat.reducePow]) (by simp only [push_cast,seval,-Nat.reducePow]) ?_
  rw [htag]
  simp only [push_cast,seval,-Nat.reducePow,hui]
  have z1:=z0 (upd L (nx+5) (some (Blk.box (T 8) [V.int IntKind.i64 12,V.int IntKind.i64 ↑fr,V.int IntKind.i64 ↑to]))) (nx+1703) (by omega) (fun b hb=>a1 b hb _ _ _)
  have hpl:=aBv (e::r)
  refine aAa (r90 K (z1.rp hp) (by omega) hne kt) ?_
  rintro v1 L1 n1 ⟨rfl,rfl,g1⟩
  have z3:=z1.grow g1
  rcases aGz kt (e::r) with ⟨hB,hB0⟩ | ⟨k,hB,hBk,hB0⟩
  ·have e8:tagF kt (tagC kt) (e::r)=addS (tx (tagC kt)) (e::r):=by simp [tagF,hB]
   rw [e8]
   simp only [push_cast,seval,-Nat.reducePow,hB0]
   have z3':=z3.grow (m:=n1+393) (by omega)
   have htl2:=aOk (k:=kt)
   refine aAa (r86 K (z3'.rp hp) hne (tagC kt) (by rw [← hx]; omega)) ?_
   intro v2 L2 n2 h2
   have z2:=z3'.trans h2
   first | exact ⟨by have:=z2.le; omega,z2.grow (by omega)⟩ | (simp only [push_cast,seval,-Nat.reducePow]; exact ⟨by have:=z2.le; omega,z2.grow (by omega)⟩)
  ·have hB0':¬ ((aDi kt (e::r):Nat):Int)=0:=by omega
   have eB:aDi kt (e::r)=(e::r).length-1-k:=by omega
   simp only [push_cast,seval,-Nat.reducePow,hB0']
   rw [eB]
   have z3':=z3.grow (m:=n1+393) (by omega)
   refine aAa (r61 K (z3'.rp hp) hv k (by omega) (by omega)) ?_
   intro v3 L3 n3 h3
   have z4:=z3'.trans h3
   obtain ⟨e',r',hf,hr',hver,hvr,hjk,hkt⟩:=hv.flat (k:=k) (by omega)
   have hfp:e'.pot+pot r'≤pot (e::r):=by have:=aFb k (e::r); rw [hf] at this; exact this
   obtain ⟨c0,hkt0⟩:=aL5 kt hB
   rw [hkt] at hkt0
   simp only [Option.some.injEq,Prod.mk.injEq] at hkt0
   obtain ⟨hk2,htg,-⟩:=hkt0
   have e8:tagF kt (tagC kt) (e::r)=addS (.mk 6 kt [] e'.list []) r':=by simp [tagF,hB,hf]
   rw [e8]
   rw [hf] at z4
   have hpe:e'.pot=30+2*e'.count+aAk e'.list+aA0 e'.args+5*e'.args.length:=rfl
   have hpr:=aBv r'
   simp only [push_cast,seval,-Nat.reducePow]
   have z5:=z4.grow (m:=n3+262) (by omega)
   refine aAa (t88 K.h88 K.h62 (z5.rp hp) (by omega) hr') ?_
   rintro v4 L4 n4 ⟨rfl,h4⟩
   have z6:=z5.trans h4
   have le6:=z6.le
   have hui4:=fun (n:Nat) (x:Option Blk) (M:Heap)=>aAd M (n4+n) x
   have b4:∀ b,b<n4→∀ (n:Nat) (x:Option Blk) (M:Heap),upd M (n4+n) x b=M b:=fun b hb n x M=>aAc _ _ _ _ (by omega)
   have htg':((e'.tag:Nat):Int)=(kt:Nat):=by omega
   simp only [push_cast,seval,-Nat.reducePow,El.rc,hui4]
   have z7:∀ (M:Heap) (q:Nat),n4≤q→(∀ b,b<n4→M b=L4 b)→RD T L nx p r' M q:=fun M q a d =>
    ⟨by rw [d p (by omega)]; exact z6.box,by omega,fun x ty cs hx hxp hLx hcs=>by rw [d x (by omega)]; exact z6.fr x ty cs hx hxp hLx hcs⟩
   have z8:=z7 (upd (upd L4 (n4+10) (some (Blk.box (T 11) [V.int IntKind.i64 0,V.int IntKind.i64 0,V.int IntKind.i64 0,V.nils,V.nils]))) (n4+10) (some (Blk.box (T 11) [V.int IntKind.i64 ↑e'.kind,V.int IntKind.i64 ↑e'.tag,V.int IntKind.i64 ↑e'.count,V.lst 5 (encs e'.list),V.lst 3 (encA e'.args)]))) (n4+262) (by omega) (fun b hb=>by simp only [b4 b hb])
   refine aAa ((r82 K (z8.rp hp) hr' (.mk 6 kt [] e'.list []) (fun x=>by simp [Node.kind] at x) (by simp only [Node.bulk,aA0,List.length_nil]; omega)).le ?_) ?_
   ·simp only [Node.cs,encA,aAx,aBl,aDk,aD7,aCe,and_true,htg']
   ·intro v2 L2 n2 h2
    have z2:=z8.trans h2
    first | exact ⟨by have:=z2.le; omega,z2.grow (by omega)⟩ | (simp only [push_cast,seval,-Nat.reducePow]; exact ⟨by have:=z2.le; omega,z2.grow (by omega)⟩)
 ·have e9:aBb s ⟨4,fr,to⟩ els=aBk (Tok.text s ⟨4,fr,to⟩).length (Tok.text s ⟨4,fr,to⟩).length els:=by simp [aBb]
  rw [e9]
  simp only [push_cast,seval,-Nat.reducePow,hui]
  have z1:=z0 (upd L (nx+5) (some (Blk.box (T 8) [V.int IntKind.i64 4,V.int IntKind.i64 ↑fr,V.int IntKind.i64 ↑to]))) (nx+1834) (by omega) (fun b hb=>a1 b hb _ _ _)
  refine aAa (r91 K (z1.rp hp) hv (Tok.text s ⟨4,fr,to⟩).length (by omega)) ?_
  intro v2 L2 n2 h2
  have z2:=z1.trans h2
  first | exact ⟨by have:=z2.le; omega,z2.grow (by omega)⟩ | (simp only [push_cast,seval,-Nat.reducePow]; exact ⟨by have:=z2.le; omega,z2.grow (by omega)⟩)
 ·have e9:aBb s ⟨1,fr,to⟩ els=addS (tx (Tok.text s ⟨1,fr,to⟩)) els:=by simp [aBb]
  rw [e9]
  simp only [push_cast,seval,-Nat.reducePow,hui]
  have z1:=z0 (upd L (nx+5) (some (Blk.box (T 8) [V.int IntKind.i64 1,V.int IntKind.i64 ↑fr,V.int IntKind.i64 ↑to]))) (nx+1834) (by omega) (fun b hb=>a1 b hb _ _ _)
  refine aAa (r86 K (z1.rp hp) hne (Tok.text s ⟨1,fr,to⟩) (by omega)) ?_
  intro v2 L2 n2 h2
  have z2:=z1.trans h2
  first | exact ⟨by have:=z2.le; omega,z2.grow (by omega)⟩ | (simp only [push_cast,seval,-Nat.reducePow]; exact ⟨by have:=z2.le; omega,z2.grow (by omega)⟩)
 ·have e9:aBb s ⟨2,fr,to⟩ els=addS (tx (Tok.text s ⟨2,fr,to⟩)) els:=by simp [aBb]
  rw [e9]
  simp only [push_cast,seval,-Nat.reducePow,hui]
  have z1:=z0 (upd L (nx+5) (some (Blk.box (T 8) [V.int IntKind.i64 2,V.int IntKind.i64 ↑fr,V.int IntKind.i64 ↑to]))) (nx+1834) (by omega) (fun b hb=>a1 b hb _ _ _)
  refine aAa (r86 K (z1.rp hp) hne (Tok.text s ⟨2,fr,to⟩) (by omega)) ?_
  intro v2 L2 n2 h2
  have z2:=z1.trans h2
  first | exact ⟨by have:=z2.le; omega,z2.grow (by omega)⟩ | (simp only [push_cast,seval,-Nat.reducePow]; exact ⟨by have:=z2.le; omega,z2.grow (by omega)⟩)
end Go.Ab
namespace Go.Ab
variable {P:Program} {F T:Nat→Nat}
theorem bBo:Rv [root]:=⟨aNx,⟨[],rfl,by simp⟩⟩
theorem bAq {s:List UInt8}:∀ (l:List Tok) {st:List El},(∀ t,t∈l→t.good s)→Rv st→Rv (runF s l st)
 | [],st,_,h=>h
 | t::r,st,hg,h=>bAq r (fun x hx=>hg x (by simp [hx])) (Rv.take (hg t (by simp)) h)
theorem bDu:rvs [root]=[.agg [.int .i64 0,.int .i64 0,.int .i64 0,.lst 5 [],.lst 3 []]]:=rfl
theorem aVe:∀ l:List Tok,(∀ t,t∈l→t.fr<t.to)→l.length≤lenT l
 | [],_=>by simp
 | t::r,h=>by
   have h1:=h t (by simp)
   have:=aVe r fun x hx=>h x (by simp [hx])
   simp only [lenT,List.length_cons]
   omega
theorem r37 (K:RC P F T) (s:List UInt8) (hs:s.length≤8192):PTr P (F 37) [.str s] (.tup [.lst 5 (encs (aB4 s)),.int .i64 0]):=by
 obtain ⟨g1,g2⟩:=aI7 s
 refine ptrC [] K.h37 (by simp) (by simp [V.imm,V.imms,aAm]) ?_
 simp only [c37,push_cast,seval,-Nat.reducePow]
 refine aAb (t50 K.sp s hs) (by simp only [push_cast,seval,-Nat.reducePow]) (by simp only [push_cast,seval,-Nat.reducePow,aHn]) ?_
 simp only [push_cast,seval,-Nat.reducePow]
 refine ⟨_,FzS.le 133 (T 9) [.lst 5 [.agg [.int .i64 0,.int .i64 0,.int .i64 0,.nils,.nils]]] [.lst 5 (rvs [root])] (by rfl) (by rw [bDu]; simp only [aAx,aBl,aCe,true_and,and_true,aDk,aKc,aD7]) (.refl _),?_⟩
 simp only [push_cast,seval,-Nat.reducePow]
 refine aAe (fun m s1=>∃ a rr,scan s=a++rr∧m=rr.length∧s1.env 0=.str s∧s1.env 4=.lst 3 (tvs (scan s))∧s1.env 6=.ptr 133 0∧s1.env 7=.int .i64 a.length∧RP T s1.L s1.nx 133 (runF s a [root])) (scan s).length ⟨[],scan s,?_⟩ fun m s1 hJ=>?_
 ·simp only [push_cast,seval,-Nat.reducePow]
  exact ⟨aAd _ _ _,by omega⟩
 ·obtain ⟨a,rr,hh,rfl,j0,j4,j6,j7,hrp⟩:=hJ
  have hga:∀ t,t∈a→t.good s:=fun t ht=>g1 t (by rw [hh]; simp [ht])
  have hrv:=bAq a hga bBo
  have hpot:=(aK6 (s:=s) a (st:=[root]) (fun t ht=>(hga t ht).wf) aNx.inv).2
  have hla:lenT a≤s.length:=by rw [hh,aH2] at g2; omega
  have er:pot [root]≤31:=by simp [pot,El.pot,root,aAk,aA0]
  have hlen:(tvs (scan s)).length=(scan s).length:=aDm _
  have hsl:(scan s).length≤2*8192+2∨True:=.inr trivial
  cases rr with
  | nil =>
    have hh':a=scan s:=by simpa using hh.symm
    subst hh'
    simp only [push_cast,seval,-Nat.reducePow,j0,j4,j6,j7,hlen]
    have hv2:=bAq (scan s) g1 bBo
    have hne2:=hv2.sv.ne
    have hps:=List.length_pos_iff.2 hne2
    have h0:=r61 K (hrp.grow (m:=s1.nx+76) (by omega)) hv2 ((runF s (scan s) [root]).length-1) (by omega) (by omega)
    have e0:((runF s (scan s) [root]).length-1-((runF s (scan s) [root]).length-1):Nat)=0:=by omega
    rw [e0] at h0
    refine aAa h0 ?_
    rintro v L1 n1 h1
    obtain ⟨e,r,hf,hf2,hf3⟩:=aFz (k:=(runF s (scan s) [root]).length-1) (els:=runF s (scan s) [root]) (by omega)
    have hr:r=[]:=List.length_eq_zero_iff.1 (by omega)
    subst hr
    have hpf:aB4 s=e.list:=by simp only [aB4,finF,hf]
    rw [hf] at h1
    simp only [push_cast,seval,-Nat.reducePow,j6]
    have h2:=(h1.rp (Nat.lt_of_lt_of_le hrp.lt (by omega))).grow (m:=n1+76) (by omega)
    refine aAa (t62 K.h62 h2 (by simp)) ?_
    rintro v2 L2 n2 ⟨rfl,g3,g4⟩
    simp only [push_cast,seval,-Nat.reducePow,El.rc]
    rw [hpf]
    exact aE1 3 _ (by simp [V.imm,V.imms,aAm])
  | cons t rr =>
    have hlt:((a.length:Nat):Int)<(((scan s).length:Nat):Int):=by rw [hh]; simp; omega
    have htg:=g1 t (by rw [hh]; simp)
    have hgt:(tvs (scan s)).getD a.length .junk=.agg t.vs:=by rw [hh]; exact bFk a t rr
    have hln:(scan s).length≤lenT (scan s):=aVe _ fun t ht=>(g1 t ht).lt
    have hal:(scan s).length=a.length+(rr.length+1):=by rw [hh]; simp
    simp only [push_cast,seval,-Nat.reducePow,j0,j4,j6,j7,hlen,hlt,hgt,Tok.vs]
    have h0:=r60 K (hrp.grow (m:=s1.nx+76) (by omega)) hrv s hs t htg (by omega)
    refine ⟨by omega,aAa h0 ?_⟩
    rintro v L1 n1 h1
    simp only [push_cast,seval,-Nat.reducePow,j0,j4,j6,j7]
    refine ⟨⟨by omega,by omega⟩,rr.length,by omega,a++[t],rr,by rw [hh]; simp,rfl,by simp,?_⟩
    rw [aQm]
    exact (h1.rp (Nat.lt_of_lt_of_le hrp.lt (by omega))).grow (by omega)
end Go.Ab
