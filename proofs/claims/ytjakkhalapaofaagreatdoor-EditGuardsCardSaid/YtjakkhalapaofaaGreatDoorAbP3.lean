/- Several texts of one kind, merged. No condition. -/
import Derived.Test.YtjakkhalapaofaaGreatDoorAbP2
import Derived.Test.YtjakkhalapaofaaGreatDoorAbP1
set_option linter.unusedSimpArgs false
set_option linter.unusedVariables false
namespace Go.Ab
theorem SInv.drop {els els':List El} {k:Nat} (h:SInv els) (he:kc els'=(kc els).drop k) (hk:k<els.length):SInv els':=by
 obtain ⟨a,ha⟩:=h.root
 have hl:els.length=a.length+1:=by
  have:=congrArg List.length ha
  simpa [kc] using this
 refine ⟨h.cn.drop he,a.drop k,?_⟩
 rw [he,ha,List.drop_append_of_le_length (by omega)]
theorem SInv.same {els els':List El} (h:SInv els) (he:kc els'=kc els):SInv els':=⟨fun q hq=>h.cn q (he ▸ hq),by rw [he]; exact h.root⟩
theorem SInv.push {els els':List El} {q:Nat×Nat} (h:SInv els) (he:kc els'=q::kc els) (hq:q.1=3→2≤q.2):SInv els':=by
 obtain ⟨a,ha⟩:=h.root
 refine ⟨fun x hx=>?_,q::a,by rw [he,ha]; rfl⟩
 rw [he] at hx
 rcases List.mem_cons.1 hx with rfl | hx
 ·exact hq
 ·exact h.cn x hx
theorem aOt {t:Nat} {els:List El} {k:Nat} (h:aDo t els=some k):k+1<els.length:=by
 rcases aHu t els with ⟨g,_⟩ | ⟨j,g1,g2,g3⟩
 ·rw [g] at h; simp at h
 ·rw [g1] at h; simp at h; omega
theorem aK0 {els:List El} {k:Nat} (h:aAv els=some k):k+1<els.length:=by
 rcases aHo els with ⟨g,_⟩ | ⟨j,g1,g2,g3⟩
 ·rw [g] at h; simp at h
 ·rw [g1] at h; simp at h; omega
theorem aGg {k:Nat} {els:List El} (h:k<els.length):∃ e r,flatN k els=e::r∧kc (e::r)=(kc els).drop k∧r.length+k+1=els.length:=by
 have hl:=aI1 k (els:=els)
 cases hf:flatN k els with
 | nil=>rw [hf] at hl; simp at hl; omega
 | cons e r =>
   refine ⟨e,r,rfl,by rw [← hf]; exact aMf k,?_⟩
   rw [hf] at hl; simp at hl; omega
theorem aH0:∀ (n c:Nat) {st:List El},SInv st→SInv (aB9 n c st)∧pot (aB9 n c st)≤pot st+c+1
 | 0,c,st,h=>by
   refine ⟨h.same aFu,?_⟩
   have:=aBs (tx (List.replicate c 125)) st
   simp [tx,Node.bulk,aAq,aBb] at this
   simp only [aB9]; exact this
 | n+1,c,st,h=>by
   have stop:SInv (addS (tx (List.replicate c 125)) st)∧pot (addS (tx (List.replicate c 125)) st)≤pot st+c+1:=by
    refine ⟨h.same aFu,?_⟩
    have:=aBs (tx (List.replicate c 125)) st
    simp [tx,Node.bulk,aAq,aBb] at this
    exact this
   rw [aB9]
   split
   ·cases hb:aAv st with
    | none=>exact stop
    | some k =>
      have hk:=aK0 hb
      obtain ⟨e,r,h1,h2,h3⟩:=aGg (k:=k) (els:=st) (by omega)
      have hp:=aHl k st
      rw [h1] at hp
      simp only [h1]
      have hun:(useN c e).bulk=aAq e.list+aBb e.args+1:=by simp [useN,Node.bulk]
      have hq:2≤useK c e.count∧useK c e.count≤3:=by unfold useK; split <;> omega
      have hdr:kc r=(kc st).drop (k+1):=by
       have:=congrArg List.tail h2
       simpa [kc,List.tail_drop] using this
      have hr:SInv r:=h.drop hdr hk
      simp only [pot,El.pot] at hp
      split
      ·obtain ⟨g1,g2⟩:=aH0 n (c-useK c e.count) (st:={ e with count:=e.count-useK c e.count,list:=[useN c e],args:=[] }::r) (hr.push (q:=(e.kind,e.count-useK c e.count)) rfl fun _=>by assumption)
       refine ⟨g1,Nat.le_trans g2 ?_⟩
       simp only [pot,El.pot,aAq,aBb,hun,List.length_nil]
       omega
      ·have p1:=aBs (tx [123]) r
       have tb:(tx [123]).bulk=2:=rfl
       rw [tb] at p1
       obtain ⟨g1,g2⟩:=aH0 n (c-useK c e.count) (st:=addS (useN c e) (if e.count-useK c e.count=1 then addS (tx [123]) r else r)) (hr.same (by split <;> simp [aFu]))
       have p2:=aBs (useN c e) (if e.count-useK c e.count=1 then addS (tx [123]) r else r)
       have p3:pot (if e.count-useK c e.count=1 then addS (tx [123]) r else r)≤pot r+2:=by split <;> omega
       refine ⟨g1,Nat.le_trans g2 ?_⟩
       omega
   ·exact stop
theorem aQs {g:Arg→Arg} (h:∀ a,(g a).bulk≤a.bulk) (l:List Arg):aBb (aEl g l)≤aBb l∧(aEl g l).length=l.length:=by
 rcases List.eq_nil_or_concat l with rfl | ⟨i,a,rfl⟩
 ·exact ⟨Nat.le_refl _,rfl⟩
 ·rw [List.concat_eq_append,aBo,aBw,aBw]
  have:=h a
  refine ⟨?_,by simp⟩
  simp only [aBb]
  omega
theorem aZh {s:List UInt8} {t:Tok} {st:List El} (hw:t.wf s) (h:SInv st):SInv (aBr s t st)∧pot (aBr s t st)≤pot st+2*(t.text s).length+33:=by
 have txt:∀ q:List UInt8,SInv (addS (tx q) st)∧pot (addS (tx q) st)≤pot st+q.length+1:=fun q=>by
  refine ⟨h.same aFu,?_⟩
  have:=aBs (tx q) st
  simp [tx,Node.bulk,aAq,aBb] at this
  exact this
 have opn:∀ e:El,e.list=[]→e.args=[]→(e.kind=3→2≤e.count)→e.count≤(t.text s).length→SInv (aG2 e (t.text s) st)∧pot (aG2 e (t.text s) st)≤pot st+2*(t.text s).length+33:=by
  intro e h1 h2 h3 h4
  unfold aG2
  split
  ·have:=txt (t.text s); exact ⟨this.1,by omega⟩
  ·refine ⟨h.push (q:=(e.kind,e.count)) rfl h3,?_⟩
   simp only [pot,El.pot,h1,h2,aAq,aBb,List.length_nil]; omega
 have hne:=h.ne
 unfold aBr
 split
 ·refine ⟨h.same aFu,?_⟩
  have:=aBs (.mk 2 0 (t.text s) [] []) st
  simp [Node.bulk,aAq,aBb] at this; omega
 split
 ·refine ⟨h.same aFu,?_⟩
  have:=aBs (.mk 3 0 (((t.text s).take ((t.text s).length-9)).drop 8) [] []) st
  simp [Node.bulk,aAq,aBb] at this; omega
 split
 ·rename_i hk
  exact opn _ rfl rfl (fun _=>hw.open_ hk) (Nat.le_refl _)
 split
 ·exact opn _ rfl rfl (fun h=>by simp at h) (Nat.zero_le _)
 split
 ·exact opn _ rfl rfl (fun h=>by simp at h) (Nat.zero_le _)
 split
 ·cases st with
  | nil=>exact absurd rfl hne
  | cons e r =>
    simp only [barF]
    split
    ·refine ⟨h.same rfl,?_⟩
     simp only [pot,El.pot,aBw,aBb,Arg.bulk,aAq,List.length_append,List.length_singleton]; omega
    ·have:=txt [124]; exact ⟨this.1,by have:=this.2; simp at this ⊢; omega⟩
 split
 ·cases st with
  | nil=>exact absurd rfl hne
  | cons e r =>
    simp only [eqF]
    split
    ·refine ⟨h.same rfl,?_⟩
     have:=aQs (g:=fun a=>.mk true a.val []) (fun a=>by obtain ⟨b,n,v⟩:=a; simp [Arg.bulk,Arg.val,aAq]) e.args
     simp only [pot,El.pot]; omega
    ·have:=txt [61]; exact ⟨this.1,by have:=this.2; simp at this ⊢; omega⟩
 split
 ·cases st with
  | nil=>exact absurd rfl hne
  | cons e r =>
    simp only [aPf]
    split
    ·rename_i hk
     have hr:SInv r:=h.drop (k:=1) rfl (by have:=h.kind1 hk; cases r with | nil=>exact absurd rfl this | cons a b=>simp)
     refine ⟨hr.same aQo,?_⟩
     have:=aEy (tx [91,91]::(e.list++[tx [93,93]])) r
     have tb:aAq (tx [91,91]::(e.list++[tx [93,93]]))=aAq e.list+6:=by simp [aAq,aAs,tx,Node.bulk,aBb]; omega
     rw [tb] at this
     simp only [pot,El.pot]; omega
    ·have:=txt [93,93]; exact ⟨this.1,by have:=this.2; simp at this ⊢; omega⟩
 split
 ·unfold tagF
  cases hb:aDo (t.tag s) st with
  | none=>have:=txt (t.text s); exact ⟨this.1,by have:=this.2; simp only; omega⟩
  | some k =>
    have hk:=aOt hb
    obtain ⟨e,r,h1,h2,h3⟩:=aGg (k:=k) (els:=st) (by omega)
    have hp:=aHl k st
    rw [h1] at hp
    simp only [h1]
    have hdr:kc r=(kc st).drop (k+1):=by
     have:=congrArg List.tail h2
     simpa [kc,List.tail_drop] using this
    have hr:SInv r:=h.drop hdr hk
    refine ⟨hr.same aFu,?_⟩
    have:=aBs (.mk 6 (t.tag s) [] e.list []) r
    simp only [Node.bulk,aBb,List.length_nil] at this
    simp only [pot,El.pot] at hp; omega
 split
 ·obtain ⟨g1,g2⟩:=aH0 (t.text s).length (t.text s).length h
  exact ⟨g1,by omega⟩
 ·have:=txt (t.text s); exact ⟨this.1,by omega⟩
theorem bDz:SInv [root]:=⟨fun q hq=>by simp [kc,root] at hq; subst hq; simp,[],rfl⟩
theorem bDu:pot [root]=30:=rfl
def lenT:List Tok→Nat
 | []=>0
 | t::r=>(t.to-t.fr)+lenT r
theorem aJv (a b:List Tok):lenT (a++b)=lenT a+lenT b:=by
 induction a with
 | nil=>simp [lenT]
 | cons x r ih=>simp [lenT,ih]; omega
theorem bDt {s:List UInt8} {st:List El}:runF s [] st=st:=rfl
theorem aZs {s:List UInt8} {a:List Tok} {t:Tok} {st:List El}:runF s (a++[t]) st=aBr s t (runF s a st):=by simp [runF,List.foldl_append]
theorem aMj {s:List UInt8}:∀ (l:List Tok) {st:List El},(∀ t,t∈l→t.wf s)→SInv st→SInv (runF s l st)∧pot (runF s l st)≤pot st+35*lenT l
 | [],st,_,h=>⟨h,by simp [runF,lenT]⟩
 | t::r,st,hw,h=>by
   have hwt:=hw t (by simp)
   obtain ⟨h1,h2⟩:=aZh hwt h
   obtain ⟨g1,g2⟩:=aMj r (st:=aBr s t st) (fun x hx=>hw x (by simp [hx])) h1
   have hl:=Tok.text_length hwt.le
   have:=hwt.lt
   refine ⟨g1,?_⟩
   have e:runF s (t::r) st=runF s r (aBr s t st):=rfl
   rw [e]
   simp only [lenT]
   omega
end Go.Ab
namespace Go.Ab
variable {P:Program} {F T:Nat→Nat}
def tvs (l:List Tok):List V:=l.map fun t=>.agg t.vs
theorem aGl (l:List Tok):(tvs l).length=l.length:=by simp [tvs]
theorem aM7 (l:List Tok):V.imms (tvs l)=true:=aJk _ _ fun t=>by simp [Tok.vs,V.imm,V.imms]
theorem bKh (a:List Tok) (t:Tok) (r:List Tok):(tvs (a++t::r)).getD a.length .junk=.agg t.vs:=by
 simp only [tvs,List.map_append,List.map_cons]
 exact aD3 (by simp)
attribute [push_cast] aGl aM7 bKh
def bKp (P:Program) (F:Nat→Nat):Prop:=∀ s:List UInt8,s.length≤8192→PTr P (F 56) [.str s] (.tup [.lst 3 (tvs (scan s)),.int .i64 0])
theorem aJ9 {L:Heap} {i ty z sz:Nat} {es:List V} (h:L i=some (.vec ty z es)) (hi:V.imms es=true):view L 2 (.own i sz 0 es.length)=.lst sz es:=by
 simp only [view,h,Nat.zero_add,Nat.le_refl,if_true,List.drop_zero,List.take_length]
 rw [show es.map (view L 1)=es.map id from List.map_congr_left fun x hx=>aHy 1 x (aBy hi hx),List.map_id]
theorem t36 (hf:Is36 P F T) (H:ParFns P F T) (K:TokFns P F) (hsc:bKp P F) (s:List UInt8) (hs:s.length≤8192) (hw:∀ t,t∈scan s→t.wf s) (hl:lenT (scan s)≤s.length) :
 PTr P (F 36) [.str s] (.tup [ln 5 (vns (aCc s)),.int .i64 0]):=by
 refine ptrC [] hf (by simp) (by simp [V.imm,V.imms,aD2,aA5]) ?_
 simp only [c36,push_cast,seval,-Nat.reducePow]
 refine aAc (hsc s hs) (by simp only [push_cast,seval,-Nat.reducePow]) (by simp only [push_cast,seval,-Nat.reducePow]) ?_
 simp only [push_cast,seval,-Nat.reducePow]
 refine aAk (fun m s1=>∃ a r f p,scan s=a++r∧m=r.length∧s1.env 0=.str s∧s1.env 6=.ptr p 0∧s1.env 22=.lst 3 (tvs (a++r))∧s1.env 23=.int .i64 (a++r).length∧s1.env 24=.int .i64 a.length∧Stk T false s1.L s1.nx f p (runF s a [root])) (scan s).length ⟨[],scan s,[159,157,156],159,?_⟩ fun m s1 hJ=>?_
 ·simp only [push_cast,seval,-Nat.reducePow,bDt]
  refine ⟨157,[],[⟨root,156,none,none,none⟩],⟨rfl,rfl,rfl,rfl,?_,?_,by simp,?_,?_⟩⟩
  ·intro h hh
   simp only [List.mem_singleton] at hh
   subst hh
   exact ⟨rfl,fun i hi=>by simp at hi,fun i hi=>by simp at hi,fun i hi=>by simp at hi⟩
  ·intro h hh
   simp at hh
   subst hh
   exact ⟨fun _=>rfl,fun _=>rfl,fun _=>rfl⟩
  ·intro i hi
   simp at hi
   omega
  ·intro e he
   simp only [List.mem_singleton] at he
   subst he
   exact ⟨fun h=>by simp [root] at h,fun n hn=>by simp [root] at hn,fun a ha=>by simp [root] at ha⟩
 ·obtain ⟨a,r,f,p,ha,rfl,j0,j6,j22,j23,j24,hst⟩:=hJ
  have hwa:∀ t,t∈a→t.wf s:=fun t ht=>hw t (by rw [ha]; simp [ht])
  obtain ⟨hinv,hpot⟩:=aMj (s:=s) a hwa bDz
  rw [bDu] at hpot
  have hla:lenT a+lenT r≤8192:=by rw [ha,aJv] at hl; omega
  have hne:=hinv.ne
  have lenle:∀ l:List Tok,(∀ t,t∈l→t.wf s)→l.length≤lenT l:=by
   intro l
   induction l with
   | nil=>intro _; simp
   | cons t l ih =>
     intro h
     have:=ih fun x hx=>h x (by simp [hx])
     have:=(h t (by simp)).lt
     simp only [lenT,List.length_cons]; omega
  have hal:=lenle a hwa
  cases r with
  | nil =>
    simp only [List.append_nil] at ha j22 j23
    simp only [push_cast,seval,-Nat.reducePow,j0,j6,j22,j23,j24]
    refine aAk (fun m s2=>∃ f els,m=els.length∧s2.env 6=.ptr p 0∧1≤els.length∧flatN (els.length-1) els=flatN ((runF s a [root]).length-1) (runF s a [root])∧pot els≤pot (runF s a [root])∧Stk T false s2.L s2.nx f p els) (runF s a [root]).length ⟨f,runF s a [root],?_⟩ fun m s2 hJ=>?_
    ·simp only [push_cast,seval,-Nat.reducePow,j6]
     exact ⟨List.length_pos_iff.2 hne,hst.grow (by omega) fun _ _=>rfl⟩
    ·obtain ⟨f2,els,rfl,i6,hl1,hfl,hp2,st2⟩:=hJ
     have hne2:els≠[]:=List.length_pos_iff.1 hl1
     obtain ⟨sid,jk,h,t,hp,r9⟩:=st2.split hne2
     have hel:els.length=t.length+1:=by rw [r9]; simp
     have hbx:=hp.box
     simp only [List.length_cons] at hbx
     have hlen:=aDg els
     simp only [push_cast,seval,-Nat.reducePow,i6,hbx]
     refine aAd (fun hc=>?_) (fun hc=>?_)
     ·simp only [push_cast,seval,-Nat.reducePow,i6]
      refine aAa (aH6 H.h58 H.h78 H.h80 H.h79 H.h69 H.h70 H.h59 H.h106 H.rep (st2.grow (by omega) fun _ _=>rfl) (by omega) (by omega)) ?_
      rintro _ L3 n3 ⟨f3,k1,k2⟩
      simp only [push_cast,seval,-Nat.reducePow,i6]
      have fl:(flat1 els).length=els.length-1:=aDt
      refine ⟨(flat1 els).length,by omega,f3,flat1 els,rfl,by omega,?_,Nat.le_trans (aHz _) hp2,k1.grow (by omega) fun _ _=>rfl⟩
      rw [← hfl,show els.length-1=(flat1 els).length-1+1 by omega]
      rfl
     ·have ht:t=[]:=by cases t with | nil=>rfl | cons a b=>simp at hel hc; omega
      subst ht
      have hels:els=[h.e]:=r9
      simp only [push_cast,seval,-Nat.reducePow,i6]
      refine aAa (t59 H.h59 (hp.grow (by omega)) (by simp)) ?_
      rintro _ L3 n3 ⟨rfl,rfl,hn3⟩
      have hat:=hp.at_ h (by simp)
      have hlv:h.live:=hp.live h (by simp)
      have hbe:=hat.box
      simp only [EH.cells] at hbe
      have hres:aCc s=h.e.list:=by
       rw [hels] at hfl
       simp only [aCc,ha,finF,← hfl,List.length_singleton,Nat.sub_self,flatN]
      simp only [push_cast,seval,-Nat.reducePow,i6,hbe]
      rw [hres]
      rcases aB2 h.li with hv | ⟨i,hv⟩
      ·have:=hlv.li hv
       simp [EH.lv,hv,lvO,this,vns,ln,view]
      ·obtain ⟨q1,q2⟩:=hat.li i hv
       have e1:h.lv=.own i 5 0 (vns h.e.list).length:=by simp [EH.lv,hv,lvO,aAz]
       have e2:vns h.e.list≠[]:=fun e=>q2 (by cases hl:h.e.list with | nil=>rfl | cons x r=>rw [hl] at e; simp [vns] at e)
       simp only [e1,view,List.map_cons,List.map_nil,bGx e2]
       have:=aJ9 (sz:=5) q1 (aA5 _)
       simp only [view] at this ⊢
       rw [this]
  | cons x r =>
    have hwx:x.wf s:=hw x (by rw [ha]; simp)
    simp only [lenT] at hla
    simp only [push_cast,seval,-Nat.reducePow,j0,j6,j22,j23,j24,Tok.vs]
    refine aAa (t57 H K (hst.grow (by omega) fun i hi=>(fr1 hi).trans (fr1 hi)) s x hs hwx (by omega) hinv) ?_
    rintro _ L3 n3 ⟨f3,k1,k2⟩
    simp only [push_cast,seval,-Nat.reducePow,j0,j6,j22,j23,j24]
    refine ⟨by omega,r.length,by omega,a++[x],r,f3,p,by rw [ha]; simp,rfl,rfl,by simp,by simp,by simp,?_⟩
    rw [aZs]
    exact k1.grow (by omega) fun _ _=>rfl
end Go.Ab
namespace Go.Ab
def c56 (F T:Nat→Nat):C :=
 .n [.mov (some 2) (.k .nils),.mov (some 3) (.i 0)] <|
 .seq (.n [.m 9 0,.ls 10 9,.bi 11 .gtr 10 8192] <|
 .cond (.t 11)
 (.n [.mov (some 2) (.k .nils),.mov (some 3) (.i 3)] <|
 .ret)
 (.skip)) <|
 .seq (.gha (.own 4 (T 8) 3) <| .o [.mov (some 4) (.k .nils)]) <|
 .n [.mov (some 5) (.i 0)] <|
 .seq (.n [.mov (some 6) (.i 0)] <|
 .block 0 <|
 .loop <|
 .seq (.n [.m 12 6,.m 13 0,.ls 14 13,.b 15 .lss 12 14] <|
 .cond (.t 15)
 (.skip)
 (.exit 0)) <|
 .block 1 <|
 .n [.m 17 0,.m 18 6,.slcS (some 19) (.t 17) (some (.t 18)) none,.c 20 (F 67) [.t 19],.m 16 20,.x 21 0 16,.x 22 1 16,.m 7 21,.m 8 22] <|
 .seq (.n [.m 23 7,.bi 24 .eql 23 0] <|
 .cond (.t 24)
 (.n [.m 25 6,.bi 26 .add 25 1,.m 6 26] <|
 .exit 1)
 (.skip)) <|
 .seq (.n [.m 27 5,.m 28 6,.b 29 .lss 27 28] <|
 .cond (.t 29)
 (.o [.m 30 4,.m 31 5,.m 32 6,.build (some 33) [(.int .i64 0),(.int .i64 0),(.int .i64 0)] [(0,1,(.i 1)),(1,1,(.t 31)),(2,1,(.t 32))],.mkl (some 34) 3 [.t 33],.app 35 (T 8) 3 (.t 30) (.t 34),.m 4 35])
 (.skip)) <|
 .n [.m 36 4,.m 37 7,.m 38 6,.m 39 6,.m 40 8,.b 41 .add 39 40,.build (some 42) [(.int .i64 0),(.int .i64 0),(.int .i64 0)] [(0,1,(.t 37)),(1,1,(.t 38)),(2,1,(.t 41))],.mkl (some 43) 3 [.t 42],.app 44 (T 8) 3 (.t 36) (.t 43),.m 4 44] <|
 .n [.m 45 6,.m 46 8,.b 47 .add 45 46,.m 6 47] <|
 .o [.m 48 6,.m 5 48]) <|
 .seq (.n [.m 49 5,.m 50 0,.ls 51 50,.b 52 .lss 49 51] <|
 .cond (.t 52)
 (.o [.m 53 4,.m 54 5,.m 55 0,.ls 56 55,.build (some 57) [(.int .i64 0),(.int .i64 0),(.int .i64 0)] [(0,1,(.i 1)),(1,1,(.t 54)),(2,1,(.t 56))],.mkl (some 58) 3 [.t 57],.app 59 (T 8) 3 (.t 53) (.t 58),.m 4 59])
 (.skip)) <|
 .n [.m 60 4,.m 2 60,.mov (some 3) (.i 0)] <|
 .ret
abbrev Is56 (P:Program) (F T:Nat→Nat):Prop:=Fn P (F 56) 61 [(2,none),(3,none)] (c56 F T)
def c67 (F T:Nat→Nat):C :=
 .n [.mov (some 2) (.i 0),.mov (some 3) (.i 0)] <|
 .seq (.n [.m 6 0,.idx (some 7) (.t 6) (.i 0)] <|
 .block 0 <|
 .n [.bin (some 9) .eql (.t 7) (.k (.int .u8 60)),.m 8 9] <|
 .cond (.t 8)
 (.n [.m 10 0,.c 11 (F 104) [.t 10],.x 12 0 11,.x 13 1 11,.m 2 12,.m 3 13] <|
 .ret)
 (.n [.bin (some 15) .eql (.t 7) (.k (.int .u8 123)),.m 14 15] <|
 .cond (.t 14)
 (.n [.m 16 0,.c 17 (F 105) [.t 16,(.k (.int .u8 123))],.m 4 17] <|
 .n [.m 18 4,.bi 19 .geq 18 2] <|
 .cond (.t 19)
 (.n [.m 20 4,.mov (some 2) (.i 3),.m 3 20] <|
 .ret)
 (.skip))
 (.n [.bin (some 22) .eql (.t 7) (.k (.int .u8 125)),.m 21 22] <|
 .cond (.t 21)
 (.n [.m 23 0,.c 24 (F 105) [.t 23,(.k (.int .u8 125))],.m 5 24] <|
 .n [.m 25 5,.bi 26 .geq 25 2] <|
 .cond (.t 26)
 (.n [.m 27 5,.mov (some 2) (.i 4),.m 3 27] <|
 .ret)
 (.skip))
 (.n [.bin (some 29) .eql (.t 7) (.k (.int .u8 91)),.m 28 29] <|
 .cond (.t 28)
 (.n [.m 30 0,.c 31 (F 105) [.t 30,(.k (.int .u8 91))],.bi 32 .geq 31 2] <|
 .cond (.t 32)
 (.n [.mov (some 2) (.i 5),.mov (some 3) (.i 2)] <|
 .ret)
 (.skip))
 (.n [.bin (some 34) .eql (.t 7) (.k (.int .u8 93)),.m 33 34] <|
 .cond (.t 33)
 (.n [.m 35 0,.c 36 (F 105) [.t 35,(.k (.int .u8 93))],.bi 37 .geq 36 2] <|
 .cond (.t 37)
 (.n [.mov (some 2) (.i 6),.mov (some 3) (.i 2)] <|
 .ret)
 (.skip))
 (.n [.bin (some 39) .eql (.t 7) (.k (.int .u8 124)),.m 38 39] <|
 .cond (.t 38)
 (.n [.mov (some 2) (.i 7),.mov (some 3) (.i 1)] <|
 .ret)
 (.n [.bin (some 41) .eql (.t 7) (.k (.int .u8 61)),.m 40 41] <|
 .cond (.t 40)
 (.n [.mov (some 2) (.i 8),.mov (some 3) (.i 1)] <|
 .ret)
 (.n [.bin (some 43) .eql (.t 7) (.k (.int .u8 10)),.m 42 43] <|
 .cond (.t 42)
 (.n [.mov (some 2) (.i 2),.mov (some 3) (.i 1)] <|
 .ret)
 (.skip))))))))) <|
 .n [.mov (some 2) (.i 0),.mov (some 3) (.i 0)] <|
 .ret
abbrev Is67 (P:Program) (F T:Nat→Nat):Prop:=Fn P (F 67) 44 [(2,none),(3,none)] (c67 F T)
def c68 (F T:Nat→Nat):C :=
 .n [.box 3 (T 8) (.t 1),.mov (some 4) (.s [])] <|
 .seq (.seq (.ops false [⟨none,[.f 5 1 3,.l 6 5,.bi 7 .lss 6 0,.m 8 7]⟩,
 ⟨some (8,false),[.f 9 1 3,.l 10 9,.f 11 2 3,.l 12 11,.b 13 .gtr 10 12]⟩,
 ⟨none,[.pt 14 8 13,.m 15 14]⟩,
 ⟨some (15,false),[.f 16 2 3,.l 17 16,.m 18 0,.ls 19 18,.b 20 .gtr 17 19]⟩,
 ⟨none,[.pt 21 15 20]⟩]) <|
 .cond (.t 21)
 (.n [.mov (some 4) (.s [])] <|
 .ret)
 (.skip)) <|
 .n [.m 22 0,.f 23 1 3,.l 24 23,.f 25 2 3,.l 26 25,.slcS (some 27) (.t 22) (some (.t 24)) (some (.t 26)),.m 4 27] <|
 .ret
abbrev Is68 (P:Program) (F T:Nat→Nat):Prop:=Fn P (F 68) 28 [(4,none)] (c68 F T)
def c72 (F T:Nat→Nat):C :=
 .n [.box 3 (T 8) (.t 1),.mov (some 4) (.i 0)] <|
 .n [.mov (some 5) (.s [60])] <|
 .seqc (.n [.f 9 0 3,.l 10 9] <|
 .block 0 <|
 .n [.bi 12 .eql 10 11,.m 11 12] <|
 .cond (.t 11)
 (.skip)
 (.n [.bi 14 .eql 10 12,.m 13 14] <|
 .cond (.t 13)
 (.o [.mov (some 5) (.s [60,47])])
 (.n [.mov (some 4) (.i 0)] <|
 .ret))) <|
 .n [.m 15 0,.load (some 16) false 3 true (.t 3),.c 17 (F 68) [.t 15,.t 16],.m 6 17] <|
 .seq (.n [.m 19 6,.m 20 5,.c 21 (F 107) [.t 19,.t 20],.m 18 21,.x 22 0 18,.x 23 1 18,.m 7 22,.m 8 23] <|
 .n [.m 24 8,.m 25 6,.ls 26 25,.b 27 .eql 24 26] <|
 .cond (.t 27)
 (.n [.m 28 7,.m 4 28] <|
 .ret)
 (.skip)) <|
 .n [.mov (some 4) (.i 0)] <|
 .ret
abbrev Is72 (P:Program) (F T:Nat→Nat):Prop:=Fn P (F 72) 29 [(4,none)] (c72 F T)
def c97 (F T:Nat→Nat):C :=
 .n [.mov (some 4) (.k (.bool false))] <|
 .n [.m 5 0,.m 6 1,.c 7 (F 98) [.t 5,.t 6],.m 4 7] <|
 .ret
abbrev Is97 (P:Program) (F T:Nat→Nat):Prop:=Fn P (F 97) 8 [(4,none)] (c97 F T)
def c98 (F T:Nat→Nat):C :=
 .n [.mov (some 4) (.k (.bool false))] <|
 .seq (.ops false [⟨none,[.m 5 0,.ls 6 5,.m 7 1,.ls 8 7,.b 9 .geq 6 8,.m 10 9]⟩,
 ⟨some (10,true),[.m 11 0,.m 12 1,.ls 13 12,.slcS (some 14) (.t 11) none (some (.t 13)),.m 15 1,.b 16 .eql 14 15]⟩,
 ⟨none,[.pf 17 10 16,.m 4 17]⟩]) <|
 .ret
abbrev Is98 (P:Program) (F T:Nat→Nat):Prop:=Fn P (F 98) 18 [(4,none)] (c98 F T)
def c104 (F T:Nat→Nat):C :=
 .n [.mov (some 2) (.i 0),.mov (some 3) (.i 0)] <|
 .seq (.n [.m 10 0,.c 11 (F 97) [.t 10,.s [60,33,45,45]]] <|
 .cond (.t 11)
 (.seq (.n [.m 12 0,.slcS (some 13) (.t 12) (some (.i 4)) none,.c 14 (F 64) [.t 13,.s [45,45,62]],.m 4 14] <|
 .n [.m 15 4,.bi 16 .geq 15 0] <|
 .cond (.t 16)
 (.n [.m 17 4,.bin (some 18) .add (.i 4) (.t 17),.bi 19 .add 18 3,.mov (some 2) (.i 9),.m 3 19] <|
 .ret)
 (.skip)) <|
 .n [.m 20 0,.ls 21 20,.mov (some 2) (.i 9),.m 3 21] <|
 .ret)
 (.skip)) <|
 .seq (.n [.m 22 0,.c 23 (F 97) [.t 22,.s [60,110,111,119,105,107,105,62]]] <|
 .cond (.t 23)
 (.n [.m 24 0,.slcS (some 25) (.t 24) (some (.i 8)) none,.c 26 (F 64) [.t 25,.s [60,47,110,111,119,105,107,105,62]],.m 5 26] <|
 .n [.m 27 5,.bi 28 .geq 27 0] <|
 .cond (.t 28)
 (.n [.m 29 5,.bin (some 30) .add (.i 8) (.t 29),.bi 31 .add 30 9,.mov (some 2) (.i 10),.m 3 31] <|
 .ret)
 (.skip))
 (.skip)) <|
 .seq (.n [.m 33 0,.c 34 (F 107) [.t 33,.s [60]],.m 32 34,.x 35 0 32,.x 36 1 32,.m 6 35,.m 7 36] <|
 .n [.m 37 7,.bi 38 .gtr 37 0] <|
 .cond (.t 38)
 (.n [.m 39 7,.mov (some 2) (.i 11),.m 3 39] <|
 .ret)
 (.skip)) <|
 .seq (.n [.m 41 0,.c 42 (F 107) [.t 41,.s [60,47]],.m 40 42,.x 43 0 40,.x 44 1 40,.m 8 43,.m 9 44] <|
 .n [.m 45 9,.bi 46 .gtr 45 0] <|
 .cond (.t 46)
 (.n [.m 47 9,.mov (some 2) (.i 12),.m 3 47] <|
 .ret)
 (.skip)) <|
 .n [.mov (some 2) (.i 0),.mov (some 3) (.i 0)] <|
 .ret
abbrev bCi (P:Program) (F T:Nat→Nat):Prop:=Fn P (F 104) 48 [(2,none),(3,none)] (c104 F T)
def c105 (F T:Nat→Nat):C :=
 .n [.mov (some 4) (.i 0)] <|
 .n [.mov (some 5) (.i 0)] <|
 .seq (.block 0 <|
 .loop <|
 .seq (.seq (.ops false [⟨none,[.m 6 5,.m 7 0,.ls 8 7,.b 9 .lss 6 8,.m 10 9]⟩,
 ⟨some (10,true),[.m 11 0,.m 12 5,.ix 13 11 12,.m 14 1,.b 15 .eql 13 14]⟩,
 ⟨none,[.pf 16 10 15]⟩]) <|
 .cond (.t 16)
 (.skip)
 (.exit 0)) <|
 .block 1 <|
 .o [.m 17 5,.bi 18 .add 17 1,.m 5 18]) <|
 .n [.m 19 5,.m 4 19] <|
 .ret
abbrev bA6 (P:Program) (F T:Nat→Nat):Prop:=Fn P (F 105) 20 [(4,none)] (c105 F T)
def c107 (F T:Nat→Nat):C :=
 .n [.mov (some 4) (.i 0),.mov (some 5) (.i 0)] <|
 .seq (.n [.c 9 (F 116) [],.mov (some 10) (.i 0)] <|
 .block 0 <|
 .loop <|
 .n [.bi 11 .lss 10 3] <|
 .seq (.cond (.t 11)
 (.skip)
 (.exit 0)) <|
 .seq (.block 1 <|
 .n [.m 12 10,.idxA (some 13) 3 1 false (.t 9) (.t 10),.m 6 12,.m 7 13] <|
 .n [.m 14 1,.m 15 7,.b 16 .add 14 15,.bin (some 17) .add (.t 16) (.s [62]),.m 8 17] <|
 .n [.m 18 0,.m 19 8,.c 20 (F 97) [.t 18,.t 19]] <|
 .cond (.t 20)
 (.n [.m 21 6,.bi 22 .add 21 1,.m 23 8,.ls 24 23,.m 4 22,.m 5 24] <|
 .ret)
 (.skip)) <|
 .o [.bi 25 .add 10 1,.m 10 25]) <|
 .n [.mov (some 4) (.i 0),.mov (some 5) (.i 0)] <|
 .ret
abbrev aVg (P:Program) (F T:Nat→Nat):Prop:=Fn P (F 107) 26 [(4,none),(5,none)] (c107 F T)
def c116 (F T:Nat→Nat):C :=
 .n [.alloc 0 (T 13) [(.str []),(.str []),(.str [])]] <|
 .n [.build (some 1) [(.str []),(.str []),(.str [])] [(0,1,(.s [110,111,105,110,99,108,117,100,101])),(1,1,(.s [105,110,99,108,117,100,101,111,110,108,121])),(2,1,(.s [111,110,108,121,105,110,99,108,117,100,101]))],.store 3 (.t 0) (.t 1)] <|
 .ret
abbrev aR2 (P:Program) (F T:Nat→Nat):Prop:=Fn P (F 116) 2 [(0,(some (3,true)))] (c116 F T)
end Go.Ab
namespace Go.Ab
variable {P:Program} {F T:Nat→Nat}
theorem aJ6 (s t:List UInt8):t.isPrefixOf s=(decide (t.length≤s.length)&&decide (s.take t.length=t)):=by
 by_cases h:t <+: s
 ·have h1:t.isPrefixOf s=true:=List.isPrefixOf_iff_prefix.2 h
  rw [h1]
  simp [h.length_le]
  exact (List.prefix_iff_eq_take.1 h).symm
 ·have h1:t.isPrefixOf s=false:=by
   cases hb:t.isPrefixOf s with
   | false=>rfl
   | true=>exact absurd (List.isPrefixOf_iff_prefix.1 hb) h
  rw [h1]
  symm
  simp only [Bool.and_eq_false_iff,decide_eq_false_iff_not]
  right
  intro e
  exact h (List.prefix_iff_eq_take.2 e.symm)
theorem t98 (hf:Is98 P F T) (s t:List UInt8):PTr P (F 98) [.str s,.str t] (.bool (t.isPrefixOf s)):=by
 refine ptrC [] hf (by simp) rfl ?_
 simp only [c98,push_cast,seval,-Nat.reducePow]
 refine aAd (fun h=>?_) (fun h=>?_)
 ·have h':t.length≤s.length:=by omega
  simp only [push_cast,seval,-Nat.reducePow,view]
  exact ⟨by omega,by rw [aJ6]; simp [h']⟩
 ·have h':¬ t.length≤s.length:=by omega
  simp only [push_cast,seval,-Nat.reducePow,view]
  rw [aJ6]; simp [h']
theorem t97 (hf:Is97 P F T) (h98:Is98 P F T) (s t:List UInt8):PTr P (F 97) [.str s,.str t] (.bool (t.isPrefixOf s)):=by
 refine ptrC [] hf (by simp) rfl ?_
 simp only [c97,push_cast,seval,-Nat.reducePow]
 refine aAc (t98 h98 s t) (by simp only [push_cast,seval,-Nat.reducePow]) (by simp only [push_cast,seval,-Nat.reducePow]) ?_
 simp only [push_cast,seval,-Nat.reducePow,view]
theorem aW8 (c:UInt8) (s:List UInt8) (n:Nat) (hn:n<s.length) (hc:s.getD n 0=c) (h:runL c s=n+runL c (s.drop n)):runL c s=(n+1)+runL c (s.drop (n+1)):=by
 rw [h,List.drop_eq_getElem_cons hn]
 have:s[n]=c:=by simpa [List.getD,hn] using hc
 simp [runL,this]; omega
theorem aLi {a b:UInt8} (h:((a.toNat:Nat):Int)=((b.toNat:Nat):Int)):a=b:=UInt8.toNat_inj.1 (by omega)
theorem t105 (hf:bA6 P F T) (s:List UInt8) (c:UInt8) (hs:s.length<2^62):PTr P (F 105) [.str s,.int .u8 c.toNat] (.int .i64 (runL c s)):=by
 refine ptrC [] hf (by simp) rfl ?_
 simp only [c105,push_cast,seval,-Nat.reducePow]
 refine aAk (fun m s1=>∃ n,n≤s.length∧m=s.length-n∧s1.env 0=.str s∧s1.env 1=.int .u8 c.toNat∧s1.env 5=.int .i64 n∧runL c s=n+runL c (s.drop n)) s.length ⟨0,?_⟩ fun m s1 hJ=>?_
 ·simp only [push_cast,seval,-Nat.reducePow,Nat.sub_zero,List.drop_zero]
 ·obtain ⟨n,hn,rfl,j0,j1,j5,hr⟩:=hJ
  simp only [push_cast,seval,-Nat.reducePow,j0,j1,j5]
  refine aAd (fun h=>?_) (fun h=>?_)
  ·have h':n<s.length:=by omega
   simp only [push_cast,seval,-Nat.reducePow,j0,j1,j5]
   refine ⟨by omega,?_⟩
   refine aAd (fun hc=>?_) (fun hc=>?_)
   ·have hc':=aLi hc
    simp only [push_cast,seval,-Nat.reducePow,j0,j1,j5]
    refine ⟨by omega,s.length-(n+1),by omega,n+1,by omega,rfl,by simp,?_⟩
    exact aW8 c s n h' hc' hr
   ·simp only [push_cast,seval,-Nat.reducePow,j0,j1,j5,view]
    have hne:s[n]≠c:=fun e=>hc (by rw [show s.getD n 0=s[n] by simp [List.getD,h'],e])
    rw [hr,List.drop_eq_getElem_cons h']
    simp [runL,hne]
  ·have h':n=s.length:=by omega
   simp only [push_cast,seval,-Nat.reducePow,j0,j1,j5,view]
   rw [hr,h',List.drop_length]
   simp [runL]
theorem t116 (hf:aR2 P F T):PTr P (F 116) [] (.agg [.str (aAt 1),.str (aAt 2),.str (aAt 3)]):=by
 refine ptrC [] hf (by simp) rfl ?_
 simp only [c116,push_cast,seval,-Nat.reducePow]
 simp [view,aAt]
def tagP (o:List UInt8) (t:Nat):List UInt8:=o++aAt t++[62]
def tagR (o s:List UInt8):V:=.tup [.int .i64 (aA9 (tagP o) s),.int .i64 (if aA9 (tagP o) s=0 then 0 else (tagP o (aA9 (tagP o) s)).length:Nat)]
theorem t107 (hf:aVg P F T) (h97:Is97 P F T) (h98:Is98 P F T) (h116:aR2 P F T) (s o:List UInt8) (ho:o.length≤2):PTr P (F 107) [.str s,.str o] (tagR o s):=by
 refine ptrC [] hf (by simp) rfl ?_
 simp only [c107,push_cast,seval,-Nat.reducePow]
 refine aAc (t116 h116) (by simp only [push_cast,seval,-Nat.reducePow]) (by simp only [push_cast,seval,-Nat.reducePow]) ?_
 refine aAk (fun m s1=>∃ n,n≤3∧m=3-n∧s1.env 0=.str s∧s1.env 1=.str o∧s1.env 9=.agg [.str (aAt 1),.str (aAt 2),.str (aAt 3)]∧s1.env 10=.int .i64 n∧(∀ j,j<n→(tagP o (j+1)).isPrefixOf s=false)) 3 ⟨0,?_⟩ fun m s1 hJ=>?_
 ·simp only [push_cast,seval,-Nat.reducePow]
  exact fun j hj=>by omega
 ·obtain ⟨n,hn,rfl,j0,j1,j9,j10,hr⟩:=hJ
  have hn4:n=0∨n=1∨n=2∨n=3:=by omega
  rcases hn4 with rfl | rfl | rfl | rfl
  ·have hl:(aAt 1).length≤11:=by simp [aAt]
   skip
   simp only [push_cast,seval,-Nat.reducePow,j0,j1,j9,j10]
   refine ⟨by omega,by simp; omega,?_⟩
   refine aAc (t97 h97 h98 s (o++aAt 1++[62])) (by simp only [push_cast,seval,-Nat.reducePow]) (by simp only [push_cast,seval,-Nat.reducePow]) ?_
   simp only [push_cast,seval,-Nat.reducePow]
   refine aCg (fun hb=>?_) (fun hb=>?_)
   ·simp only [push_cast,seval,-Nat.reducePow,j0,j1,j9,j10,view]
    have e:aA9 (tagP o) s=1:=by simp only [aA9]; rw [if_pos (show (tagP o 1).isPrefixOf s=true from hb)]
    simp only [tagR,e,tagP]
    simp
   ·simp only [push_cast,seval,-Nat.reducePow,j0,j1,j9,j10]
    refine ⟨3-1,by omega,1,by omega,rfl,rfl,fun j hj=>?_⟩
    have hb':(tagP o 1).isPrefixOf s=false:=hb
    have:j=0:=by omega
    rcases this with rfl
    exact hb'
  ·have hl:(aAt 2).length≤11:=by simp [aAt]
   have q0:=hr 0 (by omega)
   simp only [push_cast,seval,-Nat.reducePow,j0,j1,j9,j10]
   refine ⟨by omega,by simp; omega,?_⟩
   refine aAc (t97 h97 h98 s (o++aAt 2++[62])) (by simp only [push_cast,seval,-Nat.reducePow]) (by simp only [push_cast,seval,-Nat.reducePow]) ?_
   simp only [push_cast,seval,-Nat.reducePow]
   refine aCg (fun hb=>?_) (fun hb=>?_)
   ·simp only [push_cast,seval,-Nat.reducePow,j0,j1,j9,j10,view]
    have e:aA9 (tagP o) s=2:=by simp only [aA9,q0]; rw [if_pos (show (tagP o 2).isPrefixOf s=true from hb)] <;> rfl
    simp only [tagR,e,tagP]
    simp
   ·simp only [push_cast,seval,-Nat.reducePow,j0,j1,j9,j10]
    refine ⟨3-2,by omega,2,by omega,rfl,rfl,fun j hj=>?_⟩
    have hb':(tagP o 2).isPrefixOf s=false:=hb
    have:j=0∨j=1:=by omega
    rcases this with rfl | rfl
    ·exact q0
    ·exact hb'
  ·have hl:(aAt 3).length≤11:=by simp [aAt]
   have q0:=hr 0 (by omega)
   have q1:=hr 1 (by omega)
   simp only [push_cast,seval,-Nat.reducePow,j0,j1,j9,j10]
   refine ⟨by omega,by simp; omega,?_⟩
   refine aAc (t97 h97 h98 s (o++aAt 3++[62])) (by simp only [push_cast,seval,-Nat.reducePow]) (by simp only [push_cast,seval,-Nat.reducePow]) ?_
   simp only [push_cast,seval,-Nat.reducePow]
   refine aCg (fun hb=>?_) (fun hb=>?_)
   ·simp only [push_cast,seval,-Nat.reducePow,j0,j1,j9,j10,view]
    have e:aA9 (tagP o) s=3:=by simp only [aA9,q0,q1]; rw [if_pos (show (tagP o 3).isPrefixOf s=true from hb)] <;> rfl
    simp only [tagR,e,tagP]
    simp
   ·simp only [push_cast,seval,-Nat.reducePow,j0,j1,j9,j10]
    refine ⟨3-3,by omega,3,by omega,rfl,rfl,fun j hj=>?_⟩
    have hb':(tagP o 3).isPrefixOf s=false:=hb
    have:j=0∨j=1∨j=2:=by omega
    rcases this with rfl | rfl | rfl
    ·exact q0
    ·exact q1
    ·exact hb'
  ·have q0:=hr 0 (by omega)
   have q1:=hr 1 (by omega)
   have q2:=hr 2 (by omega)
   simp only [push_cast,seval,-Nat.reducePow,j0,j1,j9,j10,view]
   have e:aA9 (tagP o) s=0:=by
    simp only [Nat.zero_add,Nat.reduceAdd] at q0 q1 q2
    simp [aA9,q0,q1,q2]
   simp [tagR,e]
def aDa (q:Nat×Nat):V:=.tup [.int .i64 q.1,.int .i64 q.2]
def idxZ (t s:List UInt8):Int:=match idxF t s 0 with | some k=>k | none=>-1
def Idx (P:Program) (F:Nat→Nat):Prop:=∀ s t:List UInt8,s.length≤8192→t≠[]→t.length≤16→PTr P (F 64) [.str s,.str t] (.int .i64 (idxZ t s))
theorem aG4 (t:List UInt8):∀ (s:List UInt8) (i k:Nat),idxF t s i=some k→i≤k∧k+t.length≤i+s.length
 | [],i,k,h=>by
   simp only [idxF] at h
   split at h
   ·rename_i h0; simp at h; subst h; simp [h0]
   ·simp at h
 | x::r,i,k,h=>by
   simp only [idxF] at h
   split at h
   ·rename_i hp
    simp at h; subst h
    have:=(List.isPrefixOf_iff_prefix.1 hp).length_le
    exact ⟨Nat.le_refl _,by omega⟩
   ·obtain ⟨h1,h2⟩:=aG4 t r (i+1) k h
    simp only [List.length_cons]; omega
theorem aPr:tagP [60]=tagO:=rfl
theorem aOf:tagP [60,47]=tagC:=rfl
theorem t104 (hf:bCi P F T) (h107:aVg P F T) (h97:Is97 P F T) (h98:Is98 P F T) (h116:aR2 P F T) (hI:Idx P F) (s:List UInt8) (hs:s.length≤8192):PTr P (F 104) [.str s] (aDa (aE9 s)):=by
 refine ptrC [] hf (by simp) rfl ?_
 have tok:∀ q:Nat,s.length≤8192→True:=fun _ _=>trivial
 simp only [c104,push_cast,seval,-Nat.reducePow]
 refine aAc (t97 h97 h98 s [60,33,45,45]) (by simp only [push_cast,seval,-Nat.reducePow]) (by simp only [push_cast,seval,-Nat.reducePow]) ?_
 simp only [push_cast,seval,-Nat.reducePow]
 refine aCg (fun h1=>?_) (fun h1=>?_)
 ·have hl:=(List.isPrefixOf_iff_prefix.1 h1).length_le
  simp only [List.length_cons,List.length_nil] at hl
  simp only [push_cast,seval,-Nat.reducePow,List.take_length]
  refine ⟨by omega,?_⟩
  refine aAc (hI (s.drop 4) [45,45,62] (by simp; omega) (by simp) (by simp)) (by simp only [push_cast,seval,-Nat.reducePow]) (by simp only [push_cast,seval,-Nat.reducePow]) ?_
  simp only [push_cast,seval,-Nat.reducePow]
  cases hk:idxF [45,45,62] (s.drop 4) 0 with
  | some k =>
    obtain ⟨_,hk2⟩:=aG4 _ _ _ _ hk
    simp only [List.length_drop,List.length_cons,List.length_nil] at hk2
    have hz:idxZ [45,45,62] (s.drop 4)=(k:Nat):=by simp [idxZ,hk]
    have h0:(0:Int)≤(k:Nat):=by omega
    simp only [push_cast,seval,-Nat.reducePow,hz,h0]
    refine ⟨by omega,by omega,?_⟩
    simp [view,aDa,aE9,h1,hk]
  | none =>
    have hz:idxZ [45,45,62] (s.drop 4)=-1:=by simp [idxZ,hk]
    have h0:¬ (0:Int)≤-1:=by omega
    simp only [push_cast,seval,-Nat.reducePow,hz,h0]
    simp [view,aDa,aE9,h1,hk]
 simp only [push_cast,seval,-Nat.reducePow]
 have rest:∀ K:Prop,aE9 s=aD1 s→True:=fun _ _=>trivial
 refine aAc (t97 h97 h98 s aFj) (by simp only [push_cast,seval,-Nat.reducePow]) (by simp only [push_cast,seval,-Nat.reducePow]) ?_
 simp only [push_cast,seval,-Nat.reducePow]
 refine aCg (fun h2=>?_) (fun h2=>?_)
 ·have hl:=(List.isPrefixOf_iff_prefix.1 h2).length_le
  simp only [aFj,List.length_cons,List.length_nil] at hl
  simp only [push_cast,seval,-Nat.reducePow,List.take_length]
  refine ⟨by omega,?_⟩
  refine aAc (hI (s.drop 8) aDf (by simp; omega) (by simp [aDf]) (by simp [aDf])) (by simp only [push_cast,seval,-Nat.reducePow]) (by simp only [push_cast,seval,-Nat.reducePow]) ?_
  simp only [push_cast,seval,-Nat.reducePow]
  cases hk:idxF aDf (s.drop 8) 0 with
  | some k =>
    obtain ⟨_,hk2⟩:=aG4 _ _ _ _ hk
    simp only [List.length_drop,List.length_cons,List.length_nil] at hk2
    have hz:idxZ aDf (s.drop 8)=(k:Nat):=by simp [idxZ,hk]
    have h0:(0:Int)≤(k:Nat):=by omega
    simp only [push_cast,seval,-Nat.reducePow,hz,h0]
    refine ⟨by omega,by omega,?_⟩
    simp [view,aDa,aE9,h1,h2,hk]
  | none =>
    have hz:idxZ aDf (s.drop 8)=-1:=by simp [idxZ,hk]
    have h0:¬ (0:Int)≤-1:=by omega
    simp only [push_cast,seval,-Nat.reducePow,hz,h0]
    have ha:aE9 s=aD1 s:=by simp [aE9,h1,h2,hk]
    refine aAc (t107 h107 h97 h98 h116 s [60] (by simp)) (by simp only [push_cast,seval,-Nat.reducePow]) (by simp only [push_cast,seval,-Nat.reducePow,tagR]) ?_
    have lO:(tagO (aA9 tagO s)).length≤20:=by have:=aCs (aA9 tagO s); simp [tagO]; omega
    have lC:(tagC (aA9 tagC s)).length≤20:=by have:=aCs (aA9 tagC s); simp [tagC]; omega
    have pO:0<(tagO (aA9 tagO s)).length:=by simp [tagO]
    have pC:0<(tagC (aA9 tagC s)).length:=by simp [tagC]
    by_cases hz1:aA9 tagO s=0
    ·simp only [push_cast,seval,-Nat.reducePow,tagR,aPr,hz1]
     refine aAc (t107 h107 h97 h98 h116 s [60,47] (by simp)) (by simp only [push_cast,seval,-Nat.reducePow]) (by simp only [push_cast,seval,-Nat.reducePow,tagR]) ?_
     by_cases hz2:aA9 tagC s=0
     ·simp only [push_cast,seval,-Nat.reducePow,tagR,aOf,hz2]
      simp [view,aDa,ha,aD1,hz1,hz2]
     ·have g2:(0:Int)<((tagC (aA9 tagC s)).length:Nat):=by omega
      simp only [push_cast,seval,-Nat.reducePow,tagR,aOf,hz2,g2]
      simp [view,aDa,ha,aD1,hz1,hz2]
    ·have g1:(0:Int)<((tagO (aA9 tagO s)).length:Nat):=by omega
     simp only [push_cast,seval,-Nat.reducePow,tagR,aPr,hz1,g1]
     simp [view,aDa,ha,aD1,hz1]
 ·have ha:aE9 s=aD1 s:=by simp [aE9,h1,h2]
  simp only [push_cast,seval,-Nat.reducePow]
  refine aAc (t107 h107 h97 h98 h116 s [60] (by simp)) (by simp only [push_cast,seval,-Nat.reducePow]) (by simp only [push_cast,seval,-Nat.reducePow,tagR]) ?_
  have lO:(tagO (aA9 tagO s)).length≤20:=by have:=aCs (aA9 tagO s); simp [tagO]; omega
  have lC:(tagC (aA9 tagC s)).length≤20:=by have:=aCs (aA9 tagC s); simp [tagC]; omega
  have pO:0<(tagO (aA9 tagO s)).length:=by simp [tagO]
  have pC:0<(tagC (aA9 tagC s)).length:=by simp [tagC]
  by_cases hz1:aA9 tagO s=0
  ·simp only [push_cast,seval,-Nat.reducePow,tagR,aPr,hz1]
   refine aAc (t107 h107 h97 h98 h116 s [60,47] (by simp)) (by simp only [push_cast,seval,-Nat.reducePow]) (by simp only [push_cast,seval,-Nat.reducePow,tagR]) ?_
   by_cases hz2:aA9 tagC s=0
   ·simp only [push_cast,seval,-Nat.reducePow,tagR,aOf,hz2]
    simp [view,aDa,ha,aD1,hz1,hz2]
   ·have g2:(0:Int)<((tagC (aA9 tagC s)).length:Nat):=by omega
    simp only [push_cast,seval,-Nat.reducePow,tagR,aOf,hz2,g2]
    simp [view,aDa,ha,aD1,hz1,hz2]
  ·have g1:(0:Int)<((tagO (aA9 tagO s)).length:Nat):=by omega
   simp only [push_cast,seval,-Nat.reducePow,tagR,aPr,hz1,g1]
   simp [view,aDa,ha,aD1,hz1]
theorem t67 (hf:Is67 P F T) (h104:bCi P F T) (h105:bA6 P F T) (h107:aVg P F T) (h97:Is97 P F T) (h98:Is98 P F T) (h116:aR2 P F T) (hI:Idx P F) (s:List UInt8) (hs:s.length≤8192) (hne:s≠[]):PTr P (F 67) [.str s] (aDa (aA0 s)):=by
 refine ptrC [] hf (by simp) rfl ?_
 obtain ⟨c,r,rfl⟩:∃ c r,s=c::r:=by cases s with | nil=>exact absurd rfl hne | cons c r=>exact ⟨c,r,rfl⟩
 have hrun:∀ x:UInt8,PTr P (F 105) [.str (c::r),.int .u8 x.toNat] (.int .i64 (runL x (c::r))):=fun x=>t105 h105 (c::r) x (by omega)
 have hnl:∀ x:UInt8,c≠x→¬ ((c.toNat:Nat):Int)=((x.toNat:Nat):Int):=fun x h e=>h (aLi e)
 simp only [c67,push_cast,seval,-Nat.reducePow]
 refine ⟨by omega,?_⟩
 by_cases h60:c=60
 ·subst h60
  refine aAd (fun h=>?_) (fun h=>absurd rfl h)
  simp only [push_cast,seval,-Nat.reducePow]
  refine aAc (t104 h104 h107 h97 h98 h116 hI _ hs) (by simp only [push_cast,seval,-Nat.reducePow]) (by simp only [push_cast,seval,-Nat.reducePow,aDa]) ?_
  simp only [push_cast,seval,-Nat.reducePow,aDa]
  simp [view,aA0]
 refine aAd (fun h=>absurd (aLi (b:=60) h) h60) (fun _=>?_)
 simp only [push_cast,seval,-Nat.reducePow]
 by_cases h123:c=123
 ·subst h123
  refine aAd (fun h=>?_) (fun h=>absurd rfl h)
  simp only [push_cast,seval,-Nat.reducePow]
  refine aAc (hrun 123) (by simp only [push_cast,seval,-Nat.reducePow]) (by simp only [push_cast,seval,-Nat.reducePow]) ?_
  simp only [push_cast,seval,-Nat.reducePow]
  refine aAd (fun h=>?_) (fun h=>?_)
  ·have h':2≤runL 123 (123::r):=by omega
   simp only [push_cast,seval,-Nat.reducePow]
   simp [view,aDa,aA0,h']
  ·have h':¬ 2≤runL 123 (123::r):=by omega
   simp only [push_cast,seval,-Nat.reducePow]
   simp [view,aDa,aA0,h']
 refine aAd (fun h=>absurd (aLi (b:=123) h) h123) (fun _=>?_)
 simp only [push_cast,seval,-Nat.reducePow]
 by_cases h125:c=125
 ·subst h125
  refine aAd (fun h=>?_) (fun h=>absurd rfl h)
  simp only [push_cast,seval,-Nat.reducePow]
  refine aAc (hrun 125) (by simp only [push_cast,seval,-Nat.reducePow]) (by simp only [push_cast,seval,-Nat.reducePow]) ?_
  simp only [push_cast,seval,-Nat.reducePow]
  refine aAd (fun h=>?_) (fun h=>?_)
  ·have h':2≤runL 125 (125::r):=by omega
   simp only [push_cast,seval,-Nat.reducePow]
   simp [view,aDa,aA0,h']
  ·have h':¬ 2≤runL 125 (125::r):=by omega
   simp only [push_cast,seval,-Nat.reducePow]
   simp [view,aDa,aA0,h']
 refine aAd (fun h=>absurd (aLi (b:=125) h) h125) (fun _=>?_)
 simp only [push_cast,seval,-Nat.reducePow]
 by_cases h91:c=91
 ·subst h91
  refine aAd (fun h=>?_) (fun h=>absurd rfl h)
  simp only [push_cast,seval,-Nat.reducePow]
  refine aAc (hrun 91) (by simp only [push_cast,seval,-Nat.reducePow]) (by simp only [push_cast,seval,-Nat.reducePow]) ?_
  simp only [push_cast,seval,-Nat.reducePow]
  refine aAd (fun h=>?_) (fun h=>?_)
  ·have h':2≤runL 91 (91::r):=by omega
   simp only [push_cast,seval,-Nat.reducePow]
   simp [view,aDa,aA0,h']
  ·have h':¬ 2≤runL 91 (91::r):=by omega
   simp only [push_cast,seval,-Nat.reducePow]
   simp [view,aDa,aA0,h']
 refine aAd (fun h=>absurd (aLi (b:=91) h) h91) (fun _=>?_)
 simp only [push_cast,seval,-Nat.reducePow]
 by_cases h93:c=93
 ·subst h93
  refine aAd (fun h=>?_) (fun h=>absurd rfl h)
  simp only [push_cast,seval,-Nat.reducePow]
  refine aAc (hrun 93) (by simp only [push_cast,seval,-Nat.reducePow]) (by simp only [push_cast,seval,-Nat.reducePow]) ?_
  simp only [push_cast,seval,-Nat.reducePow]
  refine aAd (fun h=>?_) (fun h=>?_)
  ·have h':2≤runL 93 (93::r):=by omega
   simp only [push_cast,seval,-Nat.reducePow]
   simp [view,aDa,aA0,h']
  ·have h':¬ 2≤runL 93 (93::r):=by omega
   simp only [push_cast,seval,-Nat.reducePow]
   simp [view,aDa,aA0,h']
 refine aAd (fun h=>absurd (aLi (b:=93) h) h93) (fun _=>?_)
 simp only [push_cast,seval,-Nat.reducePow]
 by_cases h124:c=124
 ·subst h124
  refine aAd (fun h=>?_) (fun h=>absurd rfl h)
  simp only [push_cast,seval,-Nat.reducePow]
  simp [view,aDa,aA0]
 refine aAd (fun h=>absurd (aLi (b:=124) h) h124) (fun _=>?_)
 simp only [push_cast,seval,-Nat.reducePow]
 by_cases h61:c=61
 ·subst h61
  refine aAd (fun h=>?_) (fun h=>absurd rfl h)
  simp only [push_cast,seval,-Nat.reducePow]
  simp [view,aDa,aA0]
 refine aAd (fun h=>absurd (aLi (b:=61) h) h61) (fun _=>?_)
 simp only [push_cast,seval,-Nat.reducePow]
 by_cases h10:c=10
 ·subst h10
  refine aAd (fun h=>?_) (fun h=>absurd rfl h)
  simp only [push_cast,seval,-Nat.reducePow]
  simp [view,aDa,aA0]
 refine aAd (fun h=>absurd (aLi (b:=10) h) h10) (fun _=>?_)
 simp only [push_cast,seval,-Nat.reducePow]
 simp [view,aDa,aA0,h60,h123,h125,h91,h93,h124,h61,h10]
theorem t68 (hf:Is68 P F T) (s:List UInt8) (t:Tok) (h1:t.fr≤t.to) (h2:t.to≤s.length) (h3:s.length≤8192):PTr P (F 68) [.str s,.agg t.vs] (.str (t.text s)):=by
 refine ptrC [] hf (by simp) rfl ?_
 have e1:¬ ((t.fr:Nat):Int)<0:=by omega
 have e2:¬ ((t.to:Nat):Int)<(t.fr:Nat):=by omega
 have e3:¬ ((s.length:Nat):Int)<(t.to:Nat):=by omega
 simp only [c68,push_cast,seval,-Nat.reducePow,Tok.vs,e1,e2,e3]
 exact ⟨by omega,by omega,rfl⟩
end Go.Ab
namespace Go.Ab
variable {P:Program} {F T:Nat→Nat}
theorem aXz (k:Nat) (a:1≤k) (b:k≤3):aA9 tagO (tagO k)=k:=by
 obtain rfl | rfl | rfl:k=1∨k=2∨k=3:=by omega
 all_goals simp [aA9,tagO,aAt]
theorem bId (k:Nat) (a:1≤k) (b:k≤3):aA9 tagC (tagC k)=k:=by
 obtain rfl | rfl | rfl:k=1∨k=2∨k=3:=by omega
 all_goals simp [aA9,tagC,aAt]
theorem t72 (hf:Is72 P F T) (h68:Is68 P F T) (h107:aVg P F T) (h97:Is97 P F T) (h98:Is98 P F T) (h116:aR2 P F T) (s:List UInt8) (t:Tok) (h1:t.fr≤t.to) (h2:t.to≤s.length) (h3:s.length≤8192) (hx:t.kind=11→∃ k,1≤k∧k≤3∧t.text s=tagO k) (hy:t.kind=12→∃ k,1≤k∧k≤3∧t.text s=tagC k) :
 PTr P (F 72) [.str s,.agg t.vs] (.int .i64 (t.tag s)):=by
 refine ptrC [] hf (by simp) rfl ?_
 simp only [c72,push_cast,seval,-Nat.reducePow,Tok.vs]
 refine aE2 (fun s1=>∃ o,s1.env 0=.str s∧s1.env 3=.ptr 3 0∧s1.env 5=.str o∧s1.L 3=some (.box (T 8) t.vs)∧((t.kind=11∧o=[60])∨(t.kind=12∧o=[60,47]))) ?_ ?_
 ·simp only [push_cast,seval,-Nat.reducePow]
  refine aAd (fun h=>?_) (fun h=>?_)
  ·have hk:t.kind=11:=by omega
   simp only [push_cast,seval,-Nat.reducePow]
   exact ⟨[60],rfl,by simp only [Tok.vs],.inl ⟨hk,rfl⟩⟩
  ·have hk:t.kind≠11:=by omega
   simp only [push_cast,seval,-Nat.reducePow]
   refine aAd (fun h=>?_) (fun h=>?_)
   ·have hk:t.kind=12:=by omega
    simp only [push_cast,seval,-Nat.reducePow]
    exact ⟨[60,47],rfl,by simp only [Tok.vs],.inr ⟨hk,rfl⟩⟩
   ·have hk2:t.kind≠12:=by omega
    simp only [push_cast,seval,-Nat.reducePow]
    simp [view,Tok.tag,hk,hk2]
 ·rintro s1 ⟨o,j0,j3,j5,jL,ho⟩
  have ho2:o.length≤2:=by rcases ho with ⟨_,rfl⟩ | ⟨_,rfl⟩ <;> simp
  simp only [push_cast,seval,-Nat.reducePow,j0,j3,j5,jL,Tok.vs]
  refine aAc (t68 h68 s t h1 h2 h3) (by simp only [push_cast,seval,-Nat.reducePow,Tok.vs]) (by simp only [push_cast,seval,-Nat.reducePow]) ?_
  simp only [push_cast,seval,-Nat.reducePow,j0,j3,j5]
  refine aAc (t107 h107 h97 h98 h116 (t.text s) o ho2) (by simp only [push_cast,seval,-Nat.reducePow]) (by simp only [push_cast,seval,-Nat.reducePow,tagR]) ?_
  rcases ho with ⟨hk,rfl⟩ | ⟨hk,rfl⟩
  ·obtain ⟨k,k1,k2,k3⟩:=hx hk
   have e1:aA9 tagO (t.text s)=k:=by rw [k3]; exact aXz k k1 k2
   have e0:k≠0:=by omega
   simp only [push_cast,seval,-Nat.reducePow,tagR,aPr,e1,e0]
   refine aAd (fun h=>?_) (fun h=>absurd (by rw [k3]) h)
   simp only [push_cast,seval,-Nat.reducePow]
   simp [view,Tok.tag,hk,e1]
  ·obtain ⟨k,k1,k2,k3⟩:=hy hk
   have e1:aA9 tagC (t.text s)=k:=by rw [k3]; exact bId k k1 k2
   have e0:k≠0:=by omega
   simp only [push_cast,seval,-Nat.reducePow,tagR,aOf,e1,e0]
   refine aAd (fun h=>?_) (fun h=>absurd (by rw [k3]) h)
   simp only [push_cast,seval,-Nat.reducePow]
   simp [view,Tok.tag,hk,e1]
end Go.Ab
namespace Go.Ab
theorem aYg (c:UInt8):∀ s:List UInt8,runL c s≤s.length
 | []=>by simp [runL]
 | x::r=>by simp only [runL,List.length_cons]; have:=aYg c r; split <;> omega
theorem aL3 {o:Nat→List UInt8} {s:List UInt8} (h:aA9 o s≠0):1≤aA9 o s∧aA9 o s≤3∧(o (aA9 o s)).isPrefixOf s=true:=by
 unfold aA9 at h ⊢
 split
 ·rename_i h1; exact ⟨by omega,by omega,h1⟩
 ·split
  ·rename_i h1; exact ⟨by omega,by omega,h1⟩
  ·split
   ·rename_i h1; exact ⟨by omega,by omega,h1⟩
   ·simp_all
theorem aK1 {t s:List UInt8} (h:t.isPrefixOf s=true):s.take t.length=t:=(List.prefix_iff_eq_take.1 (List.isPrefixOf_iff_prefix.1 h)).symm
theorem aGp {t s:List UInt8} (h:t.isPrefixOf s=true):t.length≤s.length:=(List.isPrefixOf_iff_prefix.1 h).length_le
structure Fst (s:List UInt8) (q:Nat×Nat):Prop where
 pos:1≤q.2
 le:q.2≤s.length
 kind:2≤q.1∧q.1≤12
 wiki:q.1=10→17≤q.2∧aFj.isPrefixOf s=true∧aDf.isPrefixOf (s.drop (q.2-9))=true
 open_:q.1=3→2≤q.2∧s.take q.2=List.replicate q.2 123
 close:q.1=4→2≤q.2∧s.take q.2=List.replicate q.2 125
 tagO:q.1=11→∃ k,1≤k∧k≤3∧s.take q.2=tagO k
 tagC:q.1=12→∃ k,1≤k∧k≤3∧s.take q.2=tagC k
 link:q.1=5→s.take q.2=[91,91]
 linkC:q.1=6→s.take q.2=[93,93]
 bar:q.1=7→s.take q.2=[124]
 eq:q.1=8→s.take q.2=[61]
theorem aHd (c:UInt8):∀ s:List UInt8,s.take (runL c s)=List.replicate (runL c s) c
 | []=>by simp [runL]
 | x::r=>by
   simp only [runL]
   split
   ·rename_i h; subst h; simp [List.replicate_succ,aHd x r]
   ·simp
theorem aSo {c:UInt8} {s:List UInt8} (h:2≤runL c s):s.take 2=[c,c]:=by
 have h1:=aHd c s
 have h2:=congrArg (List.take 2) h1
 rw [List.take_take,List.take_replicate,Nat.min_eq_left h] at h2
 exact h2
theorem aXb (t:List UInt8):∀ (s:List UInt8) (i k:Nat),idxF t s i=some k→t.isPrefixOf (s.drop (k-i))=true
 | [],i,k,h=>by
   simp only [idxF] at h
   split at h
   ·rename_i h0; simp at h; subst h; simp [h0]
   ·simp at h
 | x::r,i,k,h=>by
   simp only [idxF] at h
   split at h
   ·rename_i hp; simp at h; subst h; simpa using hp
   ·have h1:=aXb t r (i+1) k h
    have h2:=(aG4 t r (i+1) k h).1
    have:k-i=(k-(i+1))+1:=by omega
    rw [this]; simpa using h1
theorem aLt {s:List UInt8} (h:(aD1 s).1≠0):Fst s (aD1 s):=by
 unfold aD1 at h ⊢
 split
 ·rename_i h1
  obtain ⟨a,b,c⟩:=aL3 h1
  exact ⟨by simp [tagO],aGp c,by simp,by simp,by simp,by simp,fun _=>⟨_,a,b,aK1 c⟩,by simp,by simp,by simp,by simp,by simp⟩
 ·split
  ·rename_i h1
   obtain ⟨a,b,c⟩:=aL3 h1
   exact ⟨by simp [tagC],aGp c,by simp,by simp,by simp,by simp,by simp,fun _=>⟨_,a,b,aK1 c⟩,by simp,by simp,by simp,by simp⟩
  ·simp_all
theorem aUh {s:List UInt8} (h:(aE9 s).1≠0):Fst s (aE9 s):=by
 unfold aE9 at h ⊢
 split
 ·rename_i h1
  have hl:=aGp h1
  simp only [List.length_cons,List.length_nil] at hl
  cases hk:idxF [45,45,62] (s.drop 4) 0 with
  | some k =>
    obtain ⟨_,h2⟩:=aG4 _ _ _ _ hk
    simp only [List.length_drop,List.length_cons,List.length_nil] at h2
    exact ⟨by simp,by simp; omega,by simp,by simp,by simp,by simp,by simp,by simp,by simp,by simp,by simp,by simp⟩
  | none=>exact ⟨by simp; omega,by simp,by simp,by simp,by simp,by simp,by simp,by simp,by simp,by simp,by simp,by simp⟩
 ·split
  ·rename_i h0 h1
   have hl:=aGp h1
   simp only [aFj,List.length_cons,List.length_nil] at hl
   cases hk:idxF aDf (s.drop 8) 0 with
   | some k =>
     obtain ⟨_,h2⟩:=aG4 _ _ _ _ hk
     have h3:=aXb _ _ _ _ hk
     simp only [List.drop_drop,Nat.sub_zero] at h3
     simp only [aDf,List.length_drop,List.length_cons,List.length_nil] at h2
     refine ⟨by simp <;> omega,by simp <;> omega,by simp,fun _=>⟨by simp <;> omega,h1,?_⟩,by simp,by simp,by simp,by simp,by simp,by simp,by simp,by simp⟩
     simp only [Nat.add_sub_cancel]; exact h3
   | none =>
     have:(aD1 s).1≠0:=by simp_all
     exact aLt this
  ·have:(aD1 s).1≠0:=by simp_all
   exact aLt this
theorem aH2 {s:List UInt8} (h:(aA0 s).1≠0):Fst s (aA0 s):=by
 cases s with
 | nil=>simp [aA0] at h
 | cons c r =>
   have rl:=aYg
   have one:1≤(c::r).length:=by simp
   simp only [aA0] at h ⊢
   split
   ·rename_i hc; rw [if_pos hc] at h; exact aUh h
   rename_i hc; rw [if_neg hc] at h
   split
   ·rename_i hc; rw [if_pos hc] at h
    split
    ·rename_i h2; exact ⟨by simp; omega,rl _ _,by simp,by simp,fun _=>⟨h2,aHd _ _⟩,by simp,by simp,by simp,by simp,by simp,by simp,by simp⟩
    ·rename_i hn; rw [if_neg hn] at h; exact absurd rfl h
   rename_i hc; rw [if_neg hc] at h
   split
   ·rename_i hc; rw [if_pos hc] at h
    split
    ·rename_i h2; exact ⟨by simp; omega,rl _ _,by simp,by simp,by simp,fun _=>⟨h2,aHd _ _⟩,by simp,by simp,by simp,by simp,by simp,by simp⟩
    ·rename_i hn; rw [if_neg hn] at h; exact absurd rfl h
   rename_i hc; rw [if_neg hc] at h
   split
   ·rename_i hc; rw [if_pos hc] at h
    split
    ·rename_i h2; exact ⟨by simp,Nat.le_trans h2 (rl _ _),by simp,by simp,by simp,by simp,by simp,by simp,fun _=>aSo h2,by simp,by simp,by simp⟩
    ·rename_i hn; rw [if_neg hn] at h; exact absurd rfl h
   rename_i hc; rw [if_neg hc] at h
   split
   ·rename_i hc; rw [if_pos hc] at h
    split
    ·rename_i h2; exact ⟨by simp,Nat.le_trans h2 (rl _ _),by simp,by simp,by simp,by simp,by simp,by simp,by simp,fun _=>aSo h2,by simp,by simp⟩
    ·rename_i hn; rw [if_neg hn] at h; exact absurd rfl h
   rename_i hc; rw [if_neg hc] at h
   split
   ·rename_i h2; subst h2; exact ⟨by simp,one,by simp,by simp,by simp,by simp,by simp,by simp,by simp,by simp,fun _=>rfl,by simp⟩
   rename_i hc; rw [if_neg hc] at h
   split
   ·rename_i h2; subst h2; exact ⟨by simp,one,by simp,by simp,by simp,by simp,by simp,by simp,by simp,by simp,by simp,fun _=>rfl⟩
   rename_i hc; rw [if_neg hc] at h
   split
   ·exact ⟨by simp,one,by simp,by simp,by simp,by simp,by simp,by simp,by simp,by simp,by simp,by simp⟩
   rename_i hc; rw [if_neg hc] at h
   exact absurd rfl h
structure Tok.good (s:List UInt8) (t:Tok):Prop where
 lt:t.fr<t.to
 le:t.to≤s.length
 txt:t.kind=1∨Fst (s.drop t.fr) (t.kind,t.to-t.fr)
theorem Tok.text_eq {s:List UInt8} {t:Tok}:t.text s=(s.drop t.fr).take (t.to-t.fr):=by
 simp [Tok.text,List.drop_take]
theorem Tok.good.tagO {s:List UInt8} {t:Tok} (h:t.good s) (hk:t.kind=11):∃ k,1≤k∧k≤3∧t.text s=Go.Ab.tagO k:=by
 rcases h.txt with h1 | h1
 ·omega
 ·obtain ⟨k,a,b,c⟩:=h1.tagO hk
  exact ⟨k,a,b,by rw [Tok.text_eq]; exact c⟩
theorem Tok.good.tagC {s:List UInt8} {t:Tok} (h:t.good s) (hk:t.kind=12):∃ k,1≤k∧k≤3∧t.text s=Go.Ab.tagC k:=by
 rcases h.txt with h1 | h1
 ·omega
 ·obtain ⟨k,a,b,c⟩:=h1.tagC hk
  exact ⟨k,a,b,by rw [Tok.text_eq]; exact c⟩
theorem Tok.good.wf {s:List UInt8} {t:Tok} (h:t.good s):t.wf s:=by
 have hl:=Tok.text_length h.le
 refine ⟨?_,h.lt,h.le,fun hk=>?_,fun hk=>?_,fun hk=>?_,h.tagO,h.tagC⟩
 ·rcases h.txt with h | h
  ·omega
  ·exact ⟨by have:=h.kind.1; simp at this; omega,h.kind.2⟩
 ·rcases h.txt with h1 | h1
  ·omega
  ·have:=(h1.wiki hk).1; simp at this; omega
 ·rcases h.txt with h1 | h1
  ·omega
  ·obtain ⟨k,a,b,c⟩:=h1.tagO hk
   have:t.tag s=k:=by
    rw [Tok.tag,if_pos hk,Tok.text_eq]
    simp only at c
    rw [c]; exact aXz k a b
   omega
 ·rcases h.txt with h1 | h1
  ·omega
  ·have:=(h1.open_ hk).1; simp at this; omega
theorem aIg (s:List UInt8):∀ (n t i:Nat),t≤i→i≤s.length→(∀ x,x∈aF8 s n t i→x.good s)∧lenT (aF8 s n t i)≤s.length-t
 | 0,t,i,_,_=>by simp [aF8,lenT]
 | n+1,t,i,h1,h2=>by
   rw [aF8]
   split
   ·rename_i hi
    split
    ·obtain ⟨g1,g2⟩:=aIg s n t (i+1) (by omega) (by omega)
     exact ⟨g1,g2⟩
    ·rename_i hf
     have fs:=aH2 hf
     have hle:=fs.le
     have hpos:=fs.pos
     rw [List.length_drop] at hle
     obtain ⟨g1,g2⟩:=aIg s n (i+(aA0 (s.drop i)).2) (i+(aA0 (s.drop i)).2) (Nat.le_refl _) (by omega)
     constructor
     ·intro x hx
      simp only [List.mem_append,List.mem_cons] at hx
      rcases hx with hx | rfl | hx
      ·split at hx
       ·simp only [List.mem_singleton] at hx
        subst hx
        exact ⟨by assumption,by simp; omega,.inl rfl⟩
       ·simp at hx
      ·exact ⟨by simp; omega,by simp; omega,.inr (by simpa using fs)⟩
      ·exact g1 x hx
     ·rw [aJv]
      have:lenT (if t<i then [⟨1,t,i⟩] else [])=i-t:=by
       split
       ·simp [lenT]
       ·simp [lenT]; omega
      rw [this]
      simp only [lenT]
      omega
   ·split
    ·rename_i hi ht
     constructor
     ·intro x hx
      simp only [List.mem_singleton] at hx
      subst hx
      exact ⟨ht,Nat.le_refl _,.inl rfl⟩
     ·simp [lenT]
    ·simp [lenT]
theorem aKf (s:List UInt8):(∀ x,x∈scan s→x.good s)∧lenT (scan s)≤s.length:=by
 have:=aIg s (s.length+1) 0 0 (Nat.le_refl _) (Nat.zero_le _)
 simpa [scan] using this
end Go.Ab
namespace Go.Ab
variable {P:Program} {F T:Nat→Nat}
structure TokCode (P:Program) (F T:Nat→Nat):Prop where
 h56:Is56 P F T
 h67:Is67 P F T
 h68:Is68 P F T
 h72:Is72 P F T
 h97:Is97 P F T
 h98:Is98 P F T
 h104:bCi P F T
 h105:bA6 P F T
 h107:aVg P F T
 h116:aR2 P F T
 idx:Idx P F
theorem aJc (a:List Tok) (t:Tok):tvs (a++[t])=tvs a++[.agg t.vs]:=by simp [tvs]
theorem t56 (K:TokCode P F T) (s:List UInt8) (hs:s.length≤8192):PTr P (F 56) [.str s] (.tup [.lst 3 (tvs (scan s)),.int .i64 0]):=by
 refine ptrC [] K.h56 (by simp) (by simp [V.imm,V.imms,aM7]) ?_
 have hs':¬ (8192:Int)<((s.length:Nat):Int):=by omega
 simp only [c56,push_cast,seval,-Nat.reducePow,hs']
 refine aAk (fun m s1=>∃ a t i n id,scan s=a++aF8 s n t i∧m=s.length-i∧t≤i∧i≤s.length∧s.length-i<n∧a.length≤2*i∧s1.env 0=.str s∧s1.env 5=.int .i64 t∧s1.env 6=.int .i64 i∧s1.env 4=.own id 3 0 a.length∧s1.L id=some (.vec (T 8) 3 (tvs a))∧id<s1.nx) s.length ⟨[],0,0,s.length+1,183,?_⟩ fun m s1 hJ=>?_
 ·simp only [push_cast,seval,-Nat.reducePow,scan,Nat.sub_zero]
  exact ⟨by omega,rfl⟩
 ·obtain ⟨a,t,i,n,id,hsc,rfl,hti,hil,hn,hal,j0,j5,j6,j4,jL,hid⟩:=hJ
  obtain ⟨n,rfl⟩:∃ k,n=k+1:=⟨n-1,by omega⟩
  have tk:List.take a.length (tvs a)=tvs a:=List.take_of_length_le (by simp [aGl])
  have view_fin:∀ (L:Heap) (j:Nat) (b:List Tok),L j=some (.vec (T 8) 3 (tvs b))→view L 3 (.tup [.own j 3 0 b.length,.int .i64 0])=.tup [.lst 3 (tvs b),.int .i64 0]:=fun L j b h=>by
   have:=aJ9 (sz:=3) h (aM7 b)
   rw [aGl] at this
   simp only [view,List.map_cons,List.map_nil] at this ⊢
   rw [this]
  by_cases hi:i<s.length
  ·have hi':((i:Nat):Int)<((s.length:Nat):Int):=by omega
   simp only [push_cast,seval,-Nat.reducePow,j0,j5,j6,hi',List.take_length]
   refine ⟨by omega,?_⟩
   have hne:s.drop i≠[]:=by intro e; have:=congrArg List.length e; simp at this; omega
   refine aAc (t67 K.h67 K.h104 K.h105 K.h107 K.h97 K.h98 K.h116 K.idx (s.drop i) (by simp; omega) hne) (by simp only [push_cast,seval,-Nat.reducePow]) (by simp only [push_cast,seval,-Nat.reducePow,aDa]) ?_
   simp only [push_cast,seval,-Nat.reducePow,aDa]
   rw [aF8,if_pos hi] at hsc
   generalize hq:aA0 (s.drop i)=q at *
   refine aAd (fun h0=>?_) (fun h0=>?_)
   ·have h0':q.1=0:=by omega
    rw [if_pos h0'] at hsc
    simp only [push_cast,seval,-Nat.reducePow,j0,j5,j6]
    refine ⟨by omega,s.length-(i+1),by omega,a,t,i+1,n,id,hsc,rfl,by omega,by omega,by omega,by omega,rfl,by simp,j4,jL,by omega⟩
   ·have h0':q.1≠0:=by omega
    rw [if_neg h0'] at hsc
    have fs:=aH2 (s:=s.drop i) (by rw [hq]; exact h0')
    rw [hq] at fs
    have hle:=fs.le
    have hpos:=fs.pos
    rw [List.length_drop] at hle
    by_cases ht:t<i
    ·have ht':((t:Nat):Int)<((i:Nat):Int):=by omega
     rw [if_pos ht] at hsc
     have hb:tvs a++[.agg [.int .i64 1,.int .i64 t,.int .i64 i]]=tvs (a++[⟨1,t,i⟩]):=by rw [aJc]; rfl
     have hb2:tvs (a++[⟨1,t,i⟩])++[.agg [.int .i64 q.1,.int .i64 i,.int .i64 ((i:Int)+(q.2:Nat))]]=tvs (a++[⟨1,t,i⟩]++[⟨q.1,i,i+q.2⟩]):=by rw [aJc (a++_)]; rfl
     have tk2:List.take (a.length+1) (tvs (a++[⟨1,t,i⟩]))=tvs (a++[⟨1,t,i⟩]):=List.take_of_length_le (by simp [aGl])
     have x1:s1.nx+279≠id:=by omega
     simp only [push_cast,seval,-Nat.reducePow,j0,j4,j5,j6,jL,ht',tk,hb,hb2,tk2]
     refine ⟨by omega,by omega,by simp,by omega,by omega,s.length-(i+q.2),by omega,a++[⟨1,t,i⟩]++[⟨q.1,i,i+q.2⟩],i+q.2,i+q.2,n,s1.nx+349,by rw [hsc]; simp,rfl,by omega,by omega,by omega,by simp; omega,by simp,by simp,by simp,by simp only [aBe,if_true],by omega⟩
    ·have ht':¬ ((t:Nat):Int)<((i:Nat):Int):=by omega
     rw [if_neg ht,List.nil_append] at hsc
     have hb:tvs a++[.agg [.int .i64 q.1,.int .i64 i,.int .i64 ((i:Int)+(q.2:Nat))]]=tvs (a++[⟨q.1,i,i+q.2⟩]):=by rw [aJc]; rfl
     simp only [push_cast,seval,-Nat.reducePow,j0,j4,j5,j6,jL,ht',tk,hb]
     refine ⟨by omega,by omega,by omega,s.length-(i+q.2),by omega,a++[⟨q.1,i,i+q.2⟩],i+q.2,i+q.2,n,s1.nx+288,by rw [hsc]; simp,rfl,by omega,by omega,by omega,by simp; omega,by simp,by simp,by simp,by simp only [aBe,if_true],by omega⟩
  ·have hi':¬ ((i:Nat):Int)<((s.length:Nat):Int):=by omega
   rw [aF8,if_neg hi] at hsc
   by_cases ht:t<s.length
   ·have ht':((t:Nat):Int)<((s.length:Nat):Int):=by omega
    rw [if_pos ht] at hsc
    have hb:tvs a++[.agg [.int .i64 1,.int .i64 t,.int .i64 s.length]]=tvs (a++[⟨1,t,s.length⟩]):=by rw [aJc]; rfl
    simp only [push_cast,seval,-Nat.reducePow,j0,j4,j5,j6,jL,hi',ht',tk,hb]
    refine ⟨by omega,?_⟩
    rw [hsc]
    have:=view_fin (upd (upd s1.L id none) (s1.nx+181) (some (Blk.vec (T 8) 3 (tvs (a++[⟨1,t,s.length⟩]))))) (s1.nx+181) (a++[⟨1,t,s.length⟩]) (by simp only [aBe,if_true])
    simpa using this
   ·have ht':¬ ((t:Nat):Int)<((s.length:Nat):Int):=by omega
    rw [if_neg ht,List.append_nil] at hsc
    simp only [push_cast,seval,-Nat.reducePow,j0,j4,j5,j6,jL,hi',ht',tk]
    rw [hsc]
    exact view_fin _ _ _ jL
structure ParCode (P:Program) (F T:Nat→Nat):Prop where
 h36:Is36 P F T
 par:ParFns P F T
 tok:TokCode P F T
theorem bCm (H:ParCode P F T) (s:List UInt8) (hs:s.length≤8192):PTr P (F 36) [.str s] (.tup [ln 5 (vns (aCc s)),.int .i64 0]):=by
 obtain ⟨g1,g2⟩:=aKf s
 have K:TokFns P F:=⟨fun s t h1 h2 h3=>t68 H.tok.h68 s t h1 h2 h3,fun s t h1 h2 h3 h4 h5=>t72 H.tok.h72 H.tok.h68 H.tok.h107 H.tok.h97 H.tok.h98 H.tok.h116 s t h1 h2 h3 h4 h5⟩
 exact t36 H.h36 H.par K (fun s hs=>t56 H.tok s hs) s hs (fun t ht=>(g1 t ht).wf) g2
end Go.Ab
