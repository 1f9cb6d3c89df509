/- Several texts of one kind, merged. No condition. -/
import Derived.Test.YtcmnepgnkcoiiaaGreatDoorAbP2
import Derived.Test.YtcmnepgnkcoiiaaGreatDoorAbP1
set_option linter.unusedSimpArgs false
set_option linter.unusedVariables false
namespace Go.Ab
theorem SInv.drop {els els':List El} {k:Nat} (h:SInv els) (he:kc els'=(kc els).drop k) (hk:k<els.length):SInv els':=by
 obtain ⟨a,ha⟩:=h.root
 have hl:els.length=a.length+1:=by
  have:=congrArg List.length ha
  simpa [kc] using this
 refine ⟨h.cn.drop he,a.drop k,?_⟩
 rw [he,ha,List.drop_append_of_le_length (by omega)]
theorem SInv.same {els els':List El} (h:SInv els) (he:kc els'=kc els):SInv els':=⟨fun q hq=>h.cn q (he ▸ hq),by rw [he]; exact h.root⟩
theorem SInv.push {els els':List El} {q:Nat×Nat} (h:SInv els) (he:kc els'=q::kc els) (hq:q.1=3→2≤q.2):SInv els':=by
 obtain ⟨a,ha⟩:=h.root
 refine ⟨fun x hx=>?_,q::a,by rw [he,ha]; rfl⟩
 rw [he] at hx
 rcases List.mem_cons.1 hx with rfl | hx
 ·exact hq
 ·exact h.cn x hx
theorem tagIdx_lt {t:Nat} {els:List El} {k:Nat} (h:tagIdx t els=some k):k+1<els.length:=by
 rcases lastT_idx t els with ⟨g,_⟩ | ⟨j,g1,g2,g3⟩
 ·rw [g] at h; simp at h
 ·rw [g1] at h; simp at h; omega
theorem braceIdx_lt {els:List El} {k:Nat} (h:braceIdx els=some k):k+1<els.length:=by
 rcases lastB_idx els with ⟨g,_⟩ | ⟨j,g1,g2,g3⟩
 ·rw [g] at h; simp at h
 ·rw [g1] at h; simp at h; omega
theorem flatN_cons {k:Nat} {els:List El} (h:k<els.length):∃ e r,flatN k els=e::r∧kc (e::r)=(kc els).drop k∧r.length+k+1=els.length:=by
 have hl:=flatN_length k (els:=els)
 cases hf:flatN k els with
 | nil=>rw [hf] at hl; simp at hl; omega
 | cons e r =>
   refine ⟨e,r,rfl,by rw [← hf]; exact kc_flatN k,?_⟩
   rw [hf] at hl; simp at hl; omega
theorem closeF_inv:∀ (n c:Nat) {st:List El},SInv st→SInv (closeF n c st)∧pot (closeF n c st)≤pot st+c+1
 | 0,c,st,h=>by
   refine ⟨h.same kc_add,?_⟩
   have:=addS_pot (tx (List.replicate c 125)) st
   simp [tx,Node.bulk,bulks,bulkA] at this
   simp only [closeF]; exact this
 | n+1,c,st,h=>by
   have stop:SInv (addS (tx (List.replicate c 125)) st)∧pot (addS (tx (List.replicate c 125)) st)≤pot st+c+1:=by
    refine ⟨h.same kc_add,?_⟩
    have:=addS_pot (tx (List.replicate c 125)) st
    simp [tx,Node.bulk,bulks,bulkA] at this
    exact this
   rw [closeF]
   split
   ·cases hb:braceIdx st with
    | none=>exact stop
    | some k =>
      have hk:=braceIdx_lt hb
      obtain ⟨e,r,h1,h2,h3⟩:=flatN_cons (k:=k) (els:=st) (by omega)
      have hp:=flatN_pot k st
      rw [h1] at hp
      simp only [h1]
      have hun:(useN c e).bulk=bulks e.list+bulkA e.args+1:=by simp [useN,Node.bulk]
      have hq:2≤useK c e.count∧useK c e.count≤3:=by unfold useK; split <;> omega
      have hdr:kc r=(kc st).drop (k+1):=by
       have:=congrArg List.tail h2
       simpa [kc,List.tail_drop] using this
      have hr:SInv r:=h.drop hdr hk
      simp only [pot,El.pot] at hp
      split
      ·obtain ⟨g1,g2⟩:=closeF_inv n (c-useK c e.count) (st:={ e with count:=e.count-useK c e.count,list:=[useN c e],args:=[] }::r) (hr.push (q:=(e.kind,e.count-useK c e.count)) rfl fun _=>by assumption)
       refine ⟨g1,Nat.le_trans g2 ?_⟩
       simp only [pot,El.pot,bulks,bulkA,hun,List.length_nil]
       omega
      ·have p1:=addS_pot (tx [123]) r
       have tb:(tx [123]).bulk=2:=rfl
       rw [tb] at p1
       obtain ⟨g1,g2⟩:=closeF_inv n (c-useK c e.count) (st:=addS (useN c e) (if e.count-useK c e.count=1 then addS (tx [123]) r else r)) (hr.same (by split <;> simp [kc_add]))
       have p2:=addS_pot (useN c e) (if e.count-useK c e.count=1 then addS (tx [123]) r else r)
       have p3:pot (if e.count-useK c e.count=1 then addS (tx [123]) r else r)≤pot r+2:=by split <;> omega
       refine ⟨g1,Nat.le_trans g2 ?_⟩
       omega
   ·exact stop
theorem onLast_bulk {g:Arg→Arg} (h:∀ a,(g a).bulk≤a.bulk) (l:List Arg):bulkA (onLast g l)≤bulkA l∧(onLast g l).length=l.length:=by
 rcases List.eq_nil_or_concat l with rfl | ⟨i,a,rfl⟩
 ·exact ⟨Nat.le_refl _,rfl⟩
 ·rw [List.concat_eq_append,onLast_snoc,bulkA_append,bulkA_append]
  have:=h a
  refine ⟨?_,by simp⟩
  simp only [bulkA]
  omega
theorem takeF_inv {s:List UInt8} {t:Tok} {st:List El} (hw:t.wf s) (h:SInv st):SInv (takeF s t st)∧pot (takeF s t st)≤pot st+2*(t.text s).length+33:=by
 have txt:∀ q:List UInt8,SInv (addS (tx q) st)∧pot (addS (tx q) st)≤pot st+q.length+1:=fun q=>by
  refine ⟨h.same kc_add,?_⟩
  have:=addS_pot (tx q) st
  simp [tx,Node.bulk,bulks,bulkA] at this
  exact this
 have opn:∀ e:El,e.list=[]→e.args=[]→(e.kind=3→2≤e.count)→e.count≤(t.text s).length→SInv (openF e (t.text s) st)∧pot (openF e (t.text s) st)≤pot st+2*(t.text s).length+33:=by
  intro e h1 h2 h3 h4
  unfold openF
  split
  ·have:=txt (t.text s); exact ⟨this.1,by omega⟩
  ·refine ⟨h.push (q:=(e.kind,e.count)) rfl h3,?_⟩
   simp only [pot,El.pot,h1,h2,bulks,bulkA,List.length_nil]; omega
 have hne:=h.ne
 unfold takeF
 split
 ·refine ⟨h.same kc_add,?_⟩
  have:=addS_pot (.mk 2 0 (t.text s) [] []) st
  simp [Node.bulk,bulks,bulkA] at this; omega
 split
 ·refine ⟨h.same kc_add,?_⟩
  have:=addS_pot (.mk 3 0 (((t.text s).take ((t.text s).length-9)).drop 8) [] []) st
  simp [Node.bulk,bulks,bulkA] at this; omega
 split
 ·rename_i hk
  exact opn _ rfl rfl (fun _=>hw.open_ hk) (Nat.le_refl _)
 split
 ·exact opn _ rfl rfl (fun h=>by simp at h) (Nat.zero_le _)
 split
 ·exact opn _ rfl rfl (fun h=>by simp at h) (Nat.zero_le _)
 split
 ·cases st with
  | nil=>exact absurd rfl hne
  | cons e r =>
    simp only [barF]
    split
    ·refine ⟨h.same rfl,?_⟩
     simp only [pot,El.pot,bulkA_append,bulkA,Arg.bulk,bulks,List.length_append,List.length_singleton]; omega
    ·have:=txt [124]; exact ⟨this.1,by have:=this.2; simp at this ⊢; omega⟩
 split
 ·cases st with
  | nil=>exact absurd rfl hne
  | cons e r =>
    simp only [eqF]
    split
    ·refine ⟨h.same rfl,?_⟩
     have:=onLast_bulk (g:=fun a=>.mk true a.val []) (fun a=>by obtain ⟨b,n,v⟩:=a; simp [Arg.bulk,Arg.val,bulks]) e.args
     simp only [pot,El.pot]; omega
    ·have:=txt [61]; exact ⟨this.1,by have:=this.2; simp at this ⊢; omega⟩
 split
 ·cases st with
  | nil=>exact absurd rfl hne
  | cons e r =>
    simp only [linkF]
    split
    ·rename_i hk
     have hr:SInv r:=h.drop (k:=1) rfl (by have:=h.kind1 hk; cases r with | nil=>exact absurd rfl this | cons a b=>simp)
     refine ⟨hr.same kc_adds,?_⟩
     have:=addsS_pot (tx [91,91]::(e.list++[tx [93,93]])) r
     have tb:bulks (tx [91,91]::(e.list++[tx [93,93]]))=bulks e.list+6:=by simp [bulks,bulks_append,tx,Node.bulk,bulkA]; omega
     rw [tb] at this
     simp only [pot,El.pot]; omega
    ·have:=txt [93,93]; exact ⟨this.1,by have:=this.2; simp at this ⊢; omega⟩
 split
 ·unfold tagF
  cases hb:tagIdx (t.tag s) st with
  | none=>have:=txt (t.text s); exact ⟨this.1,by have:=this.2; simp only; omega⟩
  | some k =>
    have hk:=tagIdx_lt hb
    obtain ⟨e,r,h1,h2,h3⟩:=flatN_cons (k:=k) (els:=st) (by omega)
    have hp:=flatN_pot k st
    rw [h1] at hp
    simp only [h1]
    have hdr:kc r=(kc st).drop (k+1):=by
     have:=congrArg List.tail h2
     simpa [kc,List.tail_drop] using this
    have hr:SInv r:=h.drop hdr hk
    refine ⟨hr.same kc_add,?_⟩
    have:=addS_pot (.mk 6 (t.tag s) [] e.list []) r
    simp only [Node.bulk,bulkA,List.length_nil] at this
    simp only [pot,El.pot] at hp; omega
 split
 ·obtain ⟨g1,g2⟩:=closeF_inv (t.text s).length (t.text s).length h
  exact ⟨g1,by omega⟩
 ·have:=txt (t.text s); exact ⟨this.1,by omega⟩
theorem root_inv:SInv [root]:=⟨fun q hq=>by simp [kc,root] at hq; subst hq; simp,[],rfl⟩
theorem root_pot:pot [root]=30:=rfl
def lenT:List Tok→Nat
 | []=>0
 | t::r=>(t.to-t.fr)+lenT r
theorem lenT_append (a b:List Tok):lenT (a++b)=lenT a+lenT b:=by
 induction a with
 | nil=>simp [lenT]
 | cons x r ih=>simp [lenT,ih]; omega
theorem runF_nil {s:List UInt8} {st:List El}:runF s [] st=st:=rfl
theorem runF_snoc {s:List UInt8} {a:List Tok} {t:Tok} {st:List El}:runF s (a++[t]) st=takeF s t (runF s a st):=by simp [runF,List.foldl_append]
theorem runF_inv {s:List UInt8}:∀ (l:List Tok) {st:List El},(∀ t,t∈l→t.wf s)→SInv st→SInv (runF s l st)∧pot (runF s l st)≤pot st+35*lenT l
 | [],st,_,h=>⟨h,by simp [runF,lenT]⟩
 | t::r,st,hw,h=>by
   have hwt:=hw t (by simp)
   obtain ⟨h1,h2⟩:=takeF_inv hwt h
   obtain ⟨g1,g2⟩:=runF_inv r (st:=takeF s t st) (fun x hx=>hw x (by simp [hx])) h1
   have hl:=Tok.text_length hwt.le
   have:=hwt.lt
   refine ⟨g1,?_⟩
   have e:runF s (t::r) st=runF s r (takeF s t st):=rfl
   rw [e]
   simp only [lenT]
   omega
end Go.Ab
namespace Go.Ab
variable {P:Program} {F T:Nat→Nat}
def tvs (l:List Tok):List V:=l.map fun t=>.agg t.vs
theorem tvs_length (l:List Tok):(tvs l).length=l.length:=by simp [tvs]
theorem imms_tvs (l:List Tok):V.imms (tvs l)=true:=imms_map _ _ fun t=>by simp [Tok.vs,V.imm,V.imms]
theorem tvs_at (a:List Tok) (t:Tok) (r:List Tok):(tvs (a++t::r)).getD a.length .junk=.agg t.vs:=by
 simp only [tvs,List.map_append,List.map_cons]
 exact getD_mid (by simp)
attribute [push_cast] tvs_length imms_tvs tvs_at
def ScanFn (P:Program) (F:Nat→Nat):Prop:=∀ s:List UInt8,s.length≤8192→PTr P (F 56) [.str s] (.tup [.lst 3 (tvs (scan s)),.int .i64 0])
theorem view2_own {L:Heap} {i ty z sz:Nat} {es:List V} (h:L i=some (.vec ty z es)) (hi:V.imms es=true):view L 2 (.own i sz 0 es.length)=.lst sz es:=by
 simp only [view,h,Nat.zero_add,Nat.le_refl,if_true,List.drop_zero,List.take_length]
 rw [show es.map (view L 1)=es.map id from List.map_congr_left fun x hx=>view_imm 1 x (imms_mem hi hx),List.map_id]
theorem t36 (hf:Is36 P F T) (H:ParFns P F T) (K:TokFns P F) (hsc:ScanFn P F) (s:List UInt8) (hs:s.length≤8192) (hw:∀ t,t∈scan s→t.wf s) (hl:lenT (scan s)≤s.length) :
 PTr P (F 36) [.str s] (.tup [ln 5 (vns (parseF s)),.int .i64 0]):=by
 refine ptrC [] hf (by simp) (by simp [V.imm,V.imms,imm_ln,imms_vns]) ?_
 simp only [c36,push_cast,seval,-Nat.reducePow]
 refine callK_intro (hsc s hs) (by simp only [push_cast,seval,-Nat.reducePow]) (by simp only [push_cast,seval,-Nat.reducePow]) ?_
 simp only [push_cast,seval,-Nat.reducePow]
 refine loopK_intro (fun m s1=>∃ a r f p,scan s=a++r∧m=r.length∧s1.env 0=.str s∧s1.env 6=.ptr p 0∧s1.env 22=.lst 3 (tvs (a++r))∧s1.env 23=.int .i64 (a++r).length∧s1.env 24=.int .i64 a.length∧Stk T false s1.L s1.nx f p (runF s a [root])) (scan s).length ⟨[],scan s,[159,157,156],159,?_⟩ fun m s1 hJ=>?_
 ·simp only [push_cast,seval,-Nat.reducePow,runF_nil]
  refine ⟨157,[],[⟨root,156,none,none,none⟩],⟨rfl,rfl,rfl,rfl,?_,?_,by simp,?_,?_⟩⟩
  ·intro h hh
   simp only [List.mem_singleton] at hh
   subst hh
   exact ⟨rfl,fun i hi=>by simp at hi,fun i hi=>by simp at hi,fun i hi=>by simp at hi⟩
  ·intro h hh
   simp at hh
   subst hh
   exact ⟨fun _=>rfl,fun _=>rfl,fun _=>rfl⟩
  ·intro i hi
   simp at hi
   omega
  ·intro e he
   simp only [List.mem_singleton] at he
   subst he
   exact ⟨fun h=>by simp [root] at h,fun n hn=>by simp [root] at hn,fun a ha=>by simp [root] at ha⟩
 ·obtain ⟨a,r,f,p,ha,rfl,j0,j6,j22,j23,j24,hst⟩:=hJ
  have hwa:∀ t,t∈a→t.wf s:=fun t ht=>hw t (by rw [ha]; simp [ht])
  obtain ⟨hinv,hpot⟩:=runF_inv (s:=s) a hwa root_inv
  rw [root_pot] at hpot
  have hla:lenT a+lenT r≤8192:=by rw [ha,lenT_append] at hl; omega
  have hne:=hinv.ne
  have lenle:∀ l:List Tok,(∀ t,t∈l→t.wf s)→l.length≤lenT l:=by
   intro l
   induction l with
   | nil=>intro _; simp
   | cons t l ih =>
     intro h
     have:=ih fun x hx=>h x (by simp [hx])
     have:=(h t (by simp)).lt
     simp only [lenT,List.length_cons]; omega
  have hal:=lenle a hwa
  cases r with
  | nil =>
    simp only [List.append_nil] at ha j22 j23
    simp only [push_cast,seval,-Nat.reducePow,j0,j6,j22,j23,j24]
    refine loopK_intro (fun m s2=>∃ f els,m=els.length∧s2.env 6=.ptr p 0∧1≤els.length∧flatN (els.length-1) els=flatN ((runF s a [root]).length-1) (runF s a [root])∧pot els≤pot (runF s a [root])∧Stk T false s2.L s2.nx f p els) (runF s a [root]).length ⟨f,runF s a [root],?_⟩ fun m s2 hJ=>?_
    ·simp only [push_cast,seval,-Nat.reducePow,j6]
     exact ⟨List.length_pos_iff.2 hne,hst.grow (by omega) fun _ _=>rfl⟩
    ·obtain ⟨f2,els,rfl,i6,hl1,hfl,hp2,st2⟩:=hJ
     have hne2:els≠[]:=List.length_pos_iff.1 hl1
     obtain ⟨sid,jk,h,t,hp,r9⟩:=st2.split hne2
     have hel:els.length=t.length+1:=by rw [r9]; simp
     have hbx:=hp.box
     simp only [List.length_cons] at hbx
     have hlen:=pot_len els
     simp only [push_cast,seval,-Nat.reducePow,i6,hbx]
     refine condK_dec (fun hc=>?_) (fun hc=>?_)
     ·simp only [push_cast,seval,-Nat.reducePow,i6]
      refine ecallK_intro (flat_round H.h58 H.h78 H.h80 H.h79 H.h69 H.h70 H.h59 H.h106 H.rep (st2.grow (by omega) fun _ _=>rfl) (by omega) (by omega)) ?_
      rintro _ L3 n3 ⟨f3,k1,k2⟩
      simp only [push_cast,seval,-Nat.reducePow,i6]
      have fl:(flat1 els).length=els.length-1:=flat1_length
      refine ⟨(flat1 els).length,by omega,f3,flat1 els,rfl,by omega,?_,Nat.le_trans (flat1_pot _) hp2,k1.grow (by omega) fun _ _=>rfl⟩
      rw [← hfl,show els.length-1=(flat1 els).length-1+1 by omega]
      rfl
     ·have ht:t=[]:=by cases t with | nil=>rfl | cons a b=>simp at hel hc; omega
      subst ht
      have hels:els=[h.e]:=r9
      simp only [push_cast,seval,-Nat.reducePow,i6]
      refine ecallK_intro (t59 H.h59 (hp.grow (by omega)) (by simp)) ?_
      rintro _ L3 n3 ⟨rfl,rfl,hn3⟩
      have hat:=hp.at_ h (by simp)
      have hlv:h.live:=hp.live h (by simp)
      have hbe:=hat.box
      simp only [EH.cells] at hbe
      have hres:parseF s=h.e.list:=by
       rw [hels] at hfl
       simp only [parseF,ha,finF,← hfl,List.length_singleton,Nat.sub_self,flatN]
      simp only [push_cast,seval,-Nat.reducePow,i6,hbe]
      rw [hres]
      rcases opt_cases h.li with hv | ⟨i,hv⟩
      ·have:=hlv.li hv
       simp [EH.lv,hv,lvO,this,vns,ln,view]
      ·obtain ⟨q1,q2⟩:=hat.li i hv
       have e1:h.lv=.own i 5 0 (vns h.e.list).length:=by simp [EH.lv,hv,lvO,vns_length]
       have e2:vns h.e.list≠[]:=fun e=>q2 (by cases hl:h.e.list with | nil=>rfl | cons x r=>rw [hl] at e; simp [vns] at e)
       simp only [e1,view,List.map_cons,List.map_nil,ln_ne e2]
       have:=view2_own (sz:=5) q1 (imms_vns _)
       simp only [view] at this ⊢
       rw [this]
  | cons x r =>
    have hwx:x.wf s:=hw x (by rw [ha]; simp)
    simp only [lenT] at hla
    simp only [push_cast,seval,-Nat.reducePow,j0,j6,j22,j23,j24,Tok.vs]
    refine ecallK_intro (t57 H K (hst.grow (by omega) fun i hi=>(fr1 hi).trans (fr1 hi)) s x hs hwx (by omega) hinv) ?_
    rintro _ L3 n3 ⟨f3,k1,k2⟩
    simp only [push_cast,seval,-Nat.reducePow,j0,j6,j22,j23,j24]
    refine ⟨by omega,r.length,by omega,a++[x],r,f3,p,by rw [ha]; simp,rfl,rfl,by simp,by simp,by simp,?_⟩
    rw [runF_snoc]
    exact k1.grow (by omega) fun _ _=>rfl
end Go.Ab
namespace Go.Ab
def c56 (F T:Nat→Nat):C :=
 .seq (.ops false [⟨none,[.mov (some 2) (.k .nils),.mov (some 3) (.k (.int .i64 0))]⟩]) <|
 .seq (.seq (.ops false [⟨none,[.mov (some 9) (.t 0),.len (some 10) true (.t 9),.bin (some 11) .gtr (.t 10) (.k (.int .i64 8192))]⟩]) <|
 .cond (.t 11)
 (.seq (.ops false [⟨none,[.mov (some 2) (.k .nils),.mov (some 3) (.k (.int .i64 3))]⟩]) <|
 .ret)
 (.skip)) <|
 .seq (.gha (.own 4 (T 8) 3) <| .ops false [⟨none,[.mov (some 4) (.k .nils)]⟩]) <|
 .seq (.ops false [⟨none,[.mov (some 5) (.k (.int .i64 0))]⟩]) <|
 .seq (.seq (.ops false [⟨none,[.mov (some 6) (.k (.int .i64 0))]⟩]) <|
 .block 0 <|
 .loop <|
 .seq (.seq (.ops false [⟨none,[.mov (some 12) (.t 6),.mov (some 13) (.t 0),.len (some 14) true (.t 13),.bin (some 15) .lss (.t 12) (.t 14)]⟩]) <|
 .cond (.t 15)
 (.skip)
 (.exit 0)) <|
 .block 1 <|
 .seq (.ops false [⟨none,[.mov (some 17) (.t 0),.mov (some 18) (.t 6),.slcS (some 19) (.t 17) (some (.t 18)) none,.call (some 20) true (F 67) [(.t 19)],.mov (some 16) (.t 20),.ext (some 21) 0 (.t 16),.ext (some 22) 1 (.t 16),.mov (some 7) (.t 21),.mov (some 8) (.t 22)]⟩]) <|
 .seq (.seq (.ops false [⟨none,[.mov (some 23) (.t 7),.bin (some 24) .eql (.t 23) (.k (.int .i64 0))]⟩]) <|
 .cond (.t 24)
 (.seq (.ops false [⟨none,[.mov (some 25) (.t 6),.bin (some 26) .add (.t 25) (.k (.int .i64 1)),.mov (some 6) (.t 26)]⟩]) <|
 .exit 1)
 (.skip)) <|
 .seq (.seq (.ops false [⟨none,[.mov (some 27) (.t 5),.mov (some 28) (.t 6),.bin (some 29) .lss (.t 27) (.t 28)]⟩]) <|
 .cond (.t 29)
 (.ops false [⟨none,[.mov (some 30) (.t 4),.mov (some 31) (.t 5),.mov (some 32) (.t 6),.build (some 33) [(.int .i64 0),(.int .i64 0),(.int .i64 0)] [(0,1,(.k (.int .i64 1))),(1,1,(.t 31)),(2,1,(.t 32))],.mkl (some 34) 3 [(.t 33)],.app 35 (T 8) 3 (.t 30) (.t 34),.mov (some 4) (.t 35)]⟩])
 (.skip)) <|
 .seq (.ops false [⟨none,[.mov (some 36) (.t 4),.mov (some 37) (.t 7),.mov (some 38) (.t 6),.mov (some 39) (.t 6),.mov (some 40) (.t 8),.bin (some 41) .add (.t 39) (.t 40),.build (some 42) [(.int .i64 0),(.int .i64 0),(.int .i64 0)] [(0,1,(.t 37)),(1,1,(.t 38)),(2,1,(.t 41))],.mkl (some 43) 3 [(.t 42)],.app 44 (T 8) 3 (.t 36) (.t 43),.mov (some 4) (.t 44)]⟩]) <|
 .seq (.ops false [⟨none,[.mov (some 45) (.t 6),.mov (some 46) (.t 8),.bin (some 47) .add (.t 45) (.t 46),.mov (some 6) (.t 47)]⟩]) <|
 .ops false [⟨none,[.mov (some 48) (.t 6),.mov (some 5) (.t 48)]⟩]) <|
 .seq (.seq (.ops false [⟨none,[.mov (some 49) (.t 5),.mov (some 50) (.t 0),.len (some 51) true (.t 50),.bin (some 52) .lss (.t 49) (.t 51)]⟩]) <|
 .cond (.t 52)
 (.ops false [⟨none,[.mov (some 53) (.t 4),.mov (some 54) (.t 5),.mov (some 55) (.t 0),.len (some 56) true (.t 55),.build (some 57) [(.int .i64 0),(.int .i64 0),(.int .i64 0)] [(0,1,(.k (.int .i64 1))),(1,1,(.t 54)),(2,1,(.t 56))],.mkl (some 58) 3 [(.t 57)],.app 59 (T 8) 3 (.t 53) (.t 58),.mov (some 4) (.t 59)]⟩])
 (.skip)) <|
 .seq (.ops false [⟨none,[.mov (some 60) (.t 4),.mov (some 2) (.t 60),.mov (some 3) (.k (.int .i64 0))]⟩]) <|
 .ret
abbrev Is56 (P:Program) (F T:Nat→Nat):Prop:=Fn P (F 56) 61 [(2,none),(3,none)] (c56 F T)
def c67 (F T:Nat→Nat):C :=
 .seq (.ops false [⟨none,[.mov (some 2) (.k (.int .i64 0)),.mov (some 3) (.k (.int .i64 0))]⟩]) <|
 .seq (.seq (.ops false [⟨none,[.mov (some 6) (.t 0),.idx (some 7) (.t 6) (.k (.int .i64 0))]⟩]) <|
 .block 0 <|
 .seq (.ops false [⟨none,[.bin (some 9) .eql (.t 7) (.k (.int .u8 60)),.mov (some 8) (.t 9)]⟩]) <|
 .cond (.t 8)
 (.seq (.ops false [⟨none,[.mov (some 10) (.t 0),.call (some 11) true (F 104) [(.t 10)],.ext (some 12) 0 (.t 11),.ext (some 13) 1 (.t 11),.mov (some 2) (.t 12),.mov (some 3) (.t 13)]⟩]) <|
 .ret)
 (.seq (.ops false [⟨none,[.bin (some 15) .eql (.t 7) (.k (.int .u8 123)),.mov (some 14) (.t 15)]⟩]) <|
 .cond (.t 14)
 (.seq (.ops false [⟨none,[.mov (some 16) (.t 0),.call (some 17) true (F 105) [(.t 16),(.k (.int .u8 123))],.mov (some 4) (.t 17)]⟩]) <|
 .seq (.ops false [⟨none,[.mov (some 18) (.t 4),.bin (some 19) .geq (.t 18) (.k (.int .i64 2))]⟩]) <|
 .cond (.t 19)
 (.seq (.ops false [⟨none,[.mov (some 20) (.t 4),.mov (some 2) (.k (.int .i64 3)),.mov (some 3) (.t 20)]⟩]) <|
 .ret)
 (.skip))
 (.seq (.ops false [⟨none,[.bin (some 22) .eql (.t 7) (.k (.int .u8 125)),.mov (some 21) (.t 22)]⟩]) <|
 .cond (.t 21)
 (.seq (.ops false [⟨none,[.mov (some 23) (.t 0),.call (some 24) true (F 105) [(.t 23),(.k (.int .u8 125))],.mov (some 5) (.t 24)]⟩]) <|
 .seq (.ops false [⟨none,[.mov (some 25) (.t 5),.bin (some 26) .geq (.t 25) (.k (.int .i64 2))]⟩]) <|
 .cond (.t 26)
 (.seq (.ops false [⟨none,[.mov (some 27) (.t 5),.mov (some 2) (.k (.int .i64 4)),.mov (some 3) (.t 27)]⟩]) <|
 .ret)
 (.skip))
 (.seq (.ops false [⟨none,[.bin (some 29) .eql (.t 7) (.k (.int .u8 91)),.mov (some 28) (.t 29)]⟩]) <|
 .cond (.t 28)
 (.seq (.ops false [⟨none,[.mov (some 30) (.t 0),.call (some 31) true (F 105) [(.t 30),(.k (.int .u8 91))],.bin (some 32) .geq (.t 31) (.k (.int .i64 2))]⟩]) <|
 .cond (.t 32)
 (.seq (.ops false [⟨none,[.mov (some 2) (.k (.int .i64 5)),.mov (some 3) (.k (.int .i64 2))]⟩]) <|
 .ret)
 (.skip))
 (.seq (.ops false [⟨none,[.bin (some 34) .eql (.t 7) (.k (.int .u8 93)),.mov (some 33) (.t 34)]⟩]) <|
 .cond (.t 33)
 (.seq (.ops false [⟨none,[.mov (some 35) (.t 0),.call (some 36) true (F 105) [(.t 35),(.k (.int .u8 93))],.bin (some 37) .geq (.t 36) (.k (.int .i64 2))]⟩]) <|
 .cond (.t 37)
 (.seq (.ops false [⟨none,[.mov (some 2) (.k (.int .i64 6)),.mov (some 3) (.k (.int .i64 2))]⟩]) <|
 .ret)
 (.skip))
 (.seq (.ops false [⟨none,[.bin (some 39) .eql (.t 7) (.k (.int .u8 124)),.mov (some 38) (.t 39)]⟩]) <|
 .cond (.t 38)
 (.seq (.ops false [⟨none,[.mov (some 2) (.k (.int .i64 7)),.mov (some 3) (.k (.int .i64 1))]⟩]) <|
 .ret)
 (.seq (.ops false [⟨none,[.bin (some 41) .eql (.t 7) (.k (.int .u8 61)),.mov (some 40) (.t 41)]⟩]) <|
 .cond (.t 40)
 (.seq (.ops false [⟨none,[.mov (some 2) (.k (.int .i64 8)),.mov (some 3) (.k (.int .i64 1))]⟩]) <|
 .ret)
 (.seq (.ops false [⟨none,[.bin (some 43) .eql (.t 7) (.k (.int .u8 10)),.mov (some 42) (.t 43)]⟩]) <|
 .cond (.t 42)
 (.seq (.ops false [⟨none,[.mov (some 2) (.k (.int .i64 2)),.mov (some 3) (.k (.int .i64 1))]⟩]) <|
 .ret)
 (.skip))))))))) <|
 .seq (.ops false [⟨none,[.mov (some 2) (.k (.int .i64 0)),.mov (some 3) (.k (.int .i64 0))]⟩]) <|
 .ret
abbrev Is67 (P:Program) (F T:Nat→Nat):Prop:=Fn P (F 67) 44 [(2,none),(3,none)] (c67 F T)
def c68 (F T:Nat→Nat):C :=
 .seq (.ops false [⟨none,[.box 3 (T 8) (.t 1),.mov (some 4) (.k (.str []))]⟩]) <|
 .seq (.seq (.ops false [⟨none,[.fadr (some 5) 1 (.t 3),.load (some 6) false 1 false (.t 5),.bin (some 7) .lss (.t 6) (.k (.int .i64 0)),.mov (some 8) (.t 7)]⟩,
 ⟨some (8,false),[.fadr (some 9) 1 (.t 3),.load (some 10) false 1 false (.t 9),.fadr (some 11) 2 (.t 3),.load (some 12) false 1 false (.t 11),.bin (some 13) .gtr (.t 10) (.t 12)]⟩,
 ⟨none,[.pick (some 14) (.t 8) (.k (.bool true)) (.t 13),.mov (some 15) (.t 14)]⟩,
 ⟨some (15,false),[.fadr (some 16) 2 (.t 3),.load (some 17) false 1 false (.t 16),.mov (some 18) (.t 0),.len (some 19) true (.t 18),.bin (some 20) .gtr (.t 17) (.t 19)]⟩,
 ⟨none,[.pick (some 21) (.t 15) (.k (.bool true)) (.t 20)]⟩]) <|
 .cond (.t 21)
 (.seq (.ops false [⟨none,[.mov (some 4) (.k (.str []))]⟩]) <|
 .ret)
 (.skip)) <|
 .seq (.ops false [⟨none,[.mov (some 22) (.t 0),.fadr (some 23) 1 (.t 3),.load (some 24) false 1 false (.t 23),.fadr (some 25) 2 (.t 3),.load (some 26) false 1 false (.t 25),.slcS (some 27) (.t 22) (some (.t 24)) (some (.t 26)),.mov (some 4) (.t 27)]⟩]) <|
 .ret
abbrev Is68 (P:Program) (F T:Nat→Nat):Prop:=Fn P (F 68) 28 [(4,none)] (c68 F T)
def c72 (F T:Nat→Nat):C :=
 .seq (.ops false [⟨none,[.box 3 (T 8) (.t 1),.mov (some 4) (.k (.int .i64 0))]⟩]) <|
 .seq (.ops false [⟨none,[.mov (some 5) (.k (.str [60]))]⟩]) <|
 .seqc (.seq (.ops false [⟨none,[.fadr (some 9) 0 (.t 3),.load (some 10) false 1 false (.t 9)]⟩]) <|
 .block 0 <|
 .seq (.ops false [⟨none,[.bin (some 12) .eql (.t 10) (.k (.int .i64 11)),.mov (some 11) (.t 12)]⟩]) <|
 .cond (.t 11)
 (.skip)
 (.seq (.ops false [⟨none,[.bin (some 14) .eql (.t 10) (.k (.int .i64 12)),.mov (some 13) (.t 14)]⟩]) <|
 .cond (.t 13)
 (.ops false [⟨none,[.mov (some 5) (.k (.str [60,47]))]⟩])
 (.seq (.ops false [⟨none,[.mov (some 4) (.k (.int .i64 0))]⟩]) <|
 .ret))) <|
 .seq (.ops false [⟨none,[.mov (some 15) (.t 0),.load (some 16) false 3 true (.t 3),.call (some 17) true (F 68) [(.t 15),(.t 16)],.mov (some 6) (.t 17)]⟩]) <|
 .seq (.seq (.ops false [⟨none,[.mov (some 19) (.t 6),.mov (some 20) (.t 5),.call (some 21) true (F 107) [(.t 19),(.t 20)],.mov (some 18) (.t 21),.ext (some 22) 0 (.t 18),.ext (some 23) 1 (.t 18),.mov (some 7) (.t 22),.mov (some 8) (.t 23)]⟩]) <|
 .seq (.ops false [⟨none,[.mov (some 24) (.t 8),.mov (some 25) (.t 6),.len (some 26) true (.t 25),.bin (some 27) .eql (.t 24) (.t 26)]⟩]) <|
 .cond (.t 27)
 (.seq (.ops false [⟨none,[.mov (some 28) (.t 7),.mov (some 4) (.t 28)]⟩]) <|
 .ret)
 (.skip)) <|
 .seq (.ops false [⟨none,[.mov (some 4) (.k (.int .i64 0))]⟩]) <|
 .ret
abbrev Is72 (P:Program) (F T:Nat→Nat):Prop:=Fn P (F 72) 29 [(4,none)] (c72 F T)
def c97 (F T:Nat→Nat):C :=
 .seq (.ops false [⟨none,[.mov (some 4) (.k (.bool false))]⟩]) <|
 .seq (.ops false [⟨none,[.mov (some 5) (.t 0),.mov (some 6) (.t 1),.call (some 7) true (F 98) [(.t 5),(.t 6)],.mov (some 4) (.t 7)]⟩]) <|
 .ret
abbrev Is97 (P:Program) (F T:Nat→Nat):Prop:=Fn P (F 97) 8 [(4,none)] (c97 F T)
def c98 (F T:Nat→Nat):C :=
 .seq (.ops false [⟨none,[.mov (some 4) (.k (.bool false))]⟩]) <|
 .seq (.ops false [⟨none,[.mov (some 5) (.t 0),.len (some 6) true (.t 5),.mov (some 7) (.t 1),.len (some 8) true (.t 7),.bin (some 9) .geq (.t 6) (.t 8),.mov (some 10) (.t 9)]⟩,
 ⟨some (10,true),[.mov (some 11) (.t 0),.mov (some 12) (.t 1),.len (some 13) true (.t 12),.slcS (some 14) (.t 11) none (some (.t 13)),.mov (some 15) (.t 1),.bin (some 16) .eql (.t 14) (.t 15)]⟩,
 ⟨none,[.pick (some 17) (.t 10) (.t 16) (.k (.bool false)),.mov (some 4) (.t 17)]⟩]) <|
 .ret
abbrev Is98 (P:Program) (F T:Nat→Nat):Prop:=Fn P (F 98) 18 [(4,none)] (c98 F T)
def c104 (F T:Nat→Nat):C :=
 .seq (.ops false [⟨none,[.mov (some 2) (.k (.int .i64 0)),.mov (some 3) (.k (.int .i64 0))]⟩]) <|
 .seq (.seq (.ops false [⟨none,[.mov (some 10) (.t 0),.call (some 11) true (F 97) [(.t 10),(.k (.str [60,33,45,45]))]]⟩]) <|
 .cond (.t 11)
 (.seq (.seq (.ops false [⟨none,[.mov (some 12) (.t 0),.slcS (some 13) (.t 12) (some (.k (.int .i64 4))) none,.call (some 14) true (F 64) [(.t 13),(.k (.str [45,45,62]))],.mov (some 4) (.t 14)]⟩]) <|
 .seq (.ops false [⟨none,[.mov (some 15) (.t 4),.bin (some 16) .geq (.t 15) (.k (.int .i64 0))]⟩]) <|
 .cond (.t 16)
 (.seq (.ops false [⟨none,[.mov (some 17) (.t 4),.bin (some 18) .add (.k (.int .i64 4)) (.t 17),.bin (some 19) .add (.t 18) (.k (.int .i64 3)),.mov (some 2) (.k (.int .i64 9)),.mov (some 3) (.t 19)]⟩]) <|
 .ret)
 (.skip)) <|
 .seq (.ops false [⟨none,[.mov (some 20) (.t 0),.len (some 21) true (.t 20),.mov (some 2) (.k (.int .i64 9)),.mov (some 3) (.t 21)]⟩]) <|
 .ret)
 (.skip)) <|
 .seq (.seq (.ops false [⟨none,[.mov (some 22) (.t 0),.call (some 23) true (F 97) [(.t 22),(.k (.str [60,110,111,119,105,107,105,62]))]]⟩]) <|
 .cond (.t 23)
 (.seq (.ops false [⟨none,[.mov (some 24) (.t 0),.slcS (some 25) (.t 24) (some (.k (.int .i64 8))) none,.call (some 26) true (F 64) [(.t 25),(.k (.str [60,47,110,111,119,105,107,105,62]))],.mov (some 5) (.t 26)]⟩]) <|
 .seq (.ops false [⟨none,[.mov (some 27) (.t 5),.bin (some 28) .geq (.t 27) (.k (.int .i64 0))]⟩]) <|
 .cond (.t 28)
 (.seq (.ops false [⟨none,[.mov (some 29) (.t 5),.bin (some 30) .add (.k (.int .i64 8)) (.t 29),.bin (some 31) .add (.t 30) (.k (.int .i64 9)),.mov (some 2) (.k (.int .i64 10)),.mov (some 3) (.t 31)]⟩]) <|
 .ret)
 (.skip))
 (.skip)) <|
 .seq (.seq (.ops false [⟨none,[.mov (some 33) (.t 0),.call (some 34) true (F 107) [(.t 33),(.k (.str [60]))],.mov (some 32) (.t 34),.ext (some 35) 0 (.t 32),.ext (some 36) 1 (.t 32),.mov (some 6) (.t 35),.mov (some 7) (.t 36)]⟩]) <|
 .seq (.ops false [⟨none,[.mov (some 37) (.t 7),.bin (some 38) .gtr (.t 37) (.k (.int .i64 0))]⟩]) <|
 .cond (.t 38)
 (.seq (.ops false [⟨none,[.mov (some 39) (.t 7),.mov (some 2) (.k (.int .i64 11)),.mov (some 3) (.t 39)]⟩]) <|
 .ret)
 (.skip)) <|
 .seq (.seq (.ops false [⟨none,[.mov (some 41) (.t 0),.call (some 42) true (F 107) [(.t 41),(.k (.str [60,47]))],.mov (some 40) (.t 42),.ext (some 43) 0 (.t 40),.ext (some 44) 1 (.t 40),.mov (some 8) (.t 43),.mov (some 9) (.t 44)]⟩]) <|
 .seq (.ops false [⟨none,[.mov (some 45) (.t 9),.bin (some 46) .gtr (.t 45) (.k (.int .i64 0))]⟩]) <|
 .cond (.t 46)
 (.seq (.ops false [⟨none,[.mov (some 47) (.t 9),.mov (some 2) (.k (.int .i64 12)),.mov (some 3) (.t 47)]⟩]) <|
 .ret)
 (.skip)) <|
 .seq (.ops false [⟨none,[.mov (some 2) (.k (.int .i64 0)),.mov (some 3) (.k (.int .i64 0))]⟩]) <|
 .ret
abbrev Is104 (P:Program) (F T:Nat→Nat):Prop:=Fn P (F 104) 48 [(2,none),(3,none)] (c104 F T)
def c105 (F T:Nat→Nat):C :=
 .seq (.ops false [⟨none,[.mov (some 4) (.k (.int .i64 0))]⟩]) <|
 .seq (.ops false [⟨none,[.mov (some 5) (.k (.int .i64 0))]⟩]) <|
 .seq (.block 0 <|
 .loop <|
 .seq (.seq (.ops false [⟨none,[.mov (some 6) (.t 5),.mov (some 7) (.t 0),.len (some 8) true (.t 7),.bin (some 9) .lss (.t 6) (.t 8),.mov (some 10) (.t 9)]⟩,
 ⟨some (10,true),[.mov (some 11) (.t 0),.mov (some 12) (.t 5),.idx (some 13) (.t 11) (.t 12),.mov (some 14) (.t 1),.bin (some 15) .eql (.t 13) (.t 14)]⟩,
 ⟨none,[.pick (some 16) (.t 10) (.t 15) (.k (.bool false))]⟩]) <|
 .cond (.t 16)
 (.skip)
 (.exit 0)) <|
 .block 1 <|
 .ops false [⟨none,[.mov (some 17) (.t 5),.bin (some 18) .add (.t 17) (.k (.int .i64 1)),.mov (some 5) (.t 18)]⟩]) <|
 .seq (.ops false [⟨none,[.mov (some 19) (.t 5),.mov (some 4) (.t 19)]⟩]) <|
 .ret
abbrev Is105 (P:Program) (F T:Nat→Nat):Prop:=Fn P (F 105) 20 [(4,none)] (c105 F T)
def c107 (F T:Nat→Nat):C :=
 .seq (.ops false [⟨none,[.mov (some 4) (.k (.int .i64 0)),.mov (some 5) (.k (.int .i64 0))]⟩]) <|
 .seq (.seq (.ops false [⟨none,[.call (some 9) true (F 116) [],.mov (some 10) (.k (.int .i64 0))]⟩]) <|
 .block 0 <|
 .loop <|
 .seq (.ops false [⟨none,[.bin (some 11) .lss (.t 10) (.k (.int .i64 3))]⟩]) <|
 .seq (.cond (.t 11)
 (.skip)
 (.exit 0)) <|
 .seq (.block 1 <|
 .seq (.ops false [⟨none,[.mov (some 12) (.t 10),.idxA (some 13) 3 1 false (.t 9) (.t 10),.mov (some 6) (.t 12),.mov (some 7) (.t 13)]⟩]) <|
 .seq (.ops false [⟨none,[.mov (some 14) (.t 1),.mov (some 15) (.t 7),.bin (some 16) .add (.t 14) (.t 15),.bin (some 17) .add (.t 16) (.k (.str [62])),.mov (some 8) (.t 17)]⟩]) <|
 .seq (.ops false [⟨none,[.mov (some 18) (.t 0),.mov (some 19) (.t 8),.call (some 20) true (F 97) [(.t 18),(.t 19)]]⟩]) <|
 .cond (.t 20)
 (.seq (.ops false [⟨none,[.mov (some 21) (.t 6),.bin (some 22) .add (.t 21) (.k (.int .i64 1)),.mov (some 23) (.t 8),.len (some 24) true (.t 23),.mov (some 4) (.t 22),.mov (some 5) (.t 24)]⟩]) <|
 .ret)
 (.skip)) <|
 .ops false [⟨none,[.bin (some 25) .add (.t 10) (.k (.int .i64 1)),.mov (some 10) (.t 25)]⟩]) <|
 .seq (.ops false [⟨none,[.mov (some 4) (.k (.int .i64 0)),.mov (some 5) (.k (.int .i64 0))]⟩]) <|
 .ret
abbrev Is107 (P:Program) (F T:Nat→Nat):Prop:=Fn P (F 107) 26 [(4,none),(5,none)] (c107 F T)
def c116 (F T:Nat→Nat):C :=
 .seq (.ops false [⟨none,[.alloc 0 (T 13) [(.str []),(.str []),(.str [])]]⟩]) <|
 .seq (.ops false [⟨none,[.build (some 1) [(.str []),(.str []),(.str [])] [(0,1,(.k (.str [110,111,105,110,99,108,117,100,101]))),(1,1,(.k (.str [105,110,99,108,117,100,101,111,110,108,121]))),(2,1,(.k (.str [111,110,108,121,105,110,99,108,117,100,101])))],.store 3 (.t 0) (.t 1)]⟩]) <|
 .ret
abbrev Is116 (P:Program) (F T:Nat→Nat):Prop:=Fn P (F 116) 2 [(0,(some (3,true)))] (c116 F T)
def c50 (F T:Nat→Nat):C :=
 .seq (.ops false [⟨none,[.mov (some 2) (.k .nils),.mov (some 3) (.k (.int .i64 0))]⟩]) <|
 .seq (.seq (.ops false [⟨none,[.mov (some 9) (.t 0),.len (some 10) true (.t 9),.bin (some 11) .gtr (.t 10) (.k (.int .i64 8192))]⟩]) <|
 .cond (.t 11)
 (.seq (.ops false [⟨none,[.mov (some 2) (.k .nils),.mov (some 3) (.k (.int .i64 3))]⟩]) <|
 .ret)
 (.skip)) <|
 .seq (.gha (.own 4 (T 8) 3) <| .ops false [⟨none,[.mov (some 4) (.k .nils)]⟩]) <|
 .seq (.ops false [⟨none,[.mov (some 5) (.k (.int .i64 0))]⟩]) <|
 .seq (.seq (.ops false [⟨none,[.mov (some 6) (.k (.int .i64 0))]⟩]) <|
 .block 0 <|
 .loop <|
 .seq (.seq (.ops false [⟨none,[.mov (some 12) (.t 6),.mov (some 13) (.t 0),.len (some 14) true (.t 13),.bin (some 15) .lss (.t 12) (.t 14)]⟩]) <|
 .cond (.t 15)
 (.skip)
 (.exit 0)) <|
 .block 1 <|
 .seq (.ops false [⟨none,[.mov (some 17) (.t 0),.mov (some 18) (.t 6),.call (some 19) true (F 65) [(.t 17),(.t 18)],.mov (some 16) (.t 19),.ext (some 20) 0 (.t 16),.ext (some 21) 1 (.t 16),.mov (some 7) (.t 20),.mov (some 8) (.t 21)]⟩]) <|
 .seq (.seq (.ops false [⟨none,[.mov (some 22) (.t 7),.bin (some 23) .eql (.t 22) (.k (.int .i64 0))]⟩]) <|
 .cond (.t 23)
 (.seq (.ops false [⟨none,[.mov (some 24) (.t 6),.bin (some 25) .add (.t 24) (.k (.int .i64 1)),.mov (some 6) (.t 25)]⟩]) <|
 .exit 1)
 (.skip)) <|
 .seq (.seq (.ops false [⟨none,[.mov (some 26) (.t 5),.mov (some 27) (.t 6),.bin (some 28) .lss (.t 26) (.t 27)]⟩]) <|
 .cond (.t 28)
 (.ops false [⟨none,[.mov (some 29) (.t 4),.mov (some 30) (.t 5),.mov (some 31) (.t 6),.build (some 32) [(.int .i64 0),(.int .i64 0),(.int .i64 0)] [(0,1,(.k (.int .i64 1))),(1,1,(.t 30)),(2,1,(.t 31))],.mkl (some 33) 3 [(.t 32)],.app 34 (T 8) 3 (.t 29) (.t 33),.mov (some 4) (.t 34)]⟩])
 (.skip)) <|
 .seq (.ops false [⟨none,[.mov (some 35) (.t 4),.mov (some 36) (.t 7),.mov (some 37) (.t 6),.mov (some 38) (.t 8),.build (some 39) [(.int .i64 0),(.int .i64 0),(.int .i64 0)] [(0,1,(.t 36)),(1,1,(.t 37)),(2,1,(.t 38))],.mkl (some 40) 3 [(.t 39)],.app 41 (T 8) 3 (.t 35) (.t 40),.mov (some 4) (.t 41)]⟩]) <|
 .ops false [⟨none,[.mov (some 42) (.t 8),.mov (some 43) (.t 8),.mov (some 6) (.t 42),.mov (some 5) (.t 43)]⟩]) <|
 .seq (.seq (.ops false [⟨none,[.mov (some 44) (.t 5),.mov (some 45) (.t 0),.len (some 46) true (.t 45),.bin (some 47) .lss (.t 44) (.t 46)]⟩]) <|
 .cond (.t 47)
 (.ops false [⟨none,[.mov (some 48) (.t 4),.mov (some 49) (.t 5),.mov (some 50) (.t 0),.len (some 51) true (.t 50),.build (some 52) [(.int .i64 0),(.int .i64 0),(.int .i64 0)] [(0,1,(.k (.int .i64 1))),(1,1,(.t 49)),(2,1,(.t 51))],.mkl (some 53) 3 [(.t 52)],.app 54 (T 8) 3 (.t 48) (.t 53),.mov (some 4) (.t 54)]⟩])
 (.skip)) <|
 .seq (.ops false [⟨none,[.mov (some 55) (.t 4),.mov (some 2) (.t 55),.mov (some 3) (.k (.int .i64 0))]⟩]) <|
 .ret
abbrev Is50 (P:Program) (F T:Nat→Nat):Prop:=Fn P (F 50) 56 [(2,none),(3,none)] (c50 F T)
def c65 (F T:Nat→Nat):C :=
 .seq (.ops false [⟨none,[.mov (some 4) (.k (.int .i64 0)),.mov (some 5) (.k (.int .i64 0))]⟩]) <|
 .seqc (.seq (.ops false [⟨none,[.mov (some 11) (.t 0),.mov (some 12) (.t 1),.call (some 13) true (F 101) [(.t 11),(.t 12),(.k (.str [60,33,45,45]))]]⟩]) <|
 .cond (.t 13)
 (.seq (.seq (.ops false [⟨none,[.mov (some 14) (.t 0),.mov (some 15) (.t 1),.bin (some 16) .add (.t 15) (.k (.int .i64 4)),.call (some 17) true (F 102) [(.t 14),(.k (.str [45,45,62])),(.t 16)],.mov (some 6) (.t 17)]⟩]) <|
 .seq (.ops false [⟨none,[.mov (some 18) (.t 6),.bin (some 19) .geq (.t 18) (.k (.int .i64 0))]⟩]) <|
 .cond (.t 19)
 (.seq (.ops false [⟨none,[.mov (some 20) (.t 6),.bin (some 21) .add (.t 20) (.k (.int .i64 3)),.mov (some 4) (.k (.int .i64 9)),.mov (some 5) (.t 21)]⟩]) <|
 .ret)
 (.skip)) <|
 .seq (.ops false [⟨none,[.mov (some 22) (.t 0),.len (some 23) true (.t 22),.mov (some 4) (.k (.int .i64 9)),.mov (some 5) (.t 23)]⟩]) <|
 .ret)
 (.skip)) <|
 .seqc (.seq (.ops false [⟨none,[.mov (some 24) (.t 0),.mov (some 25) (.t 1),.call (some 26) true (F 101) [(.t 24),(.t 25),(.k (.str [60,110,111,119,105,107,105,62]))]]⟩]) <|
 .cond (.t 26)
 (.seq (.ops false [⟨none,[.mov (some 27) (.t 0),.mov (some 28) (.t 1),.bin (some 29) .add (.t 28) (.k (.int .i64 8)),.call (some 30) true (F 102) [(.t 27),(.k (.str [60,47,110,111,119,105,107,105,62])),(.t 29)],.mov (some 7) (.t 30)]⟩]) <|
 .seq (.ops false [⟨none,[.mov (some 31) (.t 7),.bin (some 32) .geq (.t 31) (.k (.int .i64 0))]⟩]) <|
 .cond (.t 32)
 (.seq (.ops false [⟨none,[.mov (some 33) (.t 7),.bin (some 34) .add (.t 33) (.k (.int .i64 9)),.mov (some 4) (.k (.int .i64 10)),.mov (some 5) (.t 34)]⟩]) <|
 .ret)
 (.skip))
 (.skip)) <|
 .seqc (.seq (.ops false [⟨none,[.mov (some 8) (.k (.int .i64 1))]⟩]) <|
 .block 0 <|
 .loop <|
 .seq (.seq (.ops false [⟨none,[.mov (some 35) (.t 8),.bin (some 36) .leq (.t 35) (.k (.int .i64 3))]⟩]) <|
 .cond (.t 36)
 (.skip)
 (.exit 0)) <|
 .seq (.block 1 <|
 .seq (.seq (.ops false [⟨none,[.mov (some 39) (.t 8),.call (some 40) true (F 25) [(.t 39),(.k (.bool false))],.mov (some 9) (.t 40)]⟩]) <|
 .seq (.ops false [⟨none,[.mov (some 41) (.t 0),.mov (some 42) (.t 1),.mov (some 43) (.t 9),.call (some 44) true (F 101) [(.t 41),(.t 42),(.t 43)]]⟩]) <|
 .cond (.t 44)
 (.seq (.ops false [⟨none,[.mov (some 45) (.t 1),.mov (some 46) (.t 9),.len (some 47) true (.t 46),.bin (some 48) .add (.t 45) (.t 47),.mov (some 4) (.k (.int .i64 11)),.mov (some 5) (.t 48)]⟩]) <|
 .ret)
 (.skip)) <|
 .seq (.ops false [⟨none,[.mov (some 49) (.t 8),.call (some 50) true (F 25) [(.t 49),(.k (.bool true))],.mov (some 10) (.t 50)]⟩]) <|
 .seq (.ops false [⟨none,[.mov (some 51) (.t 0),.mov (some 52) (.t 1),.mov (some 53) (.t 10),.call (some 54) true (F 101) [(.t 51),(.t 52),(.t 53)]]⟩]) <|
 .cond (.t 54)
 (.seq (.ops false [⟨none,[.mov (some 55) (.t 1),.mov (some 56) (.t 10),.len (some 57) true (.t 56),.bin (some 58) .add (.t 55) (.t 57),.mov (some 4) (.k (.int .i64 12)),.mov (some 5) (.t 58)]⟩]) <|
 .ret)
 (.skip)) <|
 .ops false [⟨none,[.mov (some 37) (.t 8),.bin (some 38) .add (.t 37) (.k (.int .i64 1)),.mov (some 8) (.t 38)]⟩]) <|
 .seqc (.block 2 <|
 .seq (.ops false [⟨none,[.mov (some 60) (.t 0),.mov (some 61) (.t 1),.call (some 62) true (F 101) [(.t 60),(.t 61),(.k (.str [123,123]))],.mov (some 59) (.t 62)]⟩]) <|
 .cond (.t 59)
 (.seq (.ops false [⟨none,[.mov (some 63) (.t 0),.mov (some 64) (.t 1),.call (some 65) true (F 103) [(.t 63),(.t 64),(.k (.int .u8 123))],.mov (some 4) (.k (.int .i64 3)),.mov (some 5) (.t 65)]⟩]) <|
 .ret)
 (.seq (.ops false [⟨none,[.mov (some 67) (.t 0),.mov (some 68) (.t 1),.call (some 69) true (F 101) [(.t 67),(.t 68),(.k (.str [125,125]))],.mov (some 66) (.t 69)]⟩]) <|
 .cond (.t 66)
 (.seq (.ops false [⟨none,[.mov (some 70) (.t 0),.mov (some 71) (.t 1),.call (some 72) true (F 103) [(.t 70),(.t 71),(.k (.int .u8 125))],.mov (some 4) (.k (.int .i64 4)),.mov (some 5) (.t 72)]⟩]) <|
 .ret)
 (.seq (.ops false [⟨none,[.mov (some 74) (.t 0),.mov (some 75) (.t 1),.call (some 76) true (F 101) [(.t 74),(.t 75),(.k (.str [91,91]))],.mov (some 73) (.t 76)]⟩]) <|
 .cond (.t 73)
 (.seq (.ops false [⟨none,[.mov (some 77) (.t 1),.bin (some 78) .add (.t 77) (.k (.int .i64 2)),.mov (some 4) (.k (.int .i64 5)),.mov (some 5) (.t 78)]⟩]) <|
 .ret)
 (.seq (.ops false [⟨none,[.mov (some 80) (.t 0),.mov (some 81) (.t 1),.call (some 82) true (F 101) [(.t 80),(.t 81),(.k (.str [93,93]))],.mov (some 79) (.t 82)]⟩]) <|
 .cond (.t 79)
 (.seq (.ops false [⟨none,[.mov (some 83) (.t 1),.bin (some 84) .add (.t 83) (.k (.int .i64 2)),.mov (some 4) (.k (.int .i64 6)),.mov (some 5) (.t 84)]⟩]) <|
 .ret)
 (.seq (.ops false [⟨none,[.mov (some 86) (.t 0),.mov (some 87) (.t 1),.call (some 88) true (F 101) [(.t 86),(.t 87),(.k (.str [124]))],.mov (some 85) (.t 88)]⟩]) <|
 .cond (.t 85)
 (.seq (.ops false [⟨none,[.mov (some 89) (.t 1),.bin (some 90) .add (.t 89) (.k (.int .i64 1)),.mov (some 4) (.k (.int .i64 7)),.mov (some 5) (.t 90)]⟩]) <|
 .ret)
 (.seq (.ops false [⟨none,[.mov (some 92) (.t 0),.mov (some 93) (.t 1),.call (some 94) true (F 101) [(.t 92),(.t 93),(.k (.str [61]))],.mov (some 91) (.t 94)]⟩]) <|
 .cond (.t 91)
 (.seq (.ops false [⟨none,[.mov (some 95) (.t 1),.bin (some 96) .add (.t 95) (.k (.int .i64 1)),.mov (some 4) (.k (.int .i64 8)),.mov (some 5) (.t 96)]⟩]) <|
 .ret)
 (.seq (.ops false [⟨none,[.mov (some 98) (.t 0),.mov (some 99) (.t 1),.call (some 100) true (F 101) [(.t 98),(.t 99),(.k (.str [10]))],.mov (some 97) (.t 100)]⟩]) <|
 .cond (.t 97)
 (.seq (.ops false [⟨none,[.mov (some 101) (.t 1),.bin (some 102) .add (.t 101) (.k (.int .i64 1)),.mov (some 4) (.k (.int .i64 2)),.mov (some 5) (.t 102)]⟩]) <|
 .ret)
 (.skip)))))))) <|
 .seq (.ops false [⟨none,[.mov (some 4) (.k (.int .i64 0)),.mov (some 5) (.k (.int .i64 0))]⟩]) <|
 .ret
abbrev Is65 (P:Program) (F T:Nat→Nat):Prop:=Fn P (F 65) 103 [(4,none),(5,none)] (c65 F T)
def c81 (F T:Nat→Nat):C :=
 .seq (.ops false [⟨none,[.box 3 (T 8) (.t 1),.mov (some 4) (.k (.str []))]⟩]) <|
 .seq (.seq (.ops false [⟨none,[.fadr (some 5) 1 (.t 3),.load (some 6) false 1 false (.t 5),.bin (some 7) .lss (.t 6) (.k (.int .i64 0)),.mov (some 8) (.t 7)]⟩,
 ⟨some (8,false),[.fadr (some 9) 1 (.t 3),.load (some 10) false 1 false (.t 9),.fadr (some 11) 2 (.t 3),.load (some 12) false 1 false (.t 11),.bin (some 13) .gtr (.t 10) (.t 12)]⟩,
 ⟨none,[.pick (some 14) (.t 8) (.k (.bool true)) (.t 13),.mov (some 15) (.t 14)]⟩,
 ⟨some (15,false),[.fadr (some 16) 2 (.t 3),.load (some 17) false 1 false (.t 16),.mov (some 18) (.t 0),.len (some 19) true (.t 18),.bin (some 20) .gtr (.t 17) (.t 19)]⟩,
 ⟨none,[.pick (some 21) (.t 15) (.k (.bool true)) (.t 20)]⟩]) <|
 .cond (.t 21)
 (.seq (.ops false [⟨none,[.mov (some 4) (.k (.str []))]⟩]) <|
 .ret)
 (.skip)) <|
 .seq (.ops false [⟨none,[.mov (some 22) (.t 0),.fadr (some 23) 1 (.t 3),.load (some 24) false 1 false (.t 23),.fadr (some 25) 2 (.t 3),.load (some 26) false 1 false (.t 25),.slcS (some 27) (.t 22) (some (.t 24)) (some (.t 26)),.mov (some 4) (.t 27)]⟩]) <|
 .ret
abbrev Is81 (P:Program) (F T:Nat→Nat):Prop:=Fn P (F 81) 28 [(4,none)] (c81 F T)
def c84 (F T:Nat→Nat):C :=
 .seq (.ops false [⟨none,[.box 3 (T 8) (.t 1),.mov (some 4) (.k (.int .i64 0))]⟩]) <|
 .seq (.seq (.ops false [⟨none,[.mov (some 5) (.k (.int .i64 1))]⟩]) <|
 .block 0 <|
 .loop <|
 .seq (.seq (.ops false [⟨none,[.mov (some 6) (.t 5),.bin (some 7) .leq (.t 6) (.k (.int .i64 3))]⟩]) <|
 .cond (.t 7)
 (.skip)
 (.exit 0)) <|
 .seq (.block 1 <|
 .seq (.ops false [⟨none,[.fadr (some 10) 0 (.t 3),.load (some 11) false 1 false (.t 10),.bin (some 12) .eql (.t 11) (.k (.int .i64 11)),.mov (some 13) (.t 12)]⟩,
 ⟨some (13,true),[.mov (some 14) (.t 0),.load (some 15) false 3 true (.t 3),.call (some 16) true (F 81) [(.t 14),(.t 15)],.mov (some 17) (.t 5),.call (some 18) true (F 25) [(.t 17),(.k (.bool false))],.bin (some 19) .eql (.t 16) (.t 18)]⟩,
 ⟨none,[.pick (some 20) (.t 13) (.t 19) (.k (.bool false)),.mov (some 21) (.t 20)]⟩,
 ⟨some (21,false),[.fadr (some 22) 0 (.t 3),.load (some 23) false 1 false (.t 22),.bin (some 24) .eql (.t 23) (.k (.int .i64 12)),.mov (some 25) (.t 24)]⟩,
 ⟨some (25,true),[.mov (some 26) (.t 0),.load (some 27) false 3 true (.t 3),.call (some 28) true (F 81) [(.t 26),(.t 27)],.mov (some 29) (.t 5),.call (some 30) true (F 25) [(.t 29),(.k (.bool true))],.bin (some 31) .eql (.t 28) (.t 30)]⟩,
 ⟨some (21,false),[.pick (some 32) (.t 25) (.t 31) (.k (.bool false))]⟩,
 ⟨none,[.pick (some 33) (.t 21) (.k (.bool true)) (.t 32)]⟩]) <|
 .cond (.t 33)
 (.seq (.ops false [⟨none,[.mov (some 34) (.t 5),.mov (some 4) (.t 34)]⟩]) <|
 .ret)
 (.skip)) <|
 .ops false [⟨none,[.mov (some 8) (.t 5),.bin (some 9) .add (.t 8) (.k (.int .i64 1)),.mov (some 5) (.t 9)]⟩]) <|
 .seq (.ops false [⟨none,[.mov (some 4) (.k (.int .i64 0))]⟩]) <|
 .ret
abbrev Is84 (P:Program) (F T:Nat→Nat):Prop:=Fn P (F 84) 35 [(4,none)] (c84 F T)
def c101 (F T:Nat→Nat):C :=
 .seq (.ops false [⟨none,[.mov (some 6) (.k (.bool false))]⟩]) <|
 .seq (.ops false [⟨none,[.mov (some 7) (.t 1),.bin (some 8) .geq (.t 7) (.k (.int .i64 0)),.mov (some 9) (.t 8)]⟩,
 ⟨some (9,true),[.mov (some 10) (.t 1),.mov (some 11) (.t 0),.len (some 12) true (.t 11),.bin (some 13) .leq (.t 10) (.t 12)]⟩,
 ⟨none,[.pick (some 14) (.t 9) (.t 13) (.k (.bool false)),.mov (some 15) (.t 14)]⟩,
 ⟨some (15,true),[.mov (some 16) (.t 2),.len (some 17) true (.t 16),.mov (some 18) (.t 0),.len (some 19) true (.t 18),.mov (some 20) (.t 1),.bin (some 21) .sub (.t 19) (.t 20),.bin (some 22) .leq (.t 17) (.t 21)]⟩,
 ⟨none,[.pick (some 23) (.t 15) (.t 22) (.k (.bool false)),.mov (some 24) (.t 23)]⟩,
 ⟨some (24,true),[.mov (some 25) (.t 0),.mov (some 26) (.t 1),.mov (some 27) (.t 1),.mov (some 28) (.t 2),.len (some 29) true (.t 28),.bin (some 30) .add (.t 27) (.t 29),.slcS (some 31) (.t 25) (some (.t 26)) (some (.t 30)),.mov (some 32) (.t 2),.bin (some 33) .eql (.t 31) (.t 32)]⟩,
 ⟨none,[.pick (some 34) (.t 24) (.t 33) (.k (.bool false)),.mov (some 6) (.t 34)]⟩]) <|
 .ret
abbrev Is101 (P:Program) (F T:Nat→Nat):Prop:=Fn P (F 101) 35 [(6,none)] (c101 F T)
def c102 (F T:Nat→Nat):C :=
 .seq (.ops false [⟨none,[.mov (some 6) (.k (.int .i64 0))]⟩]) <|
 .seq (.seq (.ops false [⟨none,[.mov (some 8) (.t 2),.mov (some 7) (.t 8)]⟩]) <|
 .block 0 <|
 .loop <|
 .seq (.seq (.ops false [⟨none,[.mov (some 9) (.t 7),.mov (some 10) (.t 1),.len (some 11) true (.t 10),.bin (some 12) .add (.t 9) (.t 11),.mov (some 13) (.t 0),.len (some 14) true (.t 13),.bin (some 15) .leq (.t 12) (.t 14)]⟩]) <|
 .cond (.t 15)
 (.skip)
 (.exit 0)) <|
 .seq (.block 1 <|
 .seq (.ops false [⟨none,[.mov (some 18) (.t 0),.mov (some 19) (.t 7),.mov (some 20) (.t 7),.mov (some 21) (.t 1),.len (some 22) true (.t 21),.bin (some 23) .add (.t 20) (.t 22),.slcS (some 24) (.t 18) (some (.t 19)) (some (.t 23)),.mov (some 25) (.t 1),.bin (some 26) .eql (.t 24) (.t 25)]⟩]) <|
 .cond (.t 26)
 (.seq (.ops false [⟨none,[.mov (some 27) (.t 7),.mov (some 6) (.t 27)]⟩]) <|
 .ret)
 (.skip)) <|
 .ops false [⟨none,[.mov (some 16) (.t 7),.bin (some 17) .add (.t 16) (.k (.int .i64 1)),.mov (some 7) (.t 17)]⟩]) <|
 .seq (.ops false [⟨none,[.mov (some 6) (.k (.int .i64 (-1)))]⟩]) <|
 .ret
abbrev Is102 (P:Program) (F T:Nat→Nat):Prop:=Fn P (F 102) 28 [(6,none)] (c102 F T)
def c103 (F T:Nat→Nat):C :=
 .seq (.ops false [⟨none,[.mov (some 6) (.k (.int .i64 0))]⟩]) <|
 .seq (.block 0 <|
 .loop <|
 .seq (.seq (.ops false [⟨none,[.mov (some 7) (.t 1),.mov (some 8) (.t 0),.len (some 9) true (.t 8),.bin (some 10) .lss (.t 7) (.t 9),.mov (some 11) (.t 10)]⟩,
 ⟨some (11,true),[.mov (some 12) (.t 0),.mov (some 13) (.t 1),.idx (some 14) (.t 12) (.t 13),.mov (some 15) (.t 2),.bin (some 16) .eql (.t 14) (.t 15)]⟩,
 ⟨none,[.pick (some 17) (.t 11) (.t 16) (.k (.bool false))]⟩]) <|
 .cond (.t 17)
 (.skip)
 (.exit 0)) <|
 .block 1 <|
 .ops false [⟨none,[.mov (some 18) (.t 1),.bin (some 19) .add (.t 18) (.k (.int .i64 1)),.mov (some 1) (.t 19)]⟩]) <|
 .seq (.ops false [⟨none,[.mov (some 20) (.t 1),.mov (some 6) (.t 20)]⟩]) <|
 .ret
abbrev Is103 (P:Program) (F T:Nat→Nat):Prop:=Fn P (F 103) 21 [(6,none)] (c103 F T)
end Go.Ab
namespace Go.Ab
variable {P:Program} {F T:Nat→Nat}
theorem prefix_take (s t:List UInt8):t.isPrefixOf s=(decide (t.length≤s.length)&&decide (s.take t.length=t)):=by
 by_cases h:t <+: s
 ·have h1:t.isPrefixOf s=true:=List.isPrefixOf_iff_prefix.2 h
  rw [h1]
  simp [h.length_le]
  exact (List.prefix_iff_eq_take.1 h).symm
 ·have h1:t.isPrefixOf s=false:=by
   cases hb:t.isPrefixOf s with
   | false=>rfl
   | true=>exact absurd (List.isPrefixOf_iff_prefix.1 hb) h
  rw [h1]
  symm
  simp only [Bool.and_eq_false_iff,decide_eq_false_iff_not]
  right
  intro e
  exact h (List.prefix_iff_eq_take.2 e.symm)
theorem t98 (hf:Is98 P F T) (s t:List UInt8):PTr P (F 98) [.str s,.str t] (.bool (t.isPrefixOf s)):=by
 refine ptrC [] hf (by simp) rfl ?_
 simp only [c98,push_cast,seval,-Nat.reducePow]
 refine condK_dec (fun h=>?_) (fun h=>?_)
 ·have h':t.length≤s.length:=by omega
  simp only [push_cast,seval,-Nat.reducePow,view]
  exact ⟨by omega,by rw [prefix_take]; simp [h']⟩
 ·have h':¬ t.length≤s.length:=by omega
  simp only [push_cast,seval,-Nat.reducePow,view]
  rw [prefix_take]; simp [h']
theorem t97 (hf:Is97 P F T) (h98:Is98 P F T) (s t:List UInt8):PTr P (F 97) [.str s,.str t] (.bool (t.isPrefixOf s)):=by
 refine ptrC [] hf (by simp) rfl ?_
 simp only [c97,push_cast,seval,-Nat.reducePow]
 refine callK_intro (t98 h98 s t) (by simp only [push_cast,seval,-Nat.reducePow]) (by simp only [push_cast,seval,-Nat.reducePow]) ?_
 simp only [push_cast,seval,-Nat.reducePow,view]
theorem runL_drop (c:UInt8) (s:List UInt8) (n:Nat) (hn:n<s.length) (hc:s.getD n 0=c) (h:runL c s=n+runL c (s.drop n)):runL c s=(n+1)+runL c (s.drop (n+1)):=by
 rw [h,List.drop_eq_getElem_cons hn]
 have:s[n]=c:=by simpa [List.getD,hn] using hc
 simp [runL,this]; omega
theorem u8_eq {a b:UInt8} (h:((a.toNat:Nat):Int)=((b.toNat:Nat):Int)):a=b:=UInt8.toNat_inj.1 (by omega)
theorem t105 (hf:Is105 P F T) (s:List UInt8) (c:UInt8) (hs:s.length<2^62):PTr P (F 105) [.str s,.int .u8 c.toNat] (.int .i64 (runL c s)):=by
 refine ptrC [] hf (by simp) rfl ?_
 simp only [c105,push_cast,seval,-Nat.reducePow]
 refine loopK_intro (fun m s1=>∃ n,n≤s.length∧m=s.length-n∧s1.env 0=.str s∧s1.env 1=.int .u8 c.toNat∧s1.env 5=.int .i64 n∧runL c s=n+runL c (s.drop n)) s.length ⟨0,?_⟩ fun m s1 hJ=>?_
 ·simp only [push_cast,seval,-Nat.reducePow,Nat.sub_zero,List.drop_zero]
 ·obtain ⟨n,hn,rfl,j0,j1,j5,hr⟩:=hJ
  simp only [push_cast,seval,-Nat.reducePow,j0,j1,j5]
  refine condK_dec (fun h=>?_) (fun h=>?_)
  ·have h':n<s.length:=by omega
   simp only [push_cast,seval,-Nat.reducePow,j0,j1,j5]
   refine ⟨by omega,?_⟩
   refine condK_dec (fun hc=>?_) (fun hc=>?_)
   ·have hc':=u8_eq hc
    simp only [push_cast,seval,-Nat.reducePow,j0,j1,j5]
    refine ⟨by omega,s.length-(n+1),by omega,n+1,by omega,rfl,by simp,?_⟩
    exact runL_drop c s n h' hc' hr
   ·simp only [push_cast,seval,-Nat.reducePow,j0,j1,j5,view]
    have hne:s[n]≠c:=fun e=>hc (by rw [show s.getD n 0=s[n] by simp [List.getD,h'],e])
    rw [hr,List.drop_eq_getElem_cons h']
    simp [runL,hne]
  ·have h':n=s.length:=by omega
   simp only [push_cast,seval,-Nat.reducePow,j0,j1,j5,view]
   rw [hr,h',List.drop_length]
   simp [runL]
theorem t116 (hf:Is116 P F T):PTr P (F 116) [] (.agg [.str (tagName 1),.str (tagName 2),.str (tagName 3)]):=by
 refine ptrC [] hf (by simp) rfl ?_
 simp only [c116,push_cast,seval,-Nat.reducePow]
 simp [view,tagName]
def tagP (o:List UInt8) (t:Nat):List UInt8:=o++tagName t++[62]
def tagR (o s:List UInt8):V:=.tup [.int .i64 (tagAt (tagP o) s),.int .i64 (if tagAt (tagP o) s=0 then 0 else (tagP o (tagAt (tagP o) s)).length:Nat)]
theorem t107 (hf:Is107 P F T) (h97:Is97 P F T) (h98:Is98 P F T) (h116:Is116 P F T) (s o:List UInt8) (ho:o.length≤2):PTr P (F 107) [.str s,.str o] (tagR o s):=by
 refine ptrC [] hf (by simp) rfl ?_
 simp only [c107,push_cast,seval,-Nat.reducePow]
 refine callK_intro (t116 h116) (by simp only [push_cast,seval,-Nat.reducePow]) (by simp only [push_cast,seval,-Nat.reducePow]) ?_
 refine loopK_intro (fun m s1=>∃ n,n≤3∧m=3-n∧s1.env 0=.str s∧s1.env 1=.str o∧s1.env 9=.agg [.str (tagName 1),.str (tagName 2),.str (tagName 3)]∧s1.env 10=.int .i64 n∧(∀ j,j<n→(tagP o (j+1)).isPrefixOf s=false)) 3 ⟨0,?_⟩ fun m s1 hJ=>?_
 ·simp only [push_cast,seval,-Nat.reducePow]
  exact fun j hj=>by omega
 ·obtain ⟨n,hn,rfl,j0,j1,j9,j10,hr⟩:=hJ
  have hn4:n=0∨n=1∨n=2∨n=3:=by omega
  rcases hn4 with rfl | rfl | rfl | rfl
  ·have hl:(tagName 1).length≤11:=by simp [tagName]
   skip
   simp only [push_cast,seval,-Nat.reducePow,j0,j1,j9,j10]
   refine ⟨by omega,by simp; omega,?_⟩
   refine callK_intro (t97 h97 h98 s (o++tagName 1++[62])) (by simp only [push_cast,seval,-Nat.reducePow]) (by simp only [push_cast,seval,-Nat.reducePow]) ?_
   simp only [push_cast,seval,-Nat.reducePow]
   refine condK_intro (fun hb=>?_) (fun hb=>?_)
   ·simp only [push_cast,seval,-Nat.reducePow,j0,j1,j9,j10,view]
    have e:tagAt (tagP o) s=1:=by simp only [tagAt]; rw [if_pos (show (tagP o 1).isPrefixOf s=true from hb)]
    simp only [tagR,e,tagP]
    simp
   ·simp only [push_cast,seval,-Nat.reducePow,j0,j1,j9,j10]
    refine ⟨3-1,by omega,1,by omega,rfl,rfl,fun j hj=>?_⟩
    have hb':(tagP o 1).isPrefixOf s=false:=hb
    have:j=0:=by omega
    rcases this with rfl
    exact hb'
  ·have hl:(tagName 2).length≤11:=by simp [tagName]
   have q0:=hr 0 (by omega)
   simp only [push_cast,seval,-Nat.reducePow,j0,j1,j9,j10]
   refine ⟨by omega,by simp; omega,?_⟩
   refine callK_intro (t97 h97 h98 s (o++tagName 2++[62])) (by simp only [push_cast,seval,-Nat.reducePow]) (by simp only [push_cast,seval,-Nat.reducePow]) ?_
   simp only [push_cast,seval,-Nat.reducePow]
   refine condK_intro (fun hb=>?_) (fun hb=>?_)
   ·simp only [push_cast,seval,-Nat.reducePow,j0,j1,j9,j10,view]
    have e:tagAt (tagP o) s=2:=by simp only [tagAt,q0]; rw [if_pos (show (tagP o 2).isPrefixOf s=true from hb)] <;> rfl
    simp only [tagR,e,tagP]
    simp
   ·simp only [push_cast,seval,-Nat.reducePow,j0,j1,j9,j10]
    refine ⟨3-2,by omega,2,by omega,rfl,rfl,fun j hj=>?_⟩
    have hb':(tagP o 2).isPrefixOf s=false:=hb
    have:j=0∨j=1:=by omega
    rcases this with rfl | rfl
    ·exact q0
    ·exact hb'
  ·have hl:(tagName 3).length≤11:=by simp [tagName]
   have q0:=hr 0 (by omega)
   have q1:=hr 1 (by omega)
   simp only [push_cast,seval,-Nat.reducePow,j0,j1,j9,j10]
   refine ⟨by omega,by simp; omega,?_⟩
   refine callK_intro (t97 h97 h98 s (o++tagName 3++[62])) (by simp only [push_cast,seval,-Nat.reducePow]) (by simp only [push_cast,seval,-Nat.reducePow]) ?_
   simp only [push_cast,seval,-Nat.reducePow]
   refine condK_intro (fun hb=>?_) (fun hb=>?_)
   ·simp only [push_cast,seval,-Nat.reducePow,j0,j1,j9,j10,view]
    have e:tagAt (tagP o) s=3:=by simp only [tagAt,q0,q1]; rw [if_pos (show (tagP o 3).isPrefixOf s=true from hb)] <;> rfl
    simp only [tagR,e,tagP]
    simp
   ·simp only [push_cast,seval,-Nat.reducePow,j0,j1,j9,j10]
    refine ⟨3-3,by omega,3,by omega,rfl,rfl,fun j hj=>?_⟩
    have hb':(tagP o 3).isPrefixOf s=false:=hb
    have:j=0∨j=1∨j=2:=by omega
    rcases this with rfl | rfl | rfl
    ·exact q0
    ·exact q1
    ·exact hb'
  ·have q0:=hr 0 (by omega)
   have q1:=hr 1 (by omega)
   have q2:=hr 2 (by omega)
   simp only [push_cast,seval,-Nat.reducePow,j0,j1,j9,j10,view]
   have e:tagAt (tagP o) s=0:=by
    simp only [Nat.zero_add,Nat.reduceAdd] at q0 q1 q2
    simp [tagAt,q0,q1,q2]
   simp [tagR,e]
def pairV (q:Nat×Nat):V:=.tup [.int .i64 q.1,.int .i64 q.2]
def idxZ (t s:List UInt8):Int:=match idxF t s 0 with | some k=>k | none=>-1
def Idx (P:Program) (F:Nat→Nat):Prop:=∀ s t:List UInt8,s.length≤8192→t≠[]→t.length≤16→PTr P (F 64) [.str s,.str t] (.int .i64 (idxZ t s))
theorem idxF_le (t:List UInt8):∀ (s:List UInt8) (i k:Nat),idxF t s i=some k→i≤k∧k+t.length≤i+s.length
 | [],i,k,h=>by
   simp only [idxF] at h
   split at h
   ·rename_i h0; simp at h; subst h; simp [h0]
   ·simp at h
 | x::r,i,k,h=>by
   simp only [idxF] at h
   split at h
   ·rename_i hp
    simp at h; subst h
    have:=(List.isPrefixOf_iff_prefix.1 hp).length_le
    exact ⟨Nat.le_refl _,by omega⟩
   ·obtain ⟨h1,h2⟩:=idxF_le t r (i+1) k h
    simp only [List.length_cons]; omega
theorem tagP_O:tagP [60]=tagO:=rfl
theorem tagP_C:tagP [60,47]=tagC:=rfl
theorem t104 (hf:Is104 P F T) (h107:Is107 P F T) (h97:Is97 P F T) (h98:Is98 P F T) (h116:Is116 P F T) (hI:Idx P F) (s:List UInt8) (hs:s.length≤8192):PTr P (F 104) [.str s] (pairV (angleF s)):=by
 refine ptrC [] hf (by simp) rfl ?_
 have tok:∀ q:Nat,s.length≤8192→True:=fun _ _=>trivial
 simp only [c104,push_cast,seval,-Nat.reducePow]
 refine callK_intro (t97 h97 h98 s [60,33,45,45]) (by simp only [push_cast,seval,-Nat.reducePow]) (by simp only [push_cast,seval,-Nat.reducePow]) ?_
 simp only [push_cast,seval,-Nat.reducePow]
 refine condK_intro (fun h1=>?_) (fun h1=>?_)
 ·have hl:=(List.isPrefixOf_iff_prefix.1 h1).length_le
  simp only [List.length_cons,List.length_nil] at hl
  simp only [push_cast,seval,-Nat.reducePow,List.take_length]
  refine ⟨by omega,?_⟩
  refine callK_intro (hI (s.drop 4) [45,45,62] (by simp; omega) (by simp) (by simp)) (by simp only [push_cast,seval,-Nat.reducePow]) (by simp only [push_cast,seval,-Nat.reducePow]) ?_
  simp only [push_cast,seval,-Nat.reducePow]
  cases hk:idxF [45,45,62] (s.drop 4) 0 with
  | some k =>
    obtain ⟨_,hk2⟩:=idxF_le _ _ _ _ hk
    simp only [List.length_drop,List.length_cons,List.length_nil] at hk2
    have hz:idxZ [45,45,62] (s.drop 4)=(k:Nat):=by simp [idxZ,hk]
    have h0:(0:Int)≤(k:Nat):=by omega
    simp only [push_cast,seval,-Nat.reducePow,hz,h0]
    refine ⟨by omega,by omega,?_⟩
    simp [view,pairV,angleF,h1,hk]
  | none =>
    have hz:idxZ [45,45,62] (s.drop 4)=-1:=by simp [idxZ,hk]
    have h0:¬ (0:Int)≤-1:=by omega
    simp only [push_cast,seval,-Nat.reducePow,hz,h0]
    simp [view,pairV,angleF,h1,hk]
 simp only [push_cast,seval,-Nat.reducePow]
 have rest:∀ K:Prop,angleF s=tagTok s→True:=fun _ _=>trivial
 refine callK_intro (t97 h97 h98 s nowikiO) (by simp only [push_cast,seval,-Nat.reducePow]) (by simp only [push_cast,seval,-Nat.reducePow]) ?_
 simp only [push_cast,seval,-Nat.reducePow]
 refine condK_intro (fun h2=>?_) (fun h2=>?_)
 ·have hl:=(List.isPrefixOf_iff_prefix.1 h2).length_le
  simp only [nowikiO,List.length_cons,List.length_nil] at hl
  simp only [push_cast,seval,-Nat.reducePow,List.take_length]
  refine ⟨by omega,?_⟩
  refine callK_intro (hI (s.drop 8) nowikiC (by simp; omega) (by simp [nowikiC]) (by simp [nowikiC])) (by simp only [push_cast,seval,-Nat.reducePow]) (by simp only [push_cast,seval,-Nat.reducePow]) ?_
  simp only [push_cast,seval,-Nat.reducePow]
  cases hk:idxF nowikiC (s.drop 8) 0 with
  | some k =>
    obtain ⟨_,hk2⟩:=idxF_le _ _ _ _ hk
    simp only [List.length_drop,List.length_cons,List.length_nil] at hk2
    have hz:idxZ nowikiC (s.drop 8)=(k:Nat):=by simp [idxZ,hk]
    have h0:(0:Int)≤(k:Nat):=by omega
    simp only [push_cast,seval,-Nat.reducePow,hz,h0]
    refine ⟨by omega,by omega,?_⟩
    simp [view,pairV,angleF,h1,h2,hk]
  | none =>
    have hz:idxZ nowikiC (s.drop 8)=-1:=by simp [idxZ,hk]
    have h0:¬ (0:Int)≤-1:=by omega
    simp only [push_cast,seval,-Nat.reducePow,hz,h0]
    have ha:angleF s=tagTok s:=by simp [angleF,h1,h2,hk]
    refine callK_intro (t107 h107 h97 h98 h116 s [60] (by simp)) (by simp only [push_cast,seval,-Nat.reducePow]) (by simp only [push_cast,seval,-Nat.reducePow,tagR]) ?_
    have lO:(tagO (tagAt tagO s)).length≤20:=by have:=tagName_len (tagAt tagO s); simp [tagO]; omega
    have lC:(tagC (tagAt tagC s)).length≤20:=by have:=tagName_len (tagAt tagC s); simp [tagC]; omega
    have pO:0<(tagO (tagAt tagO s)).length:=by simp [tagO]
    have pC:0<(tagC (tagAt tagC s)).length:=by simp [tagC]
    by_cases hz1:tagAt tagO s=0
    ·simp only [push_cast,seval,-Nat.reducePow,tagR,tagP_O,hz1]
     refine callK_intro (t107 h107 h97 h98 h116 s [60,47] (by simp)) (by simp only [push_cast,seval,-Nat.reducePow]) (by simp only [push_cast,seval,-Nat.reducePow,tagR]) ?_
     by_cases hz2:tagAt tagC s=0
     ·simp only [push_cast,seval,-Nat.reducePow,tagR,tagP_C,hz2]
      simp [view,pairV,ha,tagTok,hz1,hz2]
     ·have g2:(0:Int)<((tagC (tagAt tagC s)).length:Nat):=by omega
      simp only [push_cast,seval,-Nat.reducePow,tagR,tagP_C,hz2,g2]
      simp [view,pairV,ha,tagTok,hz1,hz2]
    ·have g1:(0:Int)<((tagO (tagAt tagO s)).length:Nat):=by omega
     simp only [push_cast,seval,-Nat.reducePow,tagR,tagP_O,hz1,g1]
     simp [view,pairV,ha,tagTok,hz1]
 ·have ha:angleF s=tagTok s:=by simp [angleF,h1,h2]
  simp only [push_cast,seval,-Nat.reducePow]
  refine callK_intro (t107 h107 h97 h98 h116 s [60] (by simp)) (by simp only [push_cast,seval,-Nat.reducePow]) (by simp only [push_cast,seval,-Nat.reducePow,tagR]) ?_
  have lO:(tagO (tagAt tagO s)).length≤20:=by have:=tagName_len (tagAt tagO s); simp [tagO]; omega
  have lC:(tagC (tagAt tagC s)).length≤20:=by have:=tagName_len (tagAt tagC s); simp [tagC]; omega
  have pO:0<(tagO (tagAt tagO s)).length:=by simp [tagO]
  have pC:0<(tagC (tagAt tagC s)).length:=by simp [tagC]
  by_cases hz1:tagAt tagO s=0
  ·simp only [push_cast,seval,-Nat.reducePow,tagR,tagP_O,hz1]
   refine callK_intro (t107 h107 h97 h98 h116 s [60,47] (by simp)) (by simp only [push_cast,seval,-Nat.reducePow]) (by simp only [push_cast,seval,-Nat.reducePow,tagR]) ?_
   by_cases hz2:tagAt tagC s=0
   ·simp only [push_cast,seval,-Nat.reducePow,tagR,tagP_C,hz2]
    simp [view,pairV,ha,tagTok,hz1,hz2]
   ·have g2:(0:Int)<((tagC (tagAt tagC s)).length:Nat):=by omega
    simp only [push_cast,seval,-Nat.reducePow,tagR,tagP_C,hz2,g2]
    simp [view,pairV,ha,tagTok,hz1,hz2]
  ·have g1:(0:Int)<((tagO (tagAt tagO s)).length:Nat):=by omega
   simp only [push_cast,seval,-Nat.reducePow,tagR,tagP_O,hz1,g1]
   simp [view,pairV,ha,tagTok,hz1]
theorem t67 (hf:Is67 P F T) (h104:Is104 P F T) (h105:Is105 P F T) (h107:Is107 P F T) (h97:Is97 P F T) (h98:Is98 P F T) (h116:Is116 P F T) (hI:Idx P F) (s:List UInt8) (hs:s.length≤8192) (hne:s≠[]):PTr P (F 67) [.str s] (pairV (firstF s)):=by
 refine ptrC [] hf (by simp) rfl ?_
 obtain ⟨c,r,rfl⟩:∃ c r,s=c::r:=by cases s with | nil=>exact absurd rfl hne | cons c r=>exact ⟨c,r,rfl⟩
 have hrun:∀ x:UInt8,PTr P (F 105) [.str (c::r),.int .u8 x.toNat] (.int .i64 (runL x (c::r))):=fun x=>t105 h105 (c::r) x (by omega)
 have hnl:∀ x:UInt8,c≠x→¬ ((c.toNat:Nat):Int)=((x.toNat:Nat):Int):=fun x h e=>h (u8_eq e)
 simp only [c67,push_cast,seval,-Nat.reducePow]
 refine ⟨by omega,?_⟩
 by_cases h60:c=60
 ·subst h60
  refine condK_dec (fun h=>?_) (fun h=>absurd rfl h)
  simp only [push_cast,seval,-Nat.reducePow]
  refine callK_intro (t104 h104 h107 h97 h98 h116 hI _ hs) (by simp only [push_cast,seval,-Nat.reducePow]) (by simp only [push_cast,seval,-Nat.reducePow,pairV]) ?_
  simp only [push_cast,seval,-Nat.reducePow,pairV]
  simp [view,firstF]
 refine condK_dec (fun h=>absurd (u8_eq (b:=60) h) h60) (fun _=>?_)
 simp only [push_cast,seval,-Nat.reducePow]
 by_cases h123:c=123
 ·subst h123
  refine condK_dec (fun h=>?_) (fun h=>absurd rfl h)
  simp only [push_cast,seval,-Nat.reducePow]
  refine callK_intro (hrun 123) (by simp only [push_cast,seval,-Nat.reducePow]) (by simp only [push_cast,seval,-Nat.reducePow]) ?_
  simp only [push_cast,seval,-Nat.reducePow]
  refine condK_dec (fun h=>?_) (fun h=>?_)
  ·have h':2≤runL 123 (123::r):=by omega
   simp only [push_cast,seval,-Nat.reducePow]
   simp [view,pairV,firstF,h']
  ·have h':¬ 2≤runL 123 (123::r):=by omega
   simp only [push_cast,seval,-Nat.reducePow]
   simp [view,pairV,firstF,h']
 refine condK_dec (fun h=>absurd (u8_eq (b:=123) h) h123) (fun _=>?_)
 simp only [push_cast,seval,-Nat.reducePow]
 by_cases h125:c=125
 ·subst h125
  refine condK_dec (fun h=>?_) (fun h=>absurd rfl h)
  simp only [push_cast,seval,-Nat.reducePow]
  refine callK_intro (hrun 125) (by simp only [push_cast,seval,-Nat.reducePow]) (by simp only [push_cast,seval,-Nat.reducePow]) ?_
  simp only [push_cast,seval,-Nat.reducePow]
  refine condK_dec (fun h=>?_) (fun h=>?_)
  ·have h':2≤runL 125 (125::r):=by omega
   simp only [push_cast,seval,-Nat.reducePow]
   simp [view,pairV,firstF,h']
  ·have h':¬ 2≤runL 125 (125::r):=by omega
   simp only [push_cast,seval,-Nat.reducePow]
   simp [view,pairV,firstF,h']
 refine condK_dec (fun h=>absurd (u8_eq (b:=125) h) h125) (fun _=>?_)
 simp only [push_cast,seval,-Nat.reducePow]
 by_cases h91:c=91
 ·subst h91
  refine condK_dec (fun h=>?_) (fun h=>absurd rfl h)
  simp only [push_cast,seval,-Nat.reducePow]
  refine callK_intro (hrun 91) (by simp only [push_cast,seval,-Nat.reducePow]) (by simp only [push_cast,seval,-Nat.reducePow]) ?_
  simp only [push_cast,seval,-Nat.reducePow]
  refine condK_dec (fun h=>?_) (fun h=>?_)
  ·have h':2≤runL 91 (91::r):=by omega
   simp only [push_cast,seval,-Nat.reducePow]
   simp [view,pairV,firstF,h']
  ·have h':¬ 2≤runL 91 (91::r):=by omega
   simp only [push_cast,seval,-Nat.reducePow]
   simp [view,pairV,firstF,h']
 refine condK_dec (fun h=>absurd (u8_eq (b:=91) h) h91) (fun _=>?_)
 simp only [push_cast,seval,-Nat.reducePow]
 by_cases h93:c=93
 ·subst h93
  refine condK_dec (fun h=>?_) (fun h=>absurd rfl h)
  simp only [push_cast,seval,-Nat.reducePow]
  refine callK_intro (hrun 93) (by simp only [push_cast,seval,-Nat.reducePow]) (by simp only [push_cast,seval,-Nat.reducePow]) ?_
  simp only [push_cast,seval,-Nat.reducePow]
  refine condK_dec (fun h=>?_) (fun h=>?_)
  ·have h':2≤runL 93 (93::r):=by omega
   simp only [push_cast,seval,-Nat.reducePow]
   simp [view,pairV,firstF,h']
  ·have h':¬ 2≤runL 93 (93::r):=by omega
   simp only [push_cast,seval,-Nat.reducePow]
   simp [view,pairV,firstF,h']
 refine condK_dec (fun h=>absurd (u8_eq (b:=93) h) h93) (fun _=>?_)
 simp only [push_cast,seval,-Nat.reducePow]
 by_cases h124:c=124
 ·subst h124
  refine condK_dec (fun h=>?_) (fun h=>absurd rfl h)
  simp only [push_cast,seval,-Nat.reducePow]
  simp [view,pairV,firstF]
 refine condK_dec (fun h=>absurd (u8_eq (b:=124) h) h124) (fun _=>?_)
 simp only [push_cast,seval,-Nat.reducePow]
 by_cases h61:c=61
 ·subst h61
  refine condK_dec (fun h=>?_) (fun h=>absurd rfl h)
  simp only [push_cast,seval,-Nat.reducePow]
  simp [view,pairV,firstF]
 refine condK_dec (fun h=>absurd (u8_eq (b:=61) h) h61) (fun _=>?_)
 simp only [push_cast,seval,-Nat.reducePow]
 by_cases h10:c=10
 ·subst h10
  refine condK_dec (fun h=>?_) (fun h=>absurd rfl h)
  simp only [push_cast,seval,-Nat.reducePow]
  simp [view,pairV,firstF]
 refine condK_dec (fun h=>absurd (u8_eq (b:=10) h) h10) (fun _=>?_)
 simp only [push_cast,seval,-Nat.reducePow]
 simp [view,pairV,firstF,h60,h123,h125,h91,h93,h124,h61,h10]
theorem t68 (hf:Is68 P F T) (s:List UInt8) (t:Tok) (h1:t.fr≤t.to) (h2:t.to≤s.length) (h3:s.length≤8192):PTr P (F 68) [.str s,.agg t.vs] (.str (t.text s)):=by
 refine ptrC [] hf (by simp) rfl ?_
 have e1:¬ ((t.fr:Nat):Int)<0:=by omega
 have e2:¬ ((t.to:Nat):Int)<(t.fr:Nat):=by omega
 have e3:¬ ((s.length:Nat):Int)<(t.to:Nat):=by omega
 simp only [c68,push_cast,seval,-Nat.reducePow,Tok.vs,e1,e2,e3]
 exact ⟨by omega,by omega,rfl⟩
end Go.Ab
namespace Go.Ab
variable {P:Program} {F T:Nat→Nat}
theorem tagAt_O (k:Nat) (a:1≤k) (b:k≤3):tagAt tagO (tagO k)=k:=by
 obtain rfl | rfl | rfl:k=1∨k=2∨k=3:=by omega
 all_goals simp [tagAt,tagO,tagName]
theorem tagAt_C (k:Nat) (a:1≤k) (b:k≤3):tagAt tagC (tagC k)=k:=by
 obtain rfl | rfl | rfl:k=1∨k=2∨k=3:=by omega
 all_goals simp [tagAt,tagC,tagName]
theorem t72 (hf:Is72 P F T) (h68:Is68 P F T) (h107:Is107 P F T) (h97:Is97 P F T) (h98:Is98 P F T) (h116:Is116 P F T) (s:List UInt8) (t:Tok) (h1:t.fr≤t.to) (h2:t.to≤s.length) (h3:s.length≤8192) (hx:t.kind=11→∃ k,1≤k∧k≤3∧t.text s=tagO k) (hy:t.kind=12→∃ k,1≤k∧k≤3∧t.text s=tagC k) :
 PTr P (F 72) [.str s,.agg t.vs] (.int .i64 (t.tag s)):=by
 refine ptrC [] hf (by simp) rfl ?_
 simp only [c72,push_cast,seval,-Nat.reducePow,Tok.vs]
 refine cutK_intro (fun s1=>∃ o,s1.env 0=.str s∧s1.env 3=.ptr 3 0∧s1.env 5=.str o∧s1.L 3=some (.box (T 8) t.vs)∧((t.kind=11∧o=[60])∨(t.kind=12∧o=[60,47]))) ?_ ?_
 ·simp only [push_cast,seval,-Nat.reducePow]
  refine condK_dec (fun h=>?_) (fun h=>?_)
  ·have hk:t.kind=11:=by omega
   simp only [push_cast,seval,-Nat.reducePow]
   exact ⟨[60],rfl,by simp only [Tok.vs],.inl ⟨hk,rfl⟩⟩
  ·have hk:t.kind≠11:=by omega
   simp only [push_cast,seval,-Nat.reducePow]
   refine condK_dec (fun h=>?_) (fun h=>?_)
   ·have hk:t.kind=12:=by omega
    simp only [push_cast,seval,-Nat.reducePow]
    exact ⟨[60,47],rfl,by simp only [Tok.vs],.inr ⟨hk,rfl⟩⟩
   ·have hk2:t.kind≠12:=by omega
    simp only [push_cast,seval,-Nat.reducePow]
    simp [view,Tok.tag,hk,hk2]
 ·rintro s1 ⟨o,j0,j3,j5,jL,ho⟩
  have ho2:o.length≤2:=by rcases ho with ⟨_,rfl⟩ | ⟨_,rfl⟩ <;> simp
  simp only [push_cast,seval,-Nat.reducePow,j0,j3,j5,jL,Tok.vs]
  refine callK_intro (t68 h68 s t h1 h2 h3) (by simp only [push_cast,seval,-Nat.reducePow,Tok.vs]) (by simp only [push_cast,seval,-Nat.reducePow]) ?_
  simp only [push_cast,seval,-Nat.reducePow,j0,j3,j5]
  refine callK_intro (t107 h107 h97 h98 h116 (t.text s) o ho2) (by simp only [push_cast,seval,-Nat.reducePow]) (by simp only [push_cast,seval,-Nat.reducePow,tagR]) ?_
  rcases ho with ⟨hk,rfl⟩ | ⟨hk,rfl⟩
  ·obtain ⟨k,k1,k2,k3⟩:=hx hk
   have e1:tagAt tagO (t.text s)=k:=by rw [k3]; exact tagAt_O k k1 k2
   have e0:k≠0:=by omega
   simp only [push_cast,seval,-Nat.reducePow,tagR,tagP_O,e1,e0]
   refine condK_dec (fun h=>?_) (fun h=>absurd (by rw [k3]) h)
   simp only [push_cast,seval,-Nat.reducePow]
   simp [view,Tok.tag,hk,e1]
  ·obtain ⟨k,k1,k2,k3⟩:=hy hk
   have e1:tagAt tagC (t.text s)=k:=by rw [k3]; exact tagAt_C k k1 k2
   have e0:k≠0:=by omega
   simp only [push_cast,seval,-Nat.reducePow,tagR,tagP_C,e1,e0]
   refine condK_dec (fun h=>?_) (fun h=>absurd (by rw [k3]) h)
   simp only [push_cast,seval,-Nat.reducePow]
   simp [view,Tok.tag,hk,e1]
end Go.Ab
namespace Go.Ab
theorem runL_le (c:UInt8):∀ s:List UInt8,runL c s≤s.length
 | []=>by simp [runL]
 | x::r=>by simp only [runL,List.length_cons]; have:=runL_le c r; split <;> omega
theorem tagAt_spec {o:Nat→List UInt8} {s:List UInt8} (h:tagAt o s≠0):1≤tagAt o s∧tagAt o s≤3∧(o (tagAt o s)).isPrefixOf s=true:=by
 unfold tagAt at h ⊢
 split
 ·rename_i h1; exact ⟨by omega,by omega,h1⟩
 ·split
  ·rename_i h1; exact ⟨by omega,by omega,h1⟩
  ·split
   ·rename_i h1; exact ⟨by omega,by omega,h1⟩
   ·simp_all
theorem take_prefix {t s:List UInt8} (h:t.isPrefixOf s=true):s.take t.length=t:=(List.prefix_iff_eq_take.1 (List.isPrefixOf_iff_prefix.1 h)).symm
theorem len_prefix {t s:List UInt8} (h:t.isPrefixOf s=true):t.length≤s.length:=(List.isPrefixOf_iff_prefix.1 h).length_le
structure Fst (s:List UInt8) (q:Nat×Nat):Prop where
 pos:1≤q.2
 le:q.2≤s.length
 kind:2≤q.1∧q.1≤12
 wiki:q.1=10→17≤q.2∧nowikiO.isPrefixOf s=true∧nowikiC.isPrefixOf (s.drop (q.2-9))=true
 open_:q.1=3→2≤q.2∧s.take q.2=List.replicate q.2 123
 close:q.1=4→2≤q.2∧s.take q.2=List.replicate q.2 125
 tagO:q.1=11→∃ k,1≤k∧k≤3∧s.take q.2=tagO k
 tagC:q.1=12→∃ k,1≤k∧k≤3∧s.take q.2=tagC k
 link:q.1=5→s.take q.2=[91,91]
 linkC:q.1=6→s.take q.2=[93,93]
 bar:q.1=7→s.take q.2=[124]
 eq:q.1=8→s.take q.2=[61]
theorem runL_take (c:UInt8):∀ s:List UInt8,s.take (runL c s)=List.replicate (runL c s) c
 | []=>by simp [runL]
 | x::r=>by
   simp only [runL]
   split
   ·rename_i h; subst h; simp [List.replicate_succ,runL_take x r]
   ·simp
theorem runL_two {c:UInt8} {s:List UInt8} (h:2≤runL c s):s.take 2=[c,c]:=by
 have h1:=runL_take c s
 have h2:=congrArg (List.take 2) h1
 rw [List.take_take,List.take_replicate,Nat.min_eq_left h] at h2
 exact h2
theorem idxF_at (t:List UInt8):∀ (s:List UInt8) (i k:Nat),idxF t s i=some k→t.isPrefixOf (s.drop (k-i))=true
 | [],i,k,h=>by
   simp only [idxF] at h
   split at h
   ·rename_i h0; simp at h; subst h; simp [h0]
   ·simp at h
 | x::r,i,k,h=>by
   simp only [idxF] at h
   split at h
   ·rename_i hp; simp at h; subst h; simpa using hp
   ·have h1:=idxF_at t r (i+1) k h
    have h2:=(idxF_le t r (i+1) k h).1
    have:k-i=(k-(i+1))+1:=by omega
    rw [this]; simpa using h1
theorem tagTok_fst {s:List UInt8} (h:(tagTok s).1≠0):Fst s (tagTok s):=by
 unfold tagTok at h ⊢
 split
 ·rename_i h1
  obtain ⟨a,b,c⟩:=tagAt_spec h1
  exact ⟨by simp [tagO],len_prefix c,by simp,by simp,by simp,by simp,fun _=>⟨_,a,b,take_prefix c⟩,by simp,by simp,by simp,by simp,by simp⟩
 ·split
  ·rename_i h1
   obtain ⟨a,b,c⟩:=tagAt_spec h1
   exact ⟨by simp [tagC],len_prefix c,by simp,by simp,by simp,by simp,by simp,fun _=>⟨_,a,b,take_prefix c⟩,by simp,by simp,by simp,by simp⟩
  ·simp_all
theorem angleF_fst {s:List UInt8} (h:(angleF s).1≠0):Fst s (angleF s):=by
 unfold angleF at h ⊢
 split
 ·rename_i h1
  have hl:=len_prefix h1
  simp only [List.length_cons,List.length_nil] at hl
  cases hk:idxF [45,45,62] (s.drop 4) 0 with
  | some k =>
    obtain ⟨_,h2⟩:=idxF_le _ _ _ _ hk
    simp only [List.length_drop,List.length_cons,List.length_nil] at h2
    exact ⟨by simp,by simp; omega,by simp,by simp,by simp,by simp,by simp,by simp,by simp,by simp,by simp,by simp⟩
  | none=>exact ⟨by simp; omega,by simp,by simp,by simp,by simp,by simp,by simp,by simp,by simp,by simp,by simp,by simp⟩
 ·split
  ·rename_i h0 h1
   have hl:=len_prefix h1
   simp only [nowikiO,List.length_cons,List.length_nil] at hl
   cases hk:idxF nowikiC (s.drop 8) 0 with
   | some k =>
     obtain ⟨_,h2⟩:=idxF_le _ _ _ _ hk
     have h3:=idxF_at _ _ _ _ hk
     simp only [List.drop_drop,Nat.sub_zero] at h3
     simp only [nowikiC,List.length_drop,List.length_cons,List.length_nil] at h2
     refine ⟨by simp <;> omega,by simp <;> omega,by simp,fun _=>⟨by simp <;> omega,h1,?_⟩,by simp,by simp,by simp,by simp,by simp,by simp,by simp,by simp⟩
     simp only [Nat.add_sub_cancel]; exact h3
   | none =>
     have:(tagTok s).1≠0:=by simp_all
     exact tagTok_fst this
  ·have:(tagTok s).1≠0:=by simp_all
   exact tagTok_fst this
theorem firstF_fst {s:List UInt8} (h:(firstF s).1≠0):Fst s (firstF s):=by
 cases s with
 | nil=>simp [firstF] at h
 | cons c r =>
   have rl:=runL_le
   have one:1≤(c::r).length:=by simp
   simp only [firstF] at h ⊢
   split
   ·rename_i hc; rw [if_pos hc] at h; exact angleF_fst h
   rename_i hc; rw [if_neg hc] at h
   split
   ·rename_i hc; rw [if_pos hc] at h
    split
    ·rename_i h2; exact ⟨by simp; omega,rl _ _,by simp,by simp,fun _=>⟨h2,runL_take _ _⟩,by simp,by simp,by simp,by simp,by simp,by simp,by simp⟩
    ·rename_i hn; rw [if_neg hn] at h; exact absurd rfl h
   rename_i hc; rw [if_neg hc] at h
   split
   ·rename_i hc; rw [if_pos hc] at h
    split
    ·rename_i h2; exact ⟨by simp; omega,rl _ _,by simp,by simp,by simp,fun _=>⟨h2,runL_take _ _⟩,by simp,by simp,by simp,by simp,by simp,by simp⟩
    ·rename_i hn; rw [if_neg hn] at h; exact absurd rfl h
   rename_i hc; rw [if_neg hc] at h
   split
   ·rename_i hc; rw [if_pos hc] at h
    split
    ·rename_i h2; exact ⟨by simp,Nat.le_trans h2 (rl _ _),by simp,by simp,by simp,by simp,by simp,by simp,fun _=>runL_two h2,by simp,by simp,by simp⟩
    ·rename_i hn; rw [if_neg hn] at h; exact absurd rfl h
   rename_i hc; rw [if_neg hc] at h
   split
   ·rename_i hc; rw [if_pos hc] at h
    split
    ·rename_i h2; exact ⟨by simp,Nat.le_trans h2 (rl _ _),by simp,by simp,by simp,by simp,by simp,by simp,by simp,fun _=>runL_two h2,by simp,by simp⟩
    ·rename_i hn; rw [if_neg hn] at h; exact absurd rfl h
   rename_i hc; rw [if_neg hc] at h
   split
   ·rename_i h2; subst h2; exact ⟨by simp,one,by simp,by simp,by simp,by simp,by simp,by simp,by simp,by simp,fun _=>rfl,by simp⟩
   rename_i hc; rw [if_neg hc] at h
   split
   ·rename_i h2; subst h2; exact ⟨by simp,one,by simp,by simp,by simp,by simp,by simp,by simp,by simp,by simp,by simp,fun _=>rfl⟩
   rename_i hc; rw [if_neg hc] at h
   split
   ·exact ⟨by simp,one,by simp,by simp,by simp,by simp,by simp,by simp,by simp,by simp,by simp,by simp⟩
   rename_i hc; rw [if_neg hc] at h
   exact absurd rfl h
structure Tok.good (s:List UInt8) (t:Tok):Prop where
 lt:t.fr<t.to
 le:t.to≤s.length
 txt:t.kind=1∨Fst (s.drop t.fr) (t.kind,t.to-t.fr)
theorem Tok.text_eq {s:List UInt8} {t:Tok}:t.text s=(s.drop t.fr).take (t.to-t.fr):=by
 simp [Tok.text,List.drop_take]
theorem Tok.good.tagO {s:List UInt8} {t:Tok} (h:t.good s) (hk:t.kind=11):∃ k,1≤k∧k≤3∧t.text s=Go.Ab.tagO k:=by
 rcases h.txt with h1 | h1
 ·omega
 ·obtain ⟨k,a,b,c⟩:=h1.tagO hk
  exact ⟨k,a,b,by rw [Tok.text_eq]; exact c⟩
theorem Tok.good.tagC {s:List UInt8} {t:Tok} (h:t.good s) (hk:t.kind=12):∃ k,1≤k∧k≤3∧t.text s=Go.Ab.tagC k:=by
 rcases h.txt with h1 | h1
 ·omega
 ·obtain ⟨k,a,b,c⟩:=h1.tagC hk
  exact ⟨k,a,b,by rw [Tok.text_eq]; exact c⟩
theorem Tok.good.wf {s:List UInt8} {t:Tok} (h:t.good s):t.wf s:=by
 have hl:=Tok.text_length h.le
 refine ⟨?_,h.lt,h.le,fun hk=>?_,fun hk=>?_,fun hk=>?_,h.tagO,h.tagC⟩
 ·rcases h.txt with h | h
  ·omega
  ·exact ⟨by have:=h.kind.1; simp at this; omega,h.kind.2⟩
 ·rcases h.txt with h1 | h1
  ·omega
  ·have:=(h1.wiki hk).1; simp at this; omega
 ·rcases h.txt with h1 | h1
  ·omega
  ·obtain ⟨k,a,b,c⟩:=h1.tagO hk
   have:t.tag s=k:=by
    rw [Tok.tag,if_pos hk,Tok.text_eq]
    simp only at c
    rw [c]; exact tagAt_O k a b
   omega
 ·rcases h.txt with h1 | h1
  ·omega
  ·have:=(h1.open_ hk).1; simp at this; omega
theorem scanF_good (s:List UInt8):∀ (n t i:Nat),t≤i→i≤s.length→(∀ x,x∈scanF s n t i→x.good s)∧lenT (scanF s n t i)≤s.length-t
 | 0,t,i,_,_=>by simp [scanF,lenT]
 | n+1,t,i,h1,h2=>by
   rw [scanF]
   split
   ·rename_i hi
    split
    ·obtain ⟨g1,g2⟩:=scanF_good s n t (i+1) (by omega) (by omega)
     exact ⟨g1,g2⟩
    ·rename_i hf
     have fs:=firstF_fst hf
     have hle:=fs.le
     have hpos:=fs.pos
     rw [List.length_drop] at hle
     obtain ⟨g1,g2⟩:=scanF_good s n (i+(firstF (s.drop i)).2) (i+(firstF (s.drop i)).2) (Nat.le_refl _) (by omega)
     constructor
     ·intro x hx
      simp only [List.mem_append,List.mem_cons] at hx
      rcases hx with hx | rfl | hx
      ·split at hx
       ·simp only [List.mem_singleton] at hx
        subst hx
        exact ⟨by assumption,by simp; omega,.inl rfl⟩
       ·simp at hx
      ·exact ⟨by simp; omega,by simp; omega,.inr (by simpa using fs)⟩
      ·exact g1 x hx
     ·rw [lenT_append]
      have:lenT (if t<i then [⟨1,t,i⟩] else [])=i-t:=by
       split
       ·simp [lenT]
       ·simp [lenT]; omega
      rw [this]
      simp only [lenT]
      omega
   ·split
    ·rename_i hi ht
     constructor
     ·intro x hx
      simp only [List.mem_singleton] at hx
      subst hx
      exact ⟨ht,Nat.le_refl _,.inl rfl⟩
     ·simp [lenT]
    ·simp [lenT]
theorem scan_good (s:List UInt8):(∀ x,x∈scan s→x.good s)∧lenT (scan s)≤s.length:=by
 have:=scanF_good s (s.length+1) 0 0 (Nat.le_refl _) (Nat.zero_le _)
 simpa [scan] using this
end Go.Ab
namespace Go.Ab
variable {P:Program} {F T:Nat→Nat}
structure TokCode (P:Program) (F T:Nat→Nat):Prop where
 h56:Is56 P F T
 h67:Is67 P F T
 h68:Is68 P F T
 h72:Is72 P F T
 h97:Is97 P F T
 h98:Is98 P F T
 h104:Is104 P F T
 h105:Is105 P F T
 h107:Is107 P F T
 h116:Is116 P F T
 idx:Idx P F
theorem tvs_snoc (a:List Tok) (t:Tok):tvs (a++[t])=tvs a++[.agg t.vs]:=by simp [tvs]
theorem t56 (K:TokCode P F T) (s:List UInt8) (hs:s.length≤8192):PTr P (F 56) [.str s] (.tup [.lst 3 (tvs (scan s)),.int .i64 0]):=by
 refine ptrC [] K.h56 (by simp) (by simp [V.imm,V.imms,imms_tvs]) ?_
 have hs':¬ (8192:Int)<((s.length:Nat):Int):=by omega
 simp only [c56,push_cast,seval,-Nat.reducePow,hs']
 refine loopK_intro (fun m s1=>∃ a t i n id,scan s=a++scanF s n t i∧m=s.length-i∧t≤i∧i≤s.length∧s.length-i<n∧a.length≤2*i∧s1.env 0=.str s∧s1.env 5=.int .i64 t∧s1.env 6=.int .i64 i∧s1.env 4=.own id 3 0 a.length∧s1.L id=some (.vec (T 8) 3 (tvs a))∧id<s1.nx) s.length ⟨[],0,0,s.length+1,183,?_⟩ fun m s1 hJ=>?_
 ·simp only [push_cast,seval,-Nat.reducePow,scan,Nat.sub_zero]
  exact ⟨by omega,rfl⟩
 ·obtain ⟨a,t,i,n,id,hsc,rfl,hti,hil,hn,hal,j0,j5,j6,j4,jL,hid⟩:=hJ
  obtain ⟨n,rfl⟩:∃ k,n=k+1:=⟨n-1,by omega⟩
  have tk:List.take a.length (tvs a)=tvs a:=List.take_of_length_le (by simp [tvs_length])
  have view_fin:∀ (L:Heap) (j:Nat) (b:List Tok),L j=some (.vec (T 8) 3 (tvs b))→view L 3 (.tup [.own j 3 0 b.length,.int .i64 0])=.tup [.lst 3 (tvs b),.int .i64 0]:=fun L j b h=>by
   have:=view2_own (sz:=3) h (imms_tvs b)
   rw [tvs_length] at this
   simp only [view,List.map_cons,List.map_nil] at this ⊢
   rw [this]
  by_cases hi:i<s.length
  ·have hi':((i:Nat):Int)<((s.length:Nat):Int):=by omega
   simp only [push_cast,seval,-Nat.reducePow,j0,j5,j6,hi',List.take_length]
   refine ⟨by omega,?_⟩
   have hne:s.drop i≠[]:=by intro e; have:=congrArg List.length e; simp at this; omega
   refine callK_intro (t67 K.h67 K.h104 K.h105 K.h107 K.h97 K.h98 K.h116 K.idx (s.drop i) (by simp; omega) hne) (by simp only [push_cast,seval,-Nat.reducePow]) (by simp only [push_cast,seval,-Nat.reducePow,pairV]) ?_
   simp only [push_cast,seval,-Nat.reducePow,pairV]
   rw [scanF,if_pos hi] at hsc
   generalize hq:firstF (s.drop i)=q at *
   refine condK_dec (fun h0=>?_) (fun h0=>?_)
   ·have h0':q.1=0:=by omega
    rw [if_pos h0'] at hsc
    simp only [push_cast,seval,-Nat.reducePow,j0,j5,j6]
    refine ⟨by omega,s.length-(i+1),by omega,a,t,i+1,n,id,hsc,rfl,by omega,by omega,by omega,by omega,rfl,by simp,j4,jL,by omega⟩
   ·have h0':q.1≠0:=by omega
    rw [if_neg h0'] at hsc
    have fs:=firstF_fst (s:=s.drop i) (by rw [hq]; exact h0')
    rw [hq] at fs
    have hle:=fs.le
    have hpos:=fs.pos
    rw [List.length_drop] at hle
    by_cases ht:t<i
    ·have ht':((t:Nat):Int)<((i:Nat):Int):=by omega
     rw [if_pos ht] at hsc
     have hb:tvs a++[.agg [.int .i64 1,.int .i64 t,.int .i64 i]]=tvs (a++[⟨1,t,i⟩]):=by rw [tvs_snoc]; rfl
     have hb2:tvs (a++[⟨1,t,i⟩])++[.agg [.int .i64 q.1,.int .i64 i,.int .i64 ((i:Int)+(q.2:Nat))]]=tvs (a++[⟨1,t,i⟩]++[⟨q.1,i,i+q.2⟩]):=by rw [tvs_snoc (a++_)]; rfl
     have tk2:List.take (a.length+1) (tvs (a++[⟨1,t,i⟩]))=tvs (a++[⟨1,t,i⟩]):=List.take_of_length_le (by simp [tvs_length])
     have x1:s1.nx+279≠id:=by omega
     simp only [push_cast,seval,-Nat.reducePow,j0,j4,j5,j6,jL,ht',tk,hb,hb2,tk2]
     refine ⟨by omega,by omega,by simp,by omega,by omega,s.length-(i+q.2),by omega,a++[⟨1,t,i⟩]++[⟨q.1,i,i+q.2⟩],i+q.2,i+q.2,n,s1.nx+349,by rw [hsc]; simp,rfl,by omega,by omega,by omega,by simp; omega,by simp,by simp,by simp,by simp only [updE',if_true],by omega⟩
    ·have ht':¬ ((t:Nat):Int)<((i:Nat):Int):=by omega
     rw [if_neg ht,List.nil_append] at hsc
     have hb:tvs a++[.agg [.int .i64 q.1,.int .i64 i,.int .i64 ((i:Int)+(q.2:Nat))]]=tvs (a++[⟨q.1,i,i+q.2⟩]):=by rw [tvs_snoc]; rfl
     simp only [push_cast,seval,-Nat.reducePow,j0,j4,j5,j6,jL,ht',tk,hb]
     refine ⟨by omega,by omega,by omega,s.length-(i+q.2),by omega,a++[⟨q.1,i,i+q.2⟩],i+q.2,i+q.2,n,s1.nx+288,by rw [hsc]; simp,rfl,by omega,by omega,by omega,by simp; omega,by simp,by simp,by simp,by simp only [updE',if_true],by omega⟩
  ·have hi':¬ ((i:Nat):Int)<((s.length:Nat):Int):=by omega
   rw [scanF,if_neg hi] at hsc
   by_cases ht:t<s.length
   ·have ht':((t:Nat):Int)<((s.length:Nat):Int):=by omega
    rw [if_pos ht] at hsc
    have hb:tvs a++[.agg [.int .i64 1,.int .i64 t,.int .i64 s.length]]=tvs (a++[⟨1,t,s.length⟩]):=by rw [tvs_snoc]; rfl
    simp only [push_cast,seval,-Nat.reducePow,j0,j4,j5,j6,jL,hi',ht',tk,hb]
    refine ⟨by omega,?_⟩
    rw [hsc]
    have:=view_fin (upd (upd s1.L id none) (s1.nx+181) (some (Blk.vec (T 8) 3 (tvs (a++[⟨1,t,s.length⟩]))))) (s1.nx+181) (a++[⟨1,t,s.length⟩]) (by simp only [updE',if_true])
    simpa using this
   ·have ht':¬ ((t:Nat):Int)<((s.length:Nat):Int):=by omega
    rw [if_neg ht,List.append_nil] at hsc
    simp only [push_cast,seval,-Nat.reducePow,j0,j4,j5,j6,jL,hi',ht',tk]
    rw [hsc]
    exact view_fin _ _ _ jL
structure ParCode (P:Program) (F T:Nat→Nat):Prop where
 h36:Is36 P F T
 par:ParFns P F T
 tok:TokCode P F T
theorem parse_ok (H:ParCode P F T) (s:List UInt8) (hs:s.length≤8192):PTr P (F 36) [.str s] (.tup [ln 5 (vns (parseF s)),.int .i64 0]):=by
 obtain ⟨g1,g2⟩:=scan_good s
 have K:TokFns P F:=⟨fun s t h1 h2 h3=>t68 H.tok.h68 s t h1 h2 h3,fun s t h1 h2 h3 h4 h5=>t72 H.tok.h72 H.tok.h68 H.tok.h107 H.tok.h97 H.tok.h98 H.tok.h116 s t h1 h2 h3 h4 h5⟩
 exact t36 H.h36 H.par K (fun s hs=>t56 H.tok s hs) s hs (fun t ht=>(g1 t ht).wf) g2
end Go.Ab
