import Derived.Test.YtikmbicdjpkipaaGreatDoorAbE3
import Derived.Tactics
open List renaming getElem?_eq_getElem->zB,filterMap_cons->y5,nodup_cons->xT,map_cons->zE,mem_cons->zD,range->zU,getD_eq_getElem?_getD->ze,length_eq_zero_iff->yP,reverse_nil->y3,mem_filter->xy,mem_range->yc,pairwise_lt_range->yC,rel_of_pairwise_cons->wa,all_eq_true->zx,reverse_singleton->wo,singleton_append->xb,mem_of_getElem?->y7,mem_map->zQ,perm_middle->wS,map_congr_left->zt,mem_flatMap->yQ,mem_cons_of_mem->ya,take->zA,drop->yK,mem_singleton->zp,filter_congr->wM,all_cons->yF,all_nil->wb,length_nil->yk,length_cons->zg,append_assoc->yy,cons_append->yg,nil_append->yf,mem_take_iff_getElem->wc,mem_append->zP,filterMap_append->ww,filter_append->wJ,getElem?_map->yu,getElem?_cons_succ->wh,getElem?_cons_zero->wi,getElem?_take_of_lt->y6,mem_of_mem_drop->yo,mem_of_mem_take->yE,getElem?_drop->xR,length_map->zb,getElem?_eq_some_iff->zS
open Option.some renaming injEq->za,inj->zq
open Bool renaming and_eq_true->zc,false_eq_true->zK,not_eq_true'->zV,or_eq_true->yH,true_and->zy
open Option renaming map_eq_some_iff->zm,bind_some->zG,toList_some->wA,map_some->zL
open Array renaming getD_eq_getD_getElem?->zo,getElem?_append->yS,getElem?_eq_getElem->ye,getElem?_eq_some_iff->xp,replicate->z7
open Nat renaming mod_lt->vg,lt_irrefl->xu,lt_or_ge->xk,le_refl->zz,two_pow_pos->xX,mul_le_mul_right->zJ,add_mul->xj,strongRecOn->wX
open List.Sublist renaming filterMap->xm
set_option linter.unusedSimpArgs false
set_option linter.unusedVariables false
namespace Go.Ab
open Go.RowKit
theorem aCc{F:Nat->Prop}{l:List V}(h:∀(j:Nat) (c:V),l[j]?=some c->V.fit F c):V.fits F l:=
 (aBa F _).2 λy hy=>by obtain⟨j,hj,rfl⟩:=List.mem_iff_getElem.1 hy;exact h j _ (zB hj)
theorem aIx{F:Nat->Prop}{x:V}(h:∀(j:Nat) (c:V),x.cells[j]?=some c->V.fit F c):x.fit F:=by
 cases x<;>simp only[V.cells]at h<;>first
  | exact h 0 _ rfl
  | (simp only[V.fit];exact aCc h)
theorem aRp{G:Ghost}{D:Nat->Prop}{w:World}{x:V}{v:Value}(h:Rep G D w x v):x.fit (λid=>(G id).isSome=true):=by
 induction h with
 | junk v=>simp[V.fit]
 | bool b=>simp[V.fit]
 | int k n=>simp[V.fit]
 | str s h=>simp[V.fit]
 | nilp=>simp[V.fit]
 | nils=>simp[V.fit]
 | ptr id off g h=>simp[V.fit,h]
 | eptr id i j g h=>simp[V.fit,h]
 | cptr cs b o hb hd hs hr ih=>simp only[V.fit];exact aCc ih
 | lst sz es a cap b o hc hl ha hz hs hr ih=>simp only[V.fit];refine aCc λi e he=>aIx λj c hj=>ih i j c ?_;grind
 | own id sz off len g a cap h hz hc hg hl ha=>simp[V.fit,h]
 | agg cs vs hn hr ih=>simp only[V.fit];exact aCc ih
 | tup cs vs hn hr ih=>simp only[V.fit];exact aCc ih
 | fn f cs vs hn hr ih=>simp only[V.fit];exact aCc ih
 | map id g h=>simp[V.fit,h]
 | nilm=>simp[V.fit]
 | raw v=>simp[V.fit]
theorem Good.sfit{P:Program}{D:Nat->Prop}{n:Nat}{s:St}{G:Ghost}{a:Act}{w:World}(h:Good P D n s G a w):SFit (λid=>(G id).isSome=true) s:=by
 refine⟨λt=>aRp (h.env t),λid b hb=>?_⟩;obtain⟨g,hg,hok⟩:=h.hp.blk id b hb;refine⟨by grind,?_⟩;cases b with
 | box ty0 cs=>obtain⟨c,ty,fr,_,_,_,_,h5⟩:=hok;exact aCc λi x hx=>aRp (h5 i x hx)
 | vec ty0 sz es =>
   obtain⟨_,h2,_,_,h5⟩:=hok;refine aCc λi e he=>aIx λj c hj=>?_;have hpos:0<g.cap:=by grind
   obtain⟨c',ty,fr,_,_,_,k4⟩:=h5 hpos;exact aRp (k4 i j c (by grind))
 | map _ _=>trivial
 | bld _ _ _=>trivial
theorem aJw{P:Program}{n:Nat}{hint:Nat->Nat}{ops:Array Oper}{o:Oper}{x:GI}(h:aGp P n hint ops o=some x):
 aA5 n o.dst=true∧lowG ops n o.guard=some x.g∧lowX P n hint o=some x.i∧x.i.dst=o.dst:=by
 simp only[aGp]at h;grind
theorem aK6{P:Program}{n:Nat}{hint:Nat->Nat}{ops:Array Oper}:∀(r:List Oper) (l:List GI),aL4 P n hint ops r=some l->l.length=r.length∧∀i o,r[i]?=some o->aGp P n hint ops o=some (l.getD i default)
 | [],l,h=>by simp only[aL4,za]at h;grind
 | o::r,l,h=>by
   simp only[aL4]at h;split at h
   .rename_i x y h1 h2;simp only[za]at h;subst h;obtain⟨k1,k2⟩:=aK6 r y h2;grind
   grind
section
variable {P:Program} {D:Nat->Prop} {n:Nat} {hint:Nat->Nat} {ops:Array Oper} {s:St} {G:Ghost} {a:Act} {w:World} {K:St->Prop} {Q:Exit->Act->World->Prop}
theorem aOb{o:Oper}(hd:aA5 n o.dst=true){f:Nat}{xs:List V}{vals:Array Value}{next:Act->World->Prop}
 (hE:ECall P f xs s.L (s.nx+n) λr L' nx'=>K ((⟨s.env,L',nx'⟩:St).setO o.dst r)) (hl:xs.length=vals.size) (hr:∀(i:Nat) y,xs[i]?=some y->Rep G (Dp D s.L G) w y (vals.getD i undef))
 (hrun:(execOp a.eval o).run P w=.ok (.enter f vals) w) (hg:Good P D n s G a w)
 (hn:∀s' G' a' w',K s'->Good P D n s' G' a' w'->Nxt s.L G w s'.L G' w'->s.nx+n<=s'.nx∧(∀i,s'.nx<=i->G' i=none)->next a' w'):o.upon P a next Q ((execOp a.eval o).run P w):=by
 obtain⟨_,hE⟩:=hE;rw[hrun];simp only[Oper.upon];have hp:Hp P D 0 ⟨λ_=>.junk,s.L,s.nx+n⟩ G w:=⟨hg.hp.fin,hg.hp.blk,hg.hp.apart,hg.hp.away,hg.hp.dlt,hg.hp.gl⟩;refine(hE D G w vals hp hl hr).mono ?_;rintro e w' ⟨v,r,L',nx',G',rfl,hK,hp',hle,hx,hr⟩;have hfin:∀i,nx'<=i->G' i=none:=λi hi=>hp'.fin i hi;have hp2:Hp P D n ⟨s.env,L',nx'⟩ G' w':=⟨λid hid=>hfin id (by grind),hp'.blk,hp'.apart,hp'.away,hp'.dlt,hp'.gl⟩;have g1:Good P D n ⟨s.env,L',nx'⟩ G' a w':=hg.later hx hp2;exact hn _ _ _ _ hK (g1.put hd hr) (by rw[aDo];exact hx) ⟨by rw[aCl];omega,λi hi=>hfin i (by rw[aCl]at hi;exact hi)⟩
theorem aSj{o:Oper}{i:I}(hd:aA5 n o.dst=true)(h:lowE P n hint o=some i):∀(s:St) (G:Ghost) (a:Act) (w:World) (K:St->Prop) (next:Act->World->Prop) (Q:Exit->Act->World->Prop),aAf P i s K->Good P D n s G a w ->
 (∀s' G' a' w',K s'->Good P D n s' G' a' w'->Nxt s.L G w s'.L G' w'->s.nx+n<=s'.nx∧(∀i,s'.nx<=i->G' i=none)->next a' w')->o.upon P a next Q ((execOp a.eval o).run P w):=by
 intro s G a w K next Q hi hg hn
 unfold lowE at h;split at h
 .rename_i c hop;split at h
  .rename_i f hc;split at h
   .rename_i hb;simp only[zc]at hb;obtain⟨qs,hq,rfl⟩:=zm.1 h;obtain⟨l1,l2⟩:=aEd hg hq;have hi:ECall P f (qs.map s.ev) s.L (s.nx+n) λr L' nx'=>K ((⟨s.env,L',nx'⟩:St).setO o.dst r):=by
     split at hi
     .exact ECall.mono hi λr L' nx' h=>h.2
     .exact hi
    refine aOb hd hi (vals:=c.args.map a.eval) (by grind) (λi y hy=>?_) (aNq hc hb.2 hop) hg hn;have h1:=l2 i y hy;simp_all
   grind
  .rename_i t hc;split at h
   .rename_i ht;simp only[zc,decide_eq_true_eq]at ht;replace ht:=ht.1;obtain⟨qs,hq,rfl⟩:=zm.1 h;obtain⟨l1,l2⟩:=aEd hg hq;simp only[aAf]at hi;split at hi
    .rename_i f cs hfn;obtain⟨hb,hE⟩:=hi;have rx:=aAm hg (show opd n (.tmp t)=some (.t t)by simp only[opd,if_pos ht]);rw[hfn]at rx;obtain⟨vs,hv,hvl,hvr⟩:=aOr rx;refine aOb hd hE (vals:=c.args.map a.eval++vs) (by grind) (λi y hy=>?_) (aQb hc hv hb hop) hg hn;by_cases hi:i<qs.length
     .have h1:=l2 i y (by grind);have:(c.args.map a.eval++vs).getD i undef=(c.args.toList.map a.eval)[i]?.getD undef:=by
       have hi':i<c.args.size:=by grind
       simp[zo,yS,hi']
      grind
     .rw[List.getElem?_append_right (by grind)]at hy;have h1:=hvr _ _ hy;have:(c.args.map a.eval++vs).getD i undef=vs.getD (i-(qs.map s.ev).length) undef:=by
       have hi':¬i<c.args.size:=by grind
       have hz:qs.length=c.args.size:=by omega
       simp[zo,yS,hi',hz]
      grind
    grind
   grind
  grind
 grind
def NewX(n:Nat)(m:Option Nat)(s:St)(G:Ghost)(s':St)(G':Ghost):Prop:=New m s G s' G'∨(s.nx+n<=s'.nx∧∀i,s'.nx<=i->G' i=none)
theorem NewX.free{m:Option Nat}{s:St}{G:Ghost}{s':St}{G':Ghost}(h:NewX n m s G s' G'){d:Nat}(h1:G (s.nx+d)=none)(h2:m≠some d):G' (s'.nx+d)=none:=by
 rcases h with h|h
 .cases hc:G' (s'.nx+d)with
  | none=>rfl
  | some g =>
    exfalso;rcases h.2 (s'.nx+d) (by grind)with k1|⟨d',hd',he⟩
    .rw[h.1,h1]at k1;grind
    .rw[h.1]at he;grind
 grind
theorem aN8{i:Nat}{o:Oper}{x:GI}{next:Act->World->Prop}(ho:ops[i]?=some o)(hx:aGp P n hint ops o=some x)(h:aA0 P x s K)(hg:Good P D n s G a w)
 (hn:∀s' G' a' w',K s'->Good P D n s' G' a' w'->Nxt s.L G w s'.L G' w'->NewX n x.i.mk s G s' G'->next a' w') (hfree:∀d,x.i.mk=some d->G (s.nx+d)=none) :
 wpOp P ops Q i next a w:=by
 obtain⟨hd,hgd,hi,hdst⟩:=aJw hx;have run:aAf P x.i s K->Region.wanted o (yielded ops a.tmps)=true->wpOp P ops Q i next a w:=λh hw=>by
  simp only[wpOp,ho,hw,if_true];refine .inl ?_;unfold lowX at hi;split at hi
  .rename_i i' he;simp only[za]at hi;subst hi;exact aSj hd he s G a w K next Q h hg λs' G' a' w' k g x e=>hn s' G' a' w' k g x (.inr e)
  .exact aVp hd hi s G a w K next Q h hg (λs' G' a' w' k g x e=>hn s' G' a' w' k g x (.inl e)) hfree
 have skip:K (s.setO x.i.dst (.tup []))->Region.wanted o (yielded ops a.tmps)=false->wpOp P ops Q i next a w:=λh hw=>by simp only[wpOp,ho,hw,zK,if_false];have hput:=hg.put (d:=x.i.dst) (by grind) (x:=.tup []) (v:=undef) (.tup [] #[] rfl (by simp));rw[hdst]at hput h;exact hn _ _ _ _ h hput (by rw[aDo];exact Nxt.refl _ _ _) (.inl (New.same (aCl _ _ _)))
 obtain⟨g,xi⟩:=x;cases hgo:o.guard with
 | none=>rw[hgo]at hgd;simp only[lowG,za]at hgd;subst hgd;exact run h (by simp[Region.wanted,hgo])
 | some jw =>
   obtain⟨j,wt⟩:=jw;rw[hgo]at hgd;simp only[lowG]at hgd;split at hgd
   .rename_i t ht;split at hgd
    .rename_i htn;simp only[za]at hgd;subst hgd;have hv:a.tmps[t]?=some (a.tmps.getD t undef):=by
      have:t<a.tmps.size:=by rw[hg.size];omega
      simp_all
     have hy:yielded ops a.tmps j=match a.tmps.getD t undef with|.bool b=>some b|_=>none:=by simp only[yielded,ht,zG,hv];grind
     have hr:=hg.env t;simp only[aA0]at h;split at h
     .rename_i b hb;rw[hb]at hr;have hvb:=aDr hr;rw[hvb]at hy;simp only at hy;split at h
      .rename_i hbw;exact run h (by simp[Region.wanted,hgo,hy,hbw])
      .rename_i hbw;exact skip h (by simp[Region.wanted,hgo,hy,hbw])
     .rename_i hb;rw[hb]at hr;obtain⟨vs,hvs,_⟩:=aQ0 hr;rw[hvs]at hy;exact skip h (by simp[Region.wanted,hgo,hy])
     grind
    grind
   grind
theorem aEl{x:GI}{l:List GI}(h:(mks (x::l)).Nodup):(mks l).Nodup∧∀d,x.i.mk=some d->∀y,y∈l->y.i.mk≠some d:=by
 simp only[mks,y5]at h;cases hx:x.i.mk with
 | none=>rw[hx]at h;exact⟨h,λd hd=>by grind⟩
 | some m=>rw[hx]at h;simp only[xT]at h;refine⟨h.2,λd hd y hy hyd=>h.1 ?_⟩;grind
theorem aPv{l:List GI}(hl:∀i o,ops[i]?=some o->aGp P n hint ops o=some (l.getD i default)):∀(is:List Nat) (s:St) (G:Ghost) (a:Act) (w:World),(∀i,i∈is->i<ops.size) ->
 aops P (at_ l is) s K->Good P D n s G a w->(∀x,x∈at_ l is->∀d,x.i.mk=some d->G (s.nx+d)=none)->(mks (at_ l is)).Nodup ->
 (∀s' G' a' w',K s'->Good P D n s' G' a' w'->Nxt s.L G w s'.L G' w'->Q .normal a' w')->wpOps P ops Q is a w
 | [],s,G,a,w,_,h,hg,_,_,hn=>hn _ _ _ _ h hg (Nxt.refl _ _ _)
 | i::is,s,G,a,w,hi,h,hg,hf,hnd,hn=>by
   have hlt:=hi i (by simp);rw[wpOps_cons];obtain⟨hnd1,hnd2⟩:=aEl hnd;refine aN8 (ye hlt) (hl i _ (ye hlt)) h hg (λs1 G1 a1 w1 k1 g1 x1 n1=>?_) (hf (l.getD i default) (by simp[at_]));exact aPv hl is s1 G1 a1 w1 (λj hj=>hi j (by grind)) k1 g1 (λy hy d hd=>n1.free (hf y (by simp only[at_,zE,zD];exact .inr hy) d hd) λe=>hnd2 d e y hy hd) hnd1
    (λs2 G2 a2 w2 k2 g2 x2=>hn s2 G2 a2 w2 k2 g2 (x1.trans x2))
theorem aK1:∀{l:List Nat},aPs l=true->l.Nodup
 | [],_=>List.nodup_nil
 | x::r,h=>by simp only[aPs,zc,zV]at h;exact xT.2 ⟨by grind,aK1 h.2⟩
theorem aM3(l:List GI):at_ l (zU l.length)=l:=by
 apply List.ext_getElem
 .simp[at_]
 .intro i h1 h2;simp only[at_,List.getElem_map,List.getElem_range,ze,zB h2,Option.getD_some]
theorem bP4{l:List GI}(hl':∀i o,ops[i]?=some o->aGp P n hint ops o=some (l.getD i default))(hl:l.length=ops.size)(ho:aNx (aOh ops) l=true)(he:aG9 ops=true)(hc:l.all (·.i.constOk)=true):
 ∀(fuel t:Nat) (listed:Array Bool) (s:St) (G:Ghost) (a:Act) (w:World),listed.size=ops.size->(aCj ops listed).length<=fuel ->
   (∀k o,listed.getD k false=true->ops[k]?=some o->∀e,e∈o.after->Region.binds .any e=true->listed.getD e.on false=true) ->
   Good P D n s G a w->(∀x,x∈at_ l (aCj ops listed)->∀d,x.i.mk=some d->G (s.nx+d)=none)->(mks (at_ l (aCj ops listed))).Nodup ->
   aops P (at_ l (aCj ops listed)) s K->(∀s' G' a' w',K s'->Good P D n s' G' a' w'->Nxt s.L G w s'.L G' w'->Q .normal a' w')->wpOps P ops Q (Region.linearise.go .any ops fuel t listed []) a w:=by
 have constOf:∀i,i<ops.size->(l.getD i default).i.constOk=true:=λi hi=>by grind
 intro fuel;induction fuel with
 | zero=>intro t listed s G a w hsz hf hcl hfit hfr hnd h hn;have:aCj ops listed=[]:=yP.1 (by omega);rw[this]at h;have h:K s:=h;simp only[Region.linearise.go,y3,wpOps];exact hn s G a w h hfit (Nxt.refl _ _ _)
 | succ fuel ih =>
   intro t listed s G a w hsz hf hcl hfit hfr hnd h hn;simp only[Region.linearise.go];change wpOps P ops Q (match(Region.ready .any ops listed)[t%(Region.ready .any ops listed).length]? with
    | some i=>Region.linearise.go .any ops fuel (t / (Region.ready .any ops listed).length) (listed.setIfInBounds i true) [i]
    | none=>[].reverse) a w
   cases hi:(Region.ready .any ops listed)[t%(Region.ready .any ops listed).length]? with
   | none =>
     have hnil:Region.ready .any ops listed=[]:=by
      cases hr:Region.ready .any ops listed with
      | nil=>rfl
      | cons x xs=>rw[hr]at hi;have hlt:t%(x::xs).length<(x::xs).length:=vg _ (by simp);grind
     have hrem:aCj ops listed=[]:=by
      cases hr:aCj ops listed with
      | nil=>rfl
      | cons x xs =>
        exfalso;have hx:x∈aCj ops listed:=by grind
        have hx1:x<ops.size∧listed.getD x true=false:=by simp only[aCj,xy,yc,zV]at hx;exact hx
        have hmin:∀y,y<x->y<ops.size->listed.getD y true=true:=by
         intro y hy hys;have hpw:(aCj ops listed).Pairwise (·<·):=List.Pairwise.filter _ yC;cases hly:listed.getD y true with
         | true=>rfl
         | false =>
           have hm:y∈aCj ops listed:=by simp only[aCj,xy,yc,zV];grind
           rw[hr]at hm hpw;rcases zD.1 hm with e|hm
           .omega
           .have:=wa hpw hm;omega
        have hmem:x∈Region.ready .any ops listed:=by
         rw[mem_ready];refine⟨hx1.2,ops[x]'hx1.1,ye hx1.1,λe hme hb=>?_⟩;have hlt:e.on<x:=by simp only[aG9,zx,yc]at he;grind
         grind
        grind
     rw[hrem]at h;have h:K s:=h;simp only[y3,wpOps];exact hn s G a w h hfit (Nxt.refl _ _ _)
   | some i =>
     simp only[];rw[linearise_go_acc,wo,xb,wpOps_cons];have hmem:=y7 hi;obtain⟨hun,o,ho',hall⟩:=mem_ready.1 hmem;have his:i<ops.size:=(xp.1 ho').1;have hun':listed.getD i false=false:=by grind
     obtain⟨p,b,h1,h2,h3⟩:=aDb (p:=λj=>!listed.getD j true) (q:=λj=>!(listed.setIfInBounds i true).getD j true) (zU ops.size) yC (yc.2 his) (by grind)
      (λj hj=>by rw[getD_set_ne true (Ne.symm hj)]) (by simp)
     have hra:aCj ops listed=p++i::b:=h1;have hrb:aCj ops (listed.setIfInBounds i true)=p++b:=h2;have ham:∀j,j∈p->j<i∧listed.getD j false=false:=λj hj=>by
      have hm:j∈aCj ops listed:=by grind
      grind
     have hind:∀x,x∈at_ l p->x.i.constOk=true∧x.indep (l.getD i default)=true:=by
      intro x hx;obtain⟨j,hj,rfl⟩:=zQ.1 hx;obtain⟨hji,hjl⟩:=ham j hj;refine⟨constOf j (by omega),?_⟩;simp only[aNx,zx,yc,yH]at ho;rcases ho i (by omega) j hji with hb|hb
      .have:=aHm (S:=λk=>listed.getD k false=true) (λk o hk hko e hm hbb=>hcl k o hk hko e hm hbb) ho' hall hb;grind
      grind
     rw[hra]at h hfr hnd hf;have hmid:at_ l (p++i::b)=at_ l p++l.getD i default::at_ l b:=by simp[at_]
     rw[hmid]at h hfr hnd;have hperm:(at_ l p++l.getD i default::at_ l b).Perm (l.getD i default::(at_ l p++at_ l b)):=wS;have hnd':=aGq hperm hnd;have hj:=bCv (at_ l p) s _ (l.getD i default) (at_ l b) hind (constOf i his) hfit.sfit (λx hx d hd hF=>by
      grind)
      (by
       have hsub:(mks (l.getD i default::at_ l p)).Sublist (mks (l.getD i default::(at_ l p++at_ l b))):=by refine xm _ ?_;simp
       grind) h
     change aA0 P (l.getD i default) s (λs'=>aops P (at_ l p++at_ l b) s' K)at hj;have hab:at_ l (p++b)=at_ l p++at_ l b:=by simp[at_]
     refine aN8 ho' (hl' i o ho') hj hfit (λs1 G1 a1 w1 k1 g1 x1 n1=>?_) (hfr (l.getD i default) (by simp));refine ih (t / (Region.ready .any ops listed).length) (listed.setIfInBounds i true) s1 G1 a1 w1 (by grind) (by
      grind) (λk o hk hko e hm hbb=>by
       by_cases e1:k=i
       .subst e1;rw[ho']at hko;obtain rfl:=zq hko;exact getD_set_true (hall e hm hbb)
       .rw[getD_set_ne false (Ne.symm e1)]at hk;exact getD_set_true (hcl k o hk hko e hm hbb)) g1 (by
       rw[hrb,hab];intro x hx d hd;refine n1.free (hfr x ?_ d hd) λe=>?_
       .grind
       .simp only[mks,y5,e,xT]at hnd';grind) (by
       rw[hrb,hab];have hsub:(mks (at_ l p++at_ l b)).Sublist (mks (l.getD i default::(at_ l p++at_ l b))):=xm _ (List.sublist_cons_self _ _);grind) (by grind) (λs2 G2 a2 w2 k2 g2 x2=>hn s2 G2 a2 w2 k2 g2 (x1.trans x2))
end
end Go.Ab
namespace Go.Ab
open Go.RowKit
section
variable {P:Program} {D:Nat->Prop} {n:Nat} {hint:Nat->Nat} {ops:Array Oper} {s:St} {G:Ghost} {a:Act} {w:World} {K:St->Prop} {Q:Exit->Act->World->Prop}
theorem aLa{d:Option Nat}{l:List Nat}(h:disj d.toList l=true)(k:Nat)(hk:d=some k):k∉l:=aBm h (by grind)
theorem bFg{x y:GI}(hs:x.swl y=true)(d1:disj x.i.dst.toList y.reads=true)(d2:disj y.i.dst.toList x.reads=true)(d3:disj x.i.dst.toList y.i.dst.toList=true)
 (h:aA0 P x s (λs1=>aA0 P y s1 K)):aA0 P y s (λs2=>aA0 P x s2 K):=by
 have hcom:∀k,x.i.dst=some k->y.i.dst≠some k:=λk hk hk'=>aLa d3 k hk (by grind);obtain⟨gx,xi⟩:=x;obtain⟨gy,yi⟩:=y;unfold GI.swl at hs;split at hs
 .rename_i dx sz ag q b dy m f args c he1 he2;simp only[GI.mk.injEq]at he1 he2;obtain⟨rfl,rfl⟩:=he1;obtain⟨rfl,rfl⟩:=he2;obtain rfl:b=c:=by grind
  have n1:∀t,t∈(I.ecr dy m f args b).reads->dx≠some t:=λt ht e=>aLa d1 t e (by simp[GI.reads,ht]);have n2:∀t,t∈(I.ldr dx sz ag q b).reads->dy≠some t:=λt ht e=>aLa d2 t e (by simp[GI.reads,ht]);have e1:∀v,args.map (s.setO dx v).ev=args.map s.ev:=λv=>zt λp hp=>by
   cases p with
   | k u=>rfl
   | t t=>exact aBi (n1 t (by simp only[I.reads,I.srcs];exact yQ.2 ⟨.t t,ya _ hp,by simp[srcT]⟩))
  have e2:∀v,(s.setO dx v).env b=s.env b:=λv=>aBi (n1 b (by simp[I.reads,I.srcs,srcT]));simp only[aA0,aAf]at h ⊢;split at h
  .rename_i id o id' o' hb hq;obtain⟨rfl,h⟩:=h;split at h
   .rename_i ty cs hL;obtain⟨h1,h2⟩:=h;simp only[e1,e2,aDo,aCl]at h2;refine ECall.mono h2 λr L' nx' hh=>⟨hh.1,?_⟩;have f1:((⟨s.env,L',nx'⟩:St).setO dy r).env b=.ptr id o:=by rw[aBi (n2 b (by simp[I.reads,I.srcs,srcT]))];exact hb
    have f2:((⟨s.env,L',nx'⟩:St).setO dy r).ev q=.ptr id o':=by
     cases q with
     | k u=>exact hq
     | t t=>show((⟨s.env,L',nx'⟩:St).setO dy r).env t=_;rw[aBi (n2 t (by simp[I.reads,I.srcs,srcT]))];exact hq
    have f3:((⟨s.env,L',nx'⟩:St).setO dy r).L id=some (.box ty cs):=by rw[aDo];grind
    rw[f1,f2];simp only[f3];refine⟨trivial,h1,?_⟩;have e3:(⟨(s.setO dx (pack ag (zA sz (yK o' cs)))).env,L',nx'⟩:St)=(⟨s.env,L',nx'⟩:St).setO dx (pack ag (zA sz (yK o' cs))):=by cases dx<;>rfl
    have hk:=hh.2;rw[e3,aDh (d:=dx) (d':=dy) hcom]at hk;exact hk
   grind
  grind
 .rename_i dy m f args c dx sz ag q b he1 he2;simp only[GI.mk.injEq]at he1 he2;obtain⟨rfl,rfl⟩:=he1;obtain⟨rfl,rfl⟩:=he2;obtain rfl:b=c:=by grind
  have n1:∀t,t∈(I.ldr dx sz ag q b).reads->dy≠some t:=λt ht e=>aLa d1 t e (by simp[GI.reads,ht]);have n2:∀t,t∈(I.ecr dy m f args b).reads->dx≠some t:=λt ht e=>aLa d2 t e (by simp[GI.reads,ht]);have e1:∀v,args.map (s.setO dx v).ev=args.map s.ev:=λv=>zt λp hp=>by
   cases p with
   | k u=>rfl
   | t t=>exact aBi (n2 t (by simp only[I.reads,I.srcs];exact yQ.2 ⟨.t t,ya _ hp,by simp[srcT]⟩))
  have e2:∀v,(s.setO dx v).env b=s.env b:=λv=>aBi (n2 b (by simp[I.reads,I.srcs,srcT]));simp only[aA0,aAf]at h ⊢;obtain⟨r0,L0,nx0,k0,hh0⟩:=h.1;have f1:∀r L' nx',((⟨s.env,L',nx'⟩:St).setO dy r).env b=s.env b:=λr L' nx'=>aBi (n1 b (by simp[I.reads,I.srcs,srcT]));have f2:∀r L' nx',((⟨s.env,L',nx'⟩:St).setO dy r).ev q=s.ev q:=λr L' nx'=>by
   cases q with
   | k u=>rfl
   | t t=>exact aBi (n1 t (by simp[I.reads,I.srcs,srcT]))
  simp only[f1,f2,aDo]at h hh0 ⊢;split at hh0
  .rename_i id o id' o' hb hq;obtain⟨rfl,hh0⟩:=hh0;split at hh0
   .rename_i ty cs hL;rw[k0 id o hb]at hL;simp only[hL];refine⟨trivial,hh0.1,?_⟩;simp only[e1,e2,aDo,aCl];refine ECall.mono h λr L' nx' hh=>⟨λi p hi=>hh.1 i p (by omega),?_⟩;have hk:=hh.2;rw[hb,hq]at hk;simp only at hk;replace hk:=hk.2;rw[hh.1 id o hb,hL]at hk;simp only at hk;have e3:(⟨(s.setO dx (pack ag (zA sz (yK o' cs)))).env,L',nx'⟩:St)=(⟨s.env,L',nx'⟩:St).setO dx (pack ag (zA sz (yK o' cs))):=by cases dx<;>rfl
    rw[e3,aDh (d:=dx) (d':=dy) λk hk hk'=>hcom k hk' hk];grind
   grind
  omega
 grind
theorem aKn{i:I}(h:i.rank<=1):i.mk=none:=by
 cases i<;>simp_all[I.rank,I.mk]
theorem bDr{i:I}(h:i.rank=4):i.mk=none:=by
 cases i<;>simp[I.rank,I.mk]at h ⊢
theorem aK3{x:GI}(h:x.core=true):x.i.mk=none:=by
 simp only[GI.core,yH,decide_eq_true_eq]at h;rcases h with h|h
 .exact aKn h
 .exact bDr h
theorem bQu{x y:GI}(hx:x.i.constOk=true)(hy:y.i.constOk=true)(cx:x.core=true)(cy:y.core=true)(hi:x.indepL y=true)(h:aA0 P x s (λs1=>aA0 P y s1 K)):aA0 P y s (λs2=>aA0 P x s2 K):=by
 simp only[GI.indepL,yH,zc]at hi;rcases hi with hi|⟨⟨⟨hs,d1⟩,d2⟩,d3⟩
 .have ha:aops P ([x]++y::[]) s K:=h;exact bCv [x] s (λ_=>True) y [] (λz hz=>by grind) hy (aLc s) (λz hz d hd=>by
   rcases zD.1 hz with rfl|hz
   .rw[aK3 cy]at hd;cases hd
   .rw[zp.1 hz,aK3 cx]at hd;cases hd) (by simp[mks,aK3 cy,aK3 cx]) ha
 .exact bFg hs d1 d2 d3 h
theorem bGp:∀(xs:List GI) (s:St) (z:GI) (r:List GI),(∀x,x∈xs->x.i.constOk=true∧x.core=true∧x.indepL z=true)->z.i.constOk=true->z.core=true->aops P (xs++z::r) s K->aops P (z::(xs++r)) s K
 | [],s,z,r,_,_,_,h=>h
 | x::xs,s,z,r,hx,hz,cz,h=>by obtain⟨h1,h2,h3⟩:=hx x (by simp);have step:aA0 P x s (λs1=>aA0 P z s1 λs2=>aops P (xs++r) s2 K):=aCz h λs1 h1=>bGp xs s1 z r (λy hy=>hx y (by grind)) hz cz h1;exact bQu h1 hz h2 cz h3 step
end
section
variable {P:Program} {D:Nat->Prop} {n:Nat} {hint:Nat->Nat} {ops:Array Oper} {s:St} {G:Ghost} {a:Act} {w:World} {K:St->Prop} {Q:Exit->Act->World->Prop}
theorem BlkOk.mapR{G G':Ghost}{D D':Nat->Prop}{w w':World}{g:GB}{b:Blk}(hm:∀x v,Rep G D w x v->Rep G' D' w' x v)(hk:∀x,Occ g b x->w'.heap[x]?=w.heap[x]?)(hb:BlkOk G D w g b):BlkOk G' D' w' g b:=by
 cases b with
 | box ty cs=>obtain⟨c,ty',fr,k1,k2,k3,k4,k5⟩:=hb;exact⟨c,ty',fr,by rw[hk _ rfl];exact k1,k2,k3,k4,λi x hx=>hm _ _ (k5 i x hx)⟩
 | vec ty sz es=>obtain⟨k1,k2,k3,k4,k5⟩:=hb;refine⟨k1,k2,k3,k4,λh0=>?_⟩;obtain⟨c,ty',fr,q1,q2,q3,q4⟩:=k5 h0;exact⟨c,ty',fr,by rw[hk _ ⟨h0,rfl⟩];exact q1,q2,q3,λi j x hx=>hm _ _ (q4 i j x hx)⟩
 | map c es=>obtain⟨a,k1,k2,k3⟩:=hb;refine⟨a,by rw[hk _ rfl];exact k1,k2,λi k v b hi=>?_⟩;grind
 | bld tb ty bs=>obtain⟨c,fr,cap,o,a,k1,k2⟩:=hb;obtain⟨k2,k3,k4,k5,k6,k7,k8,k9,k10⟩:=k2;refine⟨c,fr,cap,o,a,by rw[hk _ (.inl rfl)];exact k1,k2,k3,k4,k5,k6,k7,k8,k9,λh0=>?_⟩;obtain⟨q1,q2,q3,cb,fb,q4,q5⟩:=k10 h0;exact⟨q1,q2,q3,cb,fb,by rw[hk _ (.inr rfl)];exact q4,q5⟩
theorem Good.junk{w':World}(h:Good P D n s G a w)(hb:Below w.heap.size w w')(hlt:w.heap.size<w'.heap.size):Good P (λx=>D x∨x=w.heap.size) n s G a w':=by
 have hm:∀x v,Rep G (Dp D s.L G) w x v->Rep G (Dp (λx=>D x∨x=w.heap.size) s.L G) w' x v:=λx v hr =>
  hr.mono G.le_refl (λb hb hn hd=>by
   rcases hd with(h1|h1)|h1
   .exact hn (.inl h1)
   .omega
   .exact hn (.inr h1)) ⟨hb.size,λx hx _=>hb.block x hx⟩
 refine⟨h.size,h.defers,λt=>hm _ _ (h.env t),h.hp.fin,λi b hi=>?_,h.hp.apart,λx hx=>?_,λx hx=>?_,?_⟩
 .obtain⟨g,h1,h2⟩:=h.hp.blk i b hi;exact⟨g,h1,h2.mapR hm λx hx=>hb.block x (h.hp.away x ⟨i,b,g,hi,h1,hx⟩).1⟩
 .obtain⟨h1,h2⟩:=h.hp.away x hx;grind
 .rcases hx with hx|rfl
  .exact Nat.lt_of_lt_of_le (h.hp.dlt x hx) hb.size
  omega
 .have h1:=h.hp.gl.nxt (L':=s.L) (G':=G) (w':=w') ⟨G.le_refl,⟨hb.size,λx hx _=>hb.block x hx⟩,λ_ _ h=>h,hb.os,hb.tape,hb.output⟩;refine⟨h1.1,h1.2.1,λx vs hx=>?_⟩;obtain⟨h2,h3⟩:=h1.2.2 x vs hx;refine⟨h2,λh4=>h4.elim h3 λe=>?_⟩;have:=(h.hp.gl.2.1 x vs hx).1;omega
theorem Good.unhide{id d ty b:Nat}{g:GB}{z:List V}(h:Good P (λx=>D x∨x=b) n s G a w)(hv:a.tmps.getD d undef=.pointer (some ⟨b,0,none⟩))(hgb:g.blk=b)(hgo:g.off=0)(hid:id<s.nx+n)(hG:G id=none)
 (hz:∀x,x∈z->x.flat1=true) (hok:BlkOk G (Dp (λx=>D x∨x=b) s.L G) w g (.box ty z)) (hnD:¬D b) (hnG:∀x,gint P x->x≠b) :
 Good P D n ⟨upd s.env d (.ptr id 0),upd s.L id (some (.box ty z)),s.nx⟩ (upd G id (some g)) a w:=by
 subst hgb;have hLn:s.L id=none:=by
  cases hl:s.L id with
  | none=>rfl
  | some b'=>obtain⟨g',h1,_⟩:=h.hp.blk id b' hl;grind
 have hle:G.le (upd G id (some g)):=λi gi hi=>by
  by_cases e:i=id
  .grind
  .exact⟨gi.aux,by rw[aAc _ _ _ _ e];exact hi⟩
 have hGn:∀i,i≠id->upd G id (some g) i=G i:=λi e=>aAc _ _ _ _ e;have ownE:∀x,Own (upd s.L id (some (.box ty z))) (upd G id (some g)) x↔Own s.L G x∨x=g.blk:=by
  intro x;constructor
  .rintro⟨i,b,gi,h1,h2,h3⟩;by_cases e:i=id
   .subst e;rw[aAe]at h1 h2;cases h1;cases h2;exact .inr h3
   .rw[aAc _ _ _ _ e]at h1 h2;exact .inl ⟨i,b,gi,h1,h2,h3⟩
  .rintro(⟨i,b,gi,h1,h2,h3⟩|rfl)
   .have e:i≠id:=by grind
    exact⟨i,b,gi,by rw[aAc _ _ _ _ e];exact h1,by grind,h3⟩
   .exact⟨id,_,g,aAe _ _ _,aAe _ _ _,rfl⟩
 have hD:Dp D (upd s.L id (some (.box ty z))) (upd G id (some g))=Dp (λx=>D x∨x=g.blk) s.L G:=by funext x;apply propext;simp only[Dp,ownE];grind
 have hrep:∀x v,Rep G (Dp (λx=>D x∨x=g.blk) s.L G) w x v->Rep (upd G id (some g)) (Dp (λx=>D x∨x=g.blk) s.L G) w x v:=λx v hr=>hr.mono hle (λ_ _ h=>h) (Same.refl _ _);have hnO:¬Own s.L G g.blk:=λho=>(h.hp.away _ ho).2 (.inr rfl);refine⟨h.size,h.defers,λt=>?_,λi hi=>?_,λi b hb=>?_,λi i' b b' gi gi' x h1 h2 h3 h4 hne h5 h6=>?_,λx hx=>?_,λx hx=>h.hp.dlt x (.inl hx),?_⟩
 .show Rep (upd G id (some g)) (Dp D (upd s.L id (some (.box ty z))) (upd G id (some g))) w _ _;rw[hD];by_cases e:t=d
  .subst e;simp only[aAe,hv];have:=Rep.ptr (G:=upd G id (some g)) (D:=Dp (λx=>D x∨x=g.blk) s.L G) (w:=w) id 0 g (aAe _ _ _);grind
  .simp only[aAc _ _ _ _ e];exact hrep _ _ (h.env t)
 .have:i≠id:=by grind
  rw[hGn i this];exact h.hp.fin i hi
 .show∃gi,upd G id (some g) i=some gi∧BlkOk (upd G id (some g)) (Dp D (upd s.L id (some (.box ty z))) (upd G id (some g))) w gi b;rw[hD];by_cases e:i=id
  .subst e;replace hb:upd s.L i (some (.box ty z)) i=some b:=hb;rw[aAe]at hb;cases hb;refine⟨g,aAe _ _ _,?_⟩;obtain⟨c,ty',fr,k1,k2,k3,k4,k5⟩:=hok;exact⟨c,ty',fr,k1,k2,k3,k4,λi x hx=>(k5 i x hx).flat1 (hz x (mem_of_getElem? hx)) _ _ _⟩
  .replace hb:upd s.L id (some (.box ty z)) i=some b:=hb;rw[aAc _ _ _ _ e]at hb;obtain⟨gi,h1,h2⟩:=h.hp.blk i b hb;refine⟨gi,by grind,?_⟩;exact h2.mapR (λx v hr=>hrep x v hr) λ_ _=>rfl
 .replace h1:upd s.L id (some (.box ty z)) i=some b:=h1;replace h2:upd s.L id (some (.box ty z)) i'=some b':=h2;by_cases e:i=id
  .subst e;have e':i'≠i:=λe'=>hne e'.symm;rw[aAe]at h1 h3;cases h1;cases h3;rw[aAc _ _ _ _ e']at h2 h4;simp only[Occ]at h5;subst h5;exact hnO ⟨i',b',gi',h2,h4,h6⟩
  .rw[aAc _ _ _ _ e]at h1 h3;by_cases e':i'=id
   .subst e';rw[aAe]at h2 h4;cases h2;cases h4;simp only[Occ]at h6;subst h6;exact hnO ⟨i,b,gi,h1,h3,h5⟩
   .rw[aAc _ _ _ _ e']at h2 h4;exact h.hp.apart i i' b b' gi gi' x h1 h2 h3 h4 hne h5 h6
 .rcases(ownE x).1 hx with h1|rfl
  .obtain⟨h2,h3⟩:=h.hp.away x h1;grind
  .exact⟨h.hp.dlt _ (.inr rfl),hnD⟩
 .refine⟨λx hx=>?_,h.hp.gl.2.1,λx vs hx=>?_⟩
  .obtain⟨h1,h2,h3⟩:=h.hp.gl.1 x hx;grind
  .obtain⟨h1,h2⟩:=h.hp.gl.2.2 x vs hx;grind
end
end Go.Ab
namespace Go.Ab
open Go.RowKit
section
variable {P:Program} {D:Nat->Prop} {n:Nat} {hint:Nat->Nat} {ops:Array Oper} {s:St} {G:Ghost} {a:Act} {w:World} {K:St->Prop} {Q:Exit->Act->World->Prop}
theorem aNj{G G':Ghost}{D D':Nat->Prop}{w w':World}{g:GB}{e:Nat}{z:List V}(hz:z.all V.flat1=true)(h:BlkOk G D w g (.box e z))(hk:w'.heap[g.blk]?=w.heap[g.blk]?):BlkOk G' D' w' g (.box e z):=by
 obtain⟨c,ty',fr,k1,k2,k3,k4,k5⟩:=h;exact⟨c,ty',fr,by grind,k2,k3,k4,λi x hx=>(k5 i x hx).flat1 (zx.1 hz x (mem_of_getElem? hx)) _ _ _⟩
theorem aUt{i d e:Nat}{o:Oper}{z:List V}{next:Act->World->Prop}(ho:ops[i]?=some o)(hx:aGp P n hint ops o=some ⟨none,.alloc d e z⟩)(hop:∃e',o.op=.alloc e')(hg:Good P D n s G a w)
 (hn:∀a' w',Good P (λx=>D x∨x=w.heap.size) n (s.set d (.raw (.pointer (some ⟨w.heap.size,0,none⟩)))) G a' w'->Below w.heap.size w w'->a'.tmps.getD d undef=.pointer (some ⟨w.heap.size,0,none⟩) ->
  (∀G' D',BlkOk G' D' w' ⟨w.heap.size,0,0,0,0⟩ (.box e z))->d<n->next a' w'):wpOp P ops Q i next a w:=by
 obtain⟨hd,hgd,hi,hdst⟩:=aJw hx;obtain⟨e',hop⟩:=hop;have hgo:o.guard=none:=by
  cases hgo:o.guard with
  | none=>rfl
  | some jw=>obtain⟨j,wt⟩:=jw;rw[hgo]at hgd;simp only[lowG]at hgd;grind
 simp only[lowX,lowE,lowI,hop]at hi;split at hi
 .rename_i d' z' h1 h2;simp only[za,I.alloc.injEq]at hi;obtain⟨rfl,rfl,rfl⟩:=hi;have hdn:d'<n:=by rw[h1]at hd;simpa[aA5]using hd
  obtain⟨zv,_,hrun,hrep⟩:=aDw h2 G (Dp D s.L G) w;have run:(execOp a.eval o).run P w=.ok (.value (.pointer (some ⟨w.heap.size,0,none⟩))) (w.alloc (.cells zv.cells e')):=by simp only[execOp,hop,aD8,Instr.alloc,Sem.run_bind,hrun,Result.andThen_ok];rfl
  simp only[wpOp,ho,Region.wanted,hgo,if_true];refine .inl ?_;show o.upon P a next Q ((execOp a.eval o).run P w)
  rw[run];simp only[Oper.upon,h1];have hb:=aBr w (.cells zv.cells e');have hj:=hg.junk hb (by simp);have g3:=hj.put (d:=some d') (x:=.raw (.pointer (some ⟨w.heap.size,0,none⟩))) (v:=.pointer (some ⟨w.heap.size,0,none⟩)) (by grind) (.raw _);refine hn _ _ g3 hb ?_ (λG' D'=>?_) hdn
  .have hs:d'<a.tmps.size:=by rw[hg.size];omega
   simp[Act.put,zo,hs]
  .obtain⟨zv2,_,hrun2,hrep2⟩:=aDw h2 G' D' (w.alloc (.cells zv.cells e'));have hzz:zv2=zv:=by
    grind
   subst hzz;exact⟨_,_,_,aA4 _ _,⟨hrep2.1.symm,rfl⟩,rfl,λi _=>(by simp),λi x hx=>hrep2.2 i x hx⟩
 grind
def remP(ops:Array Oper)(listed:Array Bool)(q:Nat->Bool):List Nat:=(zU ops.size).filter λj=>!listed.getD j true&&q j
theorem bEe{listed:Array Bool}(m:Nat):(remP ops listed λj=>decide (j<m)).length+(remP ops listed λj=>decide (m<=j)).length=(aCj ops listed).length:=by
 have key:∀(f:Nat->Bool) (l:List Nat),(l.filter λj=>!f j&&decide (j<m)).length+(l.filter λj=>!f j&&decide (m<=j)).length=(l.filter λj=>!f j).length:=by
  intro f l;induction l with
  | nil=>rfl
  | cons x r ih=>grind
 exact key _ _
theorem aHj{listed:Array Bool}{q:Nat->Bool}{j:Nat}:j∈remP ops listed q↔j<ops.size∧listed.getD j true=false∧q j=true:=by
 simp[remP,and_assoc]
theorem aLv{listed:Array Bool}{q:Nat->Bool}{i:Nat}(hi:q i=false):remP ops (listed.setIfInBounds i true) q=remP ops listed q:=by
 refine wM λj hj=>?_;by_cases e:j=i
 .grind
 .rw[getD_set_ne true (Ne.symm e)]
theorem bA8(he:aG9 ops=true){listed:Array Bool}(hsz:listed.size=ops.size)(hnil:Region.ready .any ops listed=[]):aCj ops listed=[]:=by
 cases hr:aCj ops listed with
 | nil=>rfl
 | cons x xs =>
   exfalso;have hx:x∈aCj ops listed:=by grind
   have hx1:x<ops.size∧listed.getD x true=false:=by simp only[aCj,xy,yc,zV]at hx;exact hx
   have hmin:∀y,y<x->y<ops.size->listed.getD y true=true:=by
    intro y hy hys;have hpw:(aCj ops listed).Pairwise (·<·):=List.Pairwise.filter _ yC;cases hly:listed.getD y true with
    | true=>rfl
    | false =>
      have hm:y∈aCj ops listed:=by simp only[aCj,xy,yc,zV];grind
      rw[hr]at hm hpw;rcases zD.1 hm with e|hm
      .omega
      .have:=wa hpw hm;omega
   have hmem:x∈Region.ready .any ops listed:=by
    rw[mem_ready];refine⟨hx1.2,ops[x]'hx1.1,ye hx1.1,λe hme hb=>?_⟩;have hlt:e.on<x:=by simp only[aG9,zx,yc]at he;have:=he x hx1.1;grind
    grind
   grind
structure Pend(P:Program)(D:Nat->Prop)(n:Nat)(l:List GI)(m:Nat)(listed:Array Bool)(w0:World)(s:St)(G:Ghost)(a:Act)(w:World)(b d e:Nat)(z:List V):Prop where
 at_:l.getD m default=⟨none,.alloc d e z⟩
 done:listed.getD m false=true
 flat:z.all V.flat1=true
 dn:d<n
 env:s.env d=.raw (.pointer (some ⟨b,0,none⟩))
 ok:BlkOk G (Dp D s.L G) w ⟨b,0,0,0,0⟩ (.box e z)
 nD:¬D b
 nG:∀x,gint P x->x≠b
 new:w0.heap.size<=b
 free:G (s.nx+d)=none
 ap:∀j,j<m->(l.getD j default).reads.contains d=false∧(l.getD j default).i.dst.toList.contains d=false
def Dq(D:Nat->Prop):Option Nat->Nat->Prop
 | none=>D
 | some b=>λx=>D x∨x=b
def bNz(P:Program)(D:Nat->Prop)(n:Nat)(l:List GI)(m:Nat)(listed:Array Bool)(w0:World)(s:St)(G:Ghost)(a:Act)(w:World):Option Nat->Prop
 | none=>True
 | some b=>∃d e z,Pend P D n l m listed w0 s G a w b d e z
def pl(l:List GI)(m:Nat):Option Nat->List GI
 | none=>[]
 | some _=>[l.getD m default]
theorem bQc{v u:Value}(h:Rep G D w (.raw v) u):u=v:=by cases h;rfl
theorem Pend.name{l:List GI}{m b d e:Nat}{listed:Array Bool}{w0:World}{z:List V}{L0:Heap}{G0:Ghost}(h:Pend P D n l m listed w0 s G a w b d e z)(hg:Good P (λx=>D x∨x=b) n s G a w)(hx:Nxt L0 G0 w0 s.L G w):
 Good P D n ((s.add (s.nx+d) (.box e z)).set d (.ptr (s.nx+d) 0)) (upd G (s.nx+d) (some ⟨b,0,0,0,0⟩)) a w∧Nxt L0 G0 w0 (upd s.L (s.nx+d) (some (.box e z))) (upd G (s.nx+d) (some ⟨b,0,0,0,0⟩)) w:=by
 have hv:a.tmps.getD d undef=.pointer (some ⟨b,0,none⟩):=by have:=hg.env d;rw[h.env]at this;exact bQc this
 have h1:=hg.unhide (id:=s.nx+d) (ty:=e) (g:=⟨b,0,0,0,0⟩) (z:=z) hv rfl rfl (by have:=h.dn;omega) h.free (λx hx=>zx.1 h.flat x hx) (aNj h.flat h.ok rfl) h.nD h.nG;refine⟨h1,⟨Ghost.le_trans hx.le λi gi hi=>?_,hx.same,λx hxs ho=>?_,hx.os,hx.tape,hx.output⟩⟩
 .have e:i≠s.nx+d:=by rintro rfl;rw[h.free]at hi;cases hi
  exact⟨gi.aux,by rw[aAc _ _ _ _ e];exact hi⟩
 .obtain⟨i,bi,gi,h2,h3,h4⟩:=ho;by_cases e:i=s.nx+d
  .subst e;rw[aAe]at h2 h3;cases h2;cases h3;have:=h.new;simp only[Occ]at h4;omega
  .rw[aAc _ _ _ _ e]at h2 h3;exact hx.own x hxs ⟨i,bi,gi,h2,h3,h4⟩
theorem bBa(x:GI):(mks [x]).Nodup:=by
 cases h:x.i.mk<;>simp[mks,h]
theorem aO7{x:GI}{xs:List GI}(h:mks xs=[]):mks (x::xs)=mks [x]:=by
 simp only[mks,y5,List.filterMap_nil]at h ⊢;rw[h]
theorem aYa{xs:List GI}(h:∀x,x∈xs->x.i.rank=0):mks xs=[]:=by
 simp only[mks,List.filterMap_eq_nil_iff];exact λx hxm=>aKn (by grind)
theorem aQw{l:List GI}{i:Nat}(h:i<aAl l):(l.getD i default).core=true∧i<l.length:=by
 unfold aAl at h;cases hf:l.findIdx? λx=>!x.core with
 | none=>grind
 | some j=>rw[hf]at h;have hj:i<j:=h;obtain⟨h1,h2,h3⟩:=List.findIdx?_eq_some_iff_getElem.1 hf;grind
theorem bBh{l1 r:List GI}{d e:Nat}{z:List V}{u:Value}(h1:∀x,x∈l1->x.i.constOk=true∧x.core=true∧(x.reads.contains d=false∧x.i.dst.toList.contains d=false))(h:aops P (l1++⟨none,.alloc d e z⟩::r) s K):
 aops P (l1++⟨none,.alloc d e z⟩::r) (s.set d (.raw u)) K:=by
 have key:∀(l1:List GI) (s:St),aops P (l1++⟨none,.alloc d e z⟩::r) s K->aops P (l1++(⟨none,.mov (some d) (.k (.raw u))⟩::⟨none,.alloc d e z⟩::r)) s K:=by
  intro l1;induction l1 with
  | nil =>
    intro s h;have e1:((s.set d (.raw u)).add ((s.set d (.raw u)).nx+d) (.box e z)).set d (.ptr ((s.set d (.raw u)).nx+d) 0)=(s.add (s.nx+d) (.box e z)).set d (.ptr (s.nx+d) 0):=by
     simp only[St.set,St.add];congr 1;funext t;by_cases ht:t=d
     .subst ht;simp[upd]
     .simp[upd,ht]
    have h2:aops P r ((s.add (s.nx+d) (.box e z)).set d (.ptr (s.nx+d) 0)) K:=h;show aops P r (((s.set d (.raw u)).add ((s.set d (.raw u)).nx+d) (.box e z)).set d (.ptr ((s.set d (.raw u)).nx+d) 0)) K;grind
  | cons x xs ih=>exact λs h=>aCz h λs' h'=>ih s' h'
 have h2:=key l1 s h;exact aS9 l1 s ⟨none,.mov (some d) (.k (.raw u))⟩ _ (λx hx=>by
  obtain⟨c1,c2,c3,c4⟩:=h1 x hx;refine⟨c1,?_⟩;have r1:disj x.i.dst.toList (⟨none,.mov (some d) (.k (.raw u))⟩:GI).reads=true:=by simp[disj,GI.reads,I.reads,I.srcs,srcT]
  have r2:disj (I.mov (some d) (.k (.raw u))).dst.toList x.reads=true:=by simp only[disj,I.dst,wA,yF,wb,c3];rfl
  have r3:disj x.i.dst.toList (I.mov (some d) (.k (.raw u))).dst.toList=true:=by show disj x.i.dst.toList [d]=true;generalize x.i.dst.toList=q at c4;simp only[disj,zx,zV];grind
  simp only[GI.indep,r1,r2,r3,zy,zc,yH,zV,I.rank,I.ang];simp) rfl rfl h2
end
end Go.Ab
namespace Go.Ab
open Go.RowKit
section
variable {P:Program} {D:Nat->Prop} {n:Nat} {hint:Nat->Nat} {ops:Array Oper} {s:St} {G:Ghost} {a:Act} {w:World} {K:St->Prop} {Q:Exit->Act->World->Prop}
theorem bG5{l:List GI}(hl':∀i o,ops[i]?=some o->aGp P n hint ops o=some (l.getD i default))(hl:l.length=ops.size)(ho:aUg ops (aOh ops) l=true)(he:aG9 ops=true)(hc:l.all (·.i.constOk)=true){L0:Heap}{G0:Ghost}{w0:World}:
 ∀(fuel t:Nat) (listed:Array Bool) (s:St) (G:Ghost) (a:Act) (w:World) (pd:Option Nat),listed.size=ops.size->(aCj ops listed).length<=fuel ->
   (∀k o,listed.getD k false=true->ops[k]?=some o->∀e,e∈o.after->Region.binds .any e=true->listed.getD e.on false=true) ->
   Good P (Dq D pd) n s G a w->Nxt L0 G0 w0 s.L G w->(∀x,x∈at_ l (remP ops listed λj=>decide (aAl l<=j))->∀d,x.i.mk=some d->G (s.nx+d)=none) ->
   (mks (pl l (aAl l) pd++at_ l (remP ops listed λj=>decide (aAl l<=j)))).Nodup->bNz P D n l (aAl l) listed w0 s G a w pd ->
   aops P (at_ l (remP ops listed λj=>decide (j<aAl l))++(pl l (aAl l) pd++at_ l (remP ops listed λj=>decide (aAl l<=j)))) s K ->
   (∀s' G' a' w',K s'->Good P D n s' G' a' w'->Nxt L0 G0 w0 s'.L G' w'->Q .normal a' w')->wpOps P ops Q (Region.linearise.go .any ops fuel t listed []) a w:=by
 have constOf:∀i,i<ops.size->(l.getD i default).i.constOk=true:=λi hi=>by
  have:i<l.length:=by omega
  rw[ze,zB this];exact zx.1 hc _ (List.getElem_mem _)
 have getOf:∀i,i<ops.size->l[i]?=some (l.getD i default):=λi hi=>by rw[ze,zB (show i<l.length by omega)];rfl
 simp only[aUg,zc,zx,yc,yH]at ho;obtain⟨ho1,ho2⟩:=ho
 -- nothing is left
 have fin:∀(listed:Array Bool) (s:St) (G:Ghost) (a:Act) (w:World) (pd:Option Nat),aCj ops listed=[]->Good P (Dq D pd) n s G a w->Nxt L0 G0 w0 s.L G w->bNz P D n l (aAl l) listed w0 s G a w pd ->
  aops P (at_ l (remP ops listed λj=>decide (j<aAl l))++(pl l (aAl l) pd++at_ l (remP ops listed λj=>decide (aAl l<=j)))) s K ->
  (∀s' G' a' w',K s'->Good P D n s' G' a' w'->Nxt L0 G0 w0 s'.L G' w'->Q .normal a' w')->Q .normal a w:=by
  intro listed s G a w pd hrem hg hx hp h hn;have hlen:=bEe (ops:=ops) (listed:=listed) (aAl l);rw[hrem,yk]at hlen;have hA:(remP ops listed λj=>decide (j<aAl l))=[]:=yP.1 (by omega);have hB:(remP ops listed λj=>decide (aAl l<=j))=[]:=yP.1 (by omega);rw[hA,hB]at h;cases pd with
  | none=>exact hn s G a w h hg hx
  | some b=>obtain⟨d,e,z,hp⟩:=hp;have h:aops P [l.getD (aAl l) default] s K:=h;rw[hp.at_]at h;have h:K ((s.add (s.nx+d) (.box e z)).set d (.ptr (s.nx+d) 0)):=h;obtain⟨g1,x1⟩:=hp.name hg hx;exact hn _ _ _ _ h g1 x1
 intro fuel;induction fuel with
 | zero=>intro t listed s G a w pd hsz hf hcl hg hx hfr hnd hp h hn;have hrem:aCj ops listed=[]:=yP.1 (by omega);simp only[Region.linearise.go,y3,wpOps];exact fin listed s G a w pd hrem hg hx hp h hn
 | succ fuel ih =>
   intro t listed s G a w pd hsz hf hcl hg hx hfr hnd hp h hn;simp only[Region.linearise.go];change wpOps P ops Q (match(Region.ready .any ops listed)[t%(Region.ready .any ops listed).length]? with
    | some i=>Region.linearise.go .any ops fuel (t / (Region.ready .any ops listed).length) (listed.setIfInBounds i true) [i]
    | none=>[].reverse) a w
   cases hi:(Region.ready .any ops listed)[t%(Region.ready .any ops listed).length]? with
   | none =>
     have hnil:Region.ready .any ops listed=[]:=by
      cases hr:Region.ready .any ops listed with
      | nil=>rfl
      | cons x xs=>rw[hr]at hi;have hlt:t%(x::xs).length<(x::xs).length:=vg _ (by simp);simp at hi;simp at hlt;omega
     have hrem:=bA8 he hsz hnil;simp only[y3,wpOps];exact fin listed s G a w pd hrem hg hx hp h hn
   | some i =>
     simp only[];rw[linearise_go_acc,wo,xb,wpOps_cons];have hmem:=y7 hi;obtain⟨hun,o,ho',hall⟩:=mem_ready.1 hmem;have his:i<ops.size:=(xp.1 ho').1;have hun':listed.getD i false=false:=by rw[<-aCb (by omega)];exact hun
     have hremL:(aCj ops (listed.setIfInBounds i true)).length<=fuel:=by
      obtain⟨p,b,h1,h2,h3⟩:=aDb (p:=λj=>!listed.getD j true) (q:=λj=>!(listed.setIfInBounds i true).getD j true) (zU ops.size) yC (yc.2 his) (by simp only[hun];rfl)
       (λj hj=>by rw[getD_set_ne true (Ne.symm hj)]) (by simp[hsz,his])
      have hra:aCj ops listed=p++i::b:=h1;have hrb:aCj ops (listed.setIfInBounds i true)=p++b:=h2;rw[hra]at hf;rw[hrb];simp only[List.length_append,zg]at hf ⊢;omega
     have hcl':∀k o,(listed.setIfInBounds i true).getD k false=true->ops[k]?=some o->∀e,e∈o.after->Region.binds .any e=true->(listed.setIfInBounds i true).getD e.on false=true:=λk o hk hko e hm hbb=>by
      by_cases e1:k=i
      .subst e1;rw[ho']at hko;obtain rfl:=zq hko;exact getD_set_true (hall e hm hbb)
      .rw[getD_set_ne false (Ne.symm e1)]at hk;exact getD_set_true (hcl k o hk hko e hm hbb)
     have hbef:∀j,aOh ops j i=true->listed.getD j false=true:=λj hb=>aHm (S:=λk=>listed.getD k false=true) (λk o hk hko e hm hbb=>hcl k o hk hko e hm hbb) ho' hall hb;by_cases him:i<aAl l
     .-- one of the first part
      obtain⟨p,b,h1,h2,h3⟩:=aDb (p:=λj=>!listed.getD j true&&decide (j<aAl l)) (q:=λj=>!(listed.setIfInBounds i true).getD j true&&decide (j<aAl l)) (zU ops.size) yC (yc.2 his) (by simp only[hun,him];rfl)
       (λj hj=>by rw[getD_set_ne true (Ne.symm hj)]) (by simp[hsz,his])
      have hra:(remP ops listed λj=>decide (j<aAl l))=p++i::b:=h1;have hrb:(remP ops (listed.setIfInBounds i true) λj=>decide (j<aAl l))=p++b:=h2;have hrB:(remP ops (listed.setIfInBounds i true) λj=>decide (aAl l<=j))=remP ops listed λj=>decide (aAl l<=j):=aLv (by simpa using him);have ham:∀j,j∈p->j<i∧listed.getD j false=false:=λj hj=>by
       have hm:j∈remP ops listed λj=>decide (j<aAl l):=by rw[hra];simp[hj]
       obtain⟨q1,q2,q3⟩:=aHj.1 hm;exact⟨h3 j hj,by rw[<-aCb (by omega)];exact q2⟩
      have hind:∀x,x∈at_ l p->x.i.constOk=true∧x.core=true∧x.indepL (l.getD i default)=true:=by
       intro x hxm;obtain⟨j,hj,rfl⟩:=zQ.1 hxm;obtain⟨hji,hjl⟩:=ham j hj;refine⟨constOf j (by omega),(aQw (by omega)).1,?_⟩;rcases ho1 i him j hji with hb|hb
       .rw[hbef j hb]at hjl;cases hjl
       .rw[getOf j (by omega),getOf i his]at hb;exact hb
      have hci:=(aQw him).1;have hmk:=aK3 hci;have hmid:at_ l (p++i::b)=at_ l p++l.getD i default::at_ l b:=by simp[at_]
      rw[hra,hmid,yy,yg]at h;have hj:=bGp (at_ l p) s (l.getD i default) _ hind (constOf i his) hci h;change aA0 P (l.getD i default) s (λs'=>aops P (at_ l p++(at_ l b++_)) s' K)at hj;have hj2:=aHt (K1:=λs'=>aops P (at_ l p++(at_ l b++(pl l (aAl l) pd++at_ l (remP ops listed λj=>decide (aAl l<=j))))) s' K∧∀t,(l.getD i default).i.dst≠some t->s'.env t=s.env t) hj λs' h he=>⟨h,he⟩;have hab:at_ l (p++b)=at_ l p++at_ l b:=by simp[at_]
      refine aN8 ho' (hl' i o ho') hj2 hg (λs1 G1 a1 w1 k1 g1 x1 n1=>?_) (λd hd=>by rw[hmk]at hd;cases hd);refine ih (t / (Region.ready .any ops listed).length) (listed.setIfInBounds i true) s1 G1 a1 w1 pd (by simp[hsz]) hremL hcl' g1 (hx.trans x1) (by rw[hrB];intro x hxm d hd;exact n1.free (hfr x hxm d hd) (by rw[hmk];simp)) (by rw[hrB];exact hnd) ?_ (by rw[hrB,hrb,hab,yy];exact k1.1) hn
      cases pd with
      | none=>trivial
      | some bk =>
        obtain⟨d,e,z,hp⟩:=hp;have hbO:¬Own s.L G bk:=λhO=>(hg.hp.away _ hO).2 (.inr rfl);have hbs:bk<w.heap.size:=hg.hp.dlt _ (.inr rfl);have hlm:¬aAl l<aAl l:=xu _;have hdd:(l.getD i default).i.dst≠some d:=by have:=(hp.ap i him).2;intro hd;rw[hd]at this;simp at this
        refine⟨d,e,z,hp.at_,getD_set_true hp.done,hp.flat,hp.dn,by rw[k1.2 d hdd];exact hp.env,aNj hp.flat hp.ok (x1.same.2 _ hbs hbO),hp.nD,hp.nG,hp.new,n1.free hp.free (by rw[hmk];simp),hp.ap⟩
     .-- the block,or what follows it
      have hmi:aAl l<=i:=by omega
      have hrA:(remP ops (listed.setIfInBounds i true) λj=>decide (j<aAl l))=remP ops listed λj=>decide (j<aAl l):=aLv (by simpa using hmi);obtain⟨p,b,h1,h2,h3⟩:=aDb (p:=λj=>!listed.getD j true&&decide (aAl l<=j)) (q:=λj=>!(listed.setIfInBounds i true).getD j true&&decide (aAl l<=j)) (zU ops.size) yC (yc.2 his) (by simp only[hun,hmi];rfl)
       (λj hj=>by rw[getD_set_ne true (Ne.symm hj)]) (by simp[hsz,his])
      have hra:(remP ops listed λj=>decide (aAl l<=j))=p++i::b:=h1;have hrb:(remP ops (listed.setIfInBounds i true) λj=>decide (aAl l<=j))=p++b:=h2;have hpn:∀j,j∈p->aAl l<=j∧j<i∧listed.getD j false=false:=λj hj=>by
       have hm:j∈remP ops listed λj=>decide (aAl l<=j):=by rw[hra];simp[hj]
       obtain⟨q1,q2,q3⟩:=aHj.1 hm;exact⟨by simpa using q3,h3 j hj,by rw[<-aCb (by omega)];exact q2⟩
      rcases ho2 i (by omega)with((h5|⟨h5,h6⟩)|h5)|⟨h5,h6⟩
      .exact absurd (by simpa using h5) him
      .-- the block
       obtain rfl:i=aAl l:=by simpa using h5
       have hpe:p=[]:=by
        cases hp':p with
        | nil=>rfl
        | cons y ys=>have:=hpn y (by rw[hp'];simp);omega
       subst hpe;rw[yf]at hra hrb;rw[ho',getOf _ his]at h6;simp only at h6;obtain⟨d,e,z,hxe,hz,hcore,hop⟩:∃d e z,l.getD (aAl l) default=⟨none,.alloc d e z⟩∧z.all V.flat1=true∧(∀y,y∈l.take (aAl l)->y.reads.contains d=false∧y.i.dst.toList.contains d=false)∧∃e',o.op=.alloc e':=by
        unfold GI.late at h6;split at h6
        .rename_i e1 d1 e2 z1 q1 q2;simp only[zc,zx,zV]at h6;exact⟨d1,e2,z1,q2,zx.2 h6.1,h6.2,e1,q1⟩
        .cases h6
       have hpd:pd=none:=by
        cases pd with
        | none=>rfl
        | some bk=>obtain⟨d,e,z,hp⟩:=hp;have:=hp.done;rw[hun']at this;cases this
       subst hpd;have hx':=hl' _ o ho';rw[hxe]at hx';have hfr0:G (s.nx+d)=none:=hfr ⟨none,.alloc d e z⟩ (by rw[hra];simp only[at_,zE,hxe];simp) d rfl;refine aUt ho' hx' hop hg λa1 w1 g1 b1 v1 k1 hdn=>?_;have x1:Nxt s.L G w (s.set d (.raw (.pointer (some ⟨w.heap.size,0,none⟩)))).L G w1:=⟨G.le_refl,⟨b1.size,λx hx _=>b1.block x hx⟩,λ_ _ h=>h,b1.os,b1.tape,b1.output⟩;refine ih (t / (Region.ready .any ops listed).length) (listed.setIfInBounds (aAl l) true) _ G a1 w1 (some w.heap.size) (by simp[hsz]) hremL hcl' g1 (hx.trans x1) (by
        rw[hrb];intro x hxm d' hd;exact hfr x (by rw[hra];simp only[at_,zE]at hxm ⊢;exact ya _ hxm) d' hd) (by
        rw[hrb];rw[hra]at hnd;simpa[pl,at_]using hnd) ?_ ?_ hn
       .have hdl:(listed.setIfInBounds (aAl l) true).getD (aAl l) false=true:=by simp[hsz,his]
        exact⟨d,e,z,hxe,hdl,hz,hdn,aAe _ _ _,k1 _ _,λhD=>by have:=hg.hp.dlt _ hD;omega,λx hx hxe=>by have:=(hg.hp.gl.1 x hx).1;omega,hx.same.1,hfr0,λj hj=>hcore _ (by rw[ze,zB (show j<l.length by omega)];exact wc.2 ⟨j,by omega,rfl⟩)⟩
       .rw[hrA,hrb];rw[hra]at h;have e1:at_ l (aAl l::b)=⟨none,.alloc d e z⟩::at_ l b:=by simp only[at_,zE,hxe]
        simp only[pl,yf,e1]at h;simp only[pl,hxe,xb];refine bBh (λx hxm=>?_) h;obtain⟨j,hj,rfl⟩:=zQ.1 hxm;obtain⟨q1,q2,q3⟩:=aHj.1 hj;have hjm:j<aAl l:=by simpa using q3
        refine⟨constOf j q1,(aQw hjm).1,hcore _ ?_⟩;rw[ze,zB (show j<l.length by omega)];exact wc.2 ⟨j,by omega,rfl⟩
      .-- what follows
       have hspec:∀j,j<i->listed.getD j false=false->(l.getD j default).indep (l.getD i default)=true∧(l.getD j default).i.rank=0:=λj hj hno=>by
        rcases h5 j hj with h7|h7
        .rw[hbef j h7]at hno;cases hno
        .rw[getOf j (by omega),getOf i his]at h7;simpa using h7
       have hxA:∀x,x∈at_ l (remP ops listed λj=>decide (j<aAl l))->∃j,j<aAl l∧x=l.getD j default∧x.i.constOk=true∧x.indep (l.getD i default)=true∧x.i.rank=0:=λx hxm=>by
        obtain⟨j,hj,rfl⟩:=zQ.1 hxm;obtain⟨q1,q2,q3⟩:=aHj.1 hj;have hjm:j<aAl l:=by simpa using q3
        obtain⟨q4,q5⟩:=hspec j (by omega) (by rw[<-aCb (by omega)];exact q2);exact⟨j,hjm,rfl,constOf j q1,q4,q5⟩
       have hxp:∀x,x∈at_ l p->x.i.constOk=true∧x.indep (l.getD i default)=true∧x.i.rank=0:=λx hxm=>by obtain⟨j,hj,rfl⟩:=zQ.1 hxm;obtain⟨q1,q2,q3⟩:=hpn j hj;obtain⟨q4,q5⟩:=hspec j q2 q3;exact⟨constOf j (by omega),q4,q5⟩
       have hxs:∀x,x∈at_ l (remP ops listed λj=>decide (j<aAl l))++at_ l p->x.i.constOk=true∧x.indep (l.getD i default)=true∧x.i.rank=0:=λx hxm=>by
        rcases zP.1 hxm with hxm|hxm
        .obtain⟨j,_,_,q⟩:=hxA x hxm;exact q
        .exact hxp x hxm
       have e1:at_ l (p++i::b)=at_ l p++l.getD i default::at_ l b:=by simp[at_]
       have e2:at_ l (p++b)=at_ l p++at_ l b:=by simp[at_]
       rw[hra,e1]at h hnd;have hfr:∀x,x∈at_ l p++l.getD i default::at_ l b->∀d,x.i.mk=some d->G (s.nx+d)=none:=by rw[hra,e1]at hfr;exact hfr
       -- the operation goes ahead,then the rest
       have go:∀(s2:St) (G2:Ghost),Good P D n s2 G2 a w->Nxt L0 G0 w0 s2.L G2 w->(∀x,x∈at_ l p++l.getD i default::at_ l b->∀d,x.i.mk=some d->G2 (s2.nx+d)=none)->(mks (at_ l p++l.getD i default::at_ l b)).Nodup ->
        aops P ((at_ l (remP ops listed λj=>decide (j<aAl l))++at_ l p)++l.getD i default::at_ l b) s2 K ->
        wpOp P ops Q i (wpOps P ops Q (Region.linearise.go .any ops fuel (t / (Region.ready .any ops listed).length) (listed.setIfInBounds i true) [])) a w:=by
        intro s2 G2 g2 x2 f2 n2 h2;have hj:=bCv _ s2 _ (l.getD i default) (at_ l b) (λx hx=>⟨(hxs x hx).1,(hxs x hx).2.1⟩) (constOf i his) g2.sfit (λx hx d hd hF=>by
         rcases zD.1 hx with rfl|hx
         .rw[f2 _ (by simp) d hd]at hF;simp at hF
         .rw[aKn (by rw[(hxs x hx).2.2];omega)]at hd;cases hd)
         (by rw[aO7 (aYa λx hx=>(hxs x hx).2.2)];exact bBa _) h2
        change aA0 P (l.getD i default) s2 (λs'=>aops P ((at_ l (remP ops listed λj=>decide (j<aAl l))++at_ l p)++at_ l b) s' K)at hj;have hperm:(at_ l p++l.getD i default::at_ l b).Perm (l.getD i default::(at_ l p++at_ l b)):=wS;obtain⟨n3,n4⟩:=aEl (aGq hperm n2);refine aN8 ho' (hl' i o ho') hj g2 (λs1 G1 a1 w1 k1 g1 x1 n1=>?_) (f2 (l.getD i default) (by simp));refine ih (t / (Region.ready .any ops listed).length) (listed.setIfInBounds i true) s1 G1 a1 w1 none (by simp[hsz]) hremL hcl' g1 (x2.trans x1) (by
         rw[hrb,e2];intro x hxm d hd;refine n1.free (f2 x ?_ d hd) λe=>n4 d e x hxm hd;rcases zP.1 hxm with hxm|hxm<;>simp[hxm]) (by rw[hrb,e2];exact n3) trivial (by
         rw[hrA,hrb,e2];simpa only[pl,yf,yy]using k1) hn
       cases pd with
       | none=>refine go s G hg hx hfr hnd ?_;simpa only[pl,yf,yy]using h
       | some bk =>
         obtain⟨d,e,z,hp⟩:=hp;simp only[pl,hp.at_]at h hnd;have hnd:(mks ((⟨none,.alloc d e z⟩:GI)::(at_ l p++l.getD i default::at_ l b))).Nodup:=hnd;obtain⟨hnd1,hnd2⟩:=aEl hnd;obtain⟨g1,x1⟩:=hp.name hg hx;have hml:aAl l<ops.size:=by
          rcases xk (aAl l) ops.size with h|h
          .exact h
          .have:=hp.done;rw[zo,Array.getElem?_eq_none (by omega)]at this;cases this
         have hlt:aAl l<i:=by
          rcases xk (aAl l) i with h|h
          .exact h
          .obtain rfl:i=aAl l:=by omega
           have:=hp.done;rw[hun']at this;cases this
         have hz:aops P ((⟨none,.alloc d e z⟩:GI)::(at_ l (remP ops listed λj=>decide (j<aAl l))++(at_ l p++l.getD i default::at_ l b))) s K:=by
          refine bCv _ s _ ⟨none,.alloc d e z⟩ _ (λx hxm=>?_) (by have:=constOf _ hml;rw[hp.at_]at this;exact this) hg.sfit (λx hxm d' hd hF=>?_) ?_ (by simpa only[xb,yy]using h)
          .obtain⟨j,hj,rfl,c1,c2,c3⟩:=hxA x hxm;refine⟨c1,?_⟩;have hlate:=hp.ap j hj;have r1:disj (l.getD j default).i.dst.toList (⟨none,.alloc d e z⟩:GI).reads=true:=by
            simp[disj,GI.reads,I.reads,I.srcs]
           have r2:disj (I.alloc d e z).dst.toList (l.getD j default).reads=true:=by simp only[disj,I.dst,wA,yF,wb,hlate.1];rfl
           have r3:disj (l.getD j default).i.dst.toList (I.alloc d e z).dst.toList=true:=by
            show disj (l.getD j default).i.dst.toList [d]=true;have c4:=hlate.2;generalize (l.getD j default).i.dst.toList=q at c4;simp only[disj,zx,zV];intro t ht;cases hc:[d].contains t with
            | false=>rfl
            | true =>
              have:t=d:=by simpa using hc
              subst this;rw[List.contains_iff_mem.2 ht]at c4;cases c4
           have hz2:(I.alloc d e z).rank=2:=rfl;simp only[GI.indep,r1,r2,r3,c3,hz2];simp
          .rcases zD.1 hxm with rfl|hxm
           .cases hd
            rw[hp.free]at hF;simp at hF
           .obtain⟨j,hj,rfl,c1,c2,c3⟩:=hxA x hxm;rw[aKn (by rw[c3];omega)]at hd;cases hd
          .rw[aO7 (aYa λx hxm=>by obtain⟨j,hj,he,c1,c2,c3⟩:=hxA x hxm;exact c3)];exact bBa _
         have hz:aops P (at_ l (remP ops listed λj=>decide (j<aAl l))++(at_ l p++l.getD i default::at_ l b)) ((s.add (s.nx+d) (.box e z)).set d (.ptr (s.nx+d) 0)) K:=hz;refine go _ _ g1 x1 (λx hxm d' hd=>?_) hnd1 (by simpa only[yy]using hz);have hne:d'≠d:=λe=>hnd2 d rfl x hxm (e▸hd);have e3:((s.add (s.nx+d) (.box e z)).set d (.ptr (s.nx+d) 0)).nx+d'=s.nx+d':=rfl;rw[e3,aAc _ _ _ _ (by omega)];exact hfr x hxm d' hd
      .-- what looks at no memory
       have hmi2:aAl l<i:=by simpa using h5
       have hspec:∀j,j<i->listed.getD j false=false∨j=aAl l->(l.getD j default).indep (l.getD i default)=true∧(l.getD i default).i.rank=0:=λj hj hno=>by
        rcases h6 j hj with⟨h7,h8⟩|h7
        .rcases hno with hno|hno
         .rw[hbef j h7]at hno;cases hno
         .exact absurd hno (by simpa using h8)
        .rw[getOf j (by omega),getOf i his]at h7;simpa using h7
       have hz:=hspec (aAl l) hmi2 (.inr rfl);have hr0:=hz.2;have hmk:(l.getD i default).i.mk=none:=aKn (by omega);have hind:∀x,x∈at_ l (remP ops listed λj=>decide (j<aAl l))++(pl l (aAl l) pd++at_ l p)->x.i.constOk=true∧x.indep (l.getD i default)=true:=by
        intro x hxm;rcases zP.1 hxm with hxm|hxm
        .obtain⟨j,hj,rfl⟩:=zQ.1 hxm;obtain⟨q1,q2,q3⟩:=aHj.1 hj;have hjm:j<aAl l:=by simpa using q3
         exact⟨constOf j q1,(hspec j (by omega) (.inl (by rw[<-aCb (by omega)];exact q2))).1⟩
        .rcases zP.1 hxm with hxm|hxm
         .cases pd with
          | none=>simp[pl]at hxm
          | some bk=>rw[pl,zp]at hxm;rw[hxm];exact⟨constOf _ (by omega),hz.1⟩
         .obtain⟨j,hj,rfl⟩:=zQ.1 hxm;obtain⟨q1,q2,q3⟩:=hpn j hj;exact⟨constOf j (by omega),(hspec j q2 (.inl q3)).1⟩
       have e1:at_ l (p++i::b)=at_ l p++l.getD i default::at_ l b:=by simp[at_]
       have e2:at_ l (p++b)=at_ l p++at_ l b:=by simp[at_]
       rw[hra,e1]at h;have h:aops P ((at_ l (remP ops listed λj=>decide (j<aAl l))++(pl l (aAl l) pd++at_ l p))++l.getD i default::at_ l b) s K:=by simpa only[yy]using h
       have hj:=aS9 _ s (l.getD i default) _ hind (constOf i his) hr0 h;change aA0 P (l.getD i default) s (λs'=>aops P ((at_ l (remP ops listed λj=>decide (j<aAl l))++(pl l (aAl l) pd++at_ l p))++at_ l b) s' K)at hj;have hj2:=aHt (K1:=λs'=>aops P ((at_ l (remP ops listed λj=>decide (j<aAl l))++(pl l (aAl l) pd++at_ l p))++at_ l b) s' K∧∀t,(l.getD i default).i.dst≠some t->s'.env t=s.env t) hj λs' h he=>⟨h,he⟩;have hmks:mks (at_ l (p++i::b))=mks (at_ l (p++b)):=by rw[e1,e2];simp only[mks,ww,y5,hmk]
       refine aN8 ho' (hl' i o ho') hj2 hg (λs1 G1 a1 w1 k1 g1 x1 n1=>?_) (λd hd=>by rw[hmk]at hd;cases hd);refine ih (t / (Region.ready .any ops listed).length) (listed.setIfInBounds i true) s1 G1 a1 w1 pd (by simp[hsz]) hremL hcl' g1 (hx.trans x1) (by
        rw[hrb];intro x hxm d hd;refine n1.free (hfr x ?_ d hd) (by rw[hmk];simp);rw[hra,e1];rw[e2]at hxm;rcases zP.1 hxm with hxm|hxm<;>simp[hxm]) (by
        have h7:mks (pl l (aAl l) pd++at_ l (p++i::b))=mks (pl l (aAl l) pd++at_ l (p++b)):=by simp only[mks,ww]at hmks ⊢;rw[hmks]
        rw[hrb,<-h7,<-hra];exact hnd) ?_ (by
        rw[hrA,hrb,e2];have:=k1.1;simpa only[yy]using this) hn
       cases pd with
       | none=>trivial
       | some bk =>
         obtain⟨d,e,z,hp⟩:=hp;have hbO:¬Own s.L G bk:=λhO=>(hg.hp.away _ hO).2 (.inr rfl);have hbs:bk<w.heap.size:=hg.hp.dlt _ (.inr rfl);have hdd:(l.getD i default).i.dst≠some d:=by have h8:=(aC2 hz.1).2.2.1 d (by rw[hp.at_];rfl);exact h8
         exact⟨d,e,z,hp.at_,getD_set_true hp.done,hp.flat,hp.dn,by rw[k1.2 d hdd];exact hp.env,aNj hp.flat hp.ok (x1.same.2 _ hbs hbO),hp.nD,hp.nG,hp.new,n1.free hp.free (by rw[hmk];simp),hp.ap⟩
theorem aI5{id:Nat}{draw:Bool}{l:LC}(h:aB6 P n hint (.region id ops draw)=some l)(hb:l≠.bad):
 ∃gl,aL4 P n hint ops ops.toList=some gl∧aPs (mks gl)=true∧l=.ops draw gl∧(draw=true->P.follows .mixedOrders=true∧(aNx (aOh ops) gl=true∨aUg ops (aOh ops) gl=true)∧aG9 ops=true∧gl.all (·.i.constOk)=true):=by
 simp only[aB6]at h;grind
theorem aQd{id:Nat}{draw:Bool}{gl:List GI}(h:aB6 P n hint (.region id ops draw)=some (.ops draw gl))(ha:aops P gl s K)(hg:Good P D n s G a w)(hf:∀i,s.nx<=i->G i=none)
 (hn:∀s' G' a' w',K s'->Good P D n s' G' a' w'->Nxt s.L G w s'.L G' w'->Q .normal a' w'):(Code.region id ops draw).wp P Q a w:=by
 obtain⟨gl',hgl,hnd,he,hdr⟩:=aI5 h (by simp);simp only[LC.ops.injEq,true_and]at he;subst he;obtain⟨hlen,hl⟩:=aK6 _ _ hgl;have hlen':gl.length=ops.size:=by omega
 have hl':∀i o,ops[i]?=some o->aGp P n hint ops o=some (gl.getD i default):=λi o ho=>hl i o (by grind);have hnd':=aK1 hnd;cases draw with
 | false =>
   refine wp_region (aPv hl' _ s G a w (λi hi=>yc.1 hi) ?_ hg (λx _ d _=>hf _ (by omega)) ?_ hn)
   .rw[<-hlen',aM3];exact ha
   .rw[<-hlen',aM3];omega
 | true =>
   obtain⟨h1,h2,h3,h4⟩:=hdr rfl;refine wp_region_draw λt=>?_;simp only[Region.schedule,h1,Bool.true_or,if_true];obtain⟨g2,x2⟩:=hg.grow (w':={ w with drawn:=w.drawn+1 }) ⟨rfl,rfl,rfl,zz _,λ_ _=>rfl⟩;have hrem:aCj ops (z7 ops.size false)=zU ops.size:=by simp only[aCj];simp_all
   have hat:at_ gl (aCj ops (z7 ops.size false))=gl:=by rw[hrem,<-hlen',aM3]
   have hcl0:∀k o,(z7 ops.size false).getD k false=true->ops[k]?=some o->∀e,e∈o.after->Region.binds .any e=true->(z7 ops.size false).getD e.on false=true:=λk o hk=>by simp only[zo,Array.getElem?_replicate]at hk;grind
   rcases h2 with h2|h2
   .exact bP4 hl' hlen' h2 h3 h4 ops.size t (z7 ops.size false) s G a _ (by simp) (by grind) hcl0 g2 (λx _ d _=>hf _ (by omega)) (by grind) (by grind) (λs' G' a' w' k g x=>hn s' G' a' w' k g (x2.trans x))
   .have hsplit:at_ gl (remP ops (z7 ops.size false) λj=>decide (j<aAl gl))++(pl gl (aAl gl) none++at_ gl (remP ops (z7 ops.size false) λj=>decide (aAl gl<=j)))=gl:=by
     have h6:∀q:Nat->Bool,remP ops (z7 ops.size false) q=(zU ops.size).filter q:=λq=>wM λj hj=>by simp_all
     rw[h6,h6,pl,yf];have h7:∀(k m:Nat),(zU k).filter (λj=>decide (j<m))++(zU k).filter (λj=>decide (m<=j))=zU k:=λk m=>by
      induction k with
      | zero=>rfl
      | succ k ih =>
        rw[List.range_succ,wJ,wJ];by_cases hk:k<m
        .have h8:¬m<=k:=by omega
         have h9:(zU k).filter (λj=>decide (m<=j))=[]:=List.filter_eq_nil_iff.2 λj hj=>by grind
         grind
        grind
     have h8:∀x y:List Nat,at_ gl x++at_ gl y=at_ gl (x++y):=λx y=>by simp[at_]
     simp_all
    have hsub:(mks (pl gl (aAl gl) none++at_ gl (remP ops (z7 ops.size false) λj=>decide (aAl gl<=j)))).Sublist (mks gl):=by
     conv=>rhs;rw[<-hsplit]
     exact xm _ (List.sublist_append_right _ _)
    exact bG5 hl' hlen' h2 h3 h4 ops.size t (z7 ops.size false) s G a _ none (by simp) (by grind) hcl0 g2 (Nxt.refl _ _ _) (λx _ d _=>hf _ (by omega)) (hnd'.sublist hsub) trivial (by grind) (λs' G' a' w' k g x=>hn s' G' a' w' k g (x2.trans x))
end
end Go.Ab
namespace Go.Ab
open Go.RowKit
section
variable {P:Program} {D:Nat->Prop} {n:Nat} {K:St->Prop} {s:St} {G:Ghost} {a:Act} {w:World}
theorem aUh{bs:List UInt8}{i j:Nat}{x:V}(h:(((aAs bs)[i]?).bind λe=>e.cells[j]?)=some x):∃b,bs[i]?=some b∧j=0∧x=.int .u8 b.toNat:=by
 simp only[aAs,yu]at h;cases hb:bs[i]? with
 | none=>grind
 | some b=>rw[hb]at h;simp only[zL,zG,V.cells]at h;grind
theorem aSd{d id tb ty:Nat}{bs:List UInt8}(hn0:0<n)(hd:s.env d=.ptr id 0)(hL:s.L id=some (.bld tb ty bs))
 (h:∀a,(a=.nilp∨a=.ptr id 0)->(bs=[]->K ⟨s.env,upd s.L id (some (.box tb [a,.nils])),s.nx⟩)∧(bs≠[]->K ⟨s.env,upd (upd s.L s.nx (some (.vec ty 1 (aAs bs)))) id (some (.box tb [a,.own s.nx 1 0 bs.length])),s.nx+1⟩)) (hg:Good P D n s G a w) (hf:∀i,s.nx<=i->G i=none) :
 ∃s' G',K s'∧Good P D n s' G' a w∧Nxt s.L G w s'.L G' w∧∀i,s'.nx<=i->G' i=none:=by
 obtain⟨g,hG,c,fr,cap,o,ad,h1,h2,h3,h4,h5,h6,h7,h8,h9,h10⟩:=hg.hp.blk _ _ hL;have hnx:G s.nx=none:=hf _ (zz _);have hne:id≠s.nx:=λe=>by grind
 let gv:GB:=⟨g.aux,o,cap,1,0⟩;obtain⟨a0,ha0,hrep0⟩:∃a0,(a0=.nilp∨a0=.ptr id 0)∧∀(G':Ghost) (D':Nat->Prop),G' id=some g->Rep G' D' w a0 (c.getD 0 undef):=by
  rcases h5 with e|e
  .exact⟨_,.inl rfl,λ_ _ _=>by rw[e];exact .nilp⟩
  .refine⟨_,.inr rfl,λG' D' hG'=>?_⟩;rw[e];have:=Rep.ptr (D:=D') (w:=w) id 0 g hG';grind
 by_cases hbs:bs=[]
 .have hcap0:cap=0:=by
   grind
  subst hbs;subst hcap0;have hK:=(h a0 ha0).1 rfl;have hx:Nxt s.L G w (upd s.L id (some (.box tb [a0,.nils]))) G w:=by
   refine⟨G.le_refl,Same.refl _ _,?_,rfl,rfl,rfl⟩;rintro x _ ⟨i,b,gi,q1,q2,q3⟩;by_cases e:i=id
   .subst e;rw[aAe]at q1;obtain rfl:=zq q1;obtain rfl:=zq (hG.symm.trans q2);exact⟨i,_,g,hL,hG,.inl q3⟩
   .rw[aAc _ _ _ _ e]at q1;exact⟨i,b,gi,q1,q2,q3⟩
  refine⟨_,G,hK,hg.later hx ?_,hx,hf⟩;refine hg.hp.turn (·=id) hx hg.hp.fin (λi b hl hni=>by simpa only[aAc _ _ _ _ hni]using hl) (λ_ _ _ _ _ _ _ _=>rfl) (λi b gi _ hni hgi=>hgi) (λi j hi hj=>hi.trans hj.symm) (λi b hl hi=>?_);subst hi;simp only[aAe,za]at hl;subst hl;refine⟨g,hG,⟨c,tb,fr,h1,⟨h2,rfl⟩,h3,by grind,λi x hx'=>?_⟩,λx ho=>?_⟩
  .match i,hx' with
   | 0,hx'=>grind
   | 1,hx'=>simp only[wh,wi,za]at hx';subst hx';rw[h6,(h9 rfl).2];exact .nils
  .have ho':x=g.blk:=ho;have haw:=hg.hp.away x ⟨i,_,g,hL,hG,.inl ho'⟩;refine⟨haw.1,haw.2,λi2 b2 g2 hl2 hn2 hg2 ho2=>?_⟩;simp only[aAc _ _ _ _ hn2]at hl2;exact hg.hp.apart i2 i b2 _ g2 g x hl2 hL hg2 hG hn2 ho2 (.inl ho')
 have hK:=(h a0 ha0).2 hbs;have hGid:upd G s.nx (some gv) id=some g:=by rw[aAc _ _ _ _ hne];exact hG
 have hGnx:upd G s.nx (some gv) s.nx=some gv:=aAe _ _ _;have part:∀i b g',upd (upd s.L s.nx (some (Blk.vec ty 1 (aAs bs)))) id (some (Blk.box tb [a0,.own s.nx 1 0 bs.length])) i=some b->upd G s.nx (some gv) i=some g' ->
  (i=id∧b=.box tb [a0,.own s.nx 1 0 bs.length]∧g'=g)∨(i=s.nx∧b=.vec ty 1 (aAs bs)∧g'=gv)∨(i≠id∧i≠s.nx∧s.L i=some b∧G i=some g'):=λi b g' hb hg'=>by
  by_cases e1:i=id
  .subst e1;rw[aAe]at hb;grind
  .rw[aAc _ _ _ _ e1]at hb;by_cases e2:i=s.nx
   .subst e2;rw[aAe]at hb hg';grind
   .rw[aAc _ _ _ _ e2]at hb hg';grind
 have occ:∀i b g' x,upd (upd s.L s.nx (some (Blk.vec ty 1 (aAs bs)))) id (some (Blk.box tb [a0,.own s.nx 1 0 bs.length])) i=some b->upd G s.nx (some gv) i=some g'->Occ g' b x ->
  (i=id∧x=g.blk)∨(i=s.nx∧0<cap∧x=g.aux)∨(i≠id∧i≠s.nx∧s.L i=some b∧G i=some g'∧Occ g' b x):=λi b g' x hb hg' ho=>by
  rcases part i b g' hb hg' with⟨e1,e2,e3⟩|⟨e1,e2,e3⟩|⟨e1,e2,e3,e4⟩
  .subst e2 e3;exact .inl ⟨e1,ho⟩
  .subst e2 e3;exact .inr (.inl ⟨e1,ho.1,ho.2⟩)
  grind
 have own:∀x,Own (upd (upd s.L s.nx (some (Blk.vec ty 1 (aAs bs)))) id (some (Blk.box tb [a0,.own s.nx 1 0 bs.length]))) (upd G s.nx (some gv)) x->Own s.L G x:=by
  rintro x ⟨i,b,g',q1,q2,q3⟩;rcases occ i b g' x q1 q2 q3 with⟨_,e⟩|⟨_,_,e⟩|⟨_,_,e1,e2,e3⟩
  .exact⟨id,_,g,hL,hG,.inl e⟩
  .exact⟨id,_,g,hL,hG,.inr e⟩
  .exact⟨i,b,g',e1,e2,e3⟩
 have hx:Nxt s.L G w (upd (upd s.L s.nx (some (Blk.vec ty 1 (aAs bs)))) id (some (Blk.box tb [a0,.own s.nx 1 0 bs.length]))) (upd G s.nx (some gv)) w:=⟨aT5 hnx gv,Same.refl _ _,λx _=>own x,rfl,rfl,rfl⟩
 have hfin:∀i,s.nx+1<=i->upd G s.nx (some gv) i=none:=λi hi=>by rw[aAc _ _ _ _ (by omega)];grind
 refine⟨_,upd G s.nx (some gv),hK,⟨hg.size,hg.defers,λi=>hx.rep (hg.env i),⟨λi hi=>hfin i (by grind),λi b hb=>?_,λi i' b b' g1 g2 x hb hb' hg1 hg2 hii ho ho'=>?_,λx ho=>hg.hp.away x (own x ho),hg.hp.dlt,hg.hp.gl.nxt hx⟩⟩,hx,hfin⟩
 .by_cases e1:i=id
  .subst e1;simp only[aAe,za]at hb;subst hb;refine⟨g,hGid,c,tb,fr,h1,⟨h2,rfl⟩,h3,by grind,λi x hx'=>?_⟩
   match i,hx' with
   | 0,hx'=>grind
   | 1,hx'=>simp only[wh,wi,za]at hx';subst hx';rw[h6];exact .own _ 1 0 _ gv ad cap hGnx rfl h7 rfl h8 (λhc=>by grind)
  .simp only[aAc _ _ _ _ e1]at hb;by_cases e2:i=s.nx
   .subst e2;simp only[aAe,za]at hb;subst hb;refine⟨gv,hGnx,rfl,by simpa[aAs]using h7,h8,λe he=>?_,λhc=>?_⟩
    .simp only[aAs,zQ]at he;obtain⟨b,_,rfl⟩:=he;rfl
    .obtain⟨_,k1,k2,cb,fb,k3,k4,k5,k6⟩:=h10 hc;refine⟨cb,ty,fb,k3,⟨by grind,rfl⟩,⟨by grind,λh=>absurd rfl h⟩,λi j x hx'=>?_⟩;obtain⟨b,hb,rfl,rfl⟩:=aUh hx';have:=k6 i b hb;have e:gv.off+i*1+0=o+i:=by grind
     rw[e,this];exact .int _ _
   .simp only[aAc _ _ _ _ e2]at hb;obtain⟨g',q1,q2⟩:=hg.hp.blk i b hb;exact⟨g',by rw[aAc _ _ _ _ e2];exact q1,q2.keep hx λ_ _=>rfl⟩
 .rcases occ i b g1 x hb hg1 ho with⟨e1,e2⟩|⟨e1,e2,e3⟩|⟨e1,e2,e3,e4,e5⟩<;>rcases occ i' b' g2 x hb' hg2 ho' with⟨d1,d2⟩|⟨d1,d2,d3⟩|⟨d1,d2,d3,d4,d5⟩
  .omega
  .grind
  .exact hg.hp.apart id i' _ b' g g2 x hL d3 hG d4 (Ne.symm d1) (.inl e2) d5
  .grind
  .omega
  .exact hg.hp.apart id i' _ b' g g2 x hL d3 hG d4 (Ne.symm d1) (.inr e3) d5
  .exact hg.hp.apart i id b _ g1 g x e3 hL e4 hG e1 e5 (.inl d2)
  .exact hg.hp.apart i id b _ g1 g x e3 hL e4 hG e1 e5 (.inr d3)
  .exact hg.hp.apart i i' b b' g1 g2 x e3 d3 e4 d4 hii e5 d5
theorem aLu{D':Nat->Prop}{G':Ghost}{id:Nat}{g:GB}{x:V}{v:Value}(hG:G' id=some g)(h0:g.off=0)(ha:x=.nilp∨x=.ptr id 0)(h:Rep G' D' w x v):v=.pointer none∨v=.pointer (some ⟨g.blk,0,none⟩):=by
 rcases ha with rfl|rfl
 .cases h;simp
 .obtain⟨g',q1,q2⟩:=aFw h;grind
theorem aMh{G:Ghost}{id:Nat}{g:GB}(h:G id=some g)(x:Nat):G.le (upd G id (some { g with aux:=x })):=λi g' hi=>by
 by_cases e:i=id
 .subst e;obtain rfl:g=g':=zq (h.symm.trans hi);exact⟨x,aAe _ _ _⟩
 .exact⟨g'.aux,by rw[aAc _ _ _ _ e];exact hi⟩
theorem aVs{d id tb ty:Nat}{a0:V}(hd:s.env d=.ptr id 0)(hL:s.L id=some (.box tb [a0,.nils]))(ha:a0=.nilp∨a0=.ptr id 0)
 (h:K ⟨s.env,upd s.L id (some (.bld tb ty [])),s.nx⟩) (hg:Good P D n s G a w) (hf:∀i,s.nx<=i->G i=none) :
 ∃s' G',K s'∧Good P D n s' G' a w∧Nxt s.L G w s'.L G' w∧∀i,s'.nx<=i->G' i=none:=by
 obtain⟨g,hG,c,tb',fr,h1,⟨h2,htb⟩,h3,h4,h5⟩:=hg.hp.blk _ _ hL;rw[htb]at h1;have hlt:id<s.nx:=by grind
 let g':GB:={ g with aux:=g.blk };have hx:Nxt s.L G w (upd s.L id (some (.bld tb ty []))) (upd G id (some g')) w:=by
  refine⟨aMh hG _,Same.refl _ _,?_,rfl,rfl,rfl⟩;rintro x _ ⟨i,b,gi,q1,q2,q3⟩;by_cases e:i=id
  .subst e;rw[aAe]at q1 q2;obtain rfl:=zq q1;obtain rfl:=zq q2;refine⟨i,_,g,hL,hG,?_⟩;rcases q3 with q3|q3<;>exact q3
  .rw[aAc _ _ _ _ e]at q1 q2;exact⟨i,b,gi,q1,q2,q3⟩
 have hfin:∀i,s.nx<=i->upd G id (some g') i=none:=λi hi=>by rw[aAc _ _ _ _ (by omega)];grind
 have hsz:c.size=2:=by omega
 refine⟨_,upd G id (some g'),h,hg.later hx ?_,hx,hfin⟩;refine hg.hp.turn (·=id) hx (λi hi=>hfin i (by grind)) (λi b hl hni=>by simpa only[aAc _ _ _ _ hni]using hl) (λ_ _ _ _ _ _ _ _=>rfl) (λi b gi _ hni hgi=>by rw[aAc _ _ _ _ hni];omega) (λi j hi hj=>hi.trans hj.symm) (λi b hl hi=>?_);subst hi;simp only[aAe,za]at hl;subst hl;refine⟨g',aAe _ _ _,⟨c,fr,0,0,none,h1,hsz,h3,by grind,aLu (g:=g) hG h3 ha (h5 0 a0 rfl),?_,zz _,xX 63,λ_=>⟨rfl,rfl⟩,λh=>absurd h (xu _)⟩,λx ho=>?_⟩
 .have:=h5 1 .nils rfl;exact aDu this
 .have ho':x=g.blk:=by rcases ho with ho|ho<;>exact ho
  have haw:=hg.hp.away x ⟨i,_,g,hL,hG,ho'⟩;refine⟨haw.1,haw.2,λi2 b2 g2 hl2 hn2 hg2 ho2=>?_⟩;simp only[aAc _ _ _ _ hn2]at hl2;exact hg.hp.apart i2 i b2 _ g2 g x hl2 hL hg2 hG hn2 ho2 ho'
theorem aUl{d id tb ty m sz len:Nat}{a0:V}{es:List V}{bs:List UInt8}(hd:s.env d=.ptr id 0)(hL:s.L id=some (.box tb [a0,.own m 1 0 len]))(ha:a0=.nilp∨a0=.ptr id 0)(hne:m≠id)(hpos:0<len)(hm:s.L m=some (.vec ty sz es))(hlen:len<=es.length)
 (hbs:es.take len=aAs bs) (h:K ⟨s.env,upd (upd s.L m none) id (some (.bld tb ty bs)),s.nx⟩) (hg:Good P D n s G a w) (hf:∀i,s.nx<=i->G i=none) :
 ∃s' G',K s'∧Good P D n s' G' a w∧Nxt s.L G w s'.L G' w∧∀i,s'.nx<=i->G' i=none:=by
 obtain⟨g,hG,c,tb',fr,h1,⟨h2,htb⟩,h3,h4,h5⟩:=hg.hp.blk _ _ hL;rw[htb]at h1;obtain⟨gm,hGm,m1,m2,m3,m4,m5⟩:=hg.hp.blk _ _ hm;have hlt:id<s.nx:=by grind
 have hsz:c.size=2:=by omega
 obtain⟨g2,ad,cap,r0,r1,r2,r3,r4,r5,r6⟩:=aDy (h5 1 (.own m 1 0 len) rfl);obtain rfl:gm=g2:=zq (hGm.symm.trans r1);have hcap:cap=gm.cap:=by omega
 subst hcap;have hz1:sz=1:=m1.symm.trans r2;subst hz1;have hbl:bs.length=len:=by have:=congrArg List.length hbs;simp[aAs]at this;omega
 let g':GB:={ g with aux:=if 0<gm.cap then gm.blk else g.blk };have occ:∀x,Occ g' (.bld tb ty bs) x->x=g.blk∨(0<gm.cap∧x=gm.blk):=λx ho=>by
  rcases ho with ho|ho
  .grind
  grind
 have hx:Nxt s.L G w (upd (upd s.L m none) id (some (.bld tb ty bs))) (upd G id (some g')) w:=by
  refine⟨aMh hG _,Same.refl _ _,?_,rfl,rfl,rfl⟩;rintro x _ ⟨i,b,gi,q1,q2,q3⟩;by_cases e:i=id
  .subst e;rw[aAe]at q1 q2;obtain rfl:=zq q1;obtain rfl:=zq q2;rcases occ x q3 with q3|q3
   .exact⟨i,_,g,hL,hG,q3⟩
   .exact⟨m,_,gm,hm,hGm,q3⟩
  .rw[aAc _ _ _ _ e]at q1 q2;by_cases e2:i=m
   .subst e2;rw[aAe]at q1;cases q1
   .rw[aAc _ _ _ _ e2]at q1;exact⟨i,b,gi,q1,q2,q3⟩
 have hfin:∀i,s.nx<=i->upd G id (some g') i=none:=λi hi=>by rw[aAc _ _ _ _ (by omega)];grind
 have hLi:∀i b,i≠id->upd (upd s.L m none) id (some (Blk.bld tb ty bs)) i=some b->s.L i=some b∧i≠m:=λi b hni hl=>by
  rw[aAc _ _ _ _ hni]at hl;by_cases e2:i=m
  .subst e2;rw[aAe]at hl;cases hl
  .rw[aAc _ _ _ _ e2]at hl;grind
 refine⟨_,upd G id (some g'),h,hg.later hx ?_,hx,hfin⟩;refine hg.hp.turn (·=id) hx (λi hi=>hfin i (by grind)) (λi b hl hni=>(hLi i b hni hl).1) (λ_ _ _ _ _ _ _ _=>rfl) (λi b gi _ hni hgi=>by rw[aAc _ _ _ _ hni];omega) (λi j hi hj=>hi.trans hj.symm) (λi b hl hi=>?_);subst hi;simp only[aAe,za]at hl;subst hl;refine⟨g',aAe _ _ _,⟨c,fr,gm.cap,gm.off,ad,h1,hsz,h3,by grind,aLu (g:=g) hG h3 ha (h5 0 a0 rfl),?_,by omega,m3,λhc=>?_,λhc=>?_⟩,λx ho=>?_⟩
 .grind
 .omega
 .obtain⟨c',ty',fr',k2,k3,k4,k5⟩:=m5 hc;have haux:g'.aux=gm.blk:=by grind
  rw[haux];refine⟨λe=>by grind,by grind,λe=>?_,c',fr',by grind,by omega,by have:=k4.op;grind,λi x hi=>?_⟩
  .exact hg.hp.apart m i _ _ gm g gm.blk hm hL hGm hG hne ⟨hc,rfl⟩ e
  .have hi2:i<len:=by
    grind
   have he:es[i]?=some (.int .u8 x.toNat):=by have e1:(es.take len)[i]?=es[i]?:=y6 hi2;rw[<-e1,hbs];simp[aAs,hi]
   have:=k5 i 0 (.int .u8 x.toNat) (by rw[he];rfl);have e:gm.off+i*1+0=gm.off+i:=by omega
   rw[e]at this;exact aCe this
 .rcases occ x ho with ho|ho
  .have haw:=hg.hp.away x ⟨i,_,g,hL,hG,ho⟩;refine⟨haw.1,haw.2,λi2 b2 g2 hl2 hn2 hg2 ho2=>?_⟩;exact hg.hp.apart i2 i b2 _ g2 g x (hLi i2 b2 hn2 hl2).1 hL hg2 hG hn2 ho2 ho
  .have haw:=hg.hp.away x ⟨m,_,gm,hm,hGm,ho⟩;refine⟨haw.1,haw.2,λi2 b2 g2 hl2 hn2 hg2 ho2=>?_⟩;exact hg.hp.apart i2 m b2 _ g2 gm x (hLi i2 b2 hn2 hl2).1 hm hg2 hGm (hLi i2 b2 hn2 hl2).2 ho2 ho
end
end Go.Ab
namespace Go.Ab
open Go.RowKit
section
variable {P:Program} {D:Nat->Prop} {n:Nat} {hint:Nat->Nat} {K K':St->Prop}
theorem bQj{α:Type}(f:Nat->α)(i:Nat)(v:α)(h:f i=v):upd f i v=f:=by
 funext t;simp only[upd];grind
theorem aX4{s:St}{i:Nat}{v:V}(h:s.env i=v):s.set i v=s:=by
 simp only[St.set,bQj _ _ _ h]
theorem aOn:∀(l:List I) (s:St),aJ1 P l s K->aops P (l.map λi=>⟨none,i⟩) s K
 | [],s,h=>h
 | i::r,s,h=>aGc h λs' h=>aOn r s' h
theorem aOo{t:Nat}{w:Bool}:∀(l:List I) (s:St),l.all (λi=>i.dst != some t)=true->s.env t=.bool w->aJ1 P l s K->aops P (l.map λi=>⟨some (t,w),i⟩) s K
 | [],s,_,_,h=>h
 | i::r,s,ha,hs,h=>by simp only[yF,zc,bne_iff_ne]at ha;simp only[zE,aops,aA0,hs,if_true];exact aHa h λs' h he=>aOo r s' ha.2 (by grind) h
theorem aKq{t:Nat}{w:Bool}(hv:V->Prop)(hvs:∀v,hv v->v=.bool (!w)∨v=.tup []):∀(l:List I) (s:St),l.all (λi=>i.dst != some t)=true->hv (s.env t)->K (aE3 l s)->aops P (l.map λi=>⟨some (t,w),i⟩) s K
 | [],s,_,_,h=>h
 | i::r,s,ha,hs,h=>by simp only[yF,zc,bne_iff_ne]at ha;have ih:=aKq hv hvs r (s.setO i.dst (.tup [])) ha.2 (by rw[aBi ha.1];exact hs) h;simp only[zE,aops,aA0];grind
theorem aZ1{x:Grp}{s:St}(hok:x.ok=true)(h:grun P x s K):aops P x.flat s K:=by
 obtain⟨g,l⟩:=x;cases g with
 | none=>exact aOn l s h
 | some tw =>
   obtain⟨t,w⟩:=tw;simp only[grun]at h;simp only[Grp.ok]at hok;simp only[Grp.flat];split at h
   .rename_i b hb;by_cases e:b=w
    .subst e;have h1:=h.1 rfl;rw[aX4 hb]at h1;exact aOo l s hok hb h1
    .have e':b=!w:=by cases b<;>cases w<;>simp_all
     subst e';have h1:=h.2 rfl;rw[aX4 hb]at h1;exact aKq (λv=>v=.bool (!w)) (λv hv=>.inl hv) l s hok hb h1
   .rename_i hb;exact aKq (λv=>v=.tup []) (λv hv=>.inr hv) l s hok hb h
   grind
theorem aH9:∀(l:List Grp) (s:St),l.all Grp.ok=true->aYg P l s K->aops P (l.flatMap Grp.flat) s K
 | [],s,_,h=>h
 | x::r,s,ho,h=>by simp only[yF,zc]at ho;rw[List.flatMap_cons];refine aJ4 _ _ _ ?_;have:=aZ1 ho.1 h;exact aN6 this λs' h=>aH9 r s' ho.2 h
def bF7:X->Exit
 | .norm=>.normal
 | .exit n=>.exit n
 | .ret=>.ret
def Ends(P:Program)(D:Nat->Prop)(n:Nat)(L:Heap)(G:Ghost)(w:World)(K:X->St->Prop)(Q:Exit->Act->World->Prop):Prop:=
 ∀x s' G' a' w',K x s'->Good P D n s' G' a' w'->Nxt L G w s'.L G' w'->(∀i,s'.nx<=i->G' i=none)->Q (bF7 x) a' w'
theorem Good.past{s:St}{G:Ghost}{a:Act}{w:World}(h:Good P D n s G a w):Good P D n (s.past n) G a w∧∀i,(s.past n).nx<=i->G i=none:=by
 refine⟨⟨h.size,h.defers,h.env,⟨λid hid=>h.hp.fin id ?_,h.hp.blk,h.hp.apart,h.hp.away,h.hp.dlt,h.hp.gl⟩⟩,λi hi=>h.hp.fin i hi⟩;simp only[St.past]at hid;omega
theorem aC7(id:Nat)(es:List V):∀l:List V,V.fzL id es l=l.map (V.fz id es)
 | []=>rfl
 | x::r=>by simp[V.fzL,aC7 id es r]
mutual
theorem aFj(id:Nat)(es:List V):∀x:V,x.imm=true->x.fz id es=x
 | .own _ _ _ _,h=>by simp[V.imm]at h
 | .agg cs,h=>by simp only[V.imm]at h;simp[V.fz,aFa id es cs h]
 | .tup cs,h=>by simp only[V.imm]at h;simp[V.fz,aFa id es cs h]
 | .fn f cs,h=>by simp only[V.imm]at h;simp[V.fz,aFa id es cs h]
 | .lst sz cs,h=>by simp only[V.imm]at h;simp[V.fz,aFa id es cs h]
 | .cptr cs,h=>by simp only[V.imm]at h;simp[V.fz,aFa id es cs h]
 | .junk,_=>rfl
 | .bool b,_=>rfl
 | .int k n,_=>rfl
 | .str s,_=>rfl
 | .nilp,_=>rfl
 | .nils,_=>rfl
 | .ptr i o,_=>rfl
 | .eptr i j k,_=>rfl
 | .map i,_=>rfl
 | .nilm,_=>rfl
 | .raw v,_=>rfl
theorem aFa(id:Nat)(es:List V):∀l:List V,V.imms l=true->V.fzL id es l=l
 | [],_=>rfl
 | x::r,h=>by simp only[V.imms,zc]at h;simp[V.fzL,aFj id es x h.1,aFa id es r h.2]
end
theorem bOd(id:Nat)(es:List V)(x:V):(x.fz id es).one=x.one:=by
 cases x<;>simp only[V.fz]<;>try rfl
 split<;>rfl
theorem aK9(id:Nat)(es:List V)(x:V){k:Nat}(h:x.ncells=some k):(x.fz id es).ncells=some k∧(x.fz id es).cells=V.fzL id es x.cells:=by
 cases x with
 | agg cs =>
   simp only[V.ncells]at h;split at h
   .rename_i ha;refine⟨?_,by rfl⟩;simp only[V.fz,V.ncells,aC7];rw[if_pos]
    .grind
    .rw[zx]at ha ⊢;intro y hy;obtain⟨z,hz,rfl⟩:=zQ.1 hy;rw[bOd];grind
   grind
 | own i sz off n =>
   simp only[V.fz];split
   .rename_i hc;refine⟨by simpa[V.ncells,V.one]using h,by simp[V.cells,V.fzL,V.fz,hc]⟩
   .rename_i hc;refine⟨by omega,by simp[V.cells,V.fzL,V.fz,hc]⟩
 | junk=>simp[V.ncells,V.one]at h
 | tup cs=>simp[V.ncells,V.one]at h
 | _=>exact⟨by simpa[V.ncells,V.one,V.fz]using h,by rfl⟩
theorem aFu{id:Nat}{es l:List V}{i:Nat}{y:V}(h:(V.fzL id es l)[i]?=some y):∃x,l[i]?=some x∧y=x.fz id es:=by
 rw[aC7,yu]at h;grind
theorem aQe{id:Nat}{es l:List V}{sz i j:Nat}{c:V}(hz:∀e,e∈l->e.ncells=some sz)(h:((V.fzL id es l)[i]?.bind λe:V=>e.cells[j]?)=some c):∃c',(l[i]?.bind λe:V=>e.cells[j]?)=some c'∧c=c'.fz id es:=by
 cases he:(V.fzL id es l)[i]? with
 | none=>grind
 | some e'=>obtain⟨e,h1,rfl⟩:=aFu he;simp only[he,zG]at h;rw[(aK9 id es e (hz e (mem_of_getElem? h1))).2]at h;obtain⟨c',h2,rfl⟩:=aFu h;grind
section
variable {s:St} {G:Ghost} {a:Act} {w:World}
theorem aL6{id:Nat}{es:List V}{g:GB}{b:Blk}{x:Nat}:Occ g (b.fz id es) x↔Occ g b x:=by cases b<;>rfl
theorem aC1{id:Nat}{es:List V}{L:Heap}{i:Nat}{b:Blk}(h:aDc id es L i=some b):i≠id∧∃b0,L i=some b0∧b=b0.fz id es:=by
 unfold aDc at h;split at h
 .cases h
 .rename_i hne;cases hb:L i with
  | none=>grind
  | some b0=>grind
theorem aYl{id:Nat}{es:List V}{L:Heap}:Nxt L G w (aDc id es L) G w:=by
 refine⟨G.le_refl,Same.refl _ _,?_,rfl,rfl,rfl⟩;rintro x _ ⟨i,b,g,h1,h2,h3⟩;obtain⟨_,b0,h4,rfl⟩:=aC1 h1;exact⟨i,b0,g,h4,h2,aL6.1 h3⟩
theorem aO1{id ty sz0:Nat}{es:List V}(hp:Hp P D n s G w)(hL:s.L id=some (.vec ty sz0 es))(hi:V.imms es=true){x:V}{v:Value}(h:Rep G (Dp D s.L G) w x v):Rep G (Dp D (aDc id es s.L) G) w (x.fz id es) v:=by
 have hx:Nxt s.L G w (aDc id es s.L) G w:=aYl;have sub:∀b,¬Dp D s.L G b->¬Dp D (aDc id es s.L) G b:=λb hn hd=>hd.elim (λh1=>hn (.inl h1)) λ⟨i,b0,g,h1,h2,h3⟩=>by obtain⟨_,b1,h4,rfl⟩:=aC1 h1;exact hn (.inr ⟨i,b1,g,h4,h2,aL6.1 h3⟩)
 induction h with
 | own i sz off len g a cap hg hz hc hgc hl ha =>
   simp only[V.fz];split
   .rename_i hcond;obtain⟨rfl,hle⟩:=hcond;obtain⟨g',b1,b2,b3,b4,b5,b6⟩:=hp.blk i _ hL;obtain rfl:g'=g:=zq (b1.symm.trans hg);have hsz:sz=sz0:=hz.symm.trans b2;subst hsz;have hlen:((es.drop off).take len).length=len:=by grind
    have cellAt:∀(i j:Nat) (c:V),((((es.drop off).take len)[i]?).bind λe=>e.cells[j]?)=some c->((es[off+i]?).bind λe=>e.cells[j]?)=some c∧i<len∧j<sz:=by
     intro i j c hc;cases he:((es.drop off).take len)[i]? with
     | none=>grind
     | some e =>
       rw[he]at hc;simp only[zG]at hc;have hmem:e∈es:=yo (yE (mem_of_getElem? he));have hi:i<len:=by grind
       rw[y6 hi,xR]at he;refine⟨by grind,hi,?_⟩;rw[<-aA8 (b5 e hmem)];grind
    have main:Rep G (Dp D (aDc i es s.L) G) w (.lst sz ((es.drop off).take len)) (.slice a ((es.drop off).take len).length cap):=by
     refine .lst sz _ a cap g'.blk (g'.off+off*sz) (by omega) (by omega) (λh0=>?_) (λe he=>b5 e (yo (yE he))) (λi j c hc=>?_) (λi j c hc=>?_)
     .rw[hlen]at h0;refine⟨ha (by omega),?_⟩;have hocc:Occ g' (.vec ty sz es) g'.blk:=⟨by omega,rfl⟩;obtain⟨k1,k2⟩:=hp.away g'.blk ⟨i,_,g',hL,b1,hocc⟩;refine⟨k1,λhdp=>?_⟩;rcases hdp with hdp|⟨id2,b2',g2,l1,l2,l3⟩
      .grind
      .obtain⟨hne,b0,l4,rfl⟩:=aC1 l1;exact hp.apart i id2 _ _ _ _ _ hL l4 b1 l2 (Ne.symm hne) hocc (aL6.1 l3)
     .obtain⟨q1,q3,q4⟩:=cellAt i j c hc;obtain⟨c',ty,fr,k2,k3,k4,k5⟩:=b6 (by omega);rw[aA9 k2];have:(off+i+1)*sz<=g'.cap*sz:=zJ _ (by omega);grind
     .obtain⟨q1,q3,q4⟩:=cellAt i j c hc;obtain⟨c',ty,fr,k2,k3,k4,k5⟩:=b6 (by omega);rw[aBj k2];have h5:=k5 _ _ _ q1;rw[xj]at h5;have e:g'.off+off*sz+i*sz+j=g'.off+(off*sz+i*sz)+j:=by omega
      rw[e];exact hx.rep h5
    grind
   .exact .own i sz off len g a cap hg hz hc hgc hl ha
 | agg cs vs hn hr ih=>refine .agg _ _ (by rw[aC7,zb];exact hn) λi c hc=>?_;obtain⟨c0,h1,rfl⟩:=aFu hc;grind
 | tup cs vs hn hr ih=>refine .tup _ _ (by rw[aC7,zb];exact hn) λi c hc=>?_;obtain⟨c0,h1,rfl⟩:=aFu hc;grind
 | fn f cs vs hn hr ih=>refine .fn _ _ _ (by rw[aC7,zb];exact hn) λi c hc=>?_;obtain⟨c0,h1,rfl⟩:=aFu hc;grind
 | cptr cs b o hb hd hs hr ih =>
   refine .cptr _ b o hb (sub b hd) (λj c hc=>?_) (λj c hc=>?_)
   .obtain⟨c0,h1,rfl⟩:=aFu hc;grind
   .obtain⟨c0,h1,rfl⟩:=aFu hc;grind
 | lst sz l a cap b o hc hl ha hz hs hr ih =>
   have hlen:(V.fzL id es l).length=l.length:=by rw[aC7,zb]
   have main:Rep G (Dp D (aDc id es s.L) G) w (.lst sz (V.fzL id es l)) (.slice a (V.fzL id es l).length cap):=by
    refine .lst sz _ a cap b o (by omega) hl (λh0=>?_) (λe he=>?_) (λi j c hc=>?_) (λi j c hc=>?_)
    .grind
    .rw[aC7]at he;obtain⟨e0,h1,rfl⟩:=zQ.1 he;exact(aK9 id es e0 (hz e0 h1)).1
    .obtain⟨c0,h1,rfl⟩:=aQe hz hc;grind
    .obtain⟨c0,h1,rfl⟩:=aQe hz hc;grind
   rw[hlen]at main;exact main
 | junk v=>exact .junk v
 | bool b=>exact .bool b
 | int k n=>exact .int k n
 | str s h=>exact .str s h
 | nilp=>exact .nilp
 | nils=>exact .nils
 | ptr id off g h=>exact .ptr id off g h
 | eptr id i j g h=>exact .eptr id i j g h
 | map id g h=>exact .map id g h
 | nilm=>exact .nilm
 | raw v=>exact .raw v
theorem bPu{id ty sz0:Nat}{es:List V}(hp:Hp P D n s G w)(hL:s.L id=some (.vec ty sz0 es))(hi:V.imms es=true){g:GB}{b:Blk}(h:BlkOk G (Dp D s.L G) w g b):BlkOk G (Dp D (aDc id es s.L) G) w g (b.fz id es):=by
 cases b with
 | box ty0 cs=>obtain⟨c,ty',fr,h1,h2,h3,h4,h5⟩:=h;refine⟨c,ty',fr,h1,by rw[aC7,zb];exact h2,h3,h4,λi x hx=>?_⟩;obtain⟨c0,k1,rfl⟩:=aFu hx;exact aO1 hp hL hi (h5 i c0 k1)
 | vec ty0 sz l =>
   obtain⟨h1,h2,h3,h4,h5⟩:=h;refine⟨h1,by rw[aC7,zb];exact h2,h3,λe he=>?_,λhc=>?_⟩
   .rw[aC7]at he;obtain⟨e0,k1,rfl⟩:=zQ.1 he;exact(aK9 id es e0 (h4 e0 k1)).1
   .obtain⟨c,ty',fr,k1,k2,k3,k4⟩:=h5 hc;refine⟨c,ty',fr,k1,k2,k3,λi j x hx=>?_⟩;obtain⟨c0,m1,rfl⟩:=aQe h4 hx;exact aO1 hp hL hi (k4 i j c0 m1)
 | map c l=>obtain⟨a,h1,h2,h3⟩:=h;refine⟨a,h1,h2,λi k v b hi'=>?_⟩;obtain⟨q1,q2,e,q3,q4,q5,q6⟩:=h3 i k v b hi';have r1:=aO1 hp hL hi q5;have r2:=aO1 hp hL hi q6;rw[aFj id es _ q1]at r1;rw[aFj id es _ q2]at r2;grind
 | bld tb ty0 bs=>exact h
theorem bHv{id ty sz0:Nat}{es:List V}(hg:Good P D n s G a w)(hL:s.L id=some (.vec ty sz0 es))(hi:V.imms es=true):Good P D n (s.fz id es) G a w:=by
 refine⟨hg.size,hg.defers,λi=>aO1 hg.hp hL hi (hg.env i),⟨hg.hp.fin,λi b hb=>?_,λi i' b b' g g' x h1 h2 h3 h4 hne h5 h6=>?_,λx hx=>?_,hg.hp.dlt,hg.hp.gl.nxt aYl⟩⟩
 .obtain⟨_,b0,h1,rfl⟩:=aC1 hb;obtain⟨g,h2,h3⟩:=hg.hp.blk i b0 h1;exact⟨g,h2,bPu hg.hp hL hi h3⟩
 .obtain⟨_,b0,k1,rfl⟩:=aC1 h1;obtain⟨_,b1,k2,rfl⟩:=aC1 h2;exact hg.hp.apart i i' b0 b1 g g' x k1 k2 h3 h4 hne (aL6.1 h5) (aL6.1 h6)
 .obtain⟨i,b,g,h1,h2,h3⟩:=hx;obtain⟨_,b0,k1,rfl⟩:=aC1 h1;exact hg.hp.away x ⟨i,b0,g,k1,h2,aL6.1 h3⟩
theorem bNg{L:Heap}{G:Ghost}{id ty:Nat}{cs cs':List V}(hL:L id=some (.box ty cs)):Own (upd L id (some (.box ty cs'))) G=Own L G:=by
 funext x;apply propext;constructor
 .rintro⟨i,b,g,h1,h2,h3⟩;by_cases e:i=id
  .subst e;rw[aAe]at h1;cases h1
   exact⟨i,_,g,hL,h2,h3⟩
  .rw[aAc _ _ _ _ e]at h1;exact⟨i,b,g,h1,h2,h3⟩
 .rintro⟨i,b,g,h1,h2,h3⟩;by_cases e:i=id
  .subst e;rw[hL]at h1;cases h1
   exact⟨i,_,g,aAe _ _ _,h2,h3⟩
  .exact⟨i,b,g,by rw[aAc _ _ _ _ e];exact h1,h2,h3⟩
theorem bL2{id ty:Nat}{cs cs':List V}(hg:Good P D n s G a w)(hL:s.L id=some (.box ty cs))(hn:cs.length=cs'.length)
 (hw:∀(i:Nat) (x y:V),cs[i]?=some x->cs'[i]?=some y->∀(G:Ghost) (D:Nat->Prop) (w:World) (v:Value),Rep G D w x v->Rep G D w y v) :
 Good P D n ⟨s.env,upd s.L id (some (.box ty cs')),s.nx⟩ G a w∧Nxt s.L G w (upd s.L id (some (.box ty cs'))) G w:=by
 have ho:Own (upd s.L id (some (.box ty cs'))) G=Own s.L G:=bNg hL;have hd:Dp D (upd s.L id (some (.box ty cs'))) G=Dp D s.L G:=by funext x;simp only[Dp,ho]
 have hx:Nxt s.L G w (upd s.L id (some (.box ty cs'))) G w:=⟨G.le_refl,Same.refl _ _,λx _ h=>by simp_all,rfl,rfl,rfl⟩;refine⟨⟨hg.size,hg.defers,λi=>?_,⟨hg.hp.fin,λi b hb=>?_,λi i' b b' g g' x h1 h2 h3 h4 hne h5 h6=>?_,λx hx=>?_,hg.hp.dlt,hg.hp.gl.nxt hx⟩⟩,hx⟩
 .show Rep G (Dp D (upd s.L id (some (.box ty cs'))) G) w _ _;rw[hd];exact hg.env i
 .show∃g,G i=some g∧BlkOk G (Dp D (upd s.L id (some (.box ty cs'))) G) w g b;rw[hd];by_cases e:i=id
  .subst e;simp only[aAe,za]at hb;subst hb;obtain⟨g,h2,c,ty',fr,k1,k2,k3,k4,k5⟩:=hg.hp.blk i _ hL;refine⟨g,h2,c,ty',fr,k1,⟨by omega,k2.2⟩,k3,k4,λj y hy=>?_⟩;have hj:j<cs.length:=by
    grind
   exact hw j _ y (zB hj) hy _ _ _ _ (k5 j _ (zB hj))
  .simp only[aAc _ _ _ _ e]at hb;exact hg.hp.blk i b hb
 .have key:∀{j:Nat} {b:Blk},(upd s.L id (some (.box ty cs'))) j=some b->∃b0,s.L j=some b0∧∀g x,Occ g b x->Occ g b0 x:=by
   intro j b hb;by_cases e:j=id
   .subst e;rw[aAe]at hb;cases hb
    exact⟨_,hL,λg x h=>h⟩
   .rw[aAc _ _ _ _ e]at hb;grind
  obtain⟨b0,k1,k2⟩:=key h1;obtain⟨b1,k3,k4⟩:=key h2;exact hg.hp.apart i i' b0 b1 g g' x k1 k3 h3 h4 hne (k2 _ _ h5) (k4 _ _ h6)
 .have:Own s.L G x:=by simp_all
  exact hg.hp.away x this
theorem bC2{s':St}(h:FzS s s'):∀{G:Ghost} {a:Act} {w:World},Good P D n s G a w->(∀i,s.nx<=i->G i=none)->Good P D n s' G a w∧Nxt s.L G w s'.L G w∧∀i,s'.nx<=i->G i=none:=by
 induction h with
 | refl s=>exact λhg hf=>⟨hg,Nxt.refl _ _ _,hf⟩
 | step id ty sz es hL hi hs ih=>intro G a w hg hf;obtain⟨h1,h2,h3⟩:=ih (bHv hg hL hi) hf;exact⟨h1,aYl.trans h2,h3⟩
 | up id ty cs cs' hL hn hw hs ih=>intro G a w hg hf;obtain⟨g1,x1⟩:=bL2 hg hL hn hw;obtain⟨h1,h2,h3⟩:=ih g1 hf;exact⟨h1,x1.trans h2,h3⟩
end
theorem aSv{g:Gh}{s:St}{G:Ghost}{a:Act}{w:World}(hn0:0<n)(h:aB2 g s K)(hg:Good P D n s G a w)(hf:∀i,s.nx<=i->G i=none):
 ∃s' G',K s'∧Good P D n s' G' a w∧Nxt s.L G w s'.L G' w∧∀i,s'.nx<=i->G' i=none:=by
 cases g with
 | cut=>obtain⟨M,h1,h2⟩:=h;exact⟨s,G,h2 _ h1,hg,Nxt.refl _ _ _,hf⟩
 | fz=>obtain⟨s',h1,h2⟩:=h;obtain⟨g1,x1,f1⟩:=bC2 h1 hg hf;grind
 | own d ty sz =>
   obtain⟨h1,h2⟩:=h;obtain⟨g1,x1⟩:=hg.newBlk (w':=w) (Below.refl _ _) (id:=s.nx) (hf _ (zz _)) (by omega) (.vec ty sz []) ⟨0,0,0,sz,0⟩ (λx hx=>absurd hx.1 (xu _))
    (λG' D' _=>⟨rfl,by simp,xX 63,by simp,λhc=>absurd hc (xu _)⟩)
   have hid:upd G s.nx (some (⟨0,0,0,sz,0⟩:GB)) s.nx=some ⟨0,0,0,sz,0⟩:=aAe _ _ _;have hnone:∀i,s.nx+1<=i->upd G s.nx (some (⟨0,0,0,sz,0⟩:GB)) i=none:=λi hi=>by rw[aAc _ _ _ _ (by omega)];grind
   refine⟨_,upd G s.nx (some ⟨0,0,0,sz,0⟩),h2,⟨g1.size,g1.defers,λi=>?_,⟨λid hid=>hnone id (by grind),g1.hp.blk,g1.hp.apart,g1.hp.away,g1.hp.dlt,g1.hp.gl⟩⟩,x1,hnone⟩;simp only[upd];split
   .rename_i e;subst e;have hv:=hg.env i;rw[h1]at hv;rw[aDu hv];exact .own _ sz 0 0 _ none 0 hid rfl (zz _) rfl (xX 63) (λh=>absurd h (xu _))
   .exact g1.env i
 | bopen d =>
   simp only[aB2]at h;split at h
   .rename_i id hd;split at h
    .rename_i tb ty bs hL;exact aSd hn0 hd hL h hg hf
    grind
   grind
 | bclose d ty =>
   simp only[aB2]at h;split at h
   .rename_i id hd;split at h
    .rename_i tb a' b hL;obtain⟨ha,h⟩:=h;split at h
     .exact aVs hd hL ha h hg hf
     .rename_i m len;obtain⟨hne,hpos,h⟩:=h;split at h
      .rename_i ty' sz es hm;obtain⟨rfl,hlen,bs,hbs,h⟩:=h;exact aUl hd hL ha hne hpos hm hlen hbs h hg hf
      grind
     grind
    grind
   grind
 | frzb d =>
   simp only[aB2]at h;split at h
   .rename_i id hd;split at h
    .rename_i ty0 cs hL;obtain⟨h1,h3⟩:=h;obtain⟨g1,x1⟩:=hg.drop id;refine⟨_,G,h3,⟨g1.size,g1.defers,λi=>?_,g1.hp.congr rfl rfl⟩,x1,hf⟩;simp only[St.set,upd];split
     .rename_i e;subst e;have hv:=hg.env i;rw[hd]at hv;obtain⟨g,e1,e2⟩:=aFw hv;obtain⟨g',b1,c,ty',fr,b2,b3,b4,b5,b6⟩:=hg.hp.blk id _ hL;obtain rfl:g'=g:=zq (b1.symm.trans e1);rw[e2,b4];have hocc:Occ g' (.box ty0 cs) g'.blk:=rfl;obtain⟨k1,k2⟩:=hg.hp.away g'.blk ⟨id,_,g',hL,b1,hocc⟩;refine .cptr cs g'.blk (0+0) k1 (λhdp=>?_) (λj c0 hc=>?_) (λj c0 hc=>?_)
      .rcases hdp with hdp|⟨id2,b2',g2,l1,l2,l3⟩
       .grind
       .by_cases e:id2=id
        .subst e;simp[St.drop,aAe]at l1
        .simp only[St.drop,aAc _ _ _ _ e]at l1;exact hg.hp.apart id id2 _ _ _ _ _ hL l1 b1 l2 (Ne.symm e) hocc l3
      .have:j<cs.length:=(zS.1 hc).1;rw[aA9 b2];grind
      .have:j<cs.length:=(zS.1 hc).1;rw[aBj b2];have h5:=b6 j c0 hc;have e:0+0+j=j:=by omega
       rw[e];exact x1.rep h5
     .exact g1.env i
    grind
   grind
 | frz d =>
   simp only[aB2]at h;split at h
   .rename_i id sz off len hd;split at h
    .rename_i ty0 sz' es hL;obtain⟨h1,h2,h3⟩:=h;obtain⟨g1,x1⟩:=hg.drop id;refine⟨_,G,h3,⟨g1.size,g1.defers,λi=>?_,g1.hp.congr rfl rfl⟩,x1,hf⟩;simp only[St.set,upd];split
     .rename_i e;subst e;have hv:=hg.env i;rw[hd]at hv;obtain⟨g,a',cap,e1,e2,e3,e4,e5,e6,e7⟩:=aDy hv;rw[e1];obtain⟨g',b1,b2,b3,b4,b5,b6⟩:=hg.hp.blk id _ hL;obtain rfl:g'=g:=zq (b1.symm.trans e2);have hlen:((es.drop off).take len).length=len:=by grind
      have hrep:Rep G (Dp D (s.drop id).L G) w (.lst sz ((es.drop off).take len)) (.slice a' ((es.drop off).take len).length cap):=by
       have hsz:sz=sz':=e3.symm.trans b2;subst hsz;have cellAt:∀(i j:Nat) (c:V),((((es.drop off).take len)[i]?).bind λe=>e.cells[j]?)=some c->((es[off+i]?).bind λe=>e.cells[j]?)=some c∧i<len∧j<sz:=by
        intro i j c hc;cases he:((es.drop off).take len)[i]? with
        | none=>grind
        | some e =>
          rw[he]at hc;simp only[zG]at hc;have hmem:e∈es:=yo (yE (mem_of_getElem? he));have hi:i<len:=by grind
          rw[y6 hi,xR]at he;refine⟨by grind,hi,?_⟩;rw[<-aA8 (b5 e hmem)];grind
       refine .lst sz _ a' cap g'.blk (g'.off+off*sz) (by omega) (by omega) (λh0=>?_) (λe he=>b5 e (yo (yE he))) (λi j c hc=>?_) (λi j c hc=>?_)
       .rw[hlen]at h0;refine⟨e7 (by omega),?_⟩;have hocc:Occ g' (.vec ty0 sz es) g'.blk:=⟨by omega,rfl⟩;obtain⟨k1,k2⟩:=hg.hp.away g'.blk ⟨id,_,g',hL,b1,hocc⟩;refine⟨k1,λhdp=>?_⟩;rcases hdp with hdp|⟨id2,b2',g2,l1,l2,l3⟩
        .grind
        .by_cases e:id2=id
         .subst e;simp[St.drop,aAe]at l1
         .simp only[St.drop,aAc _ _ _ _ e]at l1;exact hg.hp.apart id id2 _ _ _ _ _ hL l1 b1 l2 (Ne.symm e) hocc l3
       .obtain⟨q1,q3,q4⟩:=cellAt i j c hc;obtain⟨c',ty,fr,k2,k3,k4,k5⟩:=b6 (by omega);rw[aA9 k2];have:(off+i+1)*sz<=g'.cap*sz:=zJ _ (by omega);grind
       .obtain⟨q1,q3,q4⟩:=cellAt i j c hc;obtain⟨c',ty,fr,k2,k3,k4,k5⟩:=b6 (by omega);rw[aBj k2];have h5:=k5 _ _ _ q1;rw[xj]at h5;have e:g'.off+off*sz+i*sz+j=g'.off+(off*sz+i*sz)+j:=by omega
        rw[e];exact x1.rep h5
      grind
     .exact g1.env i
    grind
   grind
end
end Go.Ab
namespace Go.Ab
open Go.RowKit
theorem aVy{P:Program}{Q:Exit->Act->World->Prop}{c:Code}(I:Nat->Act->World->Prop)
 (round:∀m a w,I m a w->c.wp P (Exit.then (λa' w'=>∃m',m'<m∧I m' a' w') Q) a w) {m:Nat} {a:Act} {w:World} (h₀:I m a w):(Code.loop c).wp P Q a w:=by
 intro b k cs;have key:∀m a w,I m a w->∃e a' w',Q e a' w'∧Arrives P (lone (b.at a (.code c::.inLoop c::k)) cs w) b k cs e a' w':=by
  intro m;induction m using wX with
  | _ m ih =>
    intro a w hI;obtain⟨e,a₁,w₁,hq,harr⟩:=round m a w hI b (.inLoop c::k) cs;cases e with
    | normal=>obtain⟨m',hlt,hI₁⟩:=hq;obtain⟨e₂,a₂,w₂,hq₂,harr₂⟩:=ih m' hlt a₁ w₁ hI₁;exact⟨e₂,a₂,w₂,hq₂,.of_steps (Steps.trans harr (.one step_inLoop)) harr₂⟩
    | exit id=>exact⟨_,a₁,w₁,hq,.pass (x:=.inLoop c) rfl (λ_ _=>.inl (by simp)) harr⟩
    | goto l=>exact⟨_,a₁,w₁,hq,.pass (x:=.inLoop c) rfl (λ_ _=>.inl (by simp)) harr⟩
    | ret=>exact⟨_,a₁,w₁,hq,.pass (x:=.inLoop c) rfl (λ_ _=>.inl (by simp)) harr⟩
    | panic ch=>exact⟨_,a₁,w₁,hq,.pass (x:=.inLoop c) rfl (λ_ _=>.inl (by simp)) harr⟩
    | outgrown=>exact⟨_,a₁,w₁,hq,.pass (x:=.inLoop c) rfl (λ_ _=>.inl (by simp)) harr⟩
 obtain⟨e,a',w',hq,harr⟩:=key _ a w h₀;exact⟨e,a',w',hq,.of_steps (.one step_loop) harr⟩
section
variable {P:Program} {D:Nat->Prop} {n:Nat} {hint:Nat->Nat}
theorem aJg{L L':Heap}{G G':Ghost}{w w':World}{K:X->St->Prop}{Q:Exit->Act->World->Prop}(hx:Nxt L G w L' G' w')(h:Ends P D n L G w K Q):Ends P D n L' G' w' K Q:=
 λx s2 G2 a2 w2 k g x2 f=>h x s2 G2 a2 w2 k g (hx.trans x2) f
theorem aJp{L:Heap}{G:Ghost}{w:World}{N:St->Prop}{K:X->St->Prop}{Q:Exit->Act->World->Prop}{next:Act->World->Prop}(h:Ends P D n L G w K Q)
 (hn:∀s' G' a' w',N s'->Good P D n s' G' a' w'->Nxt L G w s'.L G' w'->(∀i,s'.nx<=i->G' i=none)->next a' w'):Ends P D n L G w (seqK N K) (Exit.then next Q):=by
 intro x s' G' a' w' k g x' f;cases x with
 | norm=>exact hn s' G' a' w' k g x' f
 | exit id=>exact h (.exit id) s' G' a' w' k g x' f
 | ret=>exact h .ret s' G' a' w' k g x' f
def Inv(P:Program)(n:Nat)(hint:Nat->Nat)(code:Code):LC->Prop
 | .skip=>code=.skip
 | .bad=>True
 | .ops d gl=>∃id ops,code=.region id ops d
 | .seq x y=>∃p q,code=.seq p q∧aB6 P n hint p=some x∧aB6 P n hint q=some y
 | .cond c x y=>∃o p q,code=.cond o p q∧opd n o=some c∧aB6 P n hint p=some x∧aB6 P n hint q=some y
 | .block id x=>∃p,code=.block id p∧aB6 P n hint p=some x
 | .loop x=>∃p,code=.loop p∧aB6 P n hint p=some x
 | .exit id=>code=.exit id
 | .ret=>code=.ret
theorem aCv{code:Code}{l:LC}(h:aB6 P n hint code=some l):Inv P n hint code l:=by
 cases code
 case region id ops draw =>
  by_cases hb:l=.bad
  .subst hb;exact trivial
  .obtain⟨gl,_,_,h3,_⟩:=aI5 h hb;subst h3;exact⟨id,ops,rfl⟩
 case seq p q =>
  simp only[aB6]at h;split at h
  .rename_i u v h1 h2;simp only[za]at h;subst h;exact⟨p,q,rfl,h1,h2⟩
  grind
 case cond o p q =>
  simp only[aB6]at h;split at h
  .rename_i c u v h0 h1 h2;simp only[za]at h;subst h;exact⟨o,p,q,rfl,h0,h1,h2⟩
  grind
 case block id p=>simp only[aB6]at h;obtain⟨u,h1,rfl⟩:=zm.1 h;exact⟨p,rfl,h1⟩
 case loop p=>simp only[aB6]at h;obtain⟨u,h1,rfl⟩:=zm.1 h;exact⟨p,rfl,h1⟩
 all_goals simp only[aB6]at h
 all_goals first
  | (simp only[za]at h;subst h;exact trivial)
  | (simp only[za]at h;subst h;rfl)
  | (split at h
     .simp only[za]at h;subst h;exact trivial
     grind)
theorem bPh(hn0:0<n):∀(c:C) (code:Code),aB6 P n hint code=some c.erase->c.ok=true->∀(s:St) (G:Ghost) (a:Act) (w:World) (K:X->St->Prop) (Q:Exit->Act->World->Prop),
 awp P n c K s->Good P D n s G a w->(∀i,s.nx<=i->G i=none)->Ends P D n s.L G w K Q->code.wp P Q a w:=by
 intro c;induction c with
 | skip=>intro code hl hok s G a w K Q h hg hf he;have inv:=aCv hl;obtain rfl:=inv;exact wp_skip (he .norm s G a w h hg (Nxt.refl _ _ _) hf)
 | bad=>intro code hl hok s G a w K Q h;exact h.elim
 | ops d l=>intro code hl hok s G a w K Q h hg hf he;have inv:=aCv hl;obtain⟨id,ops,rfl⟩:=inv;exact aQd hl (aH9 l s hok h) hg hf λs' G' a' w' k g x=>he .norm _ G' a' w' k g.past.1 x g.past.2
 | seq x y ihx ihy=>intro code hl hok s G a w K Q h hg hf he;simp only[C.ok,zc]at hok;have inv:=aCv hl;obtain⟨p,q,rfl,h1,h2⟩:=inv;exact wp_seq (ihx p h1 hok.1 s G a w _ _ h hg hf (aJp he λs' G' a' w' k g x f=>ihy q h2 hok.2 s' G' a' w' K Q k g f (aJg x he)))
 | seqc x y ihx ihy=>intro code hl hok s G a w K Q h hg hf he;simp only[C.ok,zc]at hok;obtain⟨M,hM1,hM2⟩:=h;have inv:=aCv hl;obtain⟨p,q,rfl,h1,h2⟩:=inv;exact wp_seq (ihx p h1 hok.1 s G a w _ _ hM1 hg hf (aJp he λs' G' a' w' k g x f=>ihy q h2 hok.2 s' G' a' w' K Q (hM2 s' k) g f (aJg x he)))
 | cond z x y ihx ihy =>
   intro code hl hok s G a w K Q h hg hf he;simp only[C.ok,zc]at hok;have inv:=aCv hl;obtain⟨o,p,q,rfl,h0,h1,h2⟩:=inv
   . · have hr:=aAm hg h0
       cases z with
       | t m =>
         simp only[awp]at h;split at h<;>try (exact h.elim)
         .rename_i m' b e1 e2;cases e1
          rw[e2]at hr;have hb:=aDr hr;have hs:∀b',b=b'->s.set m (.bool b')=s:=λb' e=>aX4 (by rw[<-e];exact e2);refine wp_cond_split hb (λht=>?_) (λht=>?_)
          .grind
          grind
         grind
       | k v' =>
         simp only[awp]at h;split at h<;>try (exact h.elim)
         .grind
         .rename_i m' b e1 e2;cases e1
          rw[e2]at hr;have hb:=aDr hr;refine wp_cond_split hb (λht=>?_) (λht=>?_)
          .grind
          grind
 | block id x ihx =>
   intro code hl hok s G a w K Q h hg hf he;have inv:=aCv hl
   .obtain⟨p,rfl,h1⟩:=inv;refine wp_block (ihx p h1 hok s G a w _ _ h hg hf ?_);intro x' s' G' a' w' k g x f;cases x' with
    | norm=>exact he .norm s' G' a' w' k g x f
    | ret=>exact he .ret s' G' a' w' k g x f
    | exit m =>
      simp only[blkK]at k;simp only[bF7,Exit.inBlock];by_cases e:m=id
      .simp only[e,if_true]at k ⊢;exact he .norm s' G' a' w' k g x f
      .simp only[e,if_false]at k ⊢;exact he (.exit m) s' G' a' w' k g x f
 | loop x ihx =>
   intro code hl hok s G a w K Q h hg hf he;have inv:=aCv hl
   .obtain⟨p,rfl,h1⟩:=inv;obtain⟨J,⟨m0,hJ0⟩,hJ⟩:=h;refine aVy (λm a' w'=>∃s' G',J m s'∧Good P D n s' G' a' w'∧Nxt s.L G w s'.L G' w'∧∀i,s'.nx<=i->G' i=none) (λm a1 w1 hI=>?_) (m:=m0) ⟨s,G,hJ0,hg,Nxt.refl _ _ _,hf⟩;obtain⟨s1,G1,j1,g1,x1,f1⟩:=hI;refine ihx p h1 hok s1 G1 a1 w1 _ _ (hJ m s1 j1) g1 f1 (aJp (aJg x1 he) λs2 G2 a2 w2 k2 g2 x2 f2=>?_);obtain⟨m2,hlt,j2⟩:=k2;exact⟨m2,hlt,s2,G2,j2,g2,x1.trans x2,f2⟩
 | exit id =>
   intro code hl hok s G a w K Q h hg hf he;have inv:=aCv hl
   .obtain rfl:=inv;exact wp_exit (he (.exit id) s G a w h hg (Nxt.refl _ _ _) hf)
 | ret =>
   intro code hl hok s G a w K Q h hg hf he;have inv:=aCv hl
   .obtain rfl:=inv;exact wp_ret (he .ret s G a w h hg (Nxt.refl _ _ _) hf)
 | gh g x ihx=>intro code hl hok s G a w K Q h hg hf he;obtain⟨s',G',h1,h2,h3,h4⟩:=aSv hn0 h hg hf;exact ihx code hl hok s' G' a w K Q h1 h2 h4 (aJg h3 he)
 | gha g x ihx =>
   intro code hl hok s G a w K Q h hg hf he;refine ihx code hl hok s G a w _ Q h hg hf ?_;intro x' s' G' a' w' k g' x2 f;cases x' with
   | norm=>obtain⟨s2,G2,h1,h2,h3,h4⟩:=aSv hn0 k g' f;exact he .norm s2 G2 a' w' h1 h2 (x2.trans h3) h4
   | exit id=>exact he (.exit id) s' G' a' w' k g' x2 f
   | ret=>exact he .ret s' G' a' w' k g' x2 f
end
end Go.Ab
namespace Go.Ab
open Go.RowKit
abbrev RV:=Nat×Option (Nat×Bool)
def lowR(P:Program):ResultVar->Option RV
 | .tmp t=>some (t,none)
 | .cell t y=>match szOf P y,aEn P y with
   | some z,some ag=>if ag||z=1 then some (t,some (z,ag))else none
   | _,_=>none
def aVu(P:Program):List ResultVar->Option (List RV)
 | []=>some []
 | r::l=>match lowR P r,aVu P l with
   | some x,some y=>some (x::y)
   | _,_=>none
def resP:List RV->St->(List V->Prop)->Prop
 | [],_,K=>K []
 | (t,none)::r,s,K=>resP r s λvs=>K (s.env t::vs)
 | (t,some (sz,ag))::r,s,K=>match s.env t with
   | .ptr id o=>match s.L id with
     | some (.box _ cs)=>o+sz<=cs.length∧resP r s λvs=>K (pack ag ((cs.drop o).take sz)::vs)
     | _=>False
   | _=>False
def one:List V->V
 | [v]=>v
 | vs=>.tup vs
theorem aMz:∀{rs:List RV} {s:St} {K:List V->Prop},resP rs s K->∃vs,K vs
 | [],s,K,h=>⟨_,h⟩
 | (t,none)::r,s,K,h=>let⟨vs,h⟩:=aMz (rs:=r) h;⟨_,h⟩
 | (t,some (sz,ag))::r,s,K,h=>by
   simp only[resP]at h;split at h
   .split at h
    .obtain⟨vs,h⟩:=aMz h.2;grind
    grind
   grind
def oneR(tmps:Array Value):ResultVar->Sem Value
 | .tmp t=>pure (tmps.getD t undef)
 | .cell c t=>do loadVar t (<-asAddr (tmps.getD c undef))
theorem aLd{P:Program}{D:Nat->Prop}{n:Nat}{s:St}{G:Ghost}{a:Act}{w:World}(hg:Good P D n s G a w):∀(l:List ResultVar) (rs:List RV) (K:List V->Prop),aVu P l=some rs->resP rs s K ->
 ∃(xs:List V) (vs:List Value),K xs∧xs.length=vs.length∧(∀(i:Nat) x,xs[i]?=some x->Rep G (Dp D s.L G) w x (vs.getD i undef))∧(l.mapM (oneR a.tmps)).run P w=.ok vs w
 | [],rs,K,h,hK=>by simp only[aVu,za]at h;subst h;exact⟨[],[],hK,rfl,by simp,rfl⟩
 | r::l,rs,K,h,hK=>by
   simp only[aVu]at h;split at h
   .rename_i x y h1 h2;simp only[za]at h;subst h;have step:∀(v:V) (u:Value),Rep G (Dp D s.L G) w v u->resP y s (λvs=>K (v::vs))->(oneR a.tmps r).run P w=.ok u w ->
     ∃(xs:List V) (vs:List Value),K xs∧xs.length=vs.length∧(∀(i:Nat) x,xs[i]?=some x->Rep G (Dp D s.L G) w x (vs.getD i undef))∧((r::l).mapM (oneR a.tmps)).run P w=.ok vs w:=by
     intro v u hu hK' hrun;obtain⟨xs,vs,k1,k2,k3,k4⟩:=aLd hg l y _ h2 hK';refine⟨v::xs,u::vs,k1,by grind,λi x hx=>?_,?_⟩
     .grind
     simp_all
    cases r with
    | tmp t=>simp only[lowR,za]at h1;subst h1;exact step _ _ (hg.env t) hK rfl
    | cell t ty =>
      simp only[lowR]at h1;split at h1
      .rename_i z ag hz hag;split at h1
       .rename_i hc;simp only[za]at h1;subst h1;simp only[resP]at hK;split at hK
        .rename_i id off hid;split at hK
         .rename_i cs hL;have rx:=hg.env t;rw[hid]at rx;obtain⟨g,r1,ev⟩:=aFw rx;obtain⟨g',k1,c',ty',fr,k2,k3,k4,_,k5⟩:=hg.hp.blk _ _ hL;obtain rfl:g=g':=zq (r1.symm.trans k1);have q0:g.off+off=off:=by omega
          rw[q0]at ev;have get:∀(j:Nat) (c:V),((cs.drop off).take z)[j]?=some c->cs[off+j]?=some c:=λj c hc=>by grind
          have hlen:((cs.drop off).take z).length=z:=by grind
          have hc':ag=true∨z=1:=by grind
          refine step _ _ (aTx (q:=off) (b:=g.blk) hlen hc' λj c hc=>?_) hK.2 ?_
          .rw[aBj k2];grind
          .show(do loadVar ty (<-asAddr (a.tmps.getD t undef)):Sem Value).run P w=_;rw[ev];simp only[asAddr,Sem.run_bind,Sem.run_pure,Result.andThen_ok];rw[aJx hz hag hc' λj hj=>?_];have hj':off+j<cs.length:=by omega
           rw[aA9 k2];grind
         grind
        grind
       grind
      grind
   grind
theorem aQv{fn:Func}{tmps:Array Value}{P:Program}{w:World}{vs:List Value}(h:(fn.results.toList.mapM (oneR tmps)).run P w=.ok vs w):
 (results fn tmps).run P w=.ok (if h:vs.toArray.size=1 then vs.toArray[0]else .tuple vs.toArray) w:=by
 have e:fn.results.mapM (oneR tmps)=List.toArray <$> fn.results.toList.mapM (oneR tmps):=by
  have e1:fn.results.mapM (oneR tmps)=fn.results.toList.toArray.mapM (oneR tmps):=by simp
  rw[e1,List.mapM_toArray]
 have e2:results fn tmps=(do
  let vs <-fn.results.mapM (oneR tmps)
  pure (if h:vs.size=1 then vs[0]else .tuple vs)):=rfl
 simp_all
theorem bIn{G:Ghost}{D:Nat->Prop}{w:World}{xs:List V}{vs:List Value}(hl:xs.length=vs.length)(h:∀(i:Nat) x,xs[i]?=some x->Rep G D w x (vs.getD i undef)):
 Rep G D w (one xs) (if h:vs.toArray.size=1 then vs.toArray[0]else .tuple vs.toArray):=by
 match xs,vs,hl with
 | [x],[v],_=>simpa[one]using h 0 x rfl
 | [],[],_=>exact .tup _ _ rfl (by simp)
 | x::y::r,v::u::q,hl =>
   have:¬((v::u::q).toArray.size=1):=by simp
   simp only[one,this,dif_neg,not_false_eq_true];refine .tup _ _ (by omega) λi c hc=>?_;simp_all
section
variable {P:Program} {n:Nat} {hint:Nat->Nat}
theorem aOv{g:Gh}{s:St}{K:St->Prop}(h:aB2 g s K):∃s',K s':=by
 cases g with
 | cut=>obtain⟨M,h1,h2⟩:=h;grind
 | fz=>obtain⟨s',_,h2⟩:=h;grind
 | own d ty sz=>exact⟨_,h.2⟩
 | bopen d =>
   simp only[aB2]at h;split at h
   .split at h
    .rename_i tb ty bs hL;by_cases hb:bs=[]
     .exact⟨_,(h .nilp (.inl rfl)).1 hb⟩
     .exact⟨_,(h .nilp (.inl rfl)).2 hb⟩
    grind
   grind
 | bclose d ty =>
   simp only[aB2]at h;split at h
   .grind
   grind
 | frzb d=>simp only[aB2]at h;grind
 | frz d=>simp only[aB2]at h;grind
theorem bMu:∀(c:C) (s:St) (K:X->St->Prop),c.ok=true->awp P n c K s->∃x s',K x s':=by
 intro c;induction c with
 | skip=>intro s K _ h;exact⟨.norm,s,h⟩
 | bad=>intro s K _ h;exact h.elim
 | ops d l=>intro s K hok h;obtain⟨s',h'⟩:=aZk (aH9 l s hok h);grind
 | seq x y ihx ihy =>
   intro s K hok h;simp only[C.ok,zc]at hok;obtain⟨x',s',h'⟩:=ihx s _ hok.1 h;cases x' with
   | norm=>exact ihy s' K hok.2 h'
   | exit id=>exact⟨_,s',h'⟩
   | ret=>exact⟨_,s',h'⟩
 | seqc x y ihx ihy =>
   intro s K hok h;simp only[C.ok,zc]at hok;obtain⟨M,h1,h2⟩:=h;obtain⟨x',s',h'⟩:=ihx s _ hok.1 h1;cases x' with
   | norm=>exact ihy s' K hok.2 (h2 s' h')
   | exit id=>exact⟨_,s',h'⟩
   | ret=>exact⟨_,s',h'⟩
 | cond z x y ihx ihy =>
   intro s K hok h;simp only[C.ok,zc]at hok;simp only[awp]at h;split at h
   .rename_i m b e;cases b
    .grind
    grind
   .grind
   grind
 | block id x ihx =>
   intro s K hok h;obtain⟨x',s',h'⟩:=ihx s _ hok h;cases x' with
   | norm=>exact⟨_,s',h'⟩
   | ret=>exact⟨_,s',h'⟩
   | exit m=>simp only[blkK]at h';grind
 | loop x ihx =>
   intro s K hok h;obtain⟨J,⟨m0,h0⟩,hJ⟩:=h;have key:∀m s,J m s->∃x s',K x s':=by
    intro m;induction m using wX with
    | _ m ih =>
      intro s hs;obtain⟨x',s',h'⟩:=ihx s _ hok (hJ m s hs);cases x' with
      | norm=>obtain⟨m',hlt,hj⟩:=h';grind
      | exit id=>exact⟨_,s',h'⟩
      | ret=>exact⟨_,s',h'⟩
   grind
 | exit id=>intro s K _ h;exact⟨_,s,h⟩
 | ret=>intro s K _ h;exact⟨_,s,h⟩
 | gh g x ihx=>intro s K hok h;obtain⟨s',h'⟩:=aOv h;exact ihx s' K hok h'
 | gha g x ihx =>
   intro s K hok h;obtain⟨x',s',h'⟩:=ihx s _ hok h;cases x' with
   | norm=>obtain⟨s2,h2⟩:=aOv h';grind
   | exit id=>exact⟨_,s',h'⟩
   | ret=>exact⟨_,s',h'⟩
structure Fn(P:Program)(f:Nat)(n:Nat)(rs:List RV)(c:C):Prop where
 get:∃fn code hint,P.funcs[f]?=some fn∧fn.body=some code∧fn.ntmps=n∧aVu P fn.results.toList=some rs∧aB6 P n hint code=some c.erase
 ok:c.ok=true
 pos:0<n
def fnL(P:Program)(f:Nat)(hint:Nat->Nat):Option (Nat×Option (List RV)×Option LC):=match P.funcs[f]? with
 | some fn=>match fn.body with
   | some code=>some (fn.ntmps,aVu P fn.results.toList,aB6 P fn.ntmps hint code)
   | none=>none
 | none=>none
theorem aAi{P:Program}{f n:Nat}{rs:List RV}{c:C}(hint:Nat->Nat)(h:fnL P f hint=some (n,some rs,some c.erase))(ok:(c.ok&&Nat.blt 0 n)=true):Fn P f n rs c:=by
 rw[zc]at ok;unfold fnL at h;split at h
 .rename_i fn e;split at h
  .rename_i code e2;simp only[za,Prod.mk.injEq]at h;obtain⟨rfl,h2,h3⟩:=h;exact⟨⟨fn,code,hint,e,e2,rfl,h2,h3⟩,ok.1,Nat.le_of_ble_eq_true ok.2⟩
  grind
 grind
def St.enter(args:List V)(L:Heap)(nx:Nat):St:=⟨λi=>args.getD i .junk,L,nx⟩
def endK(rs:List RV)(post:V->Heap->Nat->Prop):X->St->Prop
 | .norm,s=>resP rs s λvs=>post (one vs) s.L s.nx
 | .ret,s=>resP rs s λvs=>post (one vs) s.L s.nx
 | .exit _,_=>False
theorem aU0{D:Nat->Prop}{args:List V}{L:Heap}{nx:Nat}{G:Ghost}{w:World}{vs:Array Value}(hn:args.length<=n)(hp:Hp P D 0 ⟨λ_=>.junk,L,nx⟩ G w)(hl:args.length=vs.size)
 (hr:∀i x,args[i]?=some x->Rep G (Dp D L G) w x (vs.getD i undef)):Good P D n (.enter args L nx) G { tmps:=vs++z7 (n-vs.size) undef,defers:=[] } w:=by
 refine⟨by grind,rfl,λi=>?_,⟨λid hid=>hp.fin id (by simp only[St.enter]at hid ⊢;omega),hp.blk,hp.apart,hp.away,hp.dlt,hp.gl⟩⟩;simp only[St.enter];rcases xk i args.length with h|h
 .have h1:=hr i args[i] (zB h);have e1:args.getD i .junk=args[i]:=by grind
  have hv:i<vs.size:=by omega
  have e2:(vs++z7 (n-vs.size) undef).getD i undef=vs.getD i undef:=by simp[zo,yS,hv]
  grind
 .have e1:args.getD i .junk=.junk:=by grind
  rw[e1];exact .junk _
theorem aJj{f:Nat}{rs:List RV}{c:C}{args:List V}{L:Heap}{nx:Nat}{post:V->Heap->Nat->Prop}(hf:Fn P f n rs c)(hn:args.length<=n)
 (h:awp P n c (endK rs λr L' nx'=>nx<=nx'∧post r L' nx') (.enter args L nx)):ECall P f args L nx post:=by
 obtain⟨fn,code,hint,h1,h2,h3,h4,h5⟩:=hf.get;refine⟨?_,λD G w vs hp hl hr=>?_⟩
 .obtain⟨x,s',hk⟩:=bMu c _ _ hf.ok h;cases x with
  | norm=>obtain⟨vs,hk⟩:=aMz hk;grind
  | ret=>obtain⟨vs,hk⟩:=aMz hk;grind
  | exit id=>exact hk.elim
 .refine calls_of_wp h1 h2 ?_;rw[h3];refine bPh hf.pos c code h5 hf.ok _ G _ w _ _ h (aU0 hn hp hl hr) (λi hi=>hp.fin i hi) ?_;have fin:∀s' G' a' w',(resP rs s' λvs=>nx<=s'.nx∧post (one vs) s'.L s'.nx)->Good P D n s' G' a' w'->Nxt L G w s'.L G' w'->(∀i,s'.nx<=i->G' i=none) ->
   a'.defers=[]∧∃v,(results fn a'.tmps).run P w'=.ok v w'∧∃v' r L' nx' G'',Ending.returned v=.returned v'∧post r L' nx'∧Hp P D 0 ⟨λ_=>.junk,L',nx'⟩ G'' w'∧nx<=nx'∧Nxt L G w L' G'' w'∧Rep G'' (Dp D L' G'') w' r v':=by
   intro s' G' a' w' k g x f;obtain⟨xs,vs',⟨q1,q2⟩,q3,q4,q5⟩:=aLd g _ rs _ h4 k;exact⟨g.defers,_,aQv q5,_,one xs,s'.L,s'.nx,G',rfl,q2,⟨f,g.hp.blk,g.hp.apart,g.hp.away,g.hp.dlt,g.hp.gl⟩,q1,x,bIn q3 q4⟩
  intro x s' G' a' w' k g x' f;cases x with
  | norm=>exact fin s' G' a' w' k g x' f
  | ret=>exact fin s' G' a' w' k g x' f
  | exit id=>exact k.elim
theorem bP0{f:Nat}{rs:List RV}{c:C}{args:List V}{r:V}(hf:Fn P f n rs c)(hn:args.length<=n)(hi:r.imm=true)
 (h:awp P n c (endK rs λr' L' _=>view L' 3 r'=r) (.enter args (λ_=>none) 0)):PTr P f args r:=by
 have hE:ECall P f args (λ_=>none) 0 λr' L' _=>view L' 3 r'=r:=by refine aJj hf hn ?_;grind
 intro D w vs hD hgl hl hr;have hp:Hp P D 0 ⟨λ_=>.junk,λ_=>none,0⟩ (λ_=>none) w:=⟨λ_ _=>rfl,λid b h=>by grind,λid id' b b' g g' x h=>by simp,λx ho=>by obtain⟨id,b,g,h,_⟩:=ho;grind,hD,GlW.start hgl⟩
 refine(hE.2 D (λ_=>none) w vs hp hl λi x hx=>(hr i x hx).mono (Ghost.le_refl _) (λb _ hn hd=>?_) (Same.refl _ _)).mono ?_
 .rcases hd with hd|⟨id,b,g,h,_⟩
  .grind
  grind
 .rintro e w' ⟨v,r',L',nx',G',rfl,hpost,hp',_,hx,hrep⟩;refine⟨v,rfl,⟨hx.os,hx.tape,hx.output,hx.same.1,λb hb=>hx.same.2 b hb ?_⟩,?_⟩
  .rintro⟨id,b,g,h,_⟩;grind
  .have:=aHh hp' 3 hrep 3 (zz _);simp only at this;rw[hpost]at this;exact this.free hi _
end
end Go.Ab
namespace Go.Ab
def InR(k:IntKind)(x:Int):Prop:=match k with
 | .i8=>-128<=x∧x<=127
 | .i16=>-32768<=x∧x<=32767
 | .i32=>-2147483648<=x∧x<=2147483647
 | .i64=>-9223372036854775808<=x∧x<=9223372036854775807
 | .u8=>0<=x∧x<=255
 | .u16=>0<=x∧x<=65535
 | .u32=>0<=x∧x<=4294967295
 | .u64=>0<=x∧x<=18446744073709551615
theorem InR.wrap{k:IntKind}{x:Int}(h:InR k x):k.wrap x=x:=by
 cases k<;>simp only[InR]at h<;>obtain⟨h1,h2⟩:=h<;>unfold IntKind.wrap<;>simp[IntKind.bits,IntKind.signed]<;>omega
def aC0(op:BinOp)(x y:V)(K:V->Prop):Prop:=
 match op,x,y with
 | .add,.int k a,.int k' b=>k=k'∧InR k (a+b)∧K (.int k (a+b))
 | .sub,.int k a,.int k' b=>k=k'∧InR k (a-b)∧K (.int k (a-b))
 | .mul,.int k a,.int k' b=>k=k'∧InR k (a*b)∧K (.int k (a*b))
 | .quo,.int k a,.int k' b=>k=k'∧b≠0∧InR k (a.tdiv b)∧K (.int k (a.tdiv b))
 | op,x,y=>vbin op x y K
theorem aQt{op:BinOp}{x y:V}{K:V->Prop}(h:aC0 op x y K):vbin op x y K:=by
 unfold aC0 at h;split at h
 .obtain⟨rfl,h1,h2⟩:=h;exact⟨.inr rfl,by simpa only[vint,h1.wrap]using h2⟩
 .obtain⟨rfl,h1,h2⟩:=h;exact⟨.inr rfl,by simpa only[vint,h1.wrap]using h2⟩
 .obtain⟨rfl,h1,h2⟩:=h;exact⟨.inr rfl,by simpa only[vint,h1.wrap]using h2⟩
 .obtain⟨rfl,h0,h1,h2⟩:=h;exact⟨.inr rfl,h0,by simpa only[h1.wrap]using h2⟩
 omega
def vunC(op:UnOp)(x:V)(K:V->Prop):Prop:=
 match op,x with
 | .neg,.int k a=>InR k (0-a)∧K (.int k (0-a))
 | op,x=>vun op x K
theorem aUq{op:UnOp}{x:V}{K:V->Prop}(h:vunC op x K):vun op x K:=by
 unfold vunC at h;split at h
 .obtain⟨h1,h2⟩:=h;simp only[vun,h1.wrap];exact h2
 omega
def bEg(k:IntKind)(x:V)(K:V->Prop):Prop:=
 match x with
 | .int _ n=>InR k n∧K (.int k n)
 | _=>False
def wrD(wr:List Nat):Option Nat->Bool
 | some d=>wr.contains d
 | none=>false
def aAk(P:Program)(wr:List Nat):I->St->(St->Prop)->Prop
 | .bin d op x y,s,K=>if wrD wr d then aAf P (.bin d op x y) s K else aC0 op (s.ev x) (s.ev y) λv=>K (s.setO d v)
 | .un d op x,s,K=>if wrD wr d then aAf P (.un d op x) s K else vunC op (s.ev x) λv=>K (s.setO d v)
 | .cvt d k x,s,K=>if wrD wr d then aAf P (.cvt d k x) s K else bEg k (s.ev x) λv=>K (s.setO d v)
 | i,s,K=>aAf P i s K
theorem aP5{P:Program}{wr:List Nat}{i:I}{s:St}{K:St->Prop}(h:aAk P wr i s K):aAf P i s K:=by
 cases i with
 | bin d op x y =>
   simp only[aAk]at h;split at h
   .exact h
   .exact aQt h
 | un d op x =>
   simp only[aAk]at h;split at h
   .exact h
   .exact aUq h
 | cvt d k x =>
   simp only[aAk]at h;split at h
   .exact h
   .simp only[aAf];unfold bEg at h;split at h
    .rename_i e;obtain⟨h1,h2⟩:=h;rw[e];simp only[h1.wrap];exact h2
    grind
 | _=>exact h
def aCk(P:Program)(wr:List Nat):List I->St->(St->Prop)->Prop
 | [],s,K=>K s
 | i::r,s,K=>aAk P wr i s λs=>aCk P wr r s K
theorem aE5{P:Program}{wr:List Nat}:∀{l:List I} {s:St} {K K':St->Prop},aCk P wr l s K->(∀s,K s->K' s)->aJ1 P l s K'
 | [],s,K,K',h,hk=>hk s h
 | i::r,s,K,K',h,hk=>aGc (aP5 h) λs' h'=>aE5 h' hk
def aLo(P:Program)(wr:List Nat)(x:Grp)(s:St)(K:St->Prop):Prop:=
 match x.g with
 | none=>aCk P wr x.l s K
 | some (t,w)=>match s.env t with
   | .bool b=>(b=w->aCk P wr x.l (s.set t (.bool w)) K)∧(b=!w->K (aE3 x.l (s.set t (.bool !w))))
   | .tup []=>K (aE3 x.l s)
   | _=>False
theorem aQx{P:Program}{wr:List Nat}{x:Grp}{s:St}{K K':St->Prop}(h:aLo P wr x s K)(hk:∀s,K s->K' s):grun P x s K':=by
 obtain⟨g,l⟩:=x;cases g with
 | none=>exact aE5 h hk
 | some g =>
   obtain⟨t,w⟩:=g;simp only[aLo]at h;simp only[grun];split at h
   .rename_i b e;simp only[e];exact⟨λe=>aE5 (h.1 e) hk,λe=>hk _ (h.2 e)⟩
   .grind
   grind
def aF8(P:Program)(wr:List Nat):List Grp->St->(St->Prop)->Prop
 | [],s,K=>K s
 | x::r,s,K=>aLo P wr x s λs=>aF8 P wr r s K
theorem aI3{P:Program}{wr:List Nat}:∀{l:List Grp} {s:St} {K K':St->Prop},aF8 P wr l s K->(∀s,K s->K' s)->aYg P l s K'
 | [],s,K,K',h,hk=>hk s h
 | i::r,s,K,K',h,hk=>aQx h λs' h'=>aI3 h' hk
def awpC(P:Program)(n:Nat)(wr:List Nat):C->(X->St->Prop)->St->Prop
 | .skip,K,s=>K .norm s
 | .bad,_,_=>False
 | .ops _ l,K,s=>aF8 P wr l s λs=>K .norm (s.past n)
 | .seq a b,K,s=>awpC P n wr a (seqK (awpC P n wr b K) K) s
 | .seqc a b,K,s=>∃M:St->Prop,awpC P n wr a (seqK M K) s∧∀s,M s->awpC P n wr b K s
 | .cond x a b,K,s=>match x,s.ev x with
   | .t m,.bool t=>(t=true->awpC P n wr a K (s.set m (.bool true)))∧(t=false->awpC P n wr b K (s.set m (.bool false)))
   | .k _,.bool t=>if t then awpC P n wr a K s else awpC P n wr b K s
   | _,_=>False
 | .block id a,K,s=>awpC P n wr a (blkK id K) s
 | .loop a,K,s=>∃J:Nat->St->Prop,(∃m,J m s)∧∀m s,J m s->awpC P n wr a (seqK (λs=>∃m',m'<m∧J m' s) K) s
 | .exit id,K,s=>K (.exit id) s
 | .ret,K,s=>K .ret s
 | .gh g a,K,s=>aB2 g s (awpC P n wr a K)
 | .gha g a,K,s=>awpC P n wr a (seqK (λs=>aB2 g s (K .norm)) K) s
theorem aK0{g:Gh}{s:St}{K K':St->Prop}(h:aB2 g s K)(hk:∀s,K s->K' s):aB2 g s K':=by
 unfold aB2 at h ⊢;split at h
 .grind
 .grind
 .grind
 .obtain⟨M,h1,h2⟩:=h;exact⟨M,h1,λs hs=>hk s (h2 s hs)⟩
 .grind
 .split at h
  .grind
  omega
 .split at h
  .split at h
   .refine⟨h.1,?_⟩;have h:=h.2;split at h
    .grind
    .grind
    omega
   omega
  omega
theorem aHu{N N':St->Prop}{K K':X->St->Prop}(h1:∀s,N s->N' s)(h2:∀x s,K x s->K' x s):∀x s,seqK N K x s->seqK N' K' x s:=by
 intro x s h;cases x with
 | norm=>exact h1 s h
 | exit n=>exact h2 _ s h
 | ret=>exact h2 _ s h
theorem aXx{id:Nat}{K K':X->St->Prop}(h2:∀x s,K x s->K' x s):∀x s,blkK id K x s->blkK id K' x s:=by
 intro x s h;cases x with
 | norm=>exact h2 _ s h
 | exit n=>simp only[blkK]at h ⊢;grind
 | ret=>exact h2 _ s h
theorem aL9{P:Program}{n:Nat}{wr:List Nat}:∀(c:C) {K K':X->St->Prop} {s:St},awpC P n wr c K s->(∀x s,K x s->K' x s)->awp P n c K' s:=by
 intro c;induction c with
 | skip=>intro K K' s h hk;exact hk _ _ h
 | bad=>intro K K' s h hk;exact h.elim
 | ops d l=>intro K K' s h hk;exact aI3 h λs h=>hk _ _ h
 | seq a b iha ihb=>intro K K' s h hk;exact iha h (aHu (λs h=>ihb h hk) hk)
 | seqc a b iha ihb=>intro K K' s h hk;obtain⟨M,h1,h2⟩:=h;exact⟨M,iha h1 (aHu (λs h=>h) hk),λs hs=>ihb (h2 s hs) hk⟩
 | cond x a b iha ihb=>intro K K' s h hk;simp only[awpC]at h;simp only[awp];grind
 | block id a iha=>intro K K' s h hk;exact iha h (aXx hk)
 | loop a iha=>intro K K' s h hk;obtain⟨J,h0,h1⟩:=h;exact⟨J,h0,λm s hj=>iha (h1 m s hj) (aHu (λs h=>h) hk)⟩
 | exit id=>intro K K' s h hk;exact hk _ _ h
 | ret=>intro K K' s h hk;exact hk _ _ h
 | gh g a iha=>intro K K' s h hk;exact aK0 h λs h=>iha h hk
 | gha g a iha=>intro K K' s h hk;exact iha h (aHu (λs h=>aK0 h λs h=>hk _ _ h) hk)
theorem ptrC{P:Program}{n f:Nat}{rs:List RV}{c:C}(wr:List Nat){args:List V}{r:V}(hf:Fn P f n rs c)(hn:args.length<=n)(hi:r.imm=true)
 (h:awpC P n wr c (endK rs λr' L' _=>view L' 3 r'=r) (.enter args (λ_=>none) 0)):PTr P f args r:=
 bP0 hf hn hi (aL9 c h λ_ _ h=>h)
theorem aB0{P:Program}{n f:Nat}{rs:List RV}{c:C}(wr:List Nat){args:List V}{L:Heap}{nx:Nat}{post:V->Heap->Nat->Prop}(hf:Fn P f n rs c)(hn:args.length<=n)
 (h:awpC P n wr c (endK rs λr L' nx'=>nx<=nx'∧post r L' nx') (.enter args L nx)):ECall P f args L nx post:=
 aJj hf hn (aL9 c h λ_ _ h=>h)
theorem bSr{P:Program}{wr:List Nat}{s:St}{K:St->Prop}{d x}:aAk P wr (.mov d x) s K=(K (s.setO d (s.ev x))):=by unfold aAk aAf;rfl
def aL0(d:Option Nat)(a:V)(b:V)(a1:V)(s:St)(K:St->Prop):Prop:=
 match a1 with
 | .bool t=>K (s.setO d (if t then a else b))
 | _=>False
theorem bP5{P:Program}{wr:List Nat}{s:St}{K:St->Prop}{d c a b}:aAk P wr (.pick d c a b) s K=aL0 d (s.ev a) (s.ev b) (s.ev c) s K:=by unfold aAk aAf aL0 ;rfl
def aVw(d:Option Nat)(neg:Bool)(ks:List Nat)(a1:V)(a2:V)(s:St)(K:St->Prop):Prop:=
 match a1,a2 with
 | .agg a,.agg b=>∃t,aBe ks a b=some t∧K (s.setO d (.bool (t != neg)))
 | _,_=>False
theorem bUt{P:Program}{wr:List Nat}{s:St}{K:St->Prop}{d neg ks x y}:aAk P wr (.eqA d neg ks x y) s K=aVw d neg ks (s.ev x) (s.ev y) s K:=by unfold aAk aAf aVw ;rfl
def aBn(d:Option Nat)(neg:Bool)(a1:Nat)(a2:V)(s:St)(K:St->Prop):Prop:=
 match a1,a2 with
 | 0,.nilp=>K (s.setO d (.bool !neg))
 | 1,.nils=>K (s.setO d (.bool !neg))
 | 2,.nilm=>K (s.setO d (.bool !neg))
 | 0,.ptr q0 q1=>K (s.setO d (.bool neg))
 | 0,.eptr q0 q1 q2=>K (s.setO d (.bool neg))
 | 0,.cptr q0=>K (s.setO d (.bool neg))
 | 2,.map q0=>K (s.setO d (.bool neg))
 | 1,.lst q0 es=>0<es.length∧K (s.setO d (.bool neg))
 | 1,.own q0 q1 q2 len=>0<len∧K (s.setO d (.bool neg))
 | _,_=>False
theorem bHp{P:Program}{wr:List Nat}{s:St}{K:St->Prop}{d neg kd x}:aAk P wr (.isnil d neg kd x) s K=aBn d neg (kd) (s.ev x) s K:=by unfold aAk aAf aBn ;rfl
theorem aV8{s:St}{K:St->Prop}{d neg q0 es}:aBn d neg (1) (.lst q0 es) s K=(0<es.length∧K (s.setO d (.bool neg))):=by unfold aBn;rfl
theorem bI0{P:Program}{wr:List Nat}{s:St}{K:St->Prop}{d zero parts}:aAk P wr (.build d zero parts) s K=((∀p∈parts,(s.ev p.2.2).ncells=some p.2.1)∧K (s.setO d (.agg (parts.foldl (λcs p=>aB3 cs p.1 (s.ev p.2.2).cells) zero)))):=by unfold aAk aAf;rfl
def aIs(d:Option Nat)(off:Nat)(sz:Nat)(ag:Bool)(a1:V)(s:St)(K:St->Prop):Prop:=
 match a1 with
 | .agg cs=>off+sz<=cs.length∧K (s.setO d (pack ag ((cs.drop off).take sz)))
 | _=>False
theorem bKl{P:Program}{wr:List Nat}{s:St}{K:St->Prop}{d off sz ag x}:aAk P wr (.field d off sz ag x) s K=aIs d off sz ag (s.ev x) s K:=by unfold aAk aAf aIs ;rfl
theorem aW1{s:St}{K:St->Prop}{d off sz ag cs}:aIs d off sz ag (.agg cs) s K=(off+sz<=cs.length∧K (s.setO d (pack ag ((cs.drop off).take sz)))):=by unfold aIs;rfl
def aWc(d:Option Nat)(i:Nat)(a1:V)(s:St)(K:St->Prop):Prop:=
 match a1 with
 | .tup cs=>i<cs.length∧K (s.setO d (cs.getD i .junk))
 | _=>False
theorem bSg{P:Program}{wr:List Nat}{s:St}{K:St->Prop}{d i x}:aAk P wr (.ext d i x) s K=aWc d i (s.ev x) s K:=by unfold aAk aAf aWc ;rfl
theorem bEh{s:St}{K:St->Prop}{d i cs}:aWc d i (.tup cs) s K=(i<cs.length∧K (s.setO d (cs.getD i .junk))):=by unfold aWc;rfl
def aWg(d:Option Nat)(a1:V)(a2:V)(s:St)(K:St->Prop):Prop:=
 match a1,a2 with
 | .str t,.int q0 n=>0<=n∧n.toNat<t.length∧K (s.setO d (.int .u8 (t.getD n.toNat 0).toNat))
 | _,_=>False
theorem bSx{P:Program}{wr:List Nat}{s:St}{K:St->Prop}{d x i}:aAk P wr (.idx d x i) s K=aWg d (s.ev x) (s.ev i) s K:=by unfold aAk aAf aWg ;rfl
theorem bEu{s:St}{K:St->Prop}{d t q0 n}:aWg d (.str t) (.int q0 n) s K=(0<=n∧n.toNat<t.length∧K (s.setO d (.int .u8 (t.getD n.toNat 0).toNat))):=by unfold aWg;rfl
def aMd(d:Option Nat)(n:Nat)(sz:Nat)(ag:Bool)(a1:V)(a2:V)(s:St)(K:St->Prop):Prop:=
 match a1,a2 with
 | .agg cs,.int q0 j=>0<=j∧j<n∧n*sz<=cs.length∧K (s.setO d (pack ag ((cs.drop (j.toNat*sz)).take sz)))
 | _,_=>False
theorem bNf{P:Program}{wr:List Nat}{s:St}{K:St->Prop}{d n sz ag x i}:aAk P wr (.idxA d n sz ag x i) s K=aMd d n sz ag (s.ev x) (s.ev i) s K:=by unfold aAk aAf aMd ;rfl
theorem bAw{s:St}{K:St->Prop}{d n sz ag cs q0 j}:aMd d n sz ag (.agg cs) (.int q0 j) s K=(0<=j∧j<n∧n*sz<=cs.length∧K (s.setO d (pack ag ((cs.drop (j.toNat*sz)).take sz)))):=by unfold aMd;rfl
def aLr(d:Option Nat)(lo:Option V)(hi:Option V)(a1:V)(s:St)(K:St->Prop):Prop:=
 match a1 with
 | .str t=>aBo lo 0 λl=>aBo hi t.length λh=>l<=h∧h<=t.length∧K (s.setO d (.str ((t.take h).drop l)))
 | _=>False
theorem bNh{P:Program}{wr:List Nat}{s:St}{K:St->Prop}{d x lo hi}:aAk P wr (.slcS d x lo hi) s K=aLr d (lo.map s.ev) (hi.map s.ev) (s.ev x) s K:=by unfold aAk aAf aLr ;rfl
def aLf(d:Option Nat)(sz:Nat)(lo:Option V)(hi:Option V)(a1:V)(s:St)(K:St->Prop):Prop:=
 match a1 with
 | .nils=>aBo lo 0 λl=>aBo hi 0 λh=>l<=h∧h<=0∧K (s.setO d .nils)
 | .lst sz' es=>sz'=sz∧aBo lo 0 λl=>aBo hi es.length λh=>l<=h∧h<=es.length∧K (s.setO d (.lst sz ((es.take h).drop l)))
 | .own id sz' off n=>sz'=sz∧aBo lo 0 λl=>aBo hi n λh=>l<=h∧h<=n∧K (s.setO d (.own id sz (off+l) (h-l)))
 | _=>False
theorem bWc{P:Program}{wr:List Nat}{s:St}{K:St->Prop}{d sz x lo hi}:aAk P wr (.slc d sz x lo hi) s K=aLf d sz (lo.map s.ev) (hi.map s.ev) (s.ev x) s K:=by unfold aAk aAf aLf ;rfl
def aH0(d:Option Nat)(a1:Bool)(a2:V)(s:St)(K:St->Prop):Prop:=
 match a1,a2 with
 | true,.str t=>K (s.setO d (.int .i64 t.length))
 | false,.nils=>K (s.setO d (.int .i64 0))
 | false,.lst q0 es=>K (s.setO d (.int .i64 es.length))
 | false,.own q0 q1 q2 n=>K (s.setO d (.int .i64 n))
 | _,_=>False
theorem bQ3{P:Program}{wr:List Nat}{s:St}{K:St->Prop}{d st x}:aAk P wr (.len d st x) s K=aH0 d (st) (s.ev x) s K:=by unfold aAk aAf aH0 ;rfl
theorem bCt{s:St}{K:St->Prop}{d t}:aH0 d (true) (.str t) s K=(K (s.setO d (.int .i64 t.length))):=by unfold aH0;rfl
theorem bDe{s:St}{K:St->Prop}{d}:aH0 d (false) (.nils) s K=(K (s.setO d (.int .i64 0))):=by unfold aH0;rfl
theorem bDm{s:St}{K:St->Prop}{d q0 es}:aH0 d (false) (.lst q0 es) s K=(K (s.setO d (.int .i64 es.length))):=by unfold aH0;rfl
theorem bEb{s:St}{K:St->Prop}{d q0 q1 q2 n}:aH0 d (false) (.own q0 q1 q2 n) s K=(K (s.setO d (.int .i64 n))):=by unfold aH0;rfl
def aGo(d:Option Nat)(off:Nat)(a1:V)(s:St)(K:St->Prop):Prop:=
 match a1 with
 | .cptr cs=>K (s.setO d (.cptr (cs.drop off)))
 | .ptr id o=>K (s.setO d (.ptr id (o+off)))
 | .eptr id i j=>K (s.setO d (.eptr id i (j+off)))
 | _=>False
theorem bOt{P:Program}{wr:List Nat}{s:St}{K:St->Prop}{d off x}:aAk P wr (.fadr d off x) s K=aGo d off (s.ev x) s K:=by unfold aAk aAf aGo ;rfl
theorem bA2{s:St}{K:St->Prop}{d off cs}:aGo d off (.cptr cs) s K=(K (s.setO d (.cptr (cs.drop off)))):=by unfold aGo;rfl
theorem bA6{s:St}{K:St->Prop}{d off id o}:aGo d off (.ptr id o) s K=(K (s.setO d (.ptr id (o+off)))):=by unfold aGo;rfl
theorem aZg{s:St}{K:St->Prop}{d off id i j}:aGo d off (.eptr id i j) s K=(K (s.setO d (.eptr id i (j+off)))):=by unfold aGo;rfl
def aGu(d:Option Nat)(sz:Nat)(a1:V)(a2:V)(s:St)(K:St->Prop):Prop:=
 match a1,a2 with
 | .lst sz' es,.int q0 n=>sz'=sz∧0<=n∧n.toNat<es.length∧K (s.setO d (.cptr (es.getD n.toNat .junk).cells))
 | .own id sz' off len,.int q0 n=>sz'=sz∧0<=n∧n.toNat<len∧K (s.setO d (.eptr id (off+n.toNat) 0))
 | _,_=>False
theorem bNb{P:Program}{wr:List Nat}{s:St}{K:St->Prop}{d sz x i}:aAk P wr (.iadr d sz x i) s K=aGu d sz (s.ev x) (s.ev i) s K:=by unfold aAk aAf aGu ;rfl
theorem bA7{s:St}{K:St->Prop}{d sz sz' es q0 n}:aGu d sz (.lst sz' es) (.int q0 n) s K=(sz'=sz∧0<=n∧n.toNat<es.length∧K (s.setO d (.cptr (es.getD n.toNat .junk).cells))):=by unfold aGu;rfl
theorem bBp{s:St}{K:St->Prop}{d sz id sz' off len q0 n}:aGu d sz (.own id sz' off len) (.int q0 n) s K=(sz'=sz∧0<=n∧n.toNat<len∧K (s.setO d (.eptr id (off+n.toNat) 0))):=by unfold aGu;rfl
def aFi(d:Option Nat)(a1:V)(s:St)(K:St->Prop):Prop:=
 match a1 with
 | .cptr cs=>K (s.setO d (.cptr cs))
 | .ptr id o=>K (s.setO d (.ptr id o))
 | .eptr id i j=>K (s.setO d (.eptr id i j))
 | .fn f cs=>K (s.setO d (.fn f cs))
 | _=>False
theorem bOv{P:Program}{wr:List Nat}{s:St}{K:St->Prop}{d x}:aAk P wr (.nchk d x) s K=aFi d (s.ev x) s K:=by unfold aAk aAf aFi ;rfl
theorem bAy{s:St}{K:St->Prop}{d id o}:aFi d (.ptr id o) s K=(K (s.setO d (.ptr id o))):=by unfold aFi;rfl
def aDq(d:Option Nat)(c:Bool)(sz:Nat)(ag:Bool)(id:Nat)(o:Nat)(bl:Option Blk)(s:St)(K:St->Prop):Prop:=
 match bl with
  | some (.box _ cs)=>c=false∧o+sz<=cs.length∧K (s.setO d (pack ag ((cs.drop o).take sz)))
  | _=>False
def aFd(d:Option Nat)(c:Bool)(sz:Nat)(ag:Bool)(id:Nat)(i:Nat)(j:Nat)(bl:Option Blk)(s:St)(K:St->Prop):Prop:=
 match bl with
  | some (.vec _ sz' es)=>c=false∧i<es.length∧j+sz<=sz'∧K (s.setO d (pack ag (((es.getD i .junk).cells.drop j).take sz)))
  | _=>False
def aD9(d:Option Nat)(c:Bool)(sz:Nat)(ag:Bool)(a1:V)(s:St)(K:St->Prop):Prop:=
 match a1 with
 | .cptr cs=>sz<=cs.length∧K (s.setO d (pack ag (cs.take sz)))
 | .ptr id o=>aDq d c sz ag id o (s.L id) s K
 | .eptr id i j=>aFd d c sz ag id i j (s.L id) s K
 | _=>False
theorem bO4{P:Program}{wr:List Nat}{s:St}{K:St->Prop}{d c sz ag x}:aAk P wr (.load d c sz ag x) s K=aD9 d c sz ag (s.ev x) s K:=by unfold aAk aAf aD9 aDq aFd;rfl
theorem aYm{s:St}{K:St->Prop}{d c sz ag cs}:aD9 d c sz ag (.cptr cs) s K=(sz<=cs.length∧K (s.setO d (pack ag (cs.take sz)))):=by unfold aD9;rfl
theorem aVr{s:St}{K:St->Prop}{d c sz ag id o r0 cs}:aDq d c sz ag id o (some (.box r0 cs)) s K=(c=false∧o+sz<=cs.length∧K (s.setO d (pack ag ((cs.drop o).take sz)))):=by unfold aDq;rfl
theorem aKx{s:St}{K:St->Prop}{d c sz ag id o}:aD9 d c sz ag (.ptr id o) s K=(aDq d c sz ag id o (s.L id) s K):=by unfold aD9;rfl
theorem aVa{s:St}{K:St->Prop}{d c sz ag id i j r0 sz' es}:aFd d c sz ag id i j (some (.vec r0 sz' es)) s K=(c=false∧i<es.length∧j+sz<=sz'∧K (s.setO d (pack ag (((es.getD i .junk).cells.drop j).take sz)))):=by unfold aFd;rfl
theorem bBu{s:St}{K:St->Prop}{d c sz ag id i j}:aD9 d c sz ag (.eptr id i j) s K=(aFd d c sz ag id i j (s.L id) s K):=by unfold aD9;rfl
def aD0(sz:Nat)(v:V)(id:Nat)(o:Nat)(bl:Option Blk)(s:St)(K:St->Prop):Prop:=
 match bl with
  | some (.box ty cs)=>(v).ncells=some sz∧o+sz<=cs.length∧K (s.put id (.box ty (aB3 cs o (v).cells)))
  | _=>False
def aD3(sz:Nat)(v:V)(id:Nat)(i:Nat)(j:Nat)(bl:Option Blk)(s:St)(K:St->Prop):Prop:=
 match bl with
  | some (.vec ty sz' es)=>(v).ncells=some sz∧i<es.length∧j+sz<=sz'∧K (s.put id (.vec ty sz' (es.set i ((es.getD i .junk).recell (aB3 (es.getD i .junk).cells j (v).cells)))))
  | _=>False
def aF9(sz:Nat)(v:V)(a1:V)(s:St)(K:St->Prop):Prop:=
 match a1 with
 | .ptr id o=>aD0 sz v id o (s.L id) s K
 | .eptr id i j=>aD3 sz v id i j (s.L id) s K
 | _=>False
theorem bKq{P:Program}{wr:List Nat}{s:St}{K:St->Prop}{sz x v}:aAk P wr (.store sz x v) s K=aF9 sz (s.ev v) (s.ev x) s K:=by unfold aAk aAf aF9 aD0 aD3;rfl
theorem aRd{s:St}{K:St->Prop}{sz v id o ty cs}:aD0 sz v id o (some (.box ty cs)) s K=((v).ncells=some sz∧o+sz<=cs.length∧K (s.put id (.box ty (aB3 cs o (v).cells)))):=by unfold aD0;rfl
theorem aWo{s:St}{K:St->Prop}{sz v id o}:aF9 sz v (.ptr id o) s K=(aD0 sz v id o (s.L id) s K):=by unfold aF9;rfl
theorem aRz{s:St}{K:St->Prop}{sz v id i j ty sz' es}:aD3 sz v id i j (some (.vec ty sz' es)) s K=((v).ncells=some sz∧i<es.length∧j+sz<=sz'∧K (s.put id (.vec ty sz' (es.set i ((es.getD i .junk).recell (aB3 (es.getD i .junk).cells j (v).cells)))))):=by unfold aD3;rfl
theorem aVn{s:St}{K:St->Prop}{sz v id i j}:aF9 sz v (.eptr id i j) s K=(aD3 sz v id i j (s.L id) s K):=by unfold aF9;rfl
theorem bH1{P:Program}{wr:List Nat}{s:St}{K:St->Prop}{d ty zero}:aAk P wr (.alloc d ty zero) s K=(K ((s.add (s.nx+d) (.box ty zero)).set d (.ptr (s.nx+d) 0))):=by unfold aAk aAf;rfl
theorem bVt{P:Program}{wr:List Nat}{s:St}{K:St->Prop}{d ty x}:aAk P wr (.box d ty x) s K=((s.ev x).ncells.isSome=true∧K ((s.add (s.nx+d) (.box ty (s.ev x).cells)).set d (.ptr (s.nx+d) 0))):=by unfold aAk aAf;rfl
theorem bUm{P:Program}{wr:List Nat}{s:St}{K:St->Prop}{d sz parts}:aAk P wr (.mkl d sz parts) s K=((∀p∈parts,(s.ev p).ncells=some sz)∧K (s.setO d (.lst sz (parts.map s.ev)))):=by unfold aAk aAf;rfl
theorem bTb{P:Program}{wr:List Nat}{s:St}{K:St->Prop}{d ty sz parts}:aAk P wr (.mkv d ty sz parts) s K=((∀p∈parts,(s.ev p).ncells=some sz)∧K ((s.add (s.nx+d) (.vec ty sz (parts.map s.ev))).set d (.own (s.nx+d) sz 0 parts.length))):=by unfold aAk aAf;rfl
def aWf(n:Nat)(ty:Nat)(sz:Nat)(a1:V)(s:St)(K:St->Prop):Prop:=
 match a1 with
 | .int .i64 m=>0<=m∧m<=1073741824∧K ((s.add (s.nx+n) (.vec ty sz [])).set n (.own (s.nx+n) sz 0 0))
 | _=>False
theorem bT6{P:Program}{wr:List Nat}{s:St}{K:St->Prop}{n ty sz x}:aAk P wr (.mk0 n ty sz x) s K=aWf n ty sz (s.ev x) s K:=by unfold aAk aAf aWf ;rfl
theorem bE1{s:St}{K:St->Prop}{n ty sz m}:aWf n ty sz (.int .i64 m) s K=(0<=m∧m<=1073741824∧K ((s.add (s.nx+n) (.vec ty sz [])).set n (.own (s.nx+n) sz 0 0))):=by unfold aWf;rfl
def aHr(n:Nat)(ty:Nat)(sz:Nat)(a1:V)(s:St)(K:St->Prop):Prop:=
 match a1 with
 | .nils=>K ((s.add (s.nx+n) (.vec ty sz [])).set n (.own (s.nx+n) sz 0 0))
 | .lst sz' es=>sz'=sz∧es.length<=2^32∧K ((s.add (s.nx+n) (.vec ty sz es)).set n (.own (s.nx+n) sz 0 es.length))
 | _=>False
theorem bN1{P:Program}{wr:List Nat}{s:St}{K:St->Prop}{n ty sz x}:aAk P wr (.appl n ty sz x) s K=aHr n ty sz (s.ev x) s K:=by unfold aAk aAf aHr ;rfl
theorem aOk{s:St}{K:St->Prop}{n ty sz}:aHr n ty sz (.nils) s K=(K ((s.add (s.nx+n) (.vec ty sz [])).set n (.own (s.nx+n) sz 0 0))):=by unfold aHr;rfl
theorem aOf{s:St}{K:St->Prop}{n ty sz sz' es}:aHr n ty sz (.lst sz' es) s K=(sz'=sz∧es.length<=2^32∧K ((s.add (s.nx+n) (.vec ty sz es)).set n (.own (s.nx+n) sz 0 es.length))):=by unfold aHr;rfl
def aVi(n:Nat)(ty:Nat)(a1:V)(s:St)(K:St->Prop):Prop:=
 match a1 with
 | .str t=>K ((s.add (s.nx+n) (.vec ty 1 (aAs t))).set n (.own (s.nx+n) 1 0 t.length))
 | _=>False
theorem bU8{P:Program}{wr:List Nat}{s:St}{K:St->Prop}{n ty x}:aAk P wr (.s2b n ty x) s K=aVi n ty (s.ev x) s K:=by unfold aAk aAf aVi ;rfl
theorem bCl{s:St}{K:St->Prop}{n ty t}:aVi n ty (.str t) s K=(K ((s.add (s.nx+n) (.vec ty 1 (aAs t))).set n (.own (s.nx+n) 1 0 t.length))):=by unfold aVi;rfl
theorem bWi{P:Program}{wr:List Nat}{s:St}{K:St->Prop}{d x}:aAk P wr (.b2s d x) s K=(aP6 (s.ev x)∧aAt 1 s.L (s.ev x) λys=>∃bs,ys=aAs bs∧K (s.setO d (.str bs))):=by unfold aAk aAf;rfl
theorem bMp{P:Program}{wr:List Nat}{s:St}{K:St->Prop}{d f caps}:aAk P wr (.clos d f caps) s K=(K (s.setO d (.fn f (caps.map s.ev)))):=by unfold aAk aAf;rfl
def v_mx(d:Option Nat)(isMax:Bool)(a1:V)(a2:V)(s:St)(K:St->Prop):Prop:=
 match a1,a2 with
 | .int k a,.int k' b=>k=k'∧K (s.setO d (.int k (mxI isMax a b)))
 | _,_=>False
theorem x_mx{P:Program}{wr:List Nat}{s:St}{K:St->Prop}{d isMax x y}:aAk P wr (.mx d isMax x y) s K=v_mx d isMax (s.ev x) (s.ev y) s K:=by unfold aAk aAf v_mx ;rfl
theorem bKh{s:St}{K:St->Prop}{d isMax k a k' b}:v_mx d isMax (.int k a) (.int k' b) s K=(k=k'∧K (s.setO d (.int k (mxI isMax a b)))):=by unfold v_mx;rfl
theorem aO5{d:Option Nat}{a a':V}{b b':V}{a1 a1':V}{s s':St}{K:St->Prop}(ga:a=a')(gb:b=b')(h0:a1=a1')(h9:s=s'):aL0 d a b a1 s K=aL0 d a' b' a1' s' K:=by rw[ga,gb,h0,h9]
attribute [congr] aO5
theorem aSk{d:Option Nat}{neg:Bool}{ks:List Nat}{a1 a1':V}{a2 a2':V}{s s':St}{K:St->Prop}(h0:a1=a1')(h1:a2=a2')(h9:s=s'):aVw d neg ks a1 a2 s K=aVw d neg ks a1' a2' s' K:=by rw[h0,h1,h9]
attribute [congr] aSk
theorem aN1{d:Option Nat}{neg:Bool}{a1 a1':Nat}{a2 a2':V}{s s':St}{K:St->Prop}(h0:a1=a1')(h1:a2=a2')(h9:s=s'):aBn d neg a1 a2 s K=aBn d neg a1' a2' s' K:=by rw[h0,h1,h9]
attribute [congr] aN1
theorem aMx{d:Option Nat}{off:Nat}{sz:Nat}{ag:Bool}{a1 a1':V}{s s':St}{K:St->Prop}(h0:a1=a1')(h9:s=s'):aIs d off sz ag a1 s K=aIs d off sz ag a1' s' K:=by rw[h0,h9]
attribute [congr] aMx
theorem aRi{d:Option Nat}{i:Nat}{a1 a1':V}{s s':St}{K:St->Prop}(h0:a1=a1')(h9:s=s'):aWc d i a1 s K=aWc d i a1' s' K:=by rw[h0,h9]
attribute [congr] aRi
theorem aRg{d:Option Nat}{a1 a1':V}{a2 a2':V}{s s':St}{K:St->Prop}(h0:a1=a1')(h1:a2=a2')(h9:s=s'):aWg d a1 a2 s K=aWg d a1' a2' s' K:=by rw[h0,h1,h9]
attribute [congr] aRg
theorem aPl{d:Option Nat}{n:Nat}{sz:Nat}{ag:Bool}{a1 a1':V}{a2 a2':V}{s s':St}{K:St->Prop}(h0:a1=a1')(h1:a2=a2')(h9:s=s'):aMd d n sz ag a1 a2 s K=aMd d n sz ag a1' a2' s' K:=by rw[h0,h1,h9]
attribute [congr] aPl
theorem aP0{d:Option Nat}{lo lo':Option V}{hi hi':Option V}{a1 a1':V}{s s':St}{K:St->Prop}(glo:lo=lo')(ghi:hi=hi')(h0:a1=a1')(h9:s=s'):aLr d lo hi a1 s K=aLr d lo' hi' a1' s' K:=by rw[glo,ghi,h0,h9]
attribute [congr] aP0
theorem aSl{d:Option Nat}{sz:Nat}{lo lo':Option V}{hi hi':Option V}{a1 a1':V}{s s':St}{K:St->Prop}(glo:lo=lo')(ghi:hi=hi')(h0:a1=a1')(h9:s=s'):aLf d sz lo hi a1 s K=aLf d sz lo' hi' a1' s' K:=by rw[glo,ghi,h0,h9]
attribute [congr] aSl
theorem aSg{d:Option Nat}{a1 a1':Bool}{a2 a2':V}{s s':St}{K:St->Prop}(h0:a1=a1')(h1:a2=a2')(h9:s=s'):aH0 d a1 a2 s K=aH0 d a1' a2' s' K:=by rw[h0,h1,h9]
attribute [congr] aSg
theorem aO8{d:Option Nat}{off:Nat}{a1 a1':V}{s s':St}{K:St->Prop}(h0:a1=a1')(h9:s=s'):aGo d off a1 s K=aGo d off a1' s' K:=by rw[h0,h9]
attribute [congr] aO8
theorem aOj{d:Option Nat}{sz:Nat}{a1 a1':V}{a2 a2':V}{s s':St}{K:St->Prop}(h0:a1=a1')(h1:a2=a2')(h9:s=s'):aGu d sz a1 a2 s K=aGu d sz a1' a2' s' K:=by rw[h0,h1,h9]
attribute [congr] aOj
theorem aPk{d:Option Nat}{a1 a1':V}{s s':St}{K:St->Prop}(h0:a1=a1')(h9:s=s'):aFi d a1 s K=aFi d a1' s' K:=by rw[h0,h9]
attribute [congr] aPk
theorem aLj(d:Option Nat)(c:Bool)(sz:Nat)(ag:Bool)(id:Nat)(o:Nat){bl bl':Option Blk}{s s':St}{K:St->Prop}(h1:bl=bl')(h2:s=s'):aDq d c sz ag id o bl s K=aDq d c sz ag id o bl' s' K:=by rw[h1,h2]
attribute [congr] aLj
theorem aLi(d:Option Nat)(c:Bool)(sz:Nat)(ag:Bool)(id:Nat)(i:Nat)(j:Nat){bl bl':Option Blk}{s s':St}{K:St->Prop}(h1:bl=bl')(h2:s=s'):aFd d c sz ag id i j bl s K=aFd d c sz ag id i j bl' s' K:=by rw[h1,h2]
attribute [congr] aLi
theorem aPg{d:Option Nat}{c:Bool}{sz:Nat}{ag:Bool}{a1 a1':V}{s s':St}{K:St->Prop}(h0:a1=a1')(h9:s=s'):aD9 d c sz ag a1 s K=aD9 d c sz ag a1' s' K:=by rw[h0,h9]
attribute [congr] aPg
theorem aJ7(sz:Nat)(v:V)(id:Nat)(o:Nat){bl bl':Option Blk}{s s':St}{K:St->Prop}(h1:bl=bl')(h2:s=s'):aD0 sz v id o bl s K=aD0 sz v id o bl' s' K:=by rw[h1,h2]
attribute [congr] aJ7
theorem aKc(sz:Nat)(v:V)(id:Nat)(i:Nat)(j:Nat){bl bl':Option Blk}{s s':St}{K:St->Prop}(h1:bl=bl')(h2:s=s'):aD3 sz v id i j bl s K=aD3 sz v id i j bl' s' K:=by rw[h1,h2]
attribute [congr] aKc
theorem aMo{sz:Nat}{v v':V}{a1 a1':V}{s s':St}{K:St->Prop}(gv:v=v')(h0:a1=a1')(h9:s=s'):aF9 sz v a1 s K=aF9 sz v' a1' s' K:=by rw[gv,h0,h9]
attribute [congr] aMo
theorem aRt{n:Nat}{ty:Nat}{sz:Nat}{a1 a1':V}{s s':St}{K:St->Prop}(h0:a1=a1')(h9:s=s'):aWf n ty sz a1 s K=aWf n ty sz a1' s' K:=by rw[h0,h9]
attribute [congr] aRt
theorem aPb{n:Nat}{ty:Nat}{sz:Nat}{a1 a1':V}{s s':St}{K:St->Prop}(h0:a1=a1')(h9:s=s'):aHr n ty sz a1 s K=aHr n ty sz a1' s' K:=by rw[h0,h9]
attribute [congr] aPb
theorem aQk{n:Nat}{ty:Nat}{a1 a1':V}{s s':St}{K:St->Prop}(h0:a1=a1')(h9:s=s'):aVi n ty a1 s K=aVi n ty a1' s' K:=by rw[h0,h9]
attribute [congr] aQk
theorem aWu{d:Option Nat}{isMax:Bool}{a1 a1':V}{a2 a2':V}{s s':St}{K:St->Prop}(h0:a1=a1')(h1:a2=a2')(h9:s=s'):v_mx d isMax a1 a2 s K=v_mx d isMax a1' a2' s' K:=by rw[h0,h1,h9]
attribute [congr] aWu
theorem bO9{P:Program}{wr:List Nat}{n:Nat}{s:St}{K:X->St->Prop}: awpC P n wr (.skip) K s=(K .norm s):=by conv=>lhs;unfold awpC
theorem bU9{P:Program}{wr:List Nat}{n:Nat}{s:St}{K:X->St->Prop}{u0 l}:awpC P n wr (.ops u0 l) K s=(aF8 P wr l s λs=>K .norm (s.past n)):=by conv=>lhs;unfold awpC
theorem bRx{P:Program}{wr:List Nat}{n:Nat}{s:St}{K:X->St->Prop}{a b}:awpC P n wr (.seq a b) K s=(awpC P n wr a (seqK (awpC P n wr b K) K) s):=by conv=>lhs;unfold awpC
theorem bL5{P:Program}{wr:List Nat}{n:Nat}{s:St}{K:X->St->Prop}{id a}:awpC P n wr (.block id a) K s=(awpC P n wr a (blkK id K) s):=by conv=>lhs;unfold awpC
theorem bP3{P:Program}{wr:List Nat}{n:Nat}{s:St}{K:X->St->Prop}{id}:awpC P n wr (.exit id) K s=(K (.exit id) s):=by conv=>lhs;unfold awpC
theorem bUe{P:Program}{wr:List Nat}{n:Nat}{s:St}{K:X->St->Prop}: awpC P n wr (.ret) K s=(K .ret s):=by conv=>lhs;unfold awpC
theorem w_gh{P:Program}{wr:List Nat}{n:Nat}{s:St}{K:X->St->Prop}{g a}:awpC P n wr (.gh g a) K s=(aB2 g s (awpC P n wr a K)):=by conv=>lhs;unfold awpC
theorem bVf{P:Program}{wr:List Nat}{n:Nat}{s:St}{K:X->St->Prop}{g a}:awpC P n wr (.gha g a) K s=(awpC P n wr a (seqK (λs=>aB2 g s (K .norm)) K) s):=by conv=>lhs;unfold awpC
theorem aSm{P:Program}{wr:List Nat}{s:St}{K:St->Prop}:aF8 P wr [] s K=K s:=by unfold aF8;rfl
theorem aPh{P:Program}{wr:List Nat}{s:St}{K:St->Prop}{x:Grp}{r:List Grp}:aF8 P wr (x::r) s K=aLo P wr x s λs=>aF8 P wr r s K:=by rw[aF8]
theorem aN5{P:Program}{wr:List Nat}{s:St}{K:St->Prop}:aCk P wr [] s K=K s:=by unfold aCk;rfl
theorem aNz{P:Program}{wr:List Nat}{s:St}{K:St->Prop}{x:I}{r:List I}:aCk P wr (x::r) s K=aAk P wr x s λs=>aCk P wr r s K:=by rw[aCk]
theorem aQs{P:Program}{wr:List Nat}{s:St}{K:St->Prop}{l:List I}:aLo P wr ⟨none,l⟩ s K=aCk P wr l s K:=by unfold aLo;rfl
theorem aSi{P:Program}{wr:List Nat}{i:I}{s s':St}{K:St->Prop}(h:s=s'):aAk P wr i s K=aAk P wr i s' K:=by rw[h]
theorem aOz{P:Program}{wr:List Nat}{i:List I}{s s':St}{K:St->Prop}(h:s=s'):aCk P wr i s K=aCk P wr i s' K:=by rw[h]
theorem aRj{P:Program}{wr:List Nat}{i:List Grp}{s s':St}{K:St->Prop}(h:s=s'):aF8 P wr i s K=aF8 P wr i s' K:=by rw[h]
theorem aU9{P:Program}{wr:List Nat}{i:Grp}{s s':St}{K:St->Prop}(h:s=s'):aLo P wr i s K=aLo P wr i s' K:=by rw[h]
theorem bBg{P:Program}{wr:List Nat}{n:Nat}{c:C}{K:X->St->Prop}{s s':St}(h:s=s'):awpC P n wr c K s=awpC P n wr c K s':=by rw[h]
theorem aO4{g:Gh}{K:St->Prop}{s s':St}(h:s=s'):aB2 g s K=aB2 g s' K:=by rw[h]
attribute [congr] aSi aOz aRj aU9 bBg aO4
inductive Tg.{u}{α:Sort u}(a:α):Type where
 | mk
def aGk(b:Bool){A B:Prop}(_:Tg A)(_:Tg B):Prop:=(b=true->A)∧(b=false->B)
theorem aWi{A B:Prop}{x:Tg A}{y:Tg B}:aGk true x y=A:=by simp[aGk]
theorem aJu{A B:Prop}{x:Tg A}{y:Tg B}:aGk false x y=B:=by simp[aGk]
theorem aXq{b:Bool}{A B:Prop}{x:Tg A}{y:Tg B}:aGk (!b) x y=aGk b y x:=by cases b<;>simp[aGk]
theorem aAy{p:Prop}[Decidable p]{A B:Prop}{x:Tg A}{y:Tg B}(h1:p->A)(h2:¬p->B):aGk (decide p) x y:=⟨λh=>h1 (of_decide_eq_true h),λh=>h2 (of_decide_eq_false h)⟩
def bDx(P:Program)(f:Nat)(args:List V){K:V->Prop}(_:Tg K):Prop:=∃r,PTr P f args r∧V.imms args=true∧r.imm=true∧K r
theorem aAa{P:Program}{f:Nat}{args:List V}{K:V->Prop}{x:Tg K}{r:V}(h:PTr P f args r)(h1:V.imms args=true)(h2:r.imm=true)(h3:K r):bDx P f args x:=⟨r,h,h1,h2,h3⟩
def aUc(P:Program)(f:Nat)(args:List V){K:V->Prop}(_:Tg K):Prop:=∃r,PTr P f args r∧V.imms args=true∧r.flat=true∧K r
theorem aCa{P:Program}{f:Nat}{args:List V}{K:V->Prop}{x:Tg K}{r:V}(h:PTr P f args r)(h1:V.imms args=true)(h2:r.flat=true)(h3:K r):aUc P f args x:=⟨r,h,h1,h2,h3⟩
def aGt(P:Program)(f:Nat)(args:List V)(L:Heap)(nx:Nat){K:V->Heap->Nat->Prop}(_:Tg K):Prop:=ECall P f args L nx K
theorem aAg{P:Program}{f:Nat}{args:List V}{L:Heap}{nx:Nat}{post K:V->Heap->Nat->Prop}{x:Tg K}(h:ECall P f args L nx post)(h2:∀r L' nx',post r L' nx'->K r L' nx'):aGt P f args L nx x:=h.mono h2
def bPl(P:Program)(n:Nat)(wr:List Nat){a:C}{K:X->St->Prop}(_:Tg a)(_:Tg K)(s:St):Prop:=∃J:Nat->St->Prop,(∃m,J m s)∧∀m s,J m s->awpC P n wr a (seqK (λs=>∃m',m'<m∧J m' s) K) s
theorem aAd{P:Program}{wr:List Nat}{n:Nat}{a:C}{K:X->St->Prop}{x:Tg a}{y:Tg K}{s:St}(J:Nat->St->Prop)(m:Nat)(h:J m s)(h2:∀m s,J m s->awpC P n wr a (seqK (λs=>∃m',m'<m∧J m' s) K) s):bPl P n wr x y s:=⟨J,⟨m,h⟩,h2⟩
theorem bM6{P:Program}{wr:List Nat}{n:Nat}{s:St}{K:X->St->Prop}{a}:awpC P n wr (.loop a) K s=bPl P n wr (Tg.mk (a:=a)) (Tg.mk (a:=K)) s:=by(conv=>lhs;unfold awpC);rfl
def cutK(P:Program)(n:Nat)(wr:List Nat){a b:C}{K:X->St->Prop}(_:Tg a)(_:Tg b)(_:Tg K)(s:St):Prop:=∃M:St->Prop,awpC P n wr a (seqK M K) s∧∀s,M s->awpC P n wr b K s
theorem aAx{P:Program}{wr:List Nat}{n:Nat}{a b:C}{K:X->St->Prop}{x:Tg a}{y:Tg b}{z:Tg K}{s:St}(M:St->Prop)(h:awpC P n wr a (seqK M K) s)(h2:∀s,M s->awpC P n wr b K s):cutK P n wr x y z s:=⟨M,h,h2⟩
theorem bNt{P:Program}{wr:List Nat}{n:Nat}{s:St}{K:X->St->Prop}{a b}:awpC P n wr (.seqc a b) K s=cutK P n wr (Tg.mk (a:=a)) (Tg.mk (a:=b)) (Tg.mk (a:=K)) s:=by(conv=>lhs;unfold awpC);rfl
theorem bOn{P:Program}{wr:List Nat}{s:St}{K:St->Prop}{d f args}:aAk P wr (.call d true f args) s K=bDx P f (args.map s.ev) (Tg.mk (a:=λr=>K (s.setO d r))):=by unfold aAk aAf bDx;simp
theorem bJk{P:Program}{wr:List Nat}{s:St}{K:St->Prop}{d f args}:aAk P wr (.call d false f args) s K=aUc P f (args.map λa=>view s.L 3 (s.ev a)) (Tg.mk (a:=λr=>K (s.setO d r))):=by unfold aAk aAf aUc;simp
theorem bH2{P:Program}{wr:List Nat}{s:St}{K:St->Prop}{d n f args}:aAk P wr (.ecall d n f args) s K=aGt P f (args.map s.ev) s.L (s.nx+n) (Tg.mk (a:=λr L' nx'=>K ((⟨s.env,L',nx'⟩:St).setO d r))):=by unfold aAk aAf aGt;rfl
def aIk(P:Program)(d:Option Nat)(n:Nat)(args:List V)(x:V)(s:St)(K:St->Prop):Prop:=
 match x with
 | .fn f cs=>aBk P f=true∧aGt P f (args++cs) s.L (s.nx+n) (Tg.mk (a:=λr L' nx'=>K ((⟨s.env,L',nx'⟩:St).setO d r)))
 | _=>False
theorem aMv{P:Program}{d:Option Nat}{n:Nat}{args args':List V}{x x':V}{s s':St}{K:St->Prop}(h:args=args')(h2:x=x')(h3:s=s'):aIk P d n args x s K=aIk P d n args' x' s' K:=by rw[h,h2,h3]
attribute [congr] aMv
theorem bDl{P:Program}{wr:List Nat}{s:St}{K:St->Prop}{d n x args}:aAk P wr (.vcall d n x args) s K=aIk P d n (args.map s.ev) (s.ev x) s K:=by unfold aAk aAf aIk aGt;rfl
theorem aZl{P:Program}{s:St}{K:St->Prop}{d n args f cs}:aIk P d n args (.fn f cs) s K=(aBk P f=true∧aGt P f (args++cs) s.L (s.nx+n) (Tg.mk (a:=λr L' nx'=>K ((⟨s.env,L',nx'⟩:St).setO d r)))):=by unfold aIk;rfl
def bB0(P:Program)(x:V)(args:List V){K:V->Prop}(_:Tg K):Prop:=
 match x with
 | .fn f cs=>aBk P f=true∧∃r,PTr P f (args++cs) r∧V.imms (args++cs)=true∧r.flat=true∧K r
 | _=>False
theorem aPy{P:Program}{x:V}{args:List V}{f:Nat}{cs:List V}{r:V}{K:V->Prop}{t:Tg K}(hx:x=.fn f cs)(hb:aBk P f=true)(h:PTr P f (args++cs) r)(h1:V.imms (args++cs)=true)(h2:r.flat=true)(h3:K r):bB0 P x args t:=by subst hx;exact⟨hb,r,h,h1,h2,h3⟩
theorem bIj{P:Program}{wr:List Nat}{s:St}{K:St->Prop}{d x args}:aAk P wr (.pcall d x args) s K=bB0 P (view s.L 4 (s.ev x)) (args.map λa=>view s.L 3 (s.ev a)) (Tg.mk (a:=λr=>K (s.setO d r))):=by unfold aAk aAf bB0;rfl
theorem bFs{f cs}:(V.fn f cs).cells=[.fn f cs]:=rfl
theorem bBs{f cs}:(V.fn f cs).ncells=some 1:=rfl
theorem bOf{f cs}:(V.fn f cs).one=true:=rfl
theorem bOm{f cs}:(V.fn f cs).imm=V.imms cs:=by simp only[V.imm]
def aL2(P:Program)(n:Nat)(wr:List Nat)(a b:C)(K:X->St->Prop)(s:St)(m:Nat):V->Prop
 | .bool t=>(t=true->awpC P n wr a K (s.set m (.bool true)))∧(t=false->awpC P n wr b K (s.set m (.bool false)))
 | _=>False
theorem aPz{P:Program}{wr:List Nat}{n:Nat}{a b:C}{K:X->St->Prop}{s s':St}{m:Nat}{v v':V}(h:s=s')(h':v=v'):aL2 P n wr a b K s m v=aL2 P n wr a b K s' m v':=by rw[h,h']
attribute [congr] aPz
theorem bK8{P:Program}{wr:List Nat}{n:Nat}{a b:C}{K:X->St->Prop}{s:St}{m:Nat}:awpC P n wr (.cond (.t m) a b) K s=aL2 P n wr a b K s m (s.ev (.t m)):=by(conv=>lhs;unfold awpC);unfold aL2;generalize s.ev (.t m)=v;cases v<;>rfl
theorem bDi{P:Program}{wr:List Nat}{n:Nat}{a b:C}{K:X->St->Prop}{s:St}{m:Nat}{t:Bool}:aL2 P n wr a b K s m (.bool t)=aGk t (Tg.mk (a:=awpC P n wr a K (s.set m (.bool true)))) (Tg.mk (a:=awpC P n wr b K (s.set m (.bool false)))):=by unfold aL2 aGk;rfl
def aGr(P:Program)(wr:List Nat)(l:List I)(t:Nat)(w:Bool)(s:St)(K:St->Prop):V->Prop
 | .bool b=>(b=w->aCk P wr l (s.set t (.bool w)) K)∧(b=!w->K (aE3 l (s.set t (.bool !w))))
 | .tup []=>K (aE3 l s)
 | _=>False
theorem aPe{P:Program}{wr:List Nat}{l:List I}{t:Nat}{w:Bool}{s s':St}{K:St->Prop}{v v':V}(h:s=s')(h':v=v'):aGr P wr l t w s K v=aGr P wr l t w s' K v':=by rw[h,h']
attribute [congr] aPe
theorem aRb{P:Program}{wr:List Nat}{s:St}{K:St->Prop}{l:List I}{t:Nat}{w:Bool}:aLo P wr ⟨some (t,w),l⟩ s K=aGr P wr l t w s K (s.env t):=by unfold aLo aGr;rfl
theorem bDn{P:Program}{wr:List Nat}{s:St}{K:St->Prop}{l:List I}{t:Nat}{b:Bool}:aGr P wr l t true s K (.bool b)=aGk b (Tg.mk (a:=aCk P wr l (s.set t (.bool true)) K)) (Tg.mk (a:=K (aE3 l (s.set t (.bool false))))):=by unfold aGr aGk;rfl
theorem bFz{P:Program}{wr:List Nat}{s:St}{K:St->Prop}{l:List I}{t:Nat}{b:Bool}:aGr P wr l t false s K (.bool b)=aGk b (Tg.mk (a:=K (aE3 l (s.set t (.bool true))))) (Tg.mk (a:=aCk P wr l (s.set t (.bool false)) K)):=by unfold aGr aGk;exact propext And.comm
theorem bFp{P:Program}{wr:List Nat}{s:St}{K:St->Prop}{l:List I}{t:Nat}{w:Bool}:aGr P wr l t w s K (.tup [])=K (aE3 l s):=by unfold aGr;rfl
theorem aYu{s:St}:aE3 [] s=s:=rfl
theorem aVk{s:St}{i:I}{r:List I}:aE3 (i::r) s=aE3 r (s.setO i.dst (.tup [])):=rfl
theorem bCu{s:St}{K:St->Prop}{d a b t}:aL0 d a b (.bool t) s K=aGk t (Tg.mk (a:=K (s.setO d a))) (Tg.mk (a:=K (s.setO d b))):=by unfold aL0 aGk;cases t<;>simp
def aBg(d:Option Nat)(op:BinOp)(x y:V)(s:St)(K:St->Prop):Prop:=aC0 op x y λv=>K (s.setO d v)
def aFh(d:Option Nat)(op:BinOp)(x y:V)(s:St)(K:St->Prop):Prop:=vbin op x y λv=>K (s.setO d v)
theorem aQ9{d:Option Nat}{op:BinOp}{x x' y y':V}{s s':St}{K:St->Prop}(h:x=x')(h2:y=y')(h3:s=s'):aBg d op x y s K=aBg d op x' y' s' K:=by rw[h,h2,h3]
theorem aOm{d:Option Nat}{op:BinOp}{x x' y y':V}{s s':St}{K:St->Prop}(h:x=x')(h2:y=y')(h3:s=s'):aFh d op x y s K=aFh d op x' y' s' K:=by rw[h,h2,h3]
attribute [congr] aQ9 aOm
theorem bV5{P:Program}{wr:List Nat}{s:St}{K:St->Prop}{d op x y}:aAk P wr (.bin d op x y) s K=bif wrD wr d then aFh d op (s.ev x) (s.ev y) s K else aBg d op (s.ev x) (s.ev y) s K:=by simp only[aAk,aAf,aBg,aFh];cases wrD wr d<;>simp
theorem bH8{d:Option Nat}:wrD [] d=false:=by cases d<;>rfl
theorem bFv{d a:Nat}{r:List Nat}:wrD (a::r) (some d)=(decide (d=a)||wrD r (some d)):=by
 simp only[wrD,List.contains_cons];congr 1
theorem bU1{s:St}{K:St->Prop}{d k a b}:aBg d .add (.int k a) (.int k b) s K=(InR k (a+b)∧K (s.setO d (.int k (a+b)))):=by simp[aBg,aC0]
theorem bR9{s:St}{K:St->Prop}{d k a b}:aBg d .sub (.int k a) (.int k b) s K=(InR k (a-b)∧K (s.setO d (.int k (a-b)))):=by simp[aBg,aC0]
theorem bT8{s:St}{K:St->Prop}{d k a b}:aBg d .quo (.int k a) (.int k b) s K=(b≠0∧InR k (a.tdiv b)∧K (s.setO d (.int k (a.tdiv b)))):=by simp[aBg,aC0]
theorem bQg{s:St}{K:St->Prop}{d k a b}:aFh d .add (.int k a) (.int k b) s K=K (s.setO d (.int k (k.wrap (a+b)))):=by simp[aFh,vbin,vint]
theorem bPn{s:St}{K:St->Prop}{d k a b}:aFh d .mul (.int k a) (.int k b) s K=K (s.setO d (.int k (k.wrap (a*b)))):=by simp[aFh,vbin,vint]
theorem bQx{s:St}{K:St->Prop}{d k a b}:aBg d .rem (.int k a) (.int k b) s K=(b≠0∧K (s.setO d (.int k (a.tmod b)))):=by simp[aBg,aC0,vbin,vint]
theorem bT9{s:St}{K:St->Prop}{d k a b}:aBg d .xor (.int k a) (.int k b) s K=K (s.setO d (.int k (aG5 .xor k a b))):=by simp[aBg,aC0,vbin,vint]
theorem bQ0{s:St}{K:St->Prop}{d k a b}:aBg d .eql (.int k a) (.int k b) s K=K (s.setO d (.bool (decide (a=b)))):=by simp[aBg,aC0,vbin,vint]
theorem bSd{s:St}{K:St->Prop}{d k a b}:aBg d .neq (.int k a) (.int k b) s K=K (s.setO d (.bool (!decide (a=b)))):=by simp[aBg,aC0,vbin,vint]
theorem bQv{s:St}{K:St->Prop}{d k a b}:aBg d .lss (.int k a) (.int k b) s K=K (s.setO d (.bool (decide (a<b)))):=by simp[aBg,aC0,vbin,vint]
theorem bVg{s:St}{K:St->Prop}{d k a b}:aBg d .leq (.int k a) (.int k b) s K=K (s.setO d (.bool (decide (a<=b)))):=by simp[aBg,aC0,vbin,vint]
theorem bSv{s:St}{K:St->Prop}{d k a b}:aBg d .gtr (.int k a) (.int k b) s K=K (s.setO d (.bool (decide (b<a)))):=by simp[aBg,aC0,vbin,vint]
theorem bUh{s:St}{K:St->Prop}{d k a b}:aBg d .geq (.int k a) (.int k b) s K=K (s.setO d (.bool (decide (b<=a)))):=by simp[aBg,aC0,vbin,vint]
theorem bVu{s:St}{K:St->Prop}{d k k' a b}:aBg d .shr (.int k a) (.int k' b) s K=(0<=b∧K (s.setO d (.int k (vshr k a b)))):=by simp[aBg,aC0,vbin,vint]
theorem bQf{s:St}{K:St->Prop}{d a b}:aBg d .add (.str a) (.str b) s K=(a.length+b.length<2^63∧K (s.setO d (.str (a++b)))):=by simp[aBg,aC0,vbin,vstr]
theorem bN8{s:St}{K:St->Prop}{d a b}:aBg d .eql (.str a) (.str b) s K=K (s.setO d (.bool (decide (a=b)))):=by simp[aBg,aC0,vbin,vstr]
theorem bNl{s:St}{K:St->Prop}{d a b}:aBg d .neq (.str a) (.str b) s K=K (s.setO d (.bool (!decide (a=b)))):=by simp[aBg,aC0,vbin,vstr]
theorem bOr{s:St}{K:St->Prop}{d a b}:aBg d .lss (.str a) (.str b) s K=K (s.setO d (.bool (Op.bytesLess a b))):=by simp[aBg,aC0,vbin,vstr]
theorem bPp{s:St}{K:St->Prop}{d a b}:aBg d .geq (.str a) (.str b) s K=K (s.setO d (.bool (!Op.bytesLess a b))):=by simp[aBg,aC0,vbin,vstr]
def v_un(d:Option Nat)(op:UnOp)(x:V)(s:St)(K:St->Prop):Prop:=vunC op x λv=>K (s.setO d v)
def aWs(d:Option Nat)(op:UnOp)(x:V)(s:St)(K:St->Prop):Prop:=vun op x λv=>K (s.setO d v)
theorem aVh{d:Option Nat}{op:UnOp}{x x':V}{s s':St}{K:St->Prop}(h:x=x')(h3:s=s'):v_un d op x s K=v_un d op x' s' K:=by rw[h,h3]
theorem aQi{d:Option Nat}{op:UnOp}{x x':V}{s s':St}{K:St->Prop}(h:x=x')(h3:s=s'):aWs d op x s K=aWs d op x' s' K:=by rw[h,h3]
attribute [congr] aVh aQi
theorem x_un{P:Program}{wr:List Nat}{s:St}{K:St->Prop}{d op x}:aAk P wr (.un d op x) s K=bif wrD wr d then aWs d op (s.ev x) s K else v_un d op (s.ev x) s K:=by simp only[aAk,aAf,v_un,aWs];cases wrD wr d<;>simp
theorem bSy{s:St}{K:St->Prop}{d b}:v_un d .not (.bool b) s K=K (s.setO d (.bool !b)):=by simp[v_un,vunC,vun]
def aW3(d:Option Nat)(k:IntKind)(x:V)(s:St)(K:St->Prop):Prop:=bEg k x λv=>K (s.setO d v)
def aMe(d:Option Nat)(k:IntKind)(x:V)(s:St)(K:St->Prop):Prop:=match x with
 | .int _ n=>K (s.setO d (.int k (k.wrap n)))
 | _=>False
theorem aSb{d:Option Nat}{k:IntKind}{x x':V}{s s':St}{K:St->Prop}(h:x=x')(h3:s=s'):aW3 d k x s K=aW3 d k x' s' K:=by rw[h,h3]
theorem aPo{d:Option Nat}{k:IntKind}{x x':V}{s s':St}{K:St->Prop}(h:x=x')(h3:s=s'):aMe d k x s K=aMe d k x' s' K:=by rw[h,h3]
attribute [congr] aSb aPo
theorem bSh{P:Program}{wr:List Nat}{s:St}{K:St->Prop}{d k x}:aAk P wr (.cvt d k x) s K=bif wrD wr d then aMe d k (s.ev x) s K else aW3 d k (s.ev x) s K:=by simp only[aAk,aAf,aW3,aMe];cases wrD wr d<;>simp<;>rfl
theorem bLm{s:St}{K:St->Prop}{d k q n}:aW3 d k (.int q n) s K=(InR k n∧K (s.setO d (.int k n))):=by simp[aW3,bEg]
theorem bG3{s:St}{K:St->Prop}{d k q n}:aMe d k (.int q n) s K=K (s.setO d (.int k (k.wrap n))):=by simp[aMe]
def ceqK(ks:List Nat)(a b:List V)(K:Bool->Prop):Prop:=∃t,aBe ks a b=some t∧K t
theorem aW2{ks:List Nat}{a a' b b':List V}{K:Bool->Prop}(h:a=a')(h2:b=b'):ceqK ks a b K=ceqK ks a' b' K:=by rw[h,h2]
attribute [congr] aW2
theorem bHq{s:St}{K:St->Prop}{d neg ks a b}:aVw d neg ks (.agg a) (.agg b) s K=ceqK ks a b λt=>K (s.setO d (.bool (t != neg))):=by unfold aVw ceqK;rfl
theorem bDa{K:Bool->Prop}:ceqK [] [] [] K=K true:=by simp[ceqK,aBe]
theorem aM0{k:Nat}{ks:List Nat}{x y:V}{r q:List V}{K:Bool->Prop}{c:Bool}(h:aEa k x y=some c):ceqK (k::ks) (x::r) (y::q) K=ceqK ks r q λt=>K (c&&t):=by
 simp only[ceqK,aBe,h];cases aBe ks r q<;>simp
theorem bFe{ks:List Nat}{k:IntKind}{a b:Int}{r q:List V}{K:Bool->Prop}:ceqK (0::ks) (.int k a::r) (.int k b::q) K=ceqK ks r q λt=>K (decide (a=b)&&t):=aM0 (by simp[aEa])
theorem bFd{ks:List Nat}{a b:List UInt8}{r q:List V}{K:Bool->Prop}:ceqK (1::ks) (.str a::r) (.str b::q) K=ceqK ks r q λt=>K (decide (a=b)&&t):=aM0 (by simp[aEa])
theorem aWy{d:Nat}{K:Nat->Prop}:aBo none d K=K d:=rfl
theorem aWj{d:Nat}{K:Nat->Prop}{k i}:aBo (some (.int k i)) d K=(0<=i∧K i.toNat):=rfl
theorem aR3{o o':Option V}{d d':Nat}{K:Nat->Prop}(h:o=o')(h2:d=d'):aBo o d K=aBo o' d' K:=by rw[h,h2]
attribute [congr] aR3
theorem bC5{s:St}{K:St->Prop}{d lo hi t}:aLr d lo hi (.str t) s K=(aBo lo 0 λl=>aBo hi t.length λh=>l<=h∧h<=t.length∧K (s.setO d (.str ((t.take h).drop l)))):=by unfold aLr;rfl
theorem bJz{s:St}{K:St->Prop}{d sz lo hi es}:aLf d sz lo hi (.lst sz es) s K=(aBo lo 0 λl=>aBo hi es.length λh=>l<=h∧h<=es.length∧K (s.setO d (.lst sz ((es.take h).drop l)))):=by unfold aLf;simp
def elO(sz:Nat)(bl:Option Blk)(off len:Nat)(K:List V->Prop):Prop:=
 match bl with
 | some (.vec _ _ es)=>off+len<=es.length∧K ((es.drop off).take len)
 | _=>False
theorem aZh{sz:Nat}{bl bl':Option Blk}{off len:Nat}{K:List V->Prop}(h:bl=bl'):elO sz bl off len K=elO sz bl' off len K:=by rw[h]
attribute [congr] aZh
theorem bTy{sz ty sz':Nat}{es:List V}{off len:Nat}{K:List V->Prop}:elO sz (some (.vec ty sz' es)) off len K=(off+len<=es.length∧K ((es.drop off).take len)):=rfl
theorem aMu{sz:Nat}{L L':Heap}{y y':V}{K:List V->Prop}(h:L=L')(h2:y=y'):aAt sz L y K=aAt sz L' y' K:=by rw[h,h2]
attribute [congr] aMu
theorem aYz{sz:Nat}{L:Heap}{K:List V->Prop}:aAt sz L .nils K=K []:=rfl
theorem bAl{sz:Nat}{L:Heap}{es:List V}{K:List V->Prop}:aAt sz L (.lst sz es) K=K es:=by simp[aAt]
theorem aYq{sz:Nat}{L:Heap}{id off len:Nat}{K:List V->Prop}:aAt sz L (.own id sz off len) K=elO sz (L id) off len K:=by
 unfold aAt elO;simp only;cases L id with
 | none=>simp
 | some b=>cases b<;>simp
def appN(d ty sz:Nat)(ys:List V)(s:St)(K:St->Prop):Prop:=(ys=[]->K (s.set d .nils))∧(ys≠[]->ys.length<=2^32∧K ((s.add (s.nx+d) (.vec ty sz ys)).set d (.own (s.nx+d) sz 0 ys.length)))
theorem aUi{d ty sz:Nat}{ys ys':List V}{s s':St}{K:St->Prop}(h:ys=ys')(h2:s=s'):appN d ty sz ys s K=appN d ty sz ys' s' K:=by rw[h,h2]
attribute [congr] aUi
theorem bEa{d ty sz:Nat}{s:St}{K:St->Prop}:appN d ty sz [] s K=K (s.set d .nils):=by simp[appN]
theorem bCd{d ty sz:Nat}{y:V}{ys:List V}{s:St}{K:St->Prop}:appN d ty sz (y::ys) s K=((y::ys).length<=2^32∧K ((s.add (s.nx+d) (.vec ty sz (y::ys))).set d (.own (s.nx+d) sz 0 (y::ys).length))):=by simp[appN]
def appO(d ty sz id off n:Nat)(bl:Option Blk)(y:V)(s:St)(K:St->Prop):Prop:=
 match bl with
 | some (.vec ty' _ es)=>ty'=ty∧off+n<=es.length∧aAt sz s.L y λys=>n+ys.length<=2^32 ∧
  K (((s.drop id).add (s.nx+d) (.vec ty sz ((es.drop off).take n++ys))).set d (.own (s.nx+d) sz 0 (n+ys.length)))
 | _=>False
theorem aWt{d ty sz id off n:Nat}{bl bl':Option Blk}{y y':V}{s s':St}{K:St->Prop}(h:bl=bl')(h2:y=y')(h3:s=s'):appO d ty sz id off n bl y s K=appO d ty sz id off n bl' y' s' K:=by rw[h,h2,h3]
attribute [congr] aWt
theorem bNw{d ty sz id off n r0:Nat}{es:List V}{y:V}{s:St}{K:St->Prop}:appO d ty sz id off n (some (.vec ty r0 es)) y s K=(off+n<=es.length∧aAt sz s.L y λys=>n+ys.length<=2^32 ∧
 K (((s.drop id).add (s.nx+d) (.vec ty sz ((es.drop off).take n++ys))).set d (.own (s.nx+d) sz 0 (n+ys.length)))):=by simp[appO]
def aQl(d ty sz:Nat)(x y:V)(s:St)(K:St->Prop):Prop:=(x=.nils∧aAt sz s.L y (λys=>ys=[])∧K (s.set d .nils))∨aCn d ty sz x y s K
theorem aQo{d ty sz:Nat}{x x' y y':V}{s s':St}{K:St->Prop}(h:x=x')(h2:y=y')(h3:s=s'):aQl d ty sz x y s K=aQl d ty sz x' y' s' K:=by rw[h,h2,h3]
attribute [congr] aQo
theorem bU4{P:Program}{wr:List Nat}{s:St}{K:St->Prop}{d ty sz x y}:aAk P wr (.app d ty sz x y) s K=aQl d ty sz (s.ev x) (s.ev y) s K:=by unfold aAk aAf;rfl
theorem bJm{d ty sz id off n:Nat}{y:V}{s:St}{K:St->Prop}:aQl d ty sz (.own id sz off n) y s K=appO d ty sz id off n (s.L id) y s K:=by
 unfold aQl aCn appO;simp only[reduceCtorEq,false_and,false_or];cases s.L id with
 | none=>rfl
 | some b=>cases b<;>simp
theorem aEm{d ty sz:Nat}{y:V}{s:St}{K:St->Prop}(h:aAt sz s.L y λys=>appN d ty sz ys s K):aQl d ty sz .nils y s K:=by
 unfold aQl aCn;have mono:∀{A B:List V->Prop},(∀ys,A ys->B ys)->aAt sz s.L y A->aAt sz s.L y B:=by
  intro A B hab h;unfold aAt at *;split at h
  .exact hab _ h
  .exact⟨h.1,hab _ h.2⟩
  .split at h
   .exact⟨h.1,h.2.1,hab _ h.2.2⟩
   .exact h.elim
  .exact⟨h.1,hab _ h.2⟩
  .exact h.elim
 have ex:∀{A:List V->Prop},aAt sz s.L y A->∃ys,A ys∧∀{B:List V->Prop},B ys->aAt sz s.L y B:=by
  intro A h;unfold aAt at h;split at h
  .exact⟨_,h,λhb=>by simpa[aAt]using hb⟩
  .exact⟨_,h.2,λhb=>by simpa[aAt,h.1]using hb⟩
  .rename_i hy;split at h
   .rename_i hl;exact⟨_,h.2.2,λhb=>by unfold aAt;simp only[hl];exact⟨h.1,h.2.1,hb⟩⟩
   .exact h.elim
  .exact⟨_,h.2,λhb=>by unfold aAt;exact⟨h.1,hb⟩⟩
  .exact h.elim
 obtain⟨ys,h1,h2⟩:=ex h;by_cases hy:ys=[]
 .exact .inl ⟨rfl,h2 hy,h1.1 hy⟩
 .exact .inr (h2 (h1.2 hy))
theorem bEx{s:St}{K:List V->Prop}:resP [] s K=K []:=rfl
theorem aY2{t:Nat}{r:List RV}{s:St}{K:List V->Prop}:resP ((t,none)::r) s K=resP r s λvs=>K (s.env t::vs):=rfl
def resB(sz:Nat)(ag:Bool)(o:Nat)(bl:Option Blk)(r:List RV)(s:St)(K:List V->Prop):Prop:=
 match bl with
 | some (.box _ cs)=>o+sz<=cs.length∧resP r s λvs=>K (pack ag ((cs.drop o).take sz)::vs)
 | _=>False
theorem aWb{sz:Nat}{ag:Bool}{o:Nat}{bl bl':Option Blk}{r:List RV}{s s':St}{K:List V->Prop}(h:bl=bl')(h2:s=s'):resB sz ag o bl r s K=resB sz ag o bl' r s' K:=by rw[h,h2]
attribute [congr] aWb
theorem bMk{sz:Nat}{ag:Bool}{o ty:Nat}{cs:List V}{r:List RV}{s:St}{K:List V->Prop}:resB sz ag o (some (.box ty cs)) r s K=(o+sz<=cs.length∧resP r s λvs=>K (pack ag ((cs.drop o).take sz)::vs)):=rfl
def resV(sz:Nat)(ag:Bool)(v:V)(r:List RV)(s:St)(K:List V->Prop):Prop:=
 match v with
 | .ptr id o=>resB sz ag o (s.L id) r s K
 | _=>False
theorem aWp{sz:Nat}{ag:Bool}{v v':V}{r:List RV}{s s':St}{K:List V->Prop}(h:v=v')(h2:s=s'):resV sz ag v r s K=resV sz ag v' r s' K:=by rw[h,h2]
attribute [congr] aWp
theorem bQd{sz:Nat}{ag:Bool}{id o:Nat}{r:List RV}{s:St}{K:List V->Prop}:resV sz ag (.ptr id o) r s K=resB sz ag o (s.L id) r s K:=rfl
theorem bBe{t sz:Nat}{ag:Bool}{r:List RV}{s:St}{K:List V->Prop}:resP ((t,some (sz,ag))::r) s K=resV sz ag (s.env t) r s K:=by
 simp only[resP,resV];cases s.env t<;>rfl
theorem aYb{rs:List RV}{post:V->Heap->Nat->Prop}{s:St}:endK rs post .norm s=resP rs s λvs=>post (one vs) s.L s.nx:=rfl
theorem bCr{rs:List RV}{post:V->Heap->Nat->Prop}{s:St}:endK rs post .ret s=resP rs s λvs=>post (one vs) s.L s.nx:=rfl
theorem bIh{v:V}:one [v]=v:=rfl
theorem bHs:one []=.tup []:=rfl
theorem bHo{a b:V}{r:List V}:one (a::b::r)=.tup (a::b::r):=rfl
theorem bB4{N:St->Prop}{K:X->St->Prop}{s:St}:seqK N K .norm s=N s:=rfl
theorem aYo{N:St->Prop}{K:X->St->Prop}{s:St}{i:Nat}:seqK N K (.exit i) s=K (.exit i) s:=rfl
theorem bF0{N:St->Prop}{K:X->St->Prop}{s:St}:seqK N K .ret s=K .ret s:=rfl
theorem bB3{id:Nat}{K:X->St->Prop}{s:St}:blkK id K .norm s=K .norm s:=rfl
theorem bFm{id:Nat}{K:X->St->Prop}{s:St}:blkK id K .ret s=K .ret s:=rfl
theorem aZ7{id:Nat}{K:X->St->Prop}{s:St}{i:Nat}:blkK id K (.exit i) s=if i=id then K .norm s else K (.exit i) s:=rfl
theorem aWx{N:St->Prop}{K:X->St->Prop}{x x':X}{s s':St}(h:x=x')(h2:s=s'):seqK N K x s=seqK N K x' s':=by rw[h,h2]
theorem aWa{id:Nat}{K:X->St->Prop}{x x':X}{s s':St}(h:x=x')(h2:s=s'):blkK id K x s=blkK id K x' s':=by rw[h,h2]
theorem aWr{rs:List RV}{post:V->Heap->Nat->Prop}{x x':X}{s s':St}(h:x=x')(h2:s=s'):endK rs post x s=endK rs post x' s':=by rw[h,h2]
attribute [congr] aWx aWa aWr
theorem bAa{cs:List V}:(V.agg cs).cells=cs:=rfl
theorem bB9{k n}:(V.int k n).cells=[.int k n]:=rfl
theorem aXc{s}:(V.str s).cells=[.str s]:=rfl
theorem aUu{s}:(V.bool s).cells=[.bool s]:=rfl
theorem aV9:V.nils.cells=[.nils]:=rfl
theorem aV5:V.nilp.cells=[.nilp]:=rfl
theorem bAm{z es}:(V.lst z es).cells=[.lst z es]:=rfl
theorem bAi{a b c d}:(V.own a b c d).cells=[.own a b c d]:=rfl
theorem aY3{a b}:(V.ptr a b).cells=[.ptr a b]:=rfl
theorem aLp{cs:List V}:(V.agg cs).ncells=if cs.all V.one then some cs.length else none:=rfl
theorem aVd{k n}:(V.int k n).ncells=some 1:=rfl
theorem aV2{s}:(V.str s).ncells=some 1:=rfl
theorem aR5{s}:(V.bool s).ncells=some 1:=rfl
theorem aRm:V.nils.ncells=some 1:=rfl
theorem aR2:V.nilp.ncells=some 1:=rfl
theorem aUk{z es}:(V.lst z es).ncells=some 1:=rfl
theorem aUm{a b c d}:(V.own a b c d).ncells=some 1:=rfl
theorem aU4{a b}:(V.ptr a b).ncells=some 1:=rfl
theorem bK6{k n}:(V.int k n).one=true:=rfl
theorem bHm{s}:(V.str s).one=true:=rfl
theorem bF1{s}:(V.bool s).one=true:=rfl
theorem bDv:V.nils.one=true:=rfl
theorem bCi:V.nilp.one=true:=rfl
theorem bHl{z es}:(V.lst z es).one=true:=rfl
theorem bLn{a b c d}:(V.own a b c d).one=true:=rfl
theorem bL4{a b}:(V.ptr a b).one=true:=rfl
theorem aUz{cs ds:List V}:(V.agg cs).recell ds=.agg ds:=rfl
theorem bNj{cs:List V}:pack true cs=.agg cs:=rfl
theorem bPi{cs:List V}:pack false cs=cs.headD .junk:=rfl
theorem ev_t{s:St}{n:Nat}:s.ev (.t n)=s.env n:=rfl
theorem ev_k{s:St}{v:V}:s.ev (.k v)=v:=rfl
theorem bH3{k n}:(V.int k n).imm=true:=rfl
theorem bKz{s}:(V.str s).imm=true:=rfl
theorem bDd{s}:(V.bool s).imm=true:=rfl
theorem bEf:V.nils.imm=true:=rfl
theorem bAg{z es}:(V.lst z es).imm=V.imms es:=by simp[V.imm]
theorem aRf{es}:(V.agg es).imm=V.imms es:=by simp[V.imm]
theorem bJ5{es}:(V.tup es).imm=V.imms es:=by simp[V.imm]
theorem bFn:V.imms []=true:=by simp[V.imms]
theorem bAz{x r}:V.imms (x::r)=(x.imm&&V.imms r):=by simp[V.imms]
theorem aVv{n:Nat}:((n:Nat):Int).toNat=n:=Int.toNat_natCast n
theorem aQu{n:Nat}:(0<=((n:Nat):Int))=True:=eq_true (Int.natCast_nonneg n)
theorem aQ7{α:Type}{a r:List α}{x:α}:(a.length<(a++x::r).length)=True:=by simp
theorem aWl(t:List UInt8):(t.map λb=>V.int .u8 b.toNat)=aAs t:=rfl
theorem aWq:aAs []=[]:=rfl
theorem aQ2(c:UInt8)(t:List UInt8):aAs (c::t)=.int .u8 c.toNat::aAs t:=rfl
theorem aM5(bs:List UInt8):(aAs bs).length=bs.length:=by simp[aAs]
theorem bK4:aP6 .nils=True:=rfl
theorem bLc{z:Nat}{es:List V}:aP6 (.lst z es)=True:=rfl
theorem bG6{i z o n:Nat}:aP6 (.own i z o n)=True:=rfl
theorem bA1{a b:Int}:mxI false a b=min a b:=by simp only[mxI];simp;omega
theorem updE(f:Nat->V)(i:Nat)(v:V)(j:Nat):upd f i v j=if j=i then v else f j:=rfl
theorem bAe(f:Nat->Option Blk)(i:Nat)(v:Option Blk):upd f i v i=v:=by simp[upd]
theorem bH6(f:Nat->Option Blk)(i j:Nat)(v:Option Blk)(h:j≠i):upd f i v j=f j:=by simp[upd,h]
theorem bFw{x:Int}(h:-9223372036854775808<=x∧x<=9223372036854775807):IntKind.wrap .i64 x=x:=by
 obtain⟨h1,h2⟩:=h;unfold IntKind.wrap;simp[IntKind.bits,IntKind.signed];omega
attribute [push_cast] bSr bP5 bUt bHp aV8 bI0 bKl aW1 bSg bEh bSx bEu bNf bAw bNh bWc bQ3 bCt bDe bDm bEb bOt bA2 bA6 aZg bNb bA7 bBp bOv bAy bO4 aYm aVr aKx aVa bBu bKq aRd aWo aRz aVn bH1 bVt bUm bTb bT6 bE1 bN1 aOk aOf bU8 bCl bWi bMp x_mx bKh bO9 bU9 bRx bL5 bP3 bUe w_gh bVf aSm aPh aN5 aNz aQs
attribute [push_cast] aWi aJu bM6 bNt bOn bJk bH2 bDl aZl bIj bFs bBs bOf bOm bK8 bDi aRb bDn bFz bFp aYu aVk bCu bV5 bH8 bFv bU1 bR9 bT8 bQg bPn bQx bT9 bQ0 bSd bQv bVg bSv bUh bVu bQf bN8 bNl bOr bPp x_un bSy bSh bLm bG3 bHq bDa bFe bFd aWy aWj bC5 bJz bTy aYz bAl aYq bEa bCd bNw bU4 bJm bEx aY2 bMk bQd bBe aYb bCr bIh bHs bHo bB4 aYo bF0 bB3 bFm aZ7 bAa bB9 aXc aUu aV9 aV5 bAm bAi aY3 aLp aVd aV2 aR5 aRm aR2 aUk aUm aU4 bK6 bHm bF1 bDv bCi bHl bLn bL4 aUz bNj bPi ev_t ev_k bH3 bKz bDd bEf bAg aRf bJ5 bFn bAz aVv aQu aQ7 aWl aWq aQ2 aM5 bK4 bLc bG6 bA1 updE bAe bH6 bFw aXq
attribute [push_cast] decide_true decide_false aB2 St.setO St.set St.past St.put St.add St.drop St.enter I.dst aB3 List.getD_cons_zero List.getD_cons_succ List.take_succ_cons List.take_zero List.take_nil List.drop_zero List.drop_succ_cons List.drop_nil List.headD_cons yf yg List.append_nil zE List.map_nil zg yk yF wb List.forall_mem_cons List.foldl_cons List.foldl_nil zL Option.map_none Nat.zero_add Nat.add_zero if_true if_false Bool.not_true Bool.not_false Bool.and_true zy true_and and_true true_implies false_implies Bool.true_eq_false zK or_true true_or zz Bool.not_not cond_true cond_false InR Bool.or_false Bool.false_or Bool.bne_true Bool.bne_false Option.isSome_some ne_eq not_false_eq_true Nat.zero_le Nat.add_assoc Nat.add_left_cancel_iff bA1
theorem aQh{α:Type}{p:α->Prop}:(∀x,x∈([]:List α)->p x)=True:=by simp
attribute [push_cast] aQh
mutual
def V.le:V->V->Prop
 | .nils,y=>y=.nils∨∃sz,y=.lst sz []
 | .agg a,y=>∃b,y=.agg b∧V.leL a b
 | .lst sz a,y=>∃b,y=.lst sz b∧V.leL a b
 | .tup a,y=>∃b,y=.tup b∧V.leL a b
 | .junk,y=>y=.junk
 | .bool b,y=>y=.bool b
 | .int k n,y=>y=.int k n
 | .str s,y=>y=.str s
 | .nilp,y=>y=.nilp
 | .ptr a b,y=>y=.ptr a b
 | .eptr a b c,y=>y=.eptr a b c
 | .cptr a,y=>y=.cptr a
 | .own a b c d,y=>y=.own a b c d
 | .fn f c,y=>y=.fn f c
 | .map i,y=>y=.map i
 | .nilm,y=>y=.nilm
 | .raw v,y=>y=.raw v
def V.leL:List V->List V->Prop
 | [],y=>y=[]
 | x::r,y=>∃z q,y=z::q∧x.le z∧V.leL r q
end
mutual
theorem V.le_refl:∀x:V,x.le x
 | .nils=>by simp[V.le]
 | .agg a=>by simp[V.le,V.leL_refl a]
 | .lst sz a=>by simp[V.le,V.leL_refl a]
 | .tup a=>by simp[V.le,V.leL_refl a]
 | .junk=>by rfl
 | .bool b=>by rfl
 | .int k n=>by rfl
 | .str s=>by rfl
 | .nilp=>by rfl
 | .ptr a b=>by rfl
 | .eptr a b c=>by rfl
 | .cptr a=>by rfl
 | .own a b c d=>by rfl
 | .fn f c=>by rfl
 | .map i=>by rfl
 | .nilm=>by rfl
 | .raw v=>by rfl
theorem V.leL_refl:∀l:List V,V.leL l l
 | []=>by rfl
 | x::r=>by simp only[V.leL];exact⟨x,r,rfl,V.le_refl x,V.leL_refl r⟩
end
theorem aBt{x y:V}{r q:List V}:V.leL (x::r) (y::q)=(x.le y∧V.leL r q):=by
 simp only[V.leL];grind
theorem aC3:V.leL [] []=True:=by simp[V.leL]
theorem aMj{a b:List V}:V.le (.agg a) (.agg b)=V.leL a b:=by simp[V.le]
theorem aUa{s:Nat}{a b:List V}:V.le (.lst s a) (.lst s b)=V.leL a b:=by simp[V.le]
attribute [push_cast] aBt aC3 aMj aUa
theorem aCo:∀{a b:List V},V.leL a b->a.length=b.length
 | [],b,h=>by simp[V.leL]at h;simp[h]
 | x::r,b,h=>by obtain⟨z,q,rfl,_,h2⟩:=h;simp[aCo h2]
theorem aE2:∀{a b:List V} {i:Nat} {y:V},V.leL a b->b[i]?=some y->∃x,a[i]?=some x∧x.le y
 | [],b,i,y,h,hy=>by simp[V.leL]at h;grind
 | x::r,b,i,y,h,hy=>by
   obtain⟨z,q,rfl,h1,h2⟩:=h;cases i with
   | zero=>grind
   | succ i=>simpa using aE2 h2 (by grind)
theorem bM9{x y:V}(h:x.le y)(h1:x.one=true):y.one=true:=by
 cases x<;>simp only[V.le]at h
 case nils=>rcases h with rfl|⟨sz,rfl⟩<;>rfl
 case agg=>simp[V.one]at h1
 case tup=>simp[V.one]at h1
 case lst=>obtain⟨b,rfl,_⟩:=h;rfl
 all_goals grind
theorem aW9:∀{a b:List V},V.leL a b->a.all V.one=true->b.all V.one=true
 | [],b,h,_=>by simp[V.leL]at h;simp[h]
 | x::r,b,h,h1=>by obtain⟨z,q,rfl,h2,h3⟩:=h;simp only[yF,zc]at h1 ⊢;exact⟨bM9 h2 h1.1,aW9 h3 h1.2⟩
theorem aX9{x y:V}{sz:Nat}(h:x.le y)(h1:x.ncells=some sz):y.ncells=some sz:=by
 cases x<;>simp only[V.le]at h
 case nils=>rcases h with rfl|⟨sz,rfl⟩<;>simpa[V.ncells,V.one]using h1
 case agg a =>
  obtain⟨b,rfl,h2⟩:=h;simp only[V.ncells]at h1 ⊢;split at h1
  .rename_i h3;rw[if_pos (aW9 h2 h3),<-aCo h2];exact h1
  grind
 case tup=>simp[V.ncells,V.one]at h1
 case lst=>obtain⟨b,rfl,_⟩:=h;simpa[V.ncells,V.one]using h1
 all_goals grind
theorem bD2{x y:V}(h:x.le y){sz:Nat}(h1:x.ncells=some sz):V.leL x.cells y.cells:=by
 cases x<;>simp only[V.le]at h
 case nils=>rcases h with rfl|⟨sz,rfl⟩<;>simp[V.cells,V.leL,V.le]
 case agg a=>obtain⟨b,rfl,h2⟩:=h;exact h2
 case tup=>simp[V.ncells,V.one]at h1
 case lst=>obtain⟨b,rfl,h2⟩:=h;simp[V.cells,V.leL,V.le,h2]
 all_goals (subst h;exact V.leL_refl _)
theorem Rep.le{G:Ghost}{D:Nat->Prop}{w:World}{x:V}{v:Value}(h:Rep G D w x v):∀{y:V},x.le y->Rep G D w y v:=by
 induction h with
 | nils =>
   intro y hy;simp only[V.le]at hy;rcases hy with rfl|⟨sz,rfl⟩
   .exact .nils
   .exact .lst sz [] none 0 0 0 (by simp) (by omega) (by simp) (by simp) (by simp) (by simp)
 | agg cs vs hn hr ih=>intro y hy;obtain⟨b,rfl,hb⟩:=hy;refine .agg _ _ (by rw[<-aCo hb];exact hn) λi c hc=>?_;obtain⟨x,hx,hle⟩:=aE2 hb hc;grind
 | tup cs vs hn hr ih=>intro y hy;obtain⟨b,rfl,hb⟩:=hy;refine .tup _ _ (by rw[<-aCo hb];exact hn) λi c hc=>?_;obtain⟨x,hx,hle⟩:=aE2 hb hc;grind
 | lst sz es a cap b o hc hl ha hz hs hr ih =>
   intro y hy;obtain⟨es',rfl,hb⟩:=hy;have hlen:=aCo hb;have key:∀(i j:Nat) (c:V),(es'[i]?.bind λe:V=>e.cells[j]?)=some c->∃c':V,(es[i]?.bind λe:V=>e.cells[j]?)=some c'∧c'.le c:=by
    intro i j c hx;cases he:es'[i]? with
    | none=>grind
    | some e'=>obtain⟨e,he2,hle⟩:=aE2 hb he;simp only[he,zG]at hx;obtain⟨c',hc',hle'⟩:=aE2 (bD2 hle (hz e (mem_of_getElem? he2))) hx;grind
   rw[hlen];refine .lst sz es' a cap b o (by omega) hl (λh0=>ha (by omega)) (λe he=>?_) (λi j c hx=>?_) (λi j c hx=>?_)
   .obtain⟨i,hi,he⟩:=List.getElem_of_mem he;obtain⟨e2,he2,hle⟩:=aE2 hb (show es'[i]?=some e by grind);exact aX9 hle (hz e2 (mem_of_getElem? he2))
   .obtain⟨c',hc',_⟩:=key i j c hx;grind
   .obtain⟨c',hc',hle⟩:=key i j c hx;grind
 | junk v=>intro y hy;simp only[V.le]at hy;subst hy;exact .junk v
 | bool b=>intro y hy;simp only[V.le]at hy;subst hy;exact .bool b
 | int k n=>intro y hy;simp only[V.le]at hy;subst hy;exact .int k n
 | str s h=>intro y hy;simp only[V.le]at hy;subst hy;exact .str s h
 | nilp=>intro y hy;simp only[V.le]at hy;subst hy;exact .nilp
 | ptr id off g h=>intro y hy;simp only[V.le]at hy;subst hy;exact .ptr id off g h
 | eptr id i j g h=>intro y hy;simp only[V.le]at hy;subst hy;exact .eptr id i j g h
 | cptr cs b o hb hd hs hr ih=>intro y hy;simp only[V.le]at hy;subst hy;exact .cptr cs b o hb hd hs hr
 | own id sz off len g a cap h hz hc hg hl ha=>intro y hy;simp only[V.le]at hy;subst hy;exact .own id sz off len g a cap h hz hc hg hl ha
 | fn f cs vs hn hr ih=>intro y hy;simp only[V.le]at hy;subst hy;exact .fn f cs vs hn hr
 | map id g h=>intro y hy;simp only[V.le]at hy;subst hy;exact .map id g h
 | nilm=>intro y hy;simp only[V.le]at hy;subst hy;exact .nilm
 | raw v=>intro y hy;simp only[V.le]at hy;subst hy;exact .raw v
theorem PTr.le{P:Program}{f:FuncId}{args args':List V}{r:V}(h:PTr P f args' r)(hl:V.leL args args'):PTr P f args r:=by
 intro D w vs hD hgl hn hr;refine h D w vs hD hgl (by rw[<-aCo hl];exact hn) λi x hx=>?_;obtain⟨x',hx',hle⟩:=aE2 hl hx;exact(hr i x' hx').le hle
theorem aJb{P:Program}{f:Nat}{args args':List V}{K:V->Prop}{x:Tg K}{r:V}(h:PTr P f args' r)(hl:V.leL args args')(h1:V.imms args=true)(h2:r.imm=true)(h3:K r):bDx P f args x:=aAa (h.le hl) h1 h2 h3
theorem aZt{P:Program}{f:Nat}{args args':List V}{K:V->Prop}{x:Tg K}{r:V}(h:PTr P f args' r)(hl:V.leL args args')(h1:V.imms args=true)(h2:r.flat=true)(h3:K r):aUc P f args x:=aCa (h.le hl) h1 h2 h3
end Go.Ab
