/- Several texts of one kind, merged. No condition. -/
import Derived.Test.YtikmbicdjpkipaaGreatDoorAbE3
import Derived.Tactics
set_option linter.unusedSimpArgs false
set_option linter.unusedVariables false
namespace Go.Ab
open Go.RowKit
theorem aCh {F:Nat→Prop} {l:List V} (h:∀ (j:Nat) (c:V),l[j]?=some c→V.fit F c):V.fits F l :=
 (aBc F _).2 fun y hy=>by
  obtain ⟨j,hj,rfl⟩:=List.mem_iff_getElem.1 hy
  exact h j _ (List.getElem?_eq_getElem hj)
theorem aJt {F:Nat→Prop} {x:V} (h:∀ (j:Nat) (c:V),x.cells[j]?=some c→V.fit F c):x.fit F:=by
 cases x <;> simp only [V.cells] at h <;> first
  | exact h 0 _ rfl
  | (simp only [V.fit]; exact aCh h)
theorem aR5 {G:Ghost} {D:Nat→Prop} {w:World} {x:V} {v:Value} (h:Rep G D w x v):x.fit (fun id=>(G id).isSome=true):=by
 induction h with
 | junk v=>simp [V.fit]
 | bool b=>simp [V.fit]
 | int k n=>simp [V.fit]
 | str s h=>simp [V.fit]
 | nilp=>simp [V.fit]
 | nils=>simp [V.fit]
 | ptr id off g h=>simp [V.fit,h]
 | eptr id i j g h=>simp [V.fit,h]
 | cptr cs b o hb hd hs hr ih=>simp only [V.fit]; exact aCh ih
 | lst sz es a cap b o hc hl ha hz hs hr ih =>
   simp only [V.fit]
   refine aCh fun i e he=>aJt fun j c hj=>ih i j c ?_
   rw [he]; exact hj
 | own id sz off len g a cap h hz hc hg hl ha=>simp [V.fit,h]
 | agg cs vs hn hr ih=>simp only [V.fit]; exact aCh ih
 | tup cs vs hn hr ih=>simp only [V.fit]; exact aCh ih
 | fn f cs vs hn hr ih=>simp only [V.fit]; exact aCh ih
 | map id g h=>simp [V.fit,h]
 | nilm=>simp [V.fit]
 | raw v=>simp [V.fit]
theorem Good.sfit {P:Program} {D:Nat→Prop} {n:Nat} {s:St} {G:Ghost} {a:Act} {w:World} (h:Good P D n s G a w):SFit (fun id=>(G id).isSome=true) s:=by
 refine ⟨fun t=>aR5 (h.env t),fun id b hb=>?_⟩
 obtain ⟨g,hg,hok⟩:=h.hp.blk id b hb
 refine ⟨by simp [hg],?_⟩
 cases b with
 | box ty0 cs =>
   obtain ⟨c,ty,fr,_,_,_,_,h5⟩:=hok
   exact aCh fun i x hx=>aR5 (h5 i x hx)
 | vec ty0 sz es =>
   obtain ⟨_,h2,_,_,h5⟩:=hok
   refine aCh fun i e he=>aJt fun j c hj=>?_
   have hpos:0<g.cap:=by
    have:i<es.length:=(List.getElem?_eq_some_iff.1 he).1
    omega
   obtain ⟨c',ty,fr,_,_,_,k4⟩:=h5 hpos
   exact aR5 (k4 i j c (by rw [he]; exact hj))
 | map _ _=>trivial
 | bld _ _ _=>trivial
theorem aK9 {P:Program} {n:Nat} {hint:Nat→Nat} {ops:Array Oper} {o:Oper} {x:GI} (h:aG7 P n hint ops o=some x) :
 aA4 n o.dst=true∧lowG ops n o.guard=some x.g∧lowX P n hint o=some x.i∧x.i.dst=o.dst:=by
 simp only [aG7] at h
 split at h
 ·rename_i hd
  split at h
  ·rename_i g i hg hi
   split at h
   ·rename_i he
    simp only [Option.some.injEq] at h
    subst h
    exact ⟨hd,hg,hi,he⟩
   ·simp at h
  ·simp at h
 ·simp at h
theorem aLe {P:Program} {n:Nat} {hint:Nat→Nat} {ops:Array Oper}:∀ (r:List Oper) (l:List GI),aNu P n hint ops r=some l→l.length=r.length∧∀ i o,r[i]?=some o→aG7 P n hint ops o=some (l.getD i default)
 | [],l,h=>by simp only [aNu,Option.some.injEq] at h; subst h; simp
 | o::r,l,h=>by
   simp only [aNu] at h
   split at h
   ·rename_i x y h1 h2
    simp only [Option.some.injEq] at h
    subst h
    obtain ⟨k1,k2⟩:=aLe r y h2
    refine ⟨by simp [k1],fun i o' ho=>?_⟩
    cases i with
    | zero=>simp only [List.getElem?_cons_zero,Option.some.injEq] at ho; subst ho; simpa using h1
    | succ i=>simp only [List.getElem?_cons_succ] at ho; simpa using k2 i o' ho
   ·simp at h
section
variable {P:Program} {D:Nat→Prop} {n:Nat} {hint:Nat→Nat} {ops:Array Oper} {s:St} {G:Ghost} {a:Act} {w:World} {K:St→Prop} {Q:Exit→Act→World→Prop}
theorem aQ1 {o:Oper} (hd:aA4 n o.dst=true) {f:Nat} {xs:List V} {vals:Array Value} {next:Act→World→Prop}
 (hE:ECall P f xs s.L (s.nx+n) fun r L' nx'=>K ((⟨s.env,L',nx'⟩:St).setO o.dst r)) (hl:xs.length=vals.size) (hr:∀ (i:Nat) y,xs[i]?=some y→Rep G (Dp D s.L G) w y (vals.getD i undef))
 (hrun:(execOp a.eval o).run P w=.ok (.enter f vals) w) (hg:Good P D n s G a w)
 (hn:∀ s' G' a' w',K s'→Good P D n s' G' a' w'→Nxt s.L G w s'.L G' w'→s.nx+n≤s'.nx∧(∀ i,s'.nx≤i→G' i=none)→next a' w'):o.upon P a next Q ((execOp a.eval o).run P w):=by
 obtain ⟨_,hE⟩:=hE
 rw [hrun]
 simp only [Oper.upon]
 have hp:Hp P D 0 ⟨fun _=>.junk,s.L,s.nx+n⟩ G w:=⟨hg.hp.fin,hg.hp.blk,hg.hp.apart,hg.hp.away,hg.hp.dlt,hg.hp.gl⟩
 refine (hE D G w vals hp hl hr).mono ?_
 rintro e w' ⟨v,r,L',nx',G',rfl,hK,hp',hle,hx,hr⟩
 have hfin:∀ i,nx'≤i→G' i=none:=fun i hi=>hp'.fin i hi
 have hp2:Hp P D n ⟨s.env,L',nx'⟩ G' w':=⟨fun id hid=>hfin id (by simp only at hid; omega),hp'.blk,hp'.apart,hp'.away,hp'.dlt,hp'.gl⟩
 have g1:Good P D n ⟨s.env,L',nx'⟩ G' a w':=hg.later hx hp2
 exact hn _ _ _ _ hK (g1.put hd hr) (by rw [aDo]; exact hx) ⟨by rw [aCi]; exact hle,fun i hi=>hfin i (by rw [aCi] at hi; exact hi)⟩
theorem aSp {o:Oper} {i:I} (hd:aA4 n o.dst=true) (h:lowE P n hint o=some i):∀ (s:St) (G:Ghost) (a:Act) (w:World) (K:St→Prop) (next:Act→World→Prop) (Q:Exit→Act→World→Prop),aAc P i s K→Good P D n s G a w →
 (∀ s' G' a' w',K s'→Good P D n s' G' a' w'→Nxt s.L G w s'.L G' w'→s.nx+n≤s'.nx∧(∀ i,s'.nx≤i→G' i=none)→next a' w')→o.upon P a next Q ((execOp a.eval o).run P w):=by
 intro s G a w K next Q hi hg hn
 unfold lowE at h
 split at h
 ·rename_i c hop
  split at h
  ·rename_i f hc
   split at h
   ·rename_i hb
    simp only [Bool.and_eq_true] at hb
    obtain ⟨qs,hq,rfl⟩:=Option.map_eq_some_iff.1 h
    obtain ⟨l1,l2⟩:=aFb hg hq
    have hi:ECall P f (qs.map s.ev) s.L (s.nx+n) fun r L' nx'=>K ((⟨s.env,L',nx'⟩:St).setO o.dst r):=by
     split at hi
     ·exact ECall.mono hi fun r L' nx' h=>h.2
     ·exact hi
    refine aQ1 hd hi (vals:=c.args.map a.eval) (by simp [l1]) (fun i y hy=>?_) (aNy hc hb.2 hop) hg hn
    have h1:=l2 i y hy
    have:(c.args.map a.eval).getD i undef=(c.args.toList.map a.eval)[i]?.getD undef:=by simp [Array.getD_eq_getD_getElem?]
    rw [this]
    exact h1
   ·simp at h
  ·rename_i t hc
   split at h
   ·rename_i ht
    simp only [Bool.and_eq_true,decide_eq_true_eq] at ht
    replace ht:=ht.1
    obtain ⟨qs,hq,rfl⟩:=Option.map_eq_some_iff.1 h
    obtain ⟨l1,l2⟩:=aFb hg hq
    simp only [aAc] at hi
    split at hi
    ·rename_i f cs hfn
     obtain ⟨hb,hE⟩:=hi
     have rx:=aAi hg (show opd n (.tmp t)=some (.t t) by simp only [opd,if_pos ht])
     rw [hfn] at rx
     obtain ⟨vs,hv,hvl,hvr⟩:=aQc rx
     refine aQ1 hd hE (vals:=c.args.map a.eval++vs) (by simp [l1,hvl]) (fun i y hy=>?_) (aQ3 hc hv hb hop) hg hn
     by_cases hi:i<qs.length
     ·have h1:=l2 i y (by rw [List.getElem?_append_left (by simpa using hi)] at hy; exact hy)
      have:(c.args.map a.eval++vs).getD i undef=(c.args.toList.map a.eval)[i]?.getD undef:=by
       have hi':i<c.args.size:=by rw [l1] at hi; simpa using hi
       simp [Array.getD_eq_getD_getElem?,Array.getElem?_append,hi']
      rw [this]
      exact h1
     ·rw [List.getElem?_append_right (by simp; omega)] at hy
      have h1:=hvr _ _ hy
      have:(c.args.map a.eval++vs).getD i undef=vs.getD (i-(qs.map s.ev).length) undef:=by
       have hi':¬ i<c.args.size:=by rw [l1] at hi; simpa using hi
       have hz:qs.length=c.args.size:=by rw [l1]; simp
       simp [Array.getD_eq_getD_getElem?,Array.getElem?_append,hi',hz]
      rw [this]
      exact h1
    ·exact hi.elim
   ·simp at h
  ·simp at h
 ·simp at h
def NewX (n:Nat) (m:Option Nat) (s:St) (G:Ghost) (s':St) (G':Ghost):Prop:=New m s G s' G'∨(s.nx+n≤s'.nx∧∀ i,s'.nx≤i→G' i=none)
theorem NewX.free {m:Option Nat} {s:St} {G:Ghost} {s':St} {G':Ghost} (h:NewX n m s G s' G') {d:Nat} (h1:G (s.nx+d)=none) (h2:m≠some d):G' (s'.nx+d)=none:=by
 rcases h with h | h
 ·cases hc:G' (s'.nx+d) with
  | none=>rfl
  | some g =>
    exfalso
    rcases h.2 (s'.nx+d) (by simp [hc]) with k1 | ⟨d',hd',he⟩
    ·rw [h.1,h1] at k1
     simp at k1
    ·rw [h.1] at he
     have:d=d':=by omega
     subst this
     exact h2 hd'
 ·exact h.2 _ (by omega)
theorem aRc {i:Nat} {o:Oper} {x:GI} {next:Act→World→Prop} (ho:ops[i]?=some o) (hx:aG7 P n hint ops o=some x) (h:aA1 P x s K) (hg:Good P D n s G a w)
 (hn:∀ s' G' a' w',K s'→Good P D n s' G' a' w'→Nxt s.L G w s'.L G' w'→NewX n x.i.mk s G s' G'→next a' w') (hfree:∀ d,x.i.mk=some d→G (s.nx+d)=none) :
 wpOp P ops Q i next a w:=by
 obtain ⟨hd,hgd,hi,hdst⟩:=aK9 hx
 have run:aAc P x.i s K→Region.wanted o (yielded ops a.tmps)=true→wpOp P ops Q i next a w:=fun h hw=>by
  simp only [wpOp,ho,hw,if_true]
  refine .inl ?_
  unfold lowX at hi
  split at hi
  ·rename_i i' he
   simp only [Option.some.injEq] at hi
   subst hi
   exact aSp hd he s G a w K next Q h hg fun s' G' a' w' k g x e=>hn s' G' a' w' k g x (.inr e)
  ·exact aYb hd hi s G a w K next Q h hg (fun s' G' a' w' k g x e=>hn s' G' a' w' k g x (.inl e)) hfree
 have skip:K (s.setO x.i.dst (.tup []))→Region.wanted o (yielded ops a.tmps)=false→wpOp P ops Q i next a w:=fun h hw=>by
  simp only [wpOp,ho,hw,Bool.false_eq_true,if_false]
  have hput:=hg.put (d:=x.i.dst) (by rw [hdst]; exact hd) (x:=.tup []) (v:=undef) (.tup [] #[] rfl (by simp))
  rw [hdst] at hput h
  exact hn _ _ _ _ h hput (by rw [aDo]; exact Nxt.refl _ _ _) (.inl (New.same (aCi _ _ _)))
 obtain ⟨g,xi⟩:=x
 cases hgo:o.guard with
 | none =>
   rw [hgo] at hgd
   simp only [lowG,Option.some.injEq] at hgd
   subst hgd
   exact run h (by simp [Region.wanted,hgo])
 | some jw =>
   obtain ⟨j,wt⟩:=jw
   rw [hgo] at hgd
   simp only [lowG] at hgd
   split at hgd
   ·rename_i t ht
    split at hgd
    ·rename_i htn
     simp only [Option.some.injEq] at hgd
     subst hgd
     have hv:a.tmps[t]?=some (a.tmps.getD t undef):=by
      have:t<a.tmps.size:=by rw [hg.size]; exact htn
      simp [this]
     have hy:yielded ops a.tmps j=match a.tmps.getD t undef with | .bool b=>some b | _=>none:=by
      simp only [yielded,ht,Option.bind_some,hv]
      cases a.tmps.getD t undef <;> rfl
     have hr:=hg.env t
     simp only [aA1] at h
     split at h
     ·rename_i b hb
      rw [hb] at hr
      have hvb:=aCg hr
      rw [hvb] at hy
      simp only at hy
      split at h
      ·rename_i hbw
       exact run h (by simp [Region.wanted,hgo,hy,hbw])
      ·rename_i hbw
       exact skip h (by simp [Region.wanted,hgo,hy,hbw])
     ·rename_i hb
      rw [hb] at hr
      obtain ⟨vs,hvs,_⟩:=aTg hr
      rw [hvs] at hy
      exact skip h (by simp [Region.wanted,hgo,hy])
     ·exact h.elim
    ·simp at hgd
   ·simp at hgd
theorem aFh {x:GI} {l:List GI} (h:(mks (x::l)).Nodup):(mks l).Nodup∧∀ d,x.i.mk=some d→∀ y,y∈l→y.i.mk≠some d:=by
 simp only [mks,List.filterMap_cons] at h
 cases hx:x.i.mk with
 | none=>rw [hx] at h; exact ⟨h,fun d hd=>by simp at hd⟩
 | some m =>
   rw [hx] at h
   simp only [List.nodup_cons] at h
   refine ⟨h.2,fun d hd y hy hyd=>h.1 ?_⟩
   simp only [Option.some.injEq] at hd
   subst hd
   exact List.mem_filterMap.2 ⟨y,hy,hyd⟩
theorem aQ5 {l:List GI} (hl:∀ i o,ops[i]?=some o→aG7 P n hint ops o=some (l.getD i default)):∀ (is:List Nat) (s:St) (G:Ghost) (a:Act) (w:World),(∀ i,i∈is→i<ops.size) →
 aops P (at_ l is) s K→Good P D n s G a w→(∀ x,x∈at_ l is→∀ d,x.i.mk=some d→G (s.nx+d)=none)→(mks (at_ l is)).Nodup →
 (∀ s' G' a' w',K s'→Good P D n s' G' a' w'→Nxt s.L G w s'.L G' w'→Q .normal a' w')→wpOps P ops Q is a w
 | [],s,G,a,w,_,h,hg,_,_,hn=>hn _ _ _ _ h hg (Nxt.refl _ _ _)
 | i::is,s,G,a,w,hi,h,hg,hf,hnd,hn=>by
   have hlt:=hi i (by simp)
   rw [wpOps_cons]
   obtain ⟨hnd1,hnd2⟩:=aFh hnd
   refine aRc (Array.getElem?_eq_getElem hlt) (hl i _ (Array.getElem?_eq_getElem hlt)) h hg (fun s1 G1 a1 w1 k1 g1 x1 n1=>?_) (hf (l.getD i default) (by simp [at_]))
   exact aQ5 hl is s1 G1 a1 w1 (fun j hj=>hi j (by simp [hj])) k1 g1 (fun y hy d hd=>n1.free (hf y (by simp only [at_,List.map_cons,List.mem_cons]; exact .inr hy) d hd) fun e=>hnd2 d e y hy hd) hnd1
    (fun s2 G2 a2 w2 k2 g2 x2=>hn s2 G2 a2 w2 k2 g2 (x1.trans x2))
theorem aMc:∀ {l:List Nat},aRd l=true→l.Nodup
 | [],_=>List.nodup_nil
 | x::r,h=>by
   simp only [aRd,Bool.and_eq_true,Bool.not_eq_true'] at h
   exact List.nodup_cons.2 ⟨by have:=h.1; simpa using this,aMc h.2⟩
theorem aKj (l:List GI):at_ l (List.range l.length)=l:=by
 apply List.ext_getElem
 ·simp [at_]
 ·intro i h1 h2
  simp only [at_,List.getElem_map,List.getElem_range,List.getD_eq_getElem?_getD,List.getElem?_eq_getElem h2,Option.getD_some]
theorem bQg {l:List GI} (hl':∀ i o,ops[i]?=some o→aG7 P n hint ops o=some (l.getD i default)) (hl:l.length=ops.size) (ho:aNz (aQx ops) l=true) (he:aHp ops=true) (hc:l.all (·.i.constOk)=true) :
 ∀ (fuel t:Nat) (listed:Array Bool) (s:St) (G:Ghost) (a:Act) (w:World),listed.size=ops.size→(aCr ops listed).length≤fuel →
   (∀ k o,listed.getD k false=true→ops[k]?=some o→∀ e,e∈o.after→Region.binds .any e=true→listed.getD e.on false=true) →
   Good P D n s G a w→(∀ x,x∈at_ l (aCr ops listed)→∀ d,x.i.mk=some d→G (s.nx+d)=none)→(mks (at_ l (aCr ops listed))).Nodup →
   aops P (at_ l (aCr ops listed)) s K→(∀ s' G' a' w',K s'→Good P D n s' G' a' w'→Nxt s.L G w s'.L G' w'→Q .normal a' w')→wpOps P ops Q (Region.linearise.go .any ops fuel t listed []) a w:=by
 have constOf:∀ i,i<ops.size→(l.getD i default).i.constOk=true:=fun i hi=>by
  have:i<l.length:=by omega
  rw [List.getD_eq_getElem?_getD,List.getElem?_eq_getElem this]
  exact List.all_eq_true.1 hc _ (List.getElem_mem _)
 intro fuel
 induction fuel with
 | zero =>
   intro t listed s G a w hsz hf hcl hfit hfr hnd h hn
   have:aCr ops listed=[]:=List.length_eq_zero_iff.1 (by omega)
   rw [this] at h
   have h:K s:=h
   simp only [Region.linearise.go,List.reverse_nil,wpOps]
   exact hn s G a w h hfit (Nxt.refl _ _ _)
 | succ fuel ih =>
   intro t listed s G a w hsz hf hcl hfit hfr hnd h hn
   simp only [Region.linearise.go]
   change wpOps P ops Q (match (Region.ready .any ops listed)[t % (Region.ready .any ops listed).length]? with
    | some i=>Region.linearise.go .any ops fuel (t / (Region.ready .any ops listed).length) (listed.setIfInBounds i true) [i]
    | none=>[].reverse) a w
   cases hi:(Region.ready .any ops listed)[t % (Region.ready .any ops listed).length]? with
   | none =>
     have hnil:Region.ready .any ops listed=[]:=by
      cases hr:Region.ready .any ops listed with
      | nil=>rfl
      | cons x xs =>
        rw [hr] at hi
        have hlt:t % (x::xs).length<(x::xs).length:=Nat.mod_lt _ (by simp)
        simp at hi
        simp at hlt
        omega
     have hrem:aCr ops listed=[]:=by
      cases hr:aCr ops listed with
      | nil=>rfl
      | cons x xs =>
        exfalso
        have hx:x∈aCr ops listed:=by rw [hr]; simp
        have hx1:x<ops.size∧listed.getD x true=false:=by
         simp only [aCr,List.mem_filter,List.mem_range,Bool.not_eq_true'] at hx
         exact hx
        have hmin:∀ y,y<x→y<ops.size→listed.getD y true=true:=by
         intro y hy hys
         have hpw:(aCr ops listed).Pairwise (·<·):=List.Pairwise.filter _ List.pairwise_lt_range
         cases hly:listed.getD y true with
         | true=>rfl
         | false =>
           have hm:y∈aCr ops listed:=by
            simp only [aCr,List.mem_filter,List.mem_range,Bool.not_eq_true']
            exact ⟨hys,hly⟩
           rw [hr] at hm hpw
           rcases List.mem_cons.1 hm with e | hm
           ·omega
           ·have:=List.rel_of_pairwise_cons hpw hm
            omega
        have hmem:x∈Region.ready .any ops listed:=by
         rw [mem_ready]
         refine ⟨hx1.2,ops[x]'hx1.1,Array.getElem?_eq_getElem hx1.1,fun e hme hb=>?_⟩
         have hlt:e.on<x:=by
          simp only [aHp,List.all_eq_true,List.mem_range] at he
          have:=he x hx1.1
          rw [Array.getElem?_eq_getElem hx1.1] at this
          simp only [Option.map_some,Option.getD_some,List.all_eq_true] at this
          have:=this e (Array.mem_toList_iff.2 hme)
          simpa [hb] using this
         have:=hmin e.on hlt (by omega)
         rwa [aBb (by omega)] at this
        rw [hnil] at hmem
        cases hmem
     rw [hrem] at h
     have h:K s:=h
     simp only [List.reverse_nil,wpOps]
     exact hn s G a w h hfit (Nxt.refl _ _ _)
   | some i =>
     simp only []
     rw [linearise_go_acc,List.reverse_singleton,List.singleton_append,wpOps_cons]
     have hmem:=List.mem_of_getElem? hi
     obtain ⟨hun,o,ho',hall⟩:=mem_ready.1 hmem
     have his:i<ops.size:=(Array.getElem?_eq_some_iff.1 ho').1
     have hun':listed.getD i false=false:=by rw [← aBb (by omega)]; exact hun
     obtain ⟨p,b,h1,h2,h3⟩:=aD8 (p:=fun j=>!listed.getD j true) (q:=fun j=>!(listed.setIfInBounds i true).getD j true) (List.range ops.size) List.pairwise_lt_range (List.mem_range.2 his) (by simp only [hun]; rfl)
      (fun j hj=>by rw [getD_set_ne true (Ne.symm hj)]) (by simp [hsz,his])
     have hra:aCr ops listed=p++i::b:=h1
     have hrb:aCr ops (listed.setIfInBounds i true)=p++b:=h2
     have ham:∀ j,j∈p→j<i∧listed.getD j false=false:=fun j hj=>by
      have hm:j∈aCr ops listed:=by rw [hra]; simp [hj]
      simp only [aCr,List.mem_filter,List.mem_range,Bool.not_eq_true'] at hm
      exact ⟨h3 j hj,by rw [← aBb (by omega)]; exact hm.2⟩
     have hind:∀ x,x∈at_ l p→x.i.constOk=true∧x.indep (l.getD i default)=true:=by
      intro x hx
      obtain ⟨j,hj,rfl⟩:=List.mem_map.1 hx
      obtain ⟨hji,hjl⟩:=ham j hj
      refine ⟨constOf j (by omega),?_⟩
      simp only [aNz,List.all_eq_true,List.mem_range,Bool.or_eq_true] at ho
      rcases ho i (by omega) j hji with hb | hb
      ·have:=aIh (S:=fun k=>listed.getD k false=true) (fun k o hk hko e hm hbb=>hcl k o hk hko e hm hbb) ho' hall hb
       simp only [hjl] at this
       exact absurd this (by simp)
      ·have e1:l[j]?=some (l.getD j default):=by
        rw [List.getD_eq_getElem?_getD,List.getElem?_eq_getElem (show j<l.length by omega)]; rfl
       have e2:l[i]?=some (l.getD i default):=by
        rw [List.getD_eq_getElem?_getD,List.getElem?_eq_getElem (show i<l.length by omega)]; rfl
       rw [e1,e2] at hb
       exact hb
     rw [hra] at h hfr hnd hf
     have hmid:at_ l (p++i::b)=at_ l p++l.getD i default::at_ l b:=by simp [at_]
     rw [hmid] at h hfr hnd
     have hperm:(at_ l p++l.getD i default::at_ l b).Perm (l.getD i default::(at_ l p++at_ l b)):=List.perm_middle
     have hnd':=aG6 hperm hnd
     have hj:=bHe (at_ l p) s _ (l.getD i default) (at_ l b) hind (constOf i his) hfit.sfit (fun x hx d hd hF=>by
      rw [hfr x (by
       rcases List.mem_cons.1 hx with rfl | hx
       ·simp
       ·simp [hx]) d hd] at hF
      simp at hF)
      (by
       have hsub:(mks (l.getD i default::at_ l p)).Sublist (mks (l.getD i default::(at_ l p++at_ l b))):=by
        refine List.Sublist.filterMap _ ?_
        exact List.Sublist.cons_cons _ (List.sublist_append_left _ _)
       exact hnd'.sublist hsub) h
     change aA1 P (l.getD i default) s (fun s'=>aops P (at_ l p++at_ l b) s' K) at hj
     have hab:at_ l (p++b)=at_ l p++at_ l b:=by simp [at_]
     refine aRc ho' (hl' i o ho') hj hfit (fun s1 G1 a1 w1 k1 g1 x1 n1=>?_) (hfr (l.getD i default) (by simp))
     refine ih (t / (Region.ready .any ops listed).length) (listed.setIfInBounds i true) s1 G1 a1 w1 (by simp [hsz]) (by
      rw [hrb]
      simp only [List.length_append,List.length_cons] at hf ⊢
      omega) (fun k o hk hko e hm hbb=>by
       by_cases e1:k=i
       ·subst e1
        rw [ho'] at hko
        obtain rfl:=Option.some.inj hko
        exact getD_set_true (hall e hm hbb)
       ·rw [getD_set_ne false (Ne.symm e1)] at hk
        exact getD_set_true (hcl k o hk hko e hm hbb)) g1 (by
       rw [hrb,hab]
       intro x hx d hd
       refine n1.free (hfr x ?_ d hd) fun e=>?_
       ·rcases List.mem_append.1 hx with hx | hx <;> simp [hx]
       ·simp only [mks,List.filterMap_cons,e,List.nodup_cons] at hnd'
        exact hnd'.1 (List.mem_filterMap.2 ⟨x,hx,hd⟩)) (by
       rw [hrb,hab]
       have hsub:(mks (at_ l p++at_ l b)).Sublist (mks (l.getD i default::(at_ l p++at_ l b))):=List.Sublist.filterMap _ (List.sublist_cons_self _ _)
       exact hnd'.sublist hsub) (by rw [hrb,hab]; exact k1) (fun s2 G2 a2 w2 k2 g2 x2=>hn s2 G2 a2 w2 k2 g2 (x1.trans x2))
end
end Go.Ab
namespace Go.Ab
open Go.RowKit
section
variable {P:Program} {D:Nat→Prop} {n:Nat} {hint:Nat→Nat} {ops:Array Oper} {s:St} {G:Ghost} {a:Act} {w:World} {K:St→Prop} {Q:Exit→Act→World→Prop}
theorem aLb {d:Option Nat} {l:List Nat} (h:disj d.toList l=true) (k:Nat) (hk:d=some k):k∉l:=aBr h (by simp [hk])
theorem bF5 {x y:GI} (hs:x.swl y=true) (d1:disj x.i.dst.toList y.reads=true) (d2:disj y.i.dst.toList x.reads=true) (d3:disj x.i.dst.toList y.i.dst.toList=true)
 (h:aA1 P x s (fun s1=>aA1 P y s1 K)):aA1 P y s (fun s2=>aA1 P x s2 K):=by
 have hcom:∀ k,x.i.dst=some k→y.i.dst≠some k:=fun k hk hk'=>aLb d3 k hk (by simp [hk'])
 obtain ⟨gx,xi⟩:=x
 obtain ⟨gy,yi⟩:=y
 unfold GI.swl at hs
 split at hs
 ·rename_i dx sz ag q b dy m f args c he1 he2
  simp only [GI.mk.injEq] at he1 he2
  obtain ⟨rfl,rfl⟩:=he1
  obtain ⟨rfl,rfl⟩:=he2
  obtain rfl:b=c:=by simpa using hs
  have n1:∀ t,t∈(I.ecr dy m f args b).reads→dx≠some t:=fun t ht e=>aLb d1 t e (by simp [GI.reads,ht])
  have n2:∀ t,t∈(I.ldr dx sz ag q b).reads→dy≠some t:=fun t ht e=>aLb d2 t e (by simp [GI.reads,ht])
  have e1:∀ v,args.map (s.setO dx v).ev=args.map s.ev:=fun v=>List.map_congr_left fun p hp=>by
   cases p with
   | k u=>rfl
   | t t=>exact aBh (n1 t (by simp only [I.reads,I.srcs]; exact List.mem_flatMap.2 ⟨.t t,List.mem_cons_of_mem _ hp,by simp [srcT]⟩))
  have e2:∀ v,(s.setO dx v).env b=s.env b:=fun v=>aBh (n1 b (by simp [I.reads,I.srcs,srcT]))
  simp only [aA1,aAc] at h ⊢
  split at h
  ·rename_i id o id' o' hb hq
   obtain ⟨rfl,h⟩:=h
   split at h
   ·rename_i ty cs hL
    obtain ⟨h1,h2⟩:=h
    simp only [e1,e2,aDo,aCi] at h2
    refine ECall.mono h2 fun r L' nx' hh=>⟨hh.1,?_⟩
    have f1:((⟨s.env,L',nx'⟩:St).setO dy r).env b=.ptr id o:=by rw [aBh (n2 b (by simp [I.reads,I.srcs,srcT]))]; exact hb
    have f2:((⟨s.env,L',nx'⟩:St).setO dy r).ev q=.ptr id o':=by
     cases q with
     | k u=>exact hq
     | t t =>
       show ((⟨s.env,L',nx'⟩:St).setO dy r).env t=_
       rw [aBh (n2 t (by simp [I.reads,I.srcs,srcT]))]; exact hq
    have f3:((⟨s.env,L',nx'⟩:St).setO dy r).L id=some (.box ty cs):=by rw [aDo]; exact (hh.1 id o hb).trans hL
    rw [f1,f2]
    simp only [f3]
    refine ⟨trivial,h1,?_⟩
    have e3:(⟨(s.setO dx (pack ag (List.take sz (List.drop o' cs)))).env,L',nx'⟩:St)=(⟨s.env,L',nx'⟩:St).setO dx (pack ag (List.take sz (List.drop o' cs))):=by cases dx <;> rfl
    have hk:=hh.2
    rw [e3,aD9 (d:=dx) (d':=dy) hcom] at hk
    exact hk
   ·exact h.elim
  ·exact h.elim
 ·rename_i dy m f args c dx sz ag q b he1 he2
  simp only [GI.mk.injEq] at he1 he2
  obtain ⟨rfl,rfl⟩:=he1
  obtain ⟨rfl,rfl⟩:=he2
  obtain rfl:b=c:=by simpa using hs
  have n1:∀ t,t∈(I.ldr dx sz ag q b).reads→dy≠some t:=fun t ht e=>aLb d1 t e (by simp [GI.reads,ht])
  have n2:∀ t,t∈(I.ecr dy m f args b).reads→dx≠some t:=fun t ht e=>aLb d2 t e (by simp [GI.reads,ht])
  have e1:∀ v,args.map (s.setO dx v).ev=args.map s.ev:=fun v=>List.map_congr_left fun p hp=>by
   cases p with
   | k u=>rfl
   | t t=>exact aBh (n2 t (by simp only [I.reads,I.srcs]; exact List.mem_flatMap.2 ⟨.t t,List.mem_cons_of_mem _ hp,by simp [srcT]⟩))
  have e2:∀ v,(s.setO dx v).env b=s.env b:=fun v=>aBh (n2 b (by simp [I.reads,I.srcs,srcT]))
  simp only [aA1,aAc] at h ⊢
  obtain ⟨r0,L0,nx0,k0,hh0⟩:=h.1
  have f1:∀ r L' nx',((⟨s.env,L',nx'⟩:St).setO dy r).env b=s.env b:=fun r L' nx'=>aBh (n1 b (by simp [I.reads,I.srcs,srcT]))
  have f2:∀ r L' nx',((⟨s.env,L',nx'⟩:St).setO dy r).ev q=s.ev q:=fun r L' nx'=>by
   cases q with
   | k u=>rfl
   | t t=>exact aBh (n1 t (by simp [I.reads,I.srcs,srcT]))
  simp only [f1,f2,aDo] at h hh0 ⊢
  split at hh0
  ·rename_i id o id' o' hb hq
   obtain ⟨rfl,hh0⟩:=hh0
   split at hh0
   ·rename_i ty cs hL
    rw [k0 id o hb] at hL
    simp only [hL]
    refine ⟨trivial,hh0.1,?_⟩
    simp only [e1,e2,aDo,aCi]
    refine ECall.mono h fun r L' nx' hh=>⟨fun i p hi=>hh.1 i p (by first | exact hi | exact hb.trans hi),?_⟩
    have hk:=hh.2
    rw [hb,hq] at hk
    simp only at hk
    replace hk:=hk.2
    rw [hh.1 id o hb,hL] at hk
    simp only at hk
    have e3:(⟨(s.setO dx (pack ag (List.take sz (List.drop o' cs)))).env,L',nx'⟩:St)=(⟨s.env,L',nx'⟩:St).setO dx (pack ag (List.take sz (List.drop o' cs))):=by cases dx <;> rfl
    rw [e3,aD9 (d:=dx) (d':=dy) fun k hk hk'=>hcom k hk' hk]
    exact hk.2
   ·exact hh0.elim
  ·exact hh0.elim
 ·simp at hs
theorem aLv {i:I} (h:i.rank≤1):i.mk=none:=by
 cases i <;> simp_all [I.rank,I.mk]
theorem bFa {i:I} (h:i.rank=4):i.mk=none:=by
 cases i <;> simp [I.rank,I.mk] at h ⊢
theorem aLn {x:GI} (h:x.core=true):x.i.mk=none:=by
 simp only [GI.core,Bool.or_eq_true,decide_eq_true_eq] at h
 rcases h with h | h
 ·exact aLv h
 ·exact bFa h
theorem bW4 {x y:GI} (hx:x.i.constOk=true) (hy:y.i.constOk=true) (cx:x.core=true) (cy:y.core=true) (hi:x.indepL y=true) (h:aA1 P x s (fun s1=>aA1 P y s1 K)):aA1 P y s (fun s2=>aA1 P x s2 K):=by
 simp only [GI.indepL,Bool.or_eq_true,Bool.and_eq_true] at hi
 rcases hi with hi | ⟨⟨⟨hs,d1⟩,d2⟩,d3⟩
 ·have ha:aops P ([x]++y::[]) s K:=h
  exact bHe [x] s (fun _=>True) y [] (fun z hz=>by rw [List.mem_singleton.1 hz]; exact ⟨hx,hi⟩) hy (aLu s) (fun z hz d hd=>by
   rcases List.mem_cons.1 hz with rfl | hz
   ·rw [aLn cy] at hd; cases hd
   ·rw [List.mem_singleton.1 hz,aLn cx] at hd; cases hd) (by simp [mks,aLn cy,aLn cx]) ha
 ·exact bF5 hs d1 d2 d3 h
theorem bIr:∀ (xs:List GI) (s:St) (z:GI) (r:List GI),(∀ x,x∈xs→x.i.constOk=true∧x.core=true∧x.indepL z=true)→z.i.constOk=true→z.core=true→aops P (xs++z::r) s K→aops P (z::(xs++r)) s K
 | [],s,z,r,_,_,_,h=>h
 | x::xs,s,z,r,hx,hz,cz,h=>by
   obtain ⟨h1,h2,h3⟩:=hx x (by simp)
   have step:aA1 P x s (fun s1=>aA1 P z s1 fun s2=>aops P (xs++r) s2 K):=aDq h fun s1 h1=>bIr xs s1 z r (fun y hy=>hx y (by simp [hy])) hz cz h1
   exact bW4 h1 hz h2 cz h3 step
end
section
variable {P:Program} {D:Nat→Prop} {n:Nat} {hint:Nat→Nat} {ops:Array Oper} {s:St} {G:Ghost} {a:Act} {w:World} {K:St→Prop} {Q:Exit→Act→World→Prop}
theorem BlkOk.mapR {G G':Ghost} {D D':Nat→Prop} {w w':World} {g:GB} {b:Blk} (hm:∀ x v,Rep G D w x v→Rep G' D' w' x v) (hk:∀ x,Occ g b x→w'.heap[x]?=w.heap[x]?) (hb:BlkOk G D w g b):BlkOk G' D' w' g b:=by
 cases b with
 | box ty cs =>
   obtain ⟨c,ty',fr,k1,k2,k3,k4,k5⟩:=hb
   exact ⟨c,ty',fr,by rw [hk _ rfl]; exact k1,k2,k3,k4,fun i x hx=>hm _ _ (k5 i x hx)⟩
 | vec ty sz es =>
   obtain ⟨k1,k2,k3,k4,k5⟩:=hb
   refine ⟨k1,k2,k3,k4,fun h0=>?_⟩
   obtain ⟨c,ty',fr,q1,q2,q3,q4⟩:=k5 h0
   exact ⟨c,ty',fr,by rw [hk _ ⟨h0,rfl⟩]; exact q1,q2,q3,fun i j x hx=>hm _ _ (q4 i j x hx)⟩
 | map c es =>
   obtain ⟨a,k1,k2,k3⟩:=hb
   refine ⟨a,by rw [hk _ rfl]; exact k1,k2,fun i k v b hi=>?_⟩
   obtain ⟨q1,q2,e,q3,q4,q5,q6⟩:=k3 i k v b hi
   exact ⟨q1,q2,e,q3,q4,hm _ _ q5,hm _ _ q6⟩
 | bld tb ty bs =>
   obtain ⟨c,fr,cap,o,a,k1,k2⟩:=hb
   obtain ⟨k2,k3,k4,k5,k6,k7,k8,k9,k10⟩:=k2
   refine ⟨c,fr,cap,o,a,by rw [hk _ (.inl rfl)]; exact k1,k2,k3,k4,k5,k6,k7,k8,k9,fun h0=>?_⟩
   obtain ⟨q1,q2,q3,cb,fb,q4,q5⟩:=k10 h0
   exact ⟨q1,q2,q3,cb,fb,by rw [hk _ (.inr rfl)]; exact q4,q5⟩
theorem Good.junk {w':World} (h:Good P D n s G a w) (hb:Below w.heap.size w w') (hlt:w.heap.size<w'.heap.size):Good P (fun x=>D x∨x=w.heap.size) n s G a w':=by
 have hm:∀ x v,Rep G (Dp D s.L G) w x v→Rep G (Dp (fun x=>D x∨x=w.heap.size) s.L G) w' x v:=fun x v hr =>
  hr.mono G.le_refl (fun b hb hn hd=>by
   rcases hd with (h1 | h1) | h1
   ·exact hn (.inl h1)
   ·omega
   ·exact hn (.inr h1)) ⟨hb.size,fun x hx _=>hb.block x hx⟩
 refine ⟨h.size,h.defers,fun t=>hm _ _ (h.env t),h.hp.fin,fun i b hi=>?_,h.hp.apart,fun x hx=>?_,fun x hx=>?_,?_⟩
 ·obtain ⟨g,h1,h2⟩:=h.hp.blk i b hi
  exact ⟨g,h1,h2.mapR hm fun x hx=>hb.block x (h.hp.away x ⟨i,b,g,hi,h1,hx⟩).1⟩
 ·obtain ⟨h1,h2⟩:=h.hp.away x hx
  exact ⟨Nat.lt_of_lt_of_le h1 hb.size,fun h3=>h3.elim h2 fun e=>by omega⟩
 ·rcases hx with hx | rfl
  ·exact Nat.lt_of_lt_of_le (h.hp.dlt x hx) hb.size
  ·exact hlt
 ·have h1:=h.hp.gl.nxt (L':=s.L) (G':=G) (w':=w') ⟨G.le_refl,⟨hb.size,fun x hx _=>hb.block x hx⟩,fun _ _ h=>h,hb.os,hb.tape,hb.output⟩
  refine ⟨h1.1,h1.2.1,fun x vs hx=>?_⟩
  obtain ⟨h2,h3⟩:=h1.2.2 x vs hx
  refine ⟨h2,fun h4=>h4.elim h3 fun e=>?_⟩
  have:=(h.hp.gl.2.1 x vs hx).1
  omega
theorem Good.unhide {id d ty b:Nat} {g:GB} {z:List V} (h:Good P (fun x=>D x∨x=b) n s G a w) (hv:a.tmps.getD d undef=.pointer (some ⟨b,0,none⟩)) (hgb:g.blk=b) (hgo:g.off=0) (hid:id<s.nx+n) (hG:G id=none)
 (hz:∀ x,x∈z→x.flat1=true) (hok:BlkOk G (Dp (fun x=>D x∨x=b) s.L G) w g (.box ty z)) (hnD:¬ D b) (hnG:∀ x,gint P x→x≠b) :
 Good P D n ⟨upd s.env d (.ptr id 0),upd s.L id (some (.box ty z)),s.nx⟩ (upd G id (some g)) a w:=by
 subst hgb
 have hLn:s.L id=none:=by
  cases hl:s.L id with
  | none=>rfl
  | some b' =>
    obtain ⟨g',h1,_⟩:=h.hp.blk id b' hl
    rw [hG] at h1; cases h1
 have hle:G.le (upd G id (some g)):=fun i gi hi=>by
  by_cases e:i=id
  ·subst e
   rw [hG] at hi; cases hi
  ·exact ⟨gi.aux,by rw [aAe _ _ _ _ e]; exact hi⟩
 have hGn:∀ i,i≠id→upd G id (some g) i=G i:=fun i e=>aAe _ _ _ _ e
 have ownE:∀ x,Own (upd s.L id (some (.box ty z))) (upd G id (some g)) x↔Own s.L G x∨x=g.blk:=by
  intro x
  constructor
  ·rintro ⟨i,b,gi,h1,h2,h3⟩
   by_cases e:i=id
   ·subst e
    rw [aAf] at h1 h2; cases h1; cases h2
    exact .inr h3
   ·rw [aAe _ _ _ _ e] at h1 h2
    exact .inl ⟨i,b,gi,h1,h2,h3⟩
  ·rintro (⟨i,b,gi,h1,h2,h3⟩ | rfl)
   ·have e:i≠id:=by rintro rfl; rw [hLn] at h1; cases h1
    exact ⟨i,b,gi,by rw [aAe _ _ _ _ e]; exact h1,by rw [aAe _ _ _ _ e]; exact h2,h3⟩
   ·exact ⟨id,_,g,aAf _ _ _,aAf _ _ _,rfl⟩
 have hD:Dp D (upd s.L id (some (.box ty z))) (upd G id (some g))=Dp (fun x=>D x∨x=g.blk) s.L G:=by
  funext x
  apply propext
  simp only [Dp,ownE]
  constructor
  ·rintro (h1 | h1 | h1)
   ·exact .inl (.inl h1)
   ·exact .inr h1
   ·exact .inl (.inr h1)
  ·rintro ((h1 | h1) | h1)
   ·exact .inl h1
   ·exact .inr (.inr h1)
   ·exact .inr (.inl h1)
 have hrep:∀ x v,Rep G (Dp (fun x=>D x∨x=g.blk) s.L G) w x v→Rep (upd G id (some g)) (Dp (fun x=>D x∨x=g.blk) s.L G) w x v:=fun x v hr=>hr.mono hle (fun _ _ h=>h) (Same.refl _ _)
 have hnO:¬ Own s.L G g.blk:=fun ho=>(h.hp.away _ ho).2 (.inr rfl)
 refine ⟨h.size,h.defers,fun t=>?_,fun i hi=>?_,fun i b hb=>?_,fun i i' b b' gi gi' x h1 h2 h3 h4 hne h5 h6=>?_,fun x hx=>?_,fun x hx=>h.hp.dlt x (.inl hx),?_⟩
 ·show Rep (upd G id (some g)) (Dp D (upd s.L id (some (.box ty z))) (upd G id (some g))) w _ _
  rw [hD]
  by_cases e:t=d
  ·subst e
   simp only [aAf,hv]
   have:=Rep.ptr (G:=upd G id (some g)) (D:=Dp (fun x=>D x∨x=g.blk) s.L G) (w:=w) id 0 g (aAf _ _ _)
   rw [hgo] at this
   exact this
  ·simp only [aAe _ _ _ _ e]
   exact hrep _ _ (h.env t)
 ·have:i≠id:=by show i≠id; intro e; subst e; exact absurd hi (Nat.not_le.2 hid)
  rw [hGn i this]
  exact h.hp.fin i hi
 ·show ∃ gi,upd G id (some g) i=some gi∧BlkOk (upd G id (some g)) (Dp D (upd s.L id (some (.box ty z))) (upd G id (some g))) w gi b
  rw [hD]
  by_cases e:i=id
  ·subst e
   replace hb:upd s.L i (some (.box ty z)) i=some b:=hb
   rw [aAf] at hb; cases hb
   refine ⟨g,aAf _ _ _,?_⟩
   obtain ⟨c,ty',fr,k1,k2,k3,k4,k5⟩:=hok
   exact ⟨c,ty',fr,k1,k2,k3,k4,fun i x hx=>(k5 i x hx).flat1 (hz x (mem_of_getElem? hx)) _ _ _⟩
  ·replace hb:upd s.L id (some (.box ty z)) i=some b:=hb
   rw [aAe _ _ _ _ e] at hb
   obtain ⟨gi,h1,h2⟩:=h.hp.blk i b hb
   refine ⟨gi,by rw [hGn i e]; exact h1,?_⟩
   exact h2.mapR (fun x v hr=>hrep x v hr) fun _ _=>rfl
 ·replace h1:upd s.L id (some (.box ty z)) i=some b:=h1
  replace h2:upd s.L id (some (.box ty z)) i'=some b':=h2
  by_cases e:i=id
  ·subst e
   have e':i'≠i:=fun e'=>hne e'.symm
   rw [aAf] at h1 h3; cases h1; cases h3
   rw [aAe _ _ _ _ e'] at h2 h4
   simp only [Occ] at h5
   subst h5
   exact hnO ⟨i',b',gi',h2,h4,h6⟩
  ·rw [aAe _ _ _ _ e] at h1 h3
   by_cases e':i'=id
   ·subst e'
    rw [aAf] at h2 h4; cases h2; cases h4
    simp only [Occ] at h6
    subst h6
    exact hnO ⟨i,b,gi,h1,h3,h5⟩
   ·rw [aAe _ _ _ _ e'] at h2 h4
    exact h.hp.apart i i' b b' gi gi' x h1 h2 h3 h4 hne h5 h6
 ·rcases (ownE x).1 hx with h1 | rfl
  ·obtain ⟨h2,h3⟩:=h.hp.away x h1
   exact ⟨h2,fun h4=>h3 (.inl h4)⟩
  ·exact ⟨h.hp.dlt _ (.inr rfl),hnD⟩
 ·refine ⟨fun x hx=>?_,h.hp.gl.2.1,fun x vs hx=>?_⟩
  ·obtain ⟨h1,h2,h3⟩:=h.hp.gl.1 x hx
   refine ⟨h1,fun h4=>?_,h3⟩
   rcases (ownE x).1 h4 with h5 | rfl
   ·exact h2 h5
   ·exact hnG _ hx rfl
  ·obtain ⟨h1,h2⟩:=h.hp.gl.2.2 x vs hx
   refine ⟨fun h4=>?_,fun h4=>h2 (.inl h4)⟩
   rcases (ownE x).1 h4 with h5 | rfl
   ·exact h1 h5
   ·exact h2 (.inr rfl)
end
end Go.Ab
namespace Go.Ab
open Go.RowKit
section
variable {P:Program} {D:Nat→Prop} {n:Nat} {hint:Nat→Nat} {ops:Array Oper} {s:St} {G:Ghost} {a:Act} {w:World} {K:St→Prop} {Q:Exit→Act→World→Prop}
theorem aO7 {G G':Ghost} {D D':Nat→Prop} {w w':World} {g:GB} {e:Nat} {z:List V} (hz:z.all V.flat1=true) (h:BlkOk G D w g (.box e z)) (hk:w'.heap[g.blk]?=w.heap[g.blk]?):BlkOk G' D' w' g (.box e z):=by
 obtain ⟨c,ty',fr,k1,k2,k3,k4,k5⟩:=h
 exact ⟨c,ty',fr,by rw [hk]; exact k1,k2,k3,k4,fun i x hx=>(k5 i x hx).flat1 (List.all_eq_true.1 hz x (mem_of_getElem? hx)) _ _ _⟩
theorem aXm {i d e:Nat} {o:Oper} {z:List V} {next:Act→World→Prop} (ho:ops[i]?=some o) (hx:aG7 P n hint ops o=some ⟨none,.alloc d e z⟩) (hop:∃ e',o.op=.alloc e') (hg:Good P D n s G a w)
 (hn:∀ a' w',Good P (fun x=>D x∨x=w.heap.size) n (s.set d (.raw (.pointer (some ⟨w.heap.size,0,none⟩)))) G a' w'→Below w.heap.size w w'→a'.tmps.getD d undef=.pointer (some ⟨w.heap.size,0,none⟩) →
  (∀ G' D',BlkOk G' D' w' ⟨w.heap.size,0,0,0,0⟩ (.box e z))→d<n→next a' w'):wpOp P ops Q i next a w:=by
 obtain ⟨hd,hgd,hi,hdst⟩:=aK9 hx
 obtain ⟨e',hop⟩:=hop
 have hgo:o.guard=none:=by
  cases hgo:o.guard with
  | none=>rfl
  | some jw =>
    obtain ⟨j,wt⟩:=jw
    rw [hgo] at hgd
    simp only [lowG] at hgd
    split at hgd
    ·split at hgd <;> simp at hgd
    ·simp at hgd
 simp only [lowX,lowE,lowI,hop] at hi
 split at hi
 ·rename_i d' z' h1 h2
  simp only [Option.some.injEq,I.alloc.injEq] at hi
  obtain ⟨rfl,rfl,rfl⟩:=hi
  have hdn:d'<n:=by rw [h1] at hd; simpa [aA4] using hd
  obtain ⟨zv,_,hrun,hrep⟩:=aEq h2 G (Dp D s.L G) w
  have run:(execOp a.eval o).run P w=.ok (.value (.pointer (some ⟨w.heap.size,0,none⟩))) (w.alloc (.cells zv.cells e')):=by
   simp only [execOp,hop,aDl,Instr.alloc,Sem.run_bind,hrun,Result.andThen_ok]
   simp [newVar,newRow]
  simp only [wpOp,ho,Region.wanted,hgo,if_true]
  refine .inl ?_
  show o.upon P a next Q ((execOp a.eval o).run P w)
  rw [run]
  simp only [Oper.upon,h1]
  have hb:=aBs w (.cells zv.cells e')
  have hj:=hg.junk hb (by rw [aBq]; omega)
  have g3:=hj.put (d:=some d') (x:=.raw (.pointer (some ⟨w.heap.size,0,none⟩))) (v:=.pointer (some ⟨w.heap.size,0,none⟩)) (by simpa [aA4] using hdn) (.raw _)
  refine hn _ _ g3 hb ?_ (fun G' D'=>?_) hdn
  ·have hs:d'<a.tmps.size:=by rw [hg.size]; exact hdn
   simp [Act.put,Array.getD_eq_getD_getElem?,hs]
  ·obtain ⟨zv2,_,hrun2,hrep2⟩:=aEq h2 G' D' (w.alloc (.cells zv.cells e'))
   have hzz:zv2=zv:=by
    obtain ⟨i1,p1,p2⟩:=‹∃ i,P.info? e'=some i∧i.zero=some zv›
    obtain ⟨i2,p3,p4⟩:=‹∃ i,P.info? e'=some i∧i.zero=some zv2›
    rw [p1] at p3; cases p3
    rw [p2] at p4; cases p4; rfl
   subst hzz
   exact ⟨_,_,_,aA0 _ _,⟨hrep2.1.symm,rfl⟩,rfl,fun i _=>(by simp),fun i x hx=>hrep2.2 i x hx⟩
 ·simp at hi
def remP (ops:Array Oper) (listed:Array Bool) (q:Nat→Bool):List Nat:=(List.range ops.size).filter fun j=>!listed.getD j true&&q j
theorem bF0 {listed:Array Bool} (m:Nat):(remP ops listed fun j=>decide (j<m)).length+(remP ops listed fun j=>decide (m≤j)).length=(aCr ops listed).length:=by
 have key:∀ (f:Nat→Bool) (l:List Nat),(l.filter fun j=>!f j&&decide (j<m)).length+(l.filter fun j=>!f j&&decide (m≤j)).length=(l.filter fun j=>!f j).length:=by
  intro f l
  induction l with
  | nil=>rfl
  | cons x r ih =>
    cases h1:f x
    ·by_cases h2:x<m
     ·have h3:¬ m≤x:=by omega
      rw [List.filter_cons_of_pos (by simp [h1,h2]),List.filter_cons_of_neg (by simp [h1,h3]),List.filter_cons_of_pos (by simp [h1])]
      simp only [List.length_cons]; omega
     ·have h3:m≤x:=by omega
      rw [List.filter_cons_of_neg (by simp [h1,h2]),List.filter_cons_of_pos (by simp [h1,h3]),List.filter_cons_of_pos (by simp [h1])]
      simp only [List.length_cons]; omega
    ·rw [List.filter_cons_of_neg (by simp [h1]),List.filter_cons_of_neg (by simp [h1]),List.filter_cons_of_neg (by simp [h1])]
     exact ih
 exact key _ _
theorem aIm {listed:Array Bool} {q:Nat→Bool} {j:Nat}:j∈remP ops listed q↔j<ops.size∧listed.getD j true=false∧q j=true:=by
 simp [remP,and_assoc]
theorem aMr {listed:Array Bool} {q:Nat→Bool} {i:Nat} (hi:q i=false):remP ops (listed.setIfInBounds i true) q=remP ops listed q:=by
 refine List.filter_congr fun j hj=>?_
 by_cases e:j=i
 ·subst e; simp [hi]
 ·rw [getD_set_ne true (Ne.symm e)]
theorem bDv (he:aHp ops=true) {listed:Array Bool} (hsz:listed.size=ops.size) (hnil:Region.ready .any ops listed=[]):aCr ops listed=[]:=by
 cases hr:aCr ops listed with
 | nil=>rfl
 | cons x xs =>
   exfalso
   have hx:x∈aCr ops listed:=by rw [hr]; simp
   have hx1:x<ops.size∧listed.getD x true=false:=by
    simp only [aCr,List.mem_filter,List.mem_range,Bool.not_eq_true'] at hx
    exact hx
   have hmin:∀ y,y<x→y<ops.size→listed.getD y true=true:=by
    intro y hy hys
    have hpw:(aCr ops listed).Pairwise (·<·):=List.Pairwise.filter _ List.pairwise_lt_range
    cases hly:listed.getD y true with
    | true=>rfl
    | false =>
      have hm:y∈aCr ops listed:=by
       simp only [aCr,List.mem_filter,List.mem_range,Bool.not_eq_true']
       exact ⟨hys,hly⟩
      rw [hr] at hm hpw
      rcases List.mem_cons.1 hm with e | hm
      ·omega
      ·have:=List.rel_of_pairwise_cons hpw hm
       omega
   have hmem:x∈Region.ready .any ops listed:=by
    rw [mem_ready]
    refine ⟨hx1.2,ops[x]'hx1.1,Array.getElem?_eq_getElem hx1.1,fun e hme hb=>?_⟩
    have hlt:e.on<x:=by
     simp only [aHp,List.all_eq_true,List.mem_range] at he
     have:=he x hx1.1
     rw [Array.getElem?_eq_getElem hx1.1] at this
     simp only [Option.map_some,Option.getD_some,List.all_eq_true] at this
     have:=this e (Array.mem_toList_iff.2 hme)
     simpa [hb] using this
    have:=hmin e.on hlt (by omega)
    rwa [aBb (by omega)] at this
   rw [hnil] at hmem
   cases hmem
structure Pend (P:Program) (D:Nat→Prop) (n:Nat) (l:List GI) (m:Nat) (listed:Array Bool) (w0:World) (s:St) (G:Ghost) (a:Act) (w:World) (b d e:Nat) (z:List V):Prop where
 at_:l.getD m default=⟨none,.alloc d e z⟩
 done:listed.getD m false=true
 flat:z.all V.flat1=true
 dn:d<n
 env:s.env d=.raw (.pointer (some ⟨b,0,none⟩))
 ok:BlkOk G (Dp D s.L G) w ⟨b,0,0,0,0⟩ (.box e z)
 nD:¬ D b
 nG:∀ x,gint P x→x≠b
 new:w0.heap.size≤b
 free:G (s.nx+d)=none
 ap:∀ j,j<m→(l.getD j default).reads.contains d=false∧(l.getD j default).i.dst.toList.contains d=false
def Dq (D:Nat→Prop):Option Nat→Nat→Prop
 | none=>D
 | some b=>fun x=>D x∨x=b
def bOs (P:Program) (D:Nat→Prop) (n:Nat) (l:List GI) (m:Nat) (listed:Array Bool) (w0:World) (s:St) (G:Ghost) (a:Act) (w:World):Option Nat→Prop
 | none=>True
 | some b=>∃ d e z,Pend P D n l m listed w0 s G a w b d e z
def pl (l:List GI) (m:Nat):Option Nat→List GI
 | none=>[]
 | some _=>[l.getD m default]
theorem bQw {v u:Value} (h:Rep G D w (.raw v) u):u=v:=by cases h; rfl
theorem Pend.name {l:List GI} {m b d e:Nat} {listed:Array Bool} {w0:World} {z:List V} {L0:Heap} {G0:Ghost} (h:Pend P D n l m listed w0 s G a w b d e z) (hg:Good P (fun x=>D x∨x=b) n s G a w) (hx:Nxt L0 G0 w0 s.L G w) :
 Good P D n ((s.add (s.nx+d) (.box e z)).set d (.ptr (s.nx+d) 0)) (upd G (s.nx+d) (some ⟨b,0,0,0,0⟩)) a w∧Nxt L0 G0 w0 (upd s.L (s.nx+d) (some (.box e z))) (upd G (s.nx+d) (some ⟨b,0,0,0,0⟩)) w:=by
 have hv:a.tmps.getD d undef=.pointer (some ⟨b,0,none⟩):=by
  have:=hg.env d
  rw [h.env] at this
  exact bQw this
 have h1:=hg.unhide (id:=s.nx+d) (ty:=e) (g:=⟨b,0,0,0,0⟩) (z:=z) hv rfl rfl (by have:=h.dn; omega) h.free (fun x hx=>List.all_eq_true.1 h.flat x hx) (aO7 h.flat h.ok rfl) h.nD h.nG
 refine ⟨h1,⟨Ghost.le_trans hx.le fun i gi hi=>?_,hx.same,fun x hxs ho=>?_,hx.os,hx.tape,hx.output⟩⟩
 ·have e:i≠s.nx+d:=by rintro rfl; rw [h.free] at hi; cases hi
  exact ⟨gi.aux,by rw [aAe _ _ _ _ e]; exact hi⟩
 ·obtain ⟨i,bi,gi,h2,h3,h4⟩:=ho
  by_cases e:i=s.nx+d
  ·subst e
   rw [aAf] at h2 h3; cases h2; cases h3
   have:=h.new
   simp only [Occ] at h4
   omega
  ·rw [aAe _ _ _ _ e] at h2 h3
   exact hx.own x hxs ⟨i,bi,gi,h2,h3,h4⟩
theorem bAx (x:GI):(mks [x]).Nodup:=by
 cases h:x.i.mk <;> simp [mks,h]
theorem aRa {x:GI} {xs:List GI} (h:mks xs=[]):mks (x::xs)=mks [x]:=by
 simp only [mks,List.filterMap_cons,List.filterMap_nil] at h ⊢
 rw [h]
theorem aYy {xs:List GI} (h:∀ x,x∈xs→x.i.rank=0):mks xs=[]:=by
 simp only [mks,List.filterMap_eq_nil_iff]
 exact fun x hxm=>aLv (by rw [h x hxm]; omega)
theorem aTb {l:List GI} {i:Nat} (h:i<aAn l):(l.getD i default).core=true∧i<l.length:=by
 unfold aAn at h
 cases hf:l.findIdx? fun x=>!x.core with
 | none =>
   rw [hf] at h
   have hi:i<l.length:=h
   have:=List.findIdx?_eq_none_iff.1 hf _ (List.getElem_mem hi)
   rw [List.getD_eq_getElem?_getD,List.getElem?_eq_getElem hi]
   exact ⟨by simpa using this,hi⟩
 | some j =>
   rw [hf] at h
   have hj:i<j:=h
   obtain ⟨h1,h2,h3⟩:=List.findIdx?_eq_some_iff_getElem.1 hf
   have hi:i<l.length:=by omega
   have:=h3 i hj
   rw [List.getD_eq_getElem?_getD,List.getElem?_eq_getElem hi]
   exact ⟨by simpa using this,hi⟩
theorem aZt {l1 r:List GI} {d e:Nat} {z:List V} {u:Value} (h1:∀ x,x∈l1→x.i.constOk=true∧x.core=true∧(x.reads.contains d=false∧x.i.dst.toList.contains d=false)) (h:aops P (l1++⟨none,.alloc d e z⟩::r) s K) :
 aops P (l1++⟨none,.alloc d e z⟩::r) (s.set d (.raw u)) K:=by
 have key:∀ (l1:List GI) (s:St),aops P (l1++⟨none,.alloc d e z⟩::r) s K→aops P (l1++(⟨none,.mov (some d) (.k (.raw u))⟩::⟨none,.alloc d e z⟩::r)) s K:=by
  intro l1
  induction l1 with
  | nil =>
    intro s h
    have e1:((s.set d (.raw u)).add ((s.set d (.raw u)).nx+d) (.box e z)).set d (.ptr ((s.set d (.raw u)).nx+d) 0)=(s.add (s.nx+d) (.box e z)).set d (.ptr (s.nx+d) 0):=by
     simp only [St.set,St.add]
     congr 1
     funext t
     by_cases ht:t=d
     ·subst ht; simp [upd]
     ·simp [upd,ht]
    have h2:aops P r ((s.add (s.nx+d) (.box e z)).set d (.ptr (s.nx+d) 0)) K:=h
    show aops P r (((s.set d (.raw u)).add ((s.set d (.raw u)).nx+d) (.box e z)).set d (.ptr ((s.set d (.raw u)).nx+d) 0)) K
    rw [e1]; exact h2
  | cons x xs ih=>exact fun s h=>aDq h fun s' h'=>ih s' h'
 have h2:=key l1 s h
 exact aUg l1 s ⟨none,.mov (some d) (.k (.raw u))⟩ _ (fun x hx=>by
  obtain ⟨c1,c2,c3,c4⟩:=h1 x hx
  refine ⟨c1,?_⟩
  have r1:disj x.i.dst.toList (⟨none,.mov (some d) (.k (.raw u))⟩:GI).reads=true:=by
   simp [disj,GI.reads,I.reads,I.srcs,srcT]
  have r2:disj (I.mov (some d) (.k (.raw u))).dst.toList x.reads=true:=by
   simp only [disj,I.dst,Option.toList_some,List.all_cons,List.all_nil,c3]; rfl
  have r3:disj x.i.dst.toList (I.mov (some d) (.k (.raw u))).dst.toList=true:=by
   show disj x.i.dst.toList [d]=true
   generalize x.i.dst.toList=q at c4
   simp only [disj,List.all_eq_true,Bool.not_eq_true']
   intro t ht
   cases hc:[d].contains t with
   | false=>rfl
   | true =>
     have:t=d:=by simpa using hc
     subst this
     rw [List.contains_iff_mem.2 ht] at c4
     cases c4
  simp only [GI.indep,r1,r2,r3,Bool.true_and,Bool.and_eq_true,Bool.or_eq_true,Bool.not_eq_true',I.rank,I.ang]
  simp) rfl rfl h2
end
end Go.Ab
namespace Go.Ab
open Go.RowKit
section
variable {P:Program} {D:Nat→Prop} {n:Nat} {hint:Nat→Nat} {ops:Array Oper} {s:St} {G:Ghost} {a:Act} {w:World} {K:St→Prop} {Q:Exit→Act→World→Prop}
theorem bKq {l:List GI} (hl':∀ i o,ops[i]?=some o→aG7 P n hint ops o=some (l.getD i default)) (hl:l.length=ops.size) (ho:aVp ops (aQx ops) l=true) (he:aHp ops=true) (hc:l.all (·.i.constOk)=true) {L0:Heap} {G0:Ghost} {w0:World} :
 ∀ (fuel t:Nat) (listed:Array Bool) (s:St) (G:Ghost) (a:Act) (w:World) (pd:Option Nat),listed.size=ops.size→(aCr ops listed).length≤fuel →
   (∀ k o,listed.getD k false=true→ops[k]?=some o→∀ e,e∈o.after→Region.binds .any e=true→listed.getD e.on false=true) →
   Good P (Dq D pd) n s G a w→Nxt L0 G0 w0 s.L G w→(∀ x,x∈at_ l (remP ops listed fun j=>decide (aAn l≤j))→∀ d,x.i.mk=some d→G (s.nx+d)=none) →
   (mks (pl l (aAn l) pd++at_ l (remP ops listed fun j=>decide (aAn l≤j)))).Nodup→bOs P D n l (aAn l) listed w0 s G a w pd →
   aops P (at_ l (remP ops listed fun j=>decide (j<aAn l))++(pl l (aAn l) pd++at_ l (remP ops listed fun j=>decide (aAn l≤j)))) s K →
   (∀ s' G' a' w',K s'→Good P D n s' G' a' w'→Nxt L0 G0 w0 s'.L G' w'→Q .normal a' w')→wpOps P ops Q (Region.linearise.go .any ops fuel t listed []) a w:=by
 have constOf:∀ i,i<ops.size→(l.getD i default).i.constOk=true:=fun i hi=>by
  have:i<l.length:=by omega
  rw [List.getD_eq_getElem?_getD,List.getElem?_eq_getElem this]
  exact List.all_eq_true.1 hc _ (List.getElem_mem _)
 have getOf:∀ i,i<ops.size→l[i]?=some (l.getD i default):=fun i hi=>by
  rw [List.getD_eq_getElem?_getD,List.getElem?_eq_getElem (show i<l.length by omega)]; rfl
 simp only [aVp,Bool.and_eq_true,List.all_eq_true,List.mem_range,Bool.or_eq_true] at ho
 obtain ⟨ho1,ho2⟩:=ho
 -- nothing is left
 have fin:∀ (listed:Array Bool) (s:St) (G:Ghost) (a:Act) (w:World) (pd:Option Nat),aCr ops listed=[]→Good P (Dq D pd) n s G a w→Nxt L0 G0 w0 s.L G w→bOs P D n l (aAn l) listed w0 s G a w pd →
  aops P (at_ l (remP ops listed fun j=>decide (j<aAn l))++(pl l (aAn l) pd++at_ l (remP ops listed fun j=>decide (aAn l≤j)))) s K →
  (∀ s' G' a' w',K s'→Good P D n s' G' a' w'→Nxt L0 G0 w0 s'.L G' w'→Q .normal a' w')→Q .normal a w:=by
  intro listed s G a w pd hrem hg hx hp h hn
  have hlen:=bF0 (ops:=ops) (listed:=listed) (aAn l)
  rw [hrem,List.length_nil] at hlen
  have hA:(remP ops listed fun j=>decide (j<aAn l))=[]:=List.length_eq_zero_iff.1 (by omega)
  have hB:(remP ops listed fun j=>decide (aAn l≤j))=[]:=List.length_eq_zero_iff.1 (by omega)
  rw [hA,hB] at h
  cases pd with
  | none=>exact hn s G a w h hg hx
  | some b =>
    obtain ⟨d,e,z,hp⟩:=hp
    have h:aops P [l.getD (aAn l) default] s K:=h
    rw [hp.at_] at h
    have h:K ((s.add (s.nx+d) (.box e z)).set d (.ptr (s.nx+d) 0)):=h
    obtain ⟨g1,x1⟩:=hp.name hg hx
    exact hn _ _ _ _ h g1 x1
 intro fuel
 induction fuel with
 | zero =>
   intro t listed s G a w pd hsz hf hcl hg hx hfr hnd hp h hn
   have hrem:aCr ops listed=[]:=List.length_eq_zero_iff.1 (by omega)
   simp only [Region.linearise.go,List.reverse_nil,wpOps]
   exact fin listed s G a w pd hrem hg hx hp h hn
 | succ fuel ih =>
   intro t listed s G a w pd hsz hf hcl hg hx hfr hnd hp h hn
   simp only [Region.linearise.go]
   change wpOps P ops Q (match (Region.ready .any ops listed)[t % (Region.ready .any ops listed).length]? with
    | some i=>Region.linearise.go .any ops fuel (t / (Region.ready .any ops listed).length) (listed.setIfInBounds i true) [i]
    | none=>[].reverse) a w
   cases hi:(Region.ready .any ops listed)[t % (Region.ready .any ops listed).length]? with
   | none =>
     have hnil:Region.ready .any ops listed=[]:=by
      cases hr:Region.ready .any ops listed with
      | nil=>rfl
      | cons x xs =>
        rw [hr] at hi
        have hlt:t % (x::xs).length<(x::xs).length:=Nat.mod_lt _ (by simp)
        simp at hi
        simp at hlt
        omega
     have hrem:=bDv he hsz hnil
     simp only [List.reverse_nil,wpOps]
     exact fin listed s G a w pd hrem hg hx hp h hn
   | some i =>
     simp only []
     rw [linearise_go_acc,List.reverse_singleton,List.singleton_append,wpOps_cons]
     have hmem:=List.mem_of_getElem? hi
     obtain ⟨hun,o,ho',hall⟩:=mem_ready.1 hmem
     have his:i<ops.size:=(Array.getElem?_eq_some_iff.1 ho').1
     have hun':listed.getD i false=false:=by rw [← aBb (by omega)]; exact hun
     have hremL:(aCr ops (listed.setIfInBounds i true)).length≤fuel:=by
      obtain ⟨p,b,h1,h2,h3⟩:=aD8 (p:=fun j=>!listed.getD j true) (q:=fun j=>!(listed.setIfInBounds i true).getD j true) (List.range ops.size) List.pairwise_lt_range (List.mem_range.2 his) (by simp only [hun]; rfl)
       (fun j hj=>by rw [getD_set_ne true (Ne.symm hj)]) (by simp [hsz,his])
      have hra:aCr ops listed=p++i::b:=h1
      have hrb:aCr ops (listed.setIfInBounds i true)=p++b:=h2
      rw [hra] at hf
      rw [hrb]
      simp only [List.length_append,List.length_cons] at hf ⊢
      omega
     have hcl':∀ k o,(listed.setIfInBounds i true).getD k false=true→ops[k]?=some o→∀ e,e∈o.after→Region.binds .any e=true→(listed.setIfInBounds i true).getD e.on false=true:=fun k o hk hko e hm hbb=>by
      by_cases e1:k=i
      ·subst e1
       rw [ho'] at hko
       obtain rfl:=Option.some.inj hko
       exact getD_set_true (hall e hm hbb)
      ·rw [getD_set_ne false (Ne.symm e1)] at hk
       exact getD_set_true (hcl k o hk hko e hm hbb)
     have hbef:∀ j,aQx ops j i=true→listed.getD j false=true:=fun j hb=>aIh (S:=fun k=>listed.getD k false=true) (fun k o hk hko e hm hbb=>hcl k o hk hko e hm hbb) ho' hall hb
     by_cases him:i<aAn l
     ·-- one of the first part
      obtain ⟨p,b,h1,h2,h3⟩:=aD8 (p:=fun j=>!listed.getD j true&&decide (j<aAn l)) (q:=fun j=>!(listed.setIfInBounds i true).getD j true&&decide (j<aAn l)) (List.range ops.size) List.pairwise_lt_range (List.mem_range.2 his) (by simp only [hun,him]; rfl)
       (fun j hj=>by rw [getD_set_ne true (Ne.symm hj)]) (by simp [hsz,his])
      have hra:(remP ops listed fun j=>decide (j<aAn l))=p++i::b:=h1
      have hrb:(remP ops (listed.setIfInBounds i true) fun j=>decide (j<aAn l))=p++b:=h2
      have hrB:(remP ops (listed.setIfInBounds i true) fun j=>decide (aAn l≤j))=remP ops listed fun j=>decide (aAn l≤j):=aMr (by simpa using him)
      have ham:∀ j,j∈p→j<i∧listed.getD j false=false:=fun j hj=>by
       have hm:j∈remP ops listed fun j=>decide (j<aAn l):=by rw [hra]; simp [hj]
       obtain ⟨q1,q2,q3⟩:=aIm.1 hm
       exact ⟨h3 j hj,by rw [← aBb (by omega)]; exact q2⟩
      have hind:∀ x,x∈at_ l p→x.i.constOk=true∧x.core=true∧x.indepL (l.getD i default)=true:=by
       intro x hxm
       obtain ⟨j,hj,rfl⟩:=List.mem_map.1 hxm
       obtain ⟨hji,hjl⟩:=ham j hj
       refine ⟨constOf j (by omega),(aTb (by omega)).1,?_⟩
       rcases ho1 i him j hji with hb | hb
       ·rw [hbef j hb] at hjl; cases hjl
       ·rw [getOf j (by omega),getOf i his] at hb
        exact hb
      have hci:=(aTb him).1
      have hmk:=aLn hci
      have hmid:at_ l (p++i::b)=at_ l p++l.getD i default::at_ l b:=by simp [at_]
      rw [hra,hmid,List.append_assoc,List.cons_append] at h
      have hj:=bIr (at_ l p) s (l.getD i default) _ hind (constOf i his) hci h
      change aA1 P (l.getD i default) s (fun s'=>aops P (at_ l p++(at_ l b++_)) s' K) at hj
      have hj2:=aH1 (K1:=fun s'=>aops P (at_ l p++(at_ l b++(pl l (aAn l) pd++at_ l (remP ops listed fun j=>decide (aAn l≤j))))) s' K∧∀ t,(l.getD i default).i.dst≠some t→s'.env t=s.env t) hj fun s' h he=>⟨h,he⟩
      have hab:at_ l (p++b)=at_ l p++at_ l b:=by simp [at_]
      refine aRc ho' (hl' i o ho') hj2 hg (fun s1 G1 a1 w1 k1 g1 x1 n1=>?_) (fun d hd=>by rw [hmk] at hd; cases hd)
      refine ih (t / (Region.ready .any ops listed).length) (listed.setIfInBounds i true) s1 G1 a1 w1 pd (by simp [hsz]) hremL hcl' g1 (hx.trans x1) (by
       rw [hrB]
       intro x hxm d hd
       exact n1.free (hfr x hxm d hd) (by rw [hmk]; simp)) (by rw [hrB]; exact hnd) ?_ (by rw [hrB,hrb,hab,List.append_assoc]; exact k1.1) hn
      cases pd with
      | none=>trivial
      | some bk =>
        obtain ⟨d,e,z,hp⟩:=hp
        have hbO:¬ Own s.L G bk:=fun hO=>(hg.hp.away _ hO).2 (.inr rfl)
        have hbs:bk<w.heap.size:=hg.hp.dlt _ (.inr rfl)
        have hlm:¬ aAn l<aAn l:=Nat.lt_irrefl _
        have hdd:(l.getD i default).i.dst≠some d:=by
         have:=(hp.ap i him).2
         intro hd
         rw [hd] at this
         simp at this
        refine ⟨d,e,z,hp.at_,getD_set_true hp.done,hp.flat,hp.dn,by rw [k1.2 d hdd]; exact hp.env,aO7 hp.flat hp.ok (x1.same.2 _ hbs hbO),hp.nD,hp.nG,hp.new,n1.free hp.free (by rw [hmk]; simp),hp.ap⟩
     ·-- the block,or what follows it
      have hmi:aAn l≤i:=by omega
      have hrA:(remP ops (listed.setIfInBounds i true) fun j=>decide (j<aAn l))=remP ops listed fun j=>decide (j<aAn l):=aMr (by simpa using hmi)
      obtain ⟨p,b,h1,h2,h3⟩:=aD8 (p:=fun j=>!listed.getD j true&&decide (aAn l≤j)) (q:=fun j=>!(listed.setIfInBounds i true).getD j true&&decide (aAn l≤j)) (List.range ops.size) List.pairwise_lt_range (List.mem_range.2 his) (by simp only [hun,hmi]; rfl)
       (fun j hj=>by rw [getD_set_ne true (Ne.symm hj)]) (by simp [hsz,his])
      have hra:(remP ops listed fun j=>decide (aAn l≤j))=p++i::b:=h1
      have hrb:(remP ops (listed.setIfInBounds i true) fun j=>decide (aAn l≤j))=p++b:=h2
      have hpn:∀ j,j∈p→aAn l≤j∧j<i∧listed.getD j false=false:=fun j hj=>by
       have hm:j∈remP ops listed fun j=>decide (aAn l≤j):=by rw [hra]; simp [hj]
       obtain ⟨q1,q2,q3⟩:=aIm.1 hm
       exact ⟨by simpa using q3,h3 j hj,by rw [← aBb (by omega)]; exact q2⟩
      rcases ho2 i (by omega) with ((h5 | ⟨h5,h6⟩) | h5) | ⟨h5,h6⟩
      ·exact absurd (by simpa using h5) him
      ·-- the block
       obtain rfl:i=aAn l:=by simpa using h5
       have hpe:p=[]:=by
        cases hp':p with
        | nil=>rfl
        | cons y ys=>have:=hpn y (by rw [hp']; simp); omega
       subst hpe
       rw [List.nil_append] at hra hrb
       rw [ho',getOf _ his] at h6
       simp only at h6
       obtain ⟨d,e,z,hxe,hz,hcore,hop⟩:∃ d e z,l.getD (aAn l) default=⟨none,.alloc d e z⟩∧z.all V.flat1=true∧(∀ y,y∈l.take (aAn l)→y.reads.contains d=false∧y.i.dst.toList.contains d=false)∧∃ e',o.op=.alloc e':=by
        unfold GI.late at h6
        split at h6
        ·rename_i e1 d1 e2 z1 q1 q2
         simp only [Bool.and_eq_true,List.all_eq_true,Bool.not_eq_true'] at h6
         exact ⟨d1,e2,z1,q2,List.all_eq_true.2 h6.1,h6.2,e1,q1⟩
        ·cases h6
       have hpd:pd=none:=by
        cases pd with
        | none=>rfl
        | some bk =>
          obtain ⟨d,e,z,hp⟩:=hp
          have:=hp.done
          rw [hun'] at this; cases this
       subst hpd
       have hx':=hl' _ o ho'
       rw [hxe] at hx'
       have hfr0:G (s.nx+d)=none:=hfr ⟨none,.alloc d e z⟩ (by rw [hra]; simp only [at_,List.map_cons,hxe]; simp) d rfl
       refine aXm ho' hx' hop hg fun a1 w1 g1 b1 v1 k1 hdn=>?_
       have x1:Nxt s.L G w (s.set d (.raw (.pointer (some ⟨w.heap.size,0,none⟩)))).L G w1:=⟨G.le_refl,⟨b1.size,fun x hx _=>b1.block x hx⟩,fun _ _ h=>h,b1.os,b1.tape,b1.output⟩
       refine ih (t / (Region.ready .any ops listed).length) (listed.setIfInBounds (aAn l) true) _ G a1 w1 (some w.heap.size) (by simp [hsz]) hremL hcl' g1 (hx.trans x1) (by
        rw [hrb]
        intro x hxm d' hd
        exact hfr x (by rw [hra]; simp only [at_,List.map_cons] at hxm ⊢; exact List.mem_cons_of_mem _ hxm) d' hd) (by
        rw [hrb]
        rw [hra] at hnd
        simpa [pl,at_] using hnd) ?_ ?_ hn
       ·have hdl:(listed.setIfInBounds (aAn l) true).getD (aAn l) false=true:=by simp [hsz,his]
        exact ⟨d,e,z,hxe,hdl,hz,hdn,aAf _ _ _,k1 _ _,fun hD=>by have:=hg.hp.dlt _ hD; omega,fun x hx hxe=>by have:=(hg.hp.gl.1 x hx).1; omega,hx.same.1,hfr0,fun j hj=>hcore _ (by
         rw [List.getD_eq_getElem?_getD,List.getElem?_eq_getElem (show j<l.length by omega)]
         exact List.mem_take_iff_getElem.2 ⟨j,by omega,rfl⟩)⟩
       ·rw [hrA,hrb]
        rw [hra] at h
        have e1:at_ l (aAn l::b)=⟨none,.alloc d e z⟩::at_ l b:=by simp only [at_,List.map_cons,hxe]
        simp only [pl,List.nil_append,e1] at h
        simp only [pl,hxe,List.singleton_append]
        refine aZt (fun x hxm=>?_) h
        obtain ⟨j,hj,rfl⟩:=List.mem_map.1 hxm
        obtain ⟨q1,q2,q3⟩:=aIm.1 hj
        have hjm:j<aAn l:=by simpa using q3
        refine ⟨constOf j q1,(aTb hjm).1,hcore _ ?_⟩
        rw [List.getD_eq_getElem?_getD,List.getElem?_eq_getElem (show j<l.length by omega)]
        exact List.mem_take_iff_getElem.2 ⟨j,by omega,rfl⟩
      ·-- what follows
       have hspec:∀ j,j<i→listed.getD j false=false→(l.getD j default).indep (l.getD i default)=true∧(l.getD j default).i.rank=0:=fun j hj hno=>by
        rcases h5 j hj with h7 | h7
        ·rw [hbef j h7] at hno; cases hno
        ·rw [getOf j (by omega),getOf i his] at h7
         simpa using h7
       have hxA:∀ x,x∈at_ l (remP ops listed fun j=>decide (j<aAn l))→∃ j,j<aAn l∧x=l.getD j default∧x.i.constOk=true∧x.indep (l.getD i default)=true∧x.i.rank=0:=fun x hxm=>by
        obtain ⟨j,hj,rfl⟩:=List.mem_map.1 hxm
        obtain ⟨q1,q2,q3⟩:=aIm.1 hj
        have hjm:j<aAn l:=by simpa using q3
        obtain ⟨q4,q5⟩:=hspec j (by omega) (by rw [← aBb (by omega)]; exact q2)
        exact ⟨j,hjm,rfl,constOf j q1,q4,q5⟩
       have hxp:∀ x,x∈at_ l p→x.i.constOk=true∧x.indep (l.getD i default)=true∧x.i.rank=0:=fun x hxm=>by
        obtain ⟨j,hj,rfl⟩:=List.mem_map.1 hxm
        obtain ⟨q1,q2,q3⟩:=hpn j hj
        obtain ⟨q4,q5⟩:=hspec j q2 q3
        exact ⟨constOf j (by omega),q4,q5⟩
       have hxs:∀ x,x∈at_ l (remP ops listed fun j=>decide (j<aAn l))++at_ l p→x.i.constOk=true∧x.indep (l.getD i default)=true∧x.i.rank=0:=fun x hxm=>by
        rcases List.mem_append.1 hxm with hxm | hxm
        ·obtain ⟨j,_,_,q⟩:=hxA x hxm; exact q
        ·exact hxp x hxm
       have e1:at_ l (p++i::b)=at_ l p++l.getD i default::at_ l b:=by simp [at_]
       have e2:at_ l (p++b)=at_ l p++at_ l b:=by simp [at_]
       rw [hra,e1] at h hnd
       have hfr:∀ x,x∈at_ l p++l.getD i default::at_ l b→∀ d,x.i.mk=some d→G (s.nx+d)=none:=by rw [hra,e1] at hfr; exact hfr
       -- the operation goes ahead,then the rest
       have go:∀ (s2:St) (G2:Ghost),Good P D n s2 G2 a w→Nxt L0 G0 w0 s2.L G2 w→(∀ x,x∈at_ l p++l.getD i default::at_ l b→∀ d,x.i.mk=some d→G2 (s2.nx+d)=none)→(mks (at_ l p++l.getD i default::at_ l b)).Nodup →
        aops P ((at_ l (remP ops listed fun j=>decide (j<aAn l))++at_ l p)++l.getD i default::at_ l b) s2 K →
        wpOp P ops Q i (wpOps P ops Q (Region.linearise.go .any ops fuel (t / (Region.ready .any ops listed).length) (listed.setIfInBounds i true) [])) a w:=by
        intro s2 G2 g2 x2 f2 n2 h2
        have hj:=bHe _ s2 _ (l.getD i default) (at_ l b) (fun x hx=>⟨(hxs x hx).1,(hxs x hx).2.1⟩) (constOf i his) g2.sfit (fun x hx d hd hF=>by
         rcases List.mem_cons.1 hx with rfl | hx
         ·rw [f2 _ (by simp) d hd] at hF; simp at hF
         ·rw [aLv (by rw [(hxs x hx).2.2]; omega)] at hd; cases hd)
         (by
          rw [aRa (aYy fun x hx=>(hxs x hx).2.2)]
          exact bAx _) h2
        change aA1 P (l.getD i default) s2 (fun s'=>aops P ((at_ l (remP ops listed fun j=>decide (j<aAn l))++at_ l p)++at_ l b) s' K) at hj
        have hperm:(at_ l p++l.getD i default::at_ l b).Perm (l.getD i default::(at_ l p++at_ l b)):=List.perm_middle
        obtain ⟨n3,n4⟩:=aFh (aG6 hperm n2)
        refine aRc ho' (hl' i o ho') hj g2 (fun s1 G1 a1 w1 k1 g1 x1 n1=>?_) (f2 (l.getD i default) (by simp))
        refine ih (t / (Region.ready .any ops listed).length) (listed.setIfInBounds i true) s1 G1 a1 w1 none (by simp [hsz]) hremL hcl' g1 (x2.trans x1) (by
         rw [hrb,e2]
         intro x hxm d hd
         refine n1.free (f2 x ?_ d hd) fun e=>n4 d e x hxm hd
         rcases List.mem_append.1 hxm with hxm | hxm <;> simp [hxm]) (by rw [hrb,e2]; exact n3) trivial (by
         rw [hrA,hrb,e2]
         simpa only [pl,List.nil_append,List.append_assoc] using k1) hn
       cases pd with
       | none =>
         refine go s G hg hx hfr hnd ?_
         simpa only [pl,List.nil_append,List.append_assoc] using h
       | some bk =>
         obtain ⟨d,e,z,hp⟩:=hp
         simp only [pl,hp.at_] at h hnd
         have hnd:(mks ((⟨none,.alloc d e z⟩:GI)::(at_ l p++l.getD i default::at_ l b))).Nodup:=hnd
         obtain ⟨hnd1,hnd2⟩:=aFh hnd
         obtain ⟨g1,x1⟩:=hp.name hg hx
         have hml:aAn l<ops.size:=by
          rcases Nat.lt_or_ge (aAn l) ops.size with h | h
          ·exact h
          ·have:=hp.done
           rw [Array.getD_eq_getD_getElem?,Array.getElem?_eq_none (by omega)] at this
           cases this
         have hlt:aAn l<i:=by
          rcases Nat.lt_or_ge (aAn l) i with h | h
          ·exact h
          ·obtain rfl:i=aAn l:=by omega
           have:=hp.done
           rw [hun'] at this; cases this
         have hz:aops P ((⟨none,.alloc d e z⟩:GI)::(at_ l (remP ops listed fun j=>decide (j<aAn l))++(at_ l p++l.getD i default::at_ l b))) s K:=by
          refine bHe _ s _ ⟨none,.alloc d e z⟩ _ (fun x hxm=>?_) (by have:=constOf _ hml; rw [hp.at_] at this; exact this) hg.sfit (fun x hxm d' hd hF=>?_) ?_ (by simpa only [List.singleton_append,List.append_assoc] using h)
          ·obtain ⟨j,hj,rfl,c1,c2,c3⟩:=hxA x hxm
           refine ⟨c1,?_⟩
           have hlate:=hp.ap j hj
           have r1:disj (l.getD j default).i.dst.toList (⟨none,.alloc d e z⟩:GI).reads=true:=by
            simp [disj,GI.reads,I.reads,I.srcs]
           have r2:disj (I.alloc d e z).dst.toList (l.getD j default).reads=true:=by
            simp only [disj,I.dst,Option.toList_some,List.all_cons,List.all_nil,hlate.1]; rfl
           have r3:disj (l.getD j default).i.dst.toList (I.alloc d e z).dst.toList=true:=by
            show disj (l.getD j default).i.dst.toList [d]=true
            have c4:=hlate.2
            generalize (l.getD j default).i.dst.toList=q at c4
            simp only [disj,List.all_eq_true,Bool.not_eq_true']
            intro t ht
            cases hc:[d].contains t with
            | false=>rfl
            | true =>
              have:t=d:=by simpa using hc
              subst this
              rw [List.contains_iff_mem.2 ht] at c4
              cases c4
           have hz2:(I.alloc d e z).rank=2:=rfl
           simp only [GI.indep,r1,r2,r3,c3,hz2]
           simp
          ·rcases List.mem_cons.1 hxm with rfl | hxm
           ·cases hd
            rw [hp.free] at hF; simp at hF
           ·obtain ⟨j,hj,rfl,c1,c2,c3⟩:=hxA x hxm
            rw [aLv (by rw [c3]; omega)] at hd; cases hd
          ·rw [aRa (aYy fun x hxm=>by obtain ⟨j,hj,he,c1,c2,c3⟩:=hxA x hxm; exact c3)]
           exact bAx _
         have hz:aops P (at_ l (remP ops listed fun j=>decide (j<aAn l))++(at_ l p++l.getD i default::at_ l b)) ((s.add (s.nx+d) (.box e z)).set d (.ptr (s.nx+d) 0)) K:=hz
         refine go _ _ g1 x1 (fun x hxm d' hd=>?_) hnd1 (by simpa only [List.append_assoc] using hz)
         have hne:d'≠d:=fun e=>hnd2 d rfl x hxm (e ▸ hd)
         have e3:((s.add (s.nx+d) (.box e z)).set d (.ptr (s.nx+d) 0)).nx+d'=s.nx+d':=rfl
         rw [e3,aAe _ _ _ _ (by omega)]
         exact hfr x hxm d' hd
      ·-- what looks at no memory
       have hmi2:aAn l<i:=by simpa using h5
       have hspec:∀ j,j<i→listed.getD j false=false∨j=aAn l→(l.getD j default).indep (l.getD i default)=true∧(l.getD i default).i.rank=0:=fun j hj hno=>by
        rcases h6 j hj with ⟨h7,h8⟩ | h7
        ·rcases hno with hno | hno
         ·rw [hbef j h7] at hno; cases hno
         ·exact absurd hno (by simpa using h8)
        ·rw [getOf j (by omega),getOf i his] at h7
         simpa using h7
       have hz:=hspec (aAn l) hmi2 (.inr rfl)
       have hr0:=hz.2
       have hmk:(l.getD i default).i.mk=none:=aLv (by omega)
       have hind:∀ x,x∈at_ l (remP ops listed fun j=>decide (j<aAn l))++(pl l (aAn l) pd++at_ l p)→x.i.constOk=true∧x.indep (l.getD i default)=true:=by
        intro x hxm
        rcases List.mem_append.1 hxm with hxm | hxm
        ·obtain ⟨j,hj,rfl⟩:=List.mem_map.1 hxm
         obtain ⟨q1,q2,q3⟩:=aIm.1 hj
         have hjm:j<aAn l:=by simpa using q3
         exact ⟨constOf j q1,(hspec j (by omega) (.inl (by rw [← aBb (by omega)]; exact q2))).1⟩
        ·rcases List.mem_append.1 hxm with hxm | hxm
         ·cases pd with
          | none=>simp [pl] at hxm
          | some bk =>
            rw [pl,List.mem_singleton] at hxm
            rw [hxm]
            exact ⟨constOf _ (by omega),hz.1⟩
         ·obtain ⟨j,hj,rfl⟩:=List.mem_map.1 hxm
          obtain ⟨q1,q2,q3⟩:=hpn j hj
          exact ⟨constOf j (by omega),(hspec j q2 (.inl q3)).1⟩
       have e1:at_ l (p++i::b)=at_ l p++l.getD i default::at_ l b:=by simp [at_]
       have e2:at_ l (p++b)=at_ l p++at_ l b:=by simp [at_]
       rw [hra,e1] at h
       have h:aops P ((at_ l (remP ops listed fun j=>decide (j<aAn l))++(pl l (aAn l) pd++at_ l p))++l.getD i default::at_ l b) s K:=by
        simpa only [List.append_assoc] using h
       have hj:=aUg _ s (l.getD i default) _ hind (constOf i his) hr0 h
       change aA1 P (l.getD i default) s (fun s'=>aops P ((at_ l (remP ops listed fun j=>decide (j<aAn l))++(pl l (aAn l) pd++at_ l p))++at_ l b) s' K) at hj
       have hj2:=aH1 (K1:=fun s'=>aops P ((at_ l (remP ops listed fun j=>decide (j<aAn l))++(pl l (aAn l) pd++at_ l p))++at_ l b) s' K∧∀ t,(l.getD i default).i.dst≠some t→s'.env t=s.env t) hj fun s' h he=>⟨h,he⟩
       have hmks:mks (at_ l (p++i::b))=mks (at_ l (p++b)):=by
        rw [e1,e2]
        simp only [mks,List.filterMap_append,List.filterMap_cons,hmk]
       refine aRc ho' (hl' i o ho') hj2 hg (fun s1 G1 a1 w1 k1 g1 x1 n1=>?_) (fun d hd=>by rw [hmk] at hd; cases hd)
       refine ih (t / (Region.ready .any ops listed).length) (listed.setIfInBounds i true) s1 G1 a1 w1 pd (by simp [hsz]) hremL hcl' g1 (hx.trans x1) (by
        rw [hrb]
        intro x hxm d hd
        refine n1.free (hfr x ?_ d hd) (by rw [hmk]; simp)
        rw [hra,e1]
        rw [e2] at hxm
        rcases List.mem_append.1 hxm with hxm | hxm <;> simp [hxm]) (by
        have h7:mks (pl l (aAn l) pd++at_ l (p++i::b))=mks (pl l (aAn l) pd++at_ l (p++b)):=by
         simp only [mks,List.filterMap_append] at hmks ⊢
         rw [hmks]
        rw [hrb,← h7,← hra]; exact hnd) ?_ (by
        rw [hrA,hrb,e2]
        have:=k1.1
        simpa only [List.append_assoc] using this) hn
       cases pd with
       | none=>trivial
       | some bk =>
         obtain ⟨d,e,z,hp⟩:=hp
         have hbO:¬ Own s.L G bk:=fun hO=>(hg.hp.away _ hO).2 (.inr rfl)
         have hbs:bk<w.heap.size:=hg.hp.dlt _ (.inr rfl)
         have hdd:(l.getD i default).i.dst≠some d:=by
          have h8:=(aDu hz.1).2.2.1 d (by rw [hp.at_]; rfl)
          exact h8
         exact ⟨d,e,z,hp.at_,getD_set_true hp.done,hp.flat,hp.dn,by rw [k1.2 d hdd]; exact hp.env,aO7 hp.flat hp.ok (x1.same.2 _ hbs hbO),hp.nD,hp.nG,hp.new,n1.free hp.free (by rw [hmk]; simp),hp.ap⟩
theorem aJ4 {id:Nat} {draw:Bool} {l:LC} (h:aCf P n hint (.region id ops draw)=some l) (hb:l≠.bad) :
 ∃ gl,aNu P n hint ops ops.toList=some gl∧aRd (mks gl)=true∧l=.ops draw gl∧(draw=true→P.follows .mixedOrders=true∧(aNz (aQx ops) gl=true∨aVp ops (aQx ops) gl=true)∧aHp ops=true∧gl.all (·.i.constOk)=true):=by
 simp only [aCf] at h
 split at h
 ·rename_i gl hgl
  split at h
  ·rename_i hnd
   split at h
   ·rename_i hdr
    split at h
    ·rename_i hc
     simp only [Option.some.injEq] at h
     simp only [Bool.and_eq_true,Bool.or_eq_true] at hc
     exact ⟨gl,hgl,hnd,by rw [← h,hdr],fun _=>⟨hc.1.1.1,hc.1.1.2,hc.1.2,hc.2⟩⟩
    ·split at h
     ·simp only [Option.some.injEq] at h
      exact absurd h.symm hb
     ·simp at h
   ·rename_i hdr
    simp only [Option.some.injEq] at h
    exact ⟨gl,hgl,hnd,by rw [← h]; simp at hdr; rw [hdr],fun hh=>absurd hh hdr⟩
  ·simp at h
 ·split at h
  ·simp only [Option.some.injEq] at h
   exact absurd h.symm hb
  ·simp at h
theorem aPc {id:Nat} {draw:Bool} {gl:List GI} (h:aCf P n hint (.region id ops draw)=some (.ops draw gl)) (ha:aops P gl s K) (hg:Good P D n s G a w) (hf:∀ i,s.nx≤i→G i=none)
 (hn:∀ s' G' a' w',K s'→Good P D n s' G' a' w'→Nxt s.L G w s'.L G' w'→Q .normal a' w'):(Code.region id ops draw).wp P Q a w:=by
 obtain ⟨gl',hgl,hnd,he,hdr⟩:=aJ4 h (by simp)
 simp only [LC.ops.injEq,true_and] at he
 subst he
 obtain ⟨hlen,hl⟩:=aLe _ _ hgl
 have hlen':gl.length=ops.size:=by simpa using hlen
 have hl':∀ i o,ops[i]?=some o→aG7 P n hint ops o=some (gl.getD i default):=fun i o ho=>hl i o (by simpa using ho)
 have hnd':=aMc hnd
 cases draw with
 | false =>
   refine wp_region (aQ5 hl' _ s G a w (fun i hi=>List.mem_range.1 hi) ?_ hg (fun x _ d _=>hf _ (by omega)) ?_ hn)
   ·rw [← hlen',aKj]; exact ha
   ·rw [← hlen',aKj]; exact hnd'
 | true =>
   obtain ⟨h1,h2,h3,h4⟩:=hdr rfl
   refine wp_region_draw fun t=>?_
   simp only [Region.schedule,h1,Bool.true_or,if_true]
   obtain ⟨g2,x2⟩:=hg.grow (w':={ w with drawn:=w.drawn+1 }) ⟨rfl,rfl,rfl,Nat.le_refl _,fun _ _=>rfl⟩
   have hrem:aCr ops (Array.replicate ops.size false)=List.range ops.size:=by
    simp only [aCr]
    refine List.filter_eq_self.2 fun i hi=>?_
    have:=List.mem_range.1 hi
    simp [this]
   have hat:at_ gl (aCr ops (Array.replicate ops.size false))=gl:=by rw [hrem,← hlen',aKj]
   have hcl0:∀ k o,(Array.replicate ops.size false).getD k false=true→ops[k]?=some o→∀ e,e∈o.after→Region.binds .any e=true→(Array.replicate ops.size false).getD e.on false=true:=fun k o hk=>by
    simp only [Array.getD_eq_getD_getElem?,Array.getElem?_replicate] at hk
    split at hk <;> simp at hk
   rcases h2 with h2 | h2
   ·exact bQg hl' hlen' h2 h3 h4 ops.size t (Array.replicate ops.size false) s G a _ (by simp) (by rw [hrem]; simp) hcl0 g2 (fun x _ d _=>hf _ (by omega)) (by rw [hat]; exact hnd') (by rw [hat]; exact ha) (fun s' G' a' w' k g x=>hn s' G' a' w' k g (x2.trans x))
   ·have hsplit:at_ gl (remP ops (Array.replicate ops.size false) fun j=>decide (j<aAn gl))++(pl gl (aAn gl) none++at_ gl (remP ops (Array.replicate ops.size false) fun j=>decide (aAn gl≤j)))=gl:=by
     have h6:∀ q:Nat→Bool,remP ops (Array.replicate ops.size false) q=(List.range ops.size).filter q:=fun q=>List.filter_congr fun j hj=>by
      have:=List.mem_range.1 hj
      simp [this]
     rw [h6,h6,pl,List.nil_append]
     have h7:∀ (k m:Nat),(List.range k).filter (fun j=>decide (j<m))++(List.range k).filter (fun j=>decide (m≤j))=List.range k:=fun k m=>by
      induction k with
      | zero=>rfl
      | succ k ih =>
        rw [List.range_succ,List.filter_append,List.filter_append]
        by_cases hk:k<m
        ·have h8:¬ m≤k:=by omega
         have h9:(List.range k).filter (fun j=>decide (m≤j))=[]:=List.filter_eq_nil_iff.2 fun j hj=>by have:=List.mem_range.1 hj; simp; omega
         rw [h9,List.append_nil] at ih
         rw [h9,ih,List.filter_cons_of_pos (by simp [hk]),List.filter_cons_of_neg (by simp [h8])]
         simp
        ·have h8:m≤k:=by omega
         rw [List.filter_cons_of_neg (by simp [hk]),List.filter_cons_of_pos (by simp [h8]),List.filter_nil,List.append_nil,← List.append_assoc,ih]
         rfl
     have h8:∀ x y:List Nat,at_ gl x++at_ gl y=at_ gl (x++y):=fun x y=>by simp [at_]
     rw [h8,h7,← hlen',aKj]
    have hsub:(mks (pl gl (aAn gl) none++at_ gl (remP ops (Array.replicate ops.size false) fun j=>decide (aAn gl≤j)))).Sublist (mks gl):=by
     conv=>rhs; rw [← hsplit]
     exact List.Sublist.filterMap _ (List.sublist_append_right _ _)
    exact bKq hl' hlen' h2 h3 h4 ops.size t (Array.replicate ops.size false) s G a _ none (by simp) (by rw [hrem]; simp) hcl0 g2 (Nxt.refl _ _ _) (fun x _ d _=>hf _ (by omega)) (hnd'.sublist hsub) trivial (by rw [hsplit]; exact ha) (fun s' G' a' w' k g x=>hn s' G' a' w' k g (x2.trans x))
end
end Go.Ab
namespace Go.Ab
open Go.RowKit
section
variable {P:Program} {D:Nat→Prop} {n:Nat} {K:St→Prop} {s:St} {G:Ghost} {a:Act} {w:World}
theorem aWi {bs:List UInt8} {i j:Nat} {x:V} (h:(((aAs bs)[i]?).bind fun e=>e.cells[j]?)=some x):∃ b,bs[i]?=some b∧j=0∧x=.int .u8 b.toNat:=by
 simp only [aAs,List.getElem?_map] at h
 cases hb:bs[i]? with
 | none=>rw [hb] at h; simp at h
 | some b =>
   rw [hb] at h
   simp only [Option.map_some,Option.bind_some,V.cells] at h
   match j,h with
   | 0,h=>simp at h; exact ⟨b,rfl,rfl,h.symm⟩
theorem aTj {d id tb ty:Nat} {bs:List UInt8} (hn0:0<n) (hd:s.env d=.ptr id 0) (hL:s.L id=some (.bld tb ty bs))
 (h:∀ a,(a=.nilp∨a=.ptr id 0)→(bs=[]→K ⟨s.env,upd s.L id (some (.box tb [a,.nils])),s.nx⟩)∧(bs≠[]→K ⟨s.env,upd (upd s.L s.nx (some (.vec ty 1 (aAs bs)))) id (some (.box tb [a,.own s.nx 1 0 bs.length])),s.nx+1⟩)) (hg:Good P D n s G a w) (hf:∀ i,s.nx≤i→G i=none) :
 ∃ s' G',K s'∧Good P D n s' G' a w∧Nxt s.L G w s'.L G' w∧∀ i,s'.nx≤i→G' i=none:=by
 obtain ⟨g,hG,c,fr,cap,o,ad,h1,h2,h3,h4,h5,h6,h7,h8,h9,h10⟩:=hg.hp.blk _ _ hL
 have hnx:G s.nx=none:=hf _ (Nat.le_refl _)
 have hne:id≠s.nx:=fun e=>by rw [e,hnx] at hG; cases hG
 let gv:GB:=⟨g.aux,o,cap,1,0⟩
 obtain ⟨a0,ha0,hrep0⟩:∃ a0,(a0=.nilp∨a0=.ptr id 0)∧∀ (G':Ghost) (D':Nat→Prop),G' id=some g→Rep G' D' w a0 (c.getD 0 undef):=by
  rcases h5 with e | e
  ·exact ⟨_,.inl rfl,fun _ _ _=>by rw [e]; exact .nilp⟩
  ·refine ⟨_,.inr rfl,fun G' D' hG'=>?_⟩
   rw [e]
   have:=Rep.ptr (D:=D') (w:=w) id 0 g hG'
   rw [h3] at this
   exact this
 by_cases hbs:bs=[]
 ·have hcap0:cap=0:=by
   rcases Nat.eq_zero_or_pos cap with h | h
   ·exact h
   ·exact absurd hbs (h10 h).1
  subst hbs
  subst hcap0
  have hK:=(h a0 ha0).1 rfl
  have hx:Nxt s.L G w (upd s.L id (some (.box tb [a0,.nils]))) G w:=by
   refine ⟨G.le_refl,Same.refl _ _,?_,rfl,rfl,rfl⟩
   rintro x _ ⟨i,b,gi,q1,q2,q3⟩
   by_cases e:i=id
   ·subst e
    rw [aAf] at q1
    obtain rfl:=Option.some.inj q1
    obtain rfl:=Option.some.inj (hG.symm.trans q2)
    exact ⟨i,_,g,hL,hG,.inl q3⟩
   ·rw [aAe _ _ _ _ e] at q1
    exact ⟨i,b,gi,q1,q2,q3⟩
  refine ⟨_,G,hK,hg.later hx ?_,hx,hf⟩
  refine hg.hp.turn (·=id) hx hg.hp.fin (fun i b hl hni=>by simpa only [aAe _ _ _ _ hni] using hl) (fun _ _ _ _ _ _ _ _=>rfl) (fun i b gi _ hni hgi=>hgi) (fun i j hi hj=>hi.trans hj.symm) (fun i b hl hi=>?_)
  subst hi
  simp only [aAf,Option.some.injEq] at hl
  subst hl
  refine ⟨g,hG,⟨c,tb,fr,h1,⟨h2,rfl⟩,h3,by rw [h2]; exact h4,fun i x hx'=>?_⟩,fun x ho=>?_⟩
  ·match i,hx' with
   | 0,hx' =>
     simp only [List.getElem?_cons_zero,Option.some.injEq] at hx'
     subst hx'
     exact hrep0 _ _ hG
   | 1,hx' =>
     simp only [List.getElem?_cons_succ,List.getElem?_cons_zero,Option.some.injEq] at hx'
     subst hx'
     rw [h6,(h9 rfl).2]
     exact .nils
  ·have ho':x=g.blk:=ho
   have haw:=hg.hp.away x ⟨i,_,g,hL,hG,.inl ho'⟩
   refine ⟨haw.1,haw.2,fun i2 b2 g2 hl2 hn2 hg2 ho2=>?_⟩
   simp only [aAe _ _ _ _ hn2] at hl2
   exact hg.hp.apart i2 i b2 _ g2 g x hl2 hL hg2 hG hn2 ho2 (.inl ho')
 have hK:=(h a0 ha0).2 hbs
 have hGid:upd G s.nx (some gv) id=some g:=by rw [aAe _ _ _ _ hne]; exact hG
 have hGnx:upd G s.nx (some gv) s.nx=some gv:=aAf _ _ _
 have part:∀ i b g',upd (upd s.L s.nx (some (Blk.vec ty 1 (aAs bs)))) id (some (Blk.box tb [a0,.own s.nx 1 0 bs.length])) i=some b→upd G s.nx (some gv) i=some g' →
  (i=id∧b=.box tb [a0,.own s.nx 1 0 bs.length]∧g'=g)∨(i=s.nx∧b=.vec ty 1 (aAs bs)∧g'=gv)∨(i≠id∧i≠s.nx∧s.L i=some b∧G i=some g'):=fun i b g' hb hg'=>by
  by_cases e1:i=id
  ·subst e1
   rw [aAf] at hb
   rw [hGid] at hg'
   exact .inl ⟨rfl,(Option.some.inj hb).symm,(Option.some.inj hg').symm⟩
  ·rw [aAe _ _ _ _ e1] at hb
   by_cases e2:i=s.nx
   ·subst e2
    rw [aAf] at hb hg'
    exact .inr (.inl ⟨rfl,(Option.some.inj hb).symm,(Option.some.inj hg').symm⟩)
   ·rw [aAe _ _ _ _ e2] at hb hg'
    exact .inr (.inr ⟨e1,e2,hb,hg'⟩)
 have occ:∀ i b g' x,upd (upd s.L s.nx (some (Blk.vec ty 1 (aAs bs)))) id (some (Blk.box tb [a0,.own s.nx 1 0 bs.length])) i=some b→upd G s.nx (some gv) i=some g'→Occ g' b x →
  (i=id∧x=g.blk)∨(i=s.nx∧0<cap∧x=g.aux)∨(i≠id∧i≠s.nx∧s.L i=some b∧G i=some g'∧Occ g' b x):=fun i b g' x hb hg' ho=>by
  rcases part i b g' hb hg' with ⟨e1,e2,e3⟩ | ⟨e1,e2,e3⟩ | ⟨e1,e2,e3,e4⟩
  ·subst e2 e3; exact .inl ⟨e1,ho⟩
  ·subst e2 e3; exact .inr (.inl ⟨e1,ho.1,ho.2⟩)
  ·exact .inr (.inr ⟨e1,e2,e3,e4,ho⟩)
 have own:∀ x,Own (upd (upd s.L s.nx (some (Blk.vec ty 1 (aAs bs)))) id (some (Blk.box tb [a0,.own s.nx 1 0 bs.length]))) (upd G s.nx (some gv)) x→Own s.L G x:=by
  rintro x ⟨i,b,g',q1,q2,q3⟩
  rcases occ i b g' x q1 q2 q3 with ⟨_,e⟩ | ⟨_,_,e⟩ | ⟨_,_,e1,e2,e3⟩
  ·exact ⟨id,_,g,hL,hG,.inl e⟩
  ·exact ⟨id,_,g,hL,hG,.inr e⟩
  ·exact ⟨i,b,g',e1,e2,e3⟩
 have hx:Nxt s.L G w (upd (upd s.L s.nx (some (Blk.vec ty 1 (aAs bs)))) id (some (Blk.box tb [a0,.own s.nx 1 0 bs.length]))) (upd G s.nx (some gv)) w :=
  ⟨aUx hnx gv,Same.refl _ _,fun x _=>own x,rfl,rfl,rfl⟩
 have hfin:∀ i,s.nx+1≤i→upd G s.nx (some gv) i=none:=fun i hi=>by rw [aAe _ _ _ _ (by omega)]; exact hf i (by omega)
 refine ⟨_,upd G s.nx (some gv),hK,⟨hg.size,hg.defers,fun i=>hx.rep (hg.env i),⟨fun i hi=>hfin i (by simp only at hi; omega),fun i b hb=>?_,fun i i' b b' g1 g2 x hb hb' hg1 hg2 hii ho ho'=>?_,fun x ho=>hg.hp.away x (own x ho),hg.hp.dlt,hg.hp.gl.nxt hx⟩⟩,hx,hfin⟩
 ·by_cases e1:i=id
  ·subst e1
   simp only [aAf,Option.some.injEq] at hb
   subst hb
   refine ⟨g,hGid,c,tb,fr,h1,⟨h2,rfl⟩,h3,by rw [h2]; exact h4,fun i x hx'=>?_⟩
   match i,hx' with
   | 0,hx' =>
     simp only [List.getElem?_cons_zero,Option.some.injEq] at hx'
     subst hx'
     exact hrep0 _ _ hGid
   | 1,hx' =>
     simp only [List.getElem?_cons_succ,List.getElem?_cons_zero,Option.some.injEq] at hx'
     subst hx'
     rw [h6]
     exact .own _ 1 0 _ gv ad cap hGnx rfl h7 rfl h8 (fun hc=>by rw [(h10 hc).2.1]; simp [gv])
  ·simp only [aAe _ _ _ _ e1] at hb
   by_cases e2:i=s.nx
   ·subst e2
    simp only [aAf,Option.some.injEq] at hb
    subst hb
    refine ⟨gv,hGnx,rfl,by simpa [aAs] using h7,h8,fun e he=>?_,fun hc=>?_⟩
    ·simp only [aAs,List.mem_map] at he
     obtain ⟨b,_,rfl⟩:=he
     rfl
    ·obtain ⟨_,k1,k2,cb,fb,k3,k4,k5,k6⟩:=h10 hc
     refine ⟨cb,ty,fb,k3,⟨by show o+cap*1≤cb.size; omega,rfl⟩,⟨by show Open fb o (cap*1); rw [Nat.mul_one]; exact k5,fun h=>absurd rfl h⟩,fun i j x hx'=>?_⟩
     obtain ⟨b,hb,rfl,rfl⟩:=aWi hx'
     have:=k6 i b hb
     have e:gv.off+i*1+0=o+i:=by show o+i*1+0=o+i; omega
     rw [e,this]
     exact .int _ _
   ·simp only [aAe _ _ _ _ e2] at hb
    obtain ⟨g',q1,q2⟩:=hg.hp.blk i b hb
    exact ⟨g',by rw [aAe _ _ _ _ e2]; exact q1,q2.keep hx fun _ _=>rfl⟩
 ·rcases occ i b g1 x hb hg1 ho with ⟨e1,e2⟩ | ⟨e1,e2,e3⟩ | ⟨e1,e2,e3,e4,e5⟩ <;> rcases occ i' b' g2 x hb' hg2 ho' with ⟨d1,d2⟩ | ⟨d1,d2,d3⟩ | ⟨d1,d2,d3,d4,d5⟩
  ·exact hii (e1.trans d1.symm)
  ·exact (h10 d2).2.2.1 (d3.symm.trans e2)
  ·exact hg.hp.apart id i' _ b' g g2 x hL d3 hG d4 (Ne.symm d1) (.inl e2) d5
  ·exact (h10 e2).2.2.1 (e3.symm.trans d2)
  ·exact hii (e1.trans d1.symm)
  ·exact hg.hp.apart id i' _ b' g g2 x hL d3 hG d4 (Ne.symm d1) (.inr e3) d5
  ·exact hg.hp.apart i id b _ g1 g x e3 hL e4 hG e1 e5 (.inl d2)
  ·exact hg.hp.apart i id b _ g1 g x e3 hL e4 hG e1 e5 (.inr d3)
  ·exact hg.hp.apart i i' b b' g1 g2 x e3 d3 e4 d4 hii e5 d5
theorem aMw {D':Nat→Prop} {G':Ghost} {id:Nat} {g:GB} {x:V} {v:Value} (hG:G' id=some g) (h0:g.off=0) (ha:x=.nilp∨x=.ptr id 0) (h:Rep G' D' w x v):v=.pointer none∨v=.pointer (some ⟨g.blk,0,none⟩):=by
 rcases ha with rfl | rfl
 ·cases h; exact .inl rfl
 ·obtain ⟨g',q1,q2⟩:=aDs h
  obtain rfl:g=g':=Option.some.inj (hG.symm.trans q1)
  rw [h0] at q2
  exact .inr q2
theorem aNf {G:Ghost} {id:Nat} {g:GB} (h:G id=some g) (x:Nat):G.le (upd G id (some { g with aux:=x })):=fun i g' hi=>by
 by_cases e:i=id
 ·subst e
  obtain rfl:g=g':=Option.some.inj (h.symm.trans hi)
  exact ⟨x,aAf _ _ _⟩
 ·exact ⟨g'.aux,by rw [aAe _ _ _ _ e]; exact hi⟩
theorem aWv {d id tb ty:Nat} {a0:V} (hd:s.env d=.ptr id 0) (hL:s.L id=some (.box tb [a0,.nils])) (ha:a0=.nilp∨a0=.ptr id 0)
 (h:K ⟨s.env,upd s.L id (some (.bld tb ty [])),s.nx⟩) (hg:Good P D n s G a w) (hf:∀ i,s.nx≤i→G i=none) :
 ∃ s' G',K s'∧Good P D n s' G' a w∧Nxt s.L G w s'.L G' w∧∀ i,s'.nx≤i→G' i=none:=by
 obtain ⟨g,hG,c,tb',fr,h1,⟨h2,htb⟩,h3,h4,h5⟩:=hg.hp.blk _ _ hL
 rw [htb] at h1
 have hlt:id<s.nx:=by
  rcases Nat.lt_or_ge id s.nx with h | h
  ·exact h
  ·rw [hf id h] at hG; cases hG
 let g':GB:={ g with aux:=g.blk }
 have hx:Nxt s.L G w (upd s.L id (some (.bld tb ty []))) (upd G id (some g')) w:=by
  refine ⟨aNf hG _,Same.refl _ _,?_,rfl,rfl,rfl⟩
  rintro x _ ⟨i,b,gi,q1,q2,q3⟩
  by_cases e:i=id
  ·subst e
   rw [aAf] at q1 q2
   obtain rfl:=Option.some.inj q1
   obtain rfl:=Option.some.inj q2
   refine ⟨i,_,g,hL,hG,?_⟩
   rcases q3 with q3 | q3 <;> exact q3
  ·rw [aAe _ _ _ _ e] at q1 q2
   exact ⟨i,b,gi,q1,q2,q3⟩
 have hfin:∀ i,s.nx≤i→upd G id (some g') i=none:=fun i hi=>by rw [aAe _ _ _ _ (by omega)]; exact hf i hi
 have hsz:c.size=2:=by simpa using h2
 refine ⟨_,upd G id (some g'),h,hg.later hx ?_,hx,hfin⟩
 refine hg.hp.turn (·=id) hx (fun i hi=>hfin i (by simp only at hi; omega)) (fun i b hl hni=>by simpa only [aAe _ _ _ _ hni] using hl) (fun _ _ _ _ _ _ _ _=>rfl) (fun i b gi _ hni hgi=>by rw [aAe _ _ _ _ hni]; exact hgi) (fun i j hi hj=>hi.trans hj.symm) (fun i b hl hi=>?_)
 subst hi
 simp only [aAf,Option.some.injEq] at hl
 subst hl
 refine ⟨g',aAf _ _ _,⟨c,fr,0,0,none,h1,hsz,h3,by rw [← hsz]; exact h4,aMw (g:=g) hG h3 ha (h5 0 a0 rfl),?_,Nat.le_refl _,Nat.two_pow_pos 63,fun _=>⟨rfl,rfl⟩,fun h=>absurd h (Nat.lt_irrefl _)⟩,fun x ho=>?_⟩
 ·have:=h5 1 .nils rfl
  exact aD2 this
 ·have ho':x=g.blk:=by rcases ho with ho | ho <;> exact ho
  have haw:=hg.hp.away x ⟨i,_,g,hL,hG,ho'⟩
  refine ⟨haw.1,haw.2,fun i2 b2 g2 hl2 hn2 hg2 ho2=>?_⟩
  simp only [aAe _ _ _ _ hn2] at hl2
  exact hg.hp.apart i2 i b2 _ g2 g x hl2 hL hg2 hG hn2 ho2 ho'
theorem aXx {d id tb ty m sz len:Nat} {a0:V} {es:List V} {bs:List UInt8} (hd:s.env d=.ptr id 0) (hL:s.L id=some (.box tb [a0,.own m 1 0 len])) (ha:a0=.nilp∨a0=.ptr id 0) (hne:m≠id) (hpos:0<len) (hm:s.L m=some (.vec ty sz es)) (hlen:len≤es.length)
 (hbs:es.take len=aAs bs) (h:K ⟨s.env,upd (upd s.L m none) id (some (.bld tb ty bs)),s.nx⟩) (hg:Good P D n s G a w) (hf:∀ i,s.nx≤i→G i=none) :
 ∃ s' G',K s'∧Good P D n s' G' a w∧Nxt s.L G w s'.L G' w∧∀ i,s'.nx≤i→G' i=none:=by
 obtain ⟨g,hG,c,tb',fr,h1,⟨h2,htb⟩,h3,h4,h5⟩:=hg.hp.blk _ _ hL
 rw [htb] at h1
 obtain ⟨gm,hGm,m1,m2,m3,m4,m5⟩:=hg.hp.blk _ _ hm
 have hlt:id<s.nx:=by
  rcases Nat.lt_or_ge id s.nx with h | h
  ·exact h
  ·rw [hf id h] at hG; cases hG
 have hsz:c.size=2:=by simpa using h2
 obtain ⟨g2,ad,cap,r0,r1,r2,r3,r4,r5,r6⟩:=aE6 (h5 1 (.own m 1 0 len) rfl)
 obtain rfl:gm=g2:=Option.some.inj (hGm.symm.trans r1)
 have hcap:cap=gm.cap:=by omega
 subst hcap
 have hz1:sz=1:=m1.symm.trans r2
 subst hz1
 have hbl:bs.length=len:=by
  have:=congrArg List.length hbs
  simp [aAs] at this
  omega
 let g':GB:={ g with aux:=if 0<gm.cap then gm.blk else g.blk }
 have occ:∀ x,Occ g' (.bld tb ty bs) x→x=g.blk∨(0<gm.cap∧x=gm.blk):=fun x ho=>by
  rcases ho with ho | ho
  ·exact .inl ho
  ·simp only [g'] at ho
   split at ho
   ·rename_i hc; exact .inr ⟨hc,ho⟩
   ·exact .inl ho
 have hx:Nxt s.L G w (upd (upd s.L m none) id (some (.bld tb ty bs))) (upd G id (some g')) w:=by
  refine ⟨aNf hG _,Same.refl _ _,?_,rfl,rfl,rfl⟩
  rintro x _ ⟨i,b,gi,q1,q2,q3⟩
  by_cases e:i=id
  ·subst e
   rw [aAf] at q1 q2
   obtain rfl:=Option.some.inj q1
   obtain rfl:=Option.some.inj q2
   rcases occ x q3 with q3 | q3
   ·exact ⟨i,_,g,hL,hG,q3⟩
   ·exact ⟨m,_,gm,hm,hGm,q3⟩
  ·rw [aAe _ _ _ _ e] at q1 q2
   by_cases e2:i=m
   ·subst e2; rw [aAf] at q1; cases q1
   ·rw [aAe _ _ _ _ e2] at q1
    exact ⟨i,b,gi,q1,q2,q3⟩
 have hfin:∀ i,s.nx≤i→upd G id (some g') i=none:=fun i hi=>by rw [aAe _ _ _ _ (by omega)]; exact hf i hi
 have hLi:∀ i b,i≠id→upd (upd s.L m none) id (some (Blk.bld tb ty bs)) i=some b→s.L i=some b∧i≠m:=fun i b hni hl=>by
  rw [aAe _ _ _ _ hni] at hl
  by_cases e2:i=m
  ·subst e2; rw [aAf] at hl; cases hl
  ·rw [aAe _ _ _ _ e2] at hl; exact ⟨hl,e2⟩
 refine ⟨_,upd G id (some g'),h,hg.later hx ?_,hx,hfin⟩
 refine hg.hp.turn (·=id) hx (fun i hi=>hfin i (by simp only at hi; omega)) (fun i b hl hni=>(hLi i b hni hl).1) (fun _ _ _ _ _ _ _ _=>rfl) (fun i b gi _ hni hgi=>by rw [aAe _ _ _ _ hni]; exact hgi) (fun i j hi hj=>hi.trans hj.symm) (fun i b hl hi=>?_)
 subst hi
 simp only [aAf,Option.some.injEq] at hl
 subst hl
 refine ⟨g',aAf _ _ _,⟨c,fr,gm.cap,gm.off,ad,h1,hsz,h3,by rw [← hsz]; exact h4,aMw (g:=g) hG h3 ha (h5 0 a0 rfl),?_,by omega,m3,fun hc=>?_,fun hc=>?_⟩,fun x ho=>?_⟩
 ·rw [hbl]; exact r0
 ·omega
 ·obtain ⟨c',ty',fr',k2,k3,k4,k5⟩:=m5 hc
  have haux:g'.aux=gm.blk:=by simp only [g',hc,if_true]
  rw [haux]
  refine ⟨fun e=>by rw [e] at hbl; simp at hbl; omega,by rw [r6 hc]; simp,fun e=>?_,c',fr',by rw [k2,k3.2],by have:=k3.1; omega,by have:=k4.op; rwa [Nat.mul_one] at this,fun i x hi=>?_⟩
  ·exact hg.hp.apart m i _ _ gm g gm.blk hm hL hGm hG hne ⟨hc,rfl⟩ e
  ·have hi2:i<len:=by
    have:=(List.getElem?_eq_some_iff.1 hi).1
    omega
   have he:es[i]?=some (.int .u8 x.toNat):=by
    have e1:(es.take len)[i]?=es[i]?:=List.getElem?_take_of_lt hi2
    rw [← e1,hbs]
    simp [aAs,hi]
   have:=k5 i 0 (.int .u8 x.toNat) (by rw [he]; rfl)
   have e:gm.off+i*1+0=gm.off+i:=by omega
   rw [e] at this
   exact aA3 this
 ·rcases occ x ho with ho | ho
  ·have haw:=hg.hp.away x ⟨i,_,g,hL,hG,ho⟩
   refine ⟨haw.1,haw.2,fun i2 b2 g2 hl2 hn2 hg2 ho2=>?_⟩
   exact hg.hp.apart i2 i b2 _ g2 g x (hLi i2 b2 hn2 hl2).1 hL hg2 hG hn2 ho2 ho
  ·have haw:=hg.hp.away x ⟨m,_,gm,hm,hGm,ho⟩
   refine ⟨haw.1,haw.2,fun i2 b2 g2 hl2 hn2 hg2 ho2=>?_⟩
   exact hg.hp.apart i2 m b2 _ g2 gm x (hLi i2 b2 hn2 hl2).1 hm hg2 hGm (hLi i2 b2 hn2 hl2).2 ho2 ho
end
end Go.Ab
namespace Go.Ab
open Go.RowKit
section
variable {P:Program} {D:Nat→Prop} {n:Nat} {hint:Nat→Nat} {K K':St→Prop}
theorem bQ6 {α:Type} (f:Nat→α) (i:Nat) (v:α) (h:f i=v):upd f i v=f:=by
 funext t
 simp only [upd]
 split
 ·rename_i e; rw [e,h]
 ·rfl
theorem bBy {s:St} {i:Nat} {v:V} (h:s.env i=v):s.set i v=s:=by
 simp only [St.set,bQ6 _ _ _ h]
theorem aRm:∀ (l:List I) (s:St),aLy P l s K→aops P (l.map fun i=>⟨none,i⟩) s K
 | [],s,h=>h
 | i::r,s,h=>aGx h fun s' h=>aRm r s' h
theorem aQw {t:Nat} {w:Bool}:∀ (l:List I) (s:St),l.all (fun i=>i.dst != some t)=true→s.env t=.bool w→aLy P l s K→aops P (l.map fun i=>⟨some (t,w),i⟩) s K
 | [],s,_,_,h=>h
 | i::r,s,ha,hs,h=>by
   simp only [List.all_cons,Bool.and_eq_true,bne_iff_ne] at ha
   simp only [List.map_cons,aops,aA1,hs,if_true]
   exact aIf h fun s' h he=>aQw r s' ha.2 (by rw [he t ha.1,hs]) h
theorem aMg {t:Nat} {w:Bool} (hv:V→Prop) (hvs:∀ v,hv v→v=.bool (!w)∨v=.tup []):∀ (l:List I) (s:St),l.all (fun i=>i.dst != some t)=true→hv (s.env t)→K (aF1 l s)→aops P (l.map fun i=>⟨some (t,w),i⟩) s K
 | [],s,_,_,h=>h
 | i::r,s,ha,hs,h=>by
   simp only [List.all_cons,Bool.and_eq_true,bne_iff_ne] at ha
   have ih:=aMg hv hvs r (s.setO i.dst (.tup [])) ha.2 (by rw [aBh ha.1]; exact hs) h
   simp only [List.map_cons,aops,aA1]
   rcases hvs _ hs with e | e
   ·rw [e]
    have:(!w)≠w:=by cases w <;> simp
    simp only [this,if_false]
    exact ih
   ·rw [e]
    exact ih
theorem bAj {x:Grp} {s:St} (hok:x.ok=true) (h:grun P x s K):aops P x.flat s K:=by
 obtain ⟨g,l⟩:=x
 cases g with
 | none=>exact aRm l s h
 | some tw =>
   obtain ⟨t,w⟩:=tw
   simp only [grun] at h
   simp only [Grp.ok] at hok
   simp only [Grp.flat]
   split at h
   ·rename_i b hb
    by_cases e:b=w
    ·subst e
     have h1:=h.1 rfl
     rw [bBy hb] at h1
     exact aQw l s hok hb h1
    ·have e':b=!w:=by cases b <;> cases w <;> simp_all
     subst e'
     have h1:=h.2 rfl
     rw [bBy hb] at h1
     exact aMg (fun v=>v=.bool (!w)) (fun v hv=>.inl hv) l s hok hb h1
   ·rename_i hb
    exact aMg (fun v=>v=.tup []) (fun v hv=>.inr hv) l s hok hb h
   ·exact h.elim
theorem aJl:∀ (l:List Grp) (s:St),l.all Grp.ok=true→bC5 P l s K→aops P (l.flatMap Grp.flat) s K
 | [],s,_,h=>h
 | x::r,s,ho,h=>by
   simp only [List.all_cons,Bool.and_eq_true] at ho
   rw [List.flatMap_cons]
   refine aLt _ _ _ ?_
   have:=bAj ho.1 h
   exact aQs this fun s' h=>aJl r s' ho.2 h
def bH6:X→Exit
 | .norm=>.normal
 | .exit n=>.exit n
 | .ret=>.ret
def Ends (P:Program) (D:Nat→Prop) (n:Nat) (L:Heap) (G:Ghost) (w:World) (K:X→St→Prop) (Q:Exit→Act→World→Prop):Prop :=
 ∀ x s' G' a' w',K x s'→Good P D n s' G' a' w'→Nxt L G w s'.L G' w'→(∀ i,s'.nx≤i→G' i=none)→Q (bH6 x) a' w'
theorem Good.past {s:St} {G:Ghost} {a:Act} {w:World} (h:Good P D n s G a w):Good P D n (s.past n) G a w∧∀ i,(s.past n).nx≤i→G i=none:=by
 refine ⟨⟨h.size,h.defers,h.env,⟨fun id hid=>h.hp.fin id ?_,h.hp.blk,h.hp.apart,h.hp.away,h.hp.dlt,h.hp.gl⟩⟩,fun i hi=>h.hp.fin i hi⟩
 simp only [St.past] at hid
 omega
theorem aCm (id:Nat) (es:List V):∀ l:List V,V.fzL id es l=l.map (V.fz id es)
 | []=>rfl
 | x::r=>by simp [V.fzL,aCm id es r]
mutual
theorem aFd (id:Nat) (es:List V):∀ x:V,x.imm=true→x.fz id es=x
 | .own _ _ _ _,h=>by simp [V.imm] at h
 | .agg cs,h=>by simp only [V.imm] at h; simp [V.fz,aDj id es cs h]
 | .tup cs,h=>by simp only [V.imm] at h; simp [V.fz,aDj id es cs h]
 | .fn f cs,h=>by simp only [V.imm] at h; simp [V.fz,aDj id es cs h]
 | .lst sz cs,h=>by simp only [V.imm] at h; simp [V.fz,aDj id es cs h]
 | .cptr cs,h=>by simp only [V.imm] at h; simp [V.fz,aDj id es cs h]
 | .junk,_=>rfl
 | .bool b,_=>rfl
 | .int k n,_=>rfl
 | .str s,_=>rfl
 | .nilp,_=>rfl
 | .nils,_=>rfl
 | .ptr i o,_=>rfl
 | .eptr i j k,_=>rfl
 | .map i,_=>rfl
 | .nilm,_=>rfl
 | .raw v,_=>rfl
theorem aDj (id:Nat) (es:List V):∀ l:List V,V.imms l=true→V.fzL id es l=l
 | [],_=>rfl
 | x::r,h=>by
   simp only [V.imms,Bool.and_eq_true] at h
   simp [V.fzL,aFd id es x h.1,aDj id es r h.2]
end
theorem bNw (id:Nat) (es:List V) (x:V):(x.fz id es).one=x.one:=by
 cases x <;> simp only [V.fz] <;> try rfl
 split <;> rfl
theorem aKw (id:Nat) (es:List V) (x:V) {k:Nat} (h:x.ncells=some k):(x.fz id es).ncells=some k∧(x.fz id es).cells=V.fzL id es x.cells:=by
 cases x with
 | agg cs =>
   simp only [V.ncells] at h
   split at h
   ·rename_i ha
    refine ⟨?_,by simp [V.fz,V.cells]⟩
    simp only [V.fz,V.ncells,aCm]
    rw [if_pos]
    ·simpa using h
    ·rw [List.all_eq_true] at ha ⊢
     intro y hy
     obtain ⟨z,hz,rfl⟩:=List.mem_map.1 hy
     rw [bNw]
     exact ha z hz
   ·simp at h
 | own i sz off n =>
   simp only [V.fz]
   split
   ·rename_i hc; refine ⟨by simpa [V.ncells,V.one] using h,by simp [V.cells,V.fzL,V.fz,hc]⟩
   ·rename_i hc; refine ⟨by simpa [V.ncells,V.one] using h,by simp [V.cells,V.fzL,V.fz,hc]⟩
 | junk=>simp [V.ncells,V.one] at h
 | tup cs=>simp [V.ncells,V.one] at h
 | _=>exact ⟨by simpa [V.ncells,V.one,V.fz] using h,by simp [V.cells,V.fzL,V.fz]⟩
theorem aGt {id:Nat} {es l:List V} {i:Nat} {y:V} (h:(V.fzL id es l)[i]?=some y):∃ x,l[i]?=some x∧y=x.fz id es:=by
 rw [aCm,List.getElem?_map] at h
 cases hx:l[i]? with
 | none=>simp [hx] at h
 | some x=>simp [hx] at h; exact ⟨x,rfl,h.symm⟩
theorem aSx {id:Nat} {es l:List V} {sz i j:Nat} {c:V} (hz:∀ e,e∈l→e.ncells=some sz) (h:((V.fzL id es l)[i]?.bind fun e:V=>e.cells[j]?)=some c):∃ c',(l[i]?.bind fun e:V=>e.cells[j]?)=some c'∧c=c'.fz id es:=by
 cases he:(V.fzL id es l)[i]? with
 | none=>simp [he] at h
 | some e' =>
   obtain ⟨e,h1,rfl⟩:=aGt he
   simp only [he,Option.bind_some] at h
   rw [(aKw id es e (hz e (mem_of_getElem? h1))).2] at h
   obtain ⟨c',h2,rfl⟩:=aGt h
   exact ⟨c',by simp [h1,h2],rfl⟩
section
variable {s:St} {G:Ghost} {a:Act} {w:World}
theorem aNj {id:Nat} {es:List V} {g:GB} {b:Blk} {x:Nat}:Occ g (b.fz id es) x↔Occ g b x:=by cases b <;> rfl
theorem aDz {id:Nat} {es:List V} {L:Heap} {i:Nat} {b:Blk} (h:aBi id es L i=some b):i≠id∧∃ b0,L i=some b0∧b=b0.fz id es:=by
 unfold aBi at h
 split at h
 ·cases h
 ·rename_i hne
  cases hb:L i with
  | none=>simp [hb] at h
  | some b0=>simp [hb] at h; exact ⟨hne,b0,rfl,h.symm⟩
theorem aZa {id:Nat} {es:List V} {L:Heap}:Nxt L G w (aBi id es L) G w:=by
 refine ⟨G.le_refl,Same.refl _ _,?_,rfl,rfl,rfl⟩
 rintro x _ ⟨i,b,g,h1,h2,h3⟩
 obtain ⟨_,b0,h4,rfl⟩:=aDz h1
 exact ⟨i,b0,g,h4,h2,aNj.1 h3⟩
theorem aQo {id ty sz0:Nat} {es:List V} (hp:Hp P D n s G w) (hL:s.L id=some (.vec ty sz0 es)) (hi:V.imms es=true) {x:V} {v:Value} (h:Rep G (Dp D s.L G) w x v):Rep G (Dp D (aBi id es s.L) G) w (x.fz id es) v:=by
 have hx:Nxt s.L G w (aBi id es s.L) G w:=aZa
 have sub:∀ b,¬ Dp D s.L G b→¬ Dp D (aBi id es s.L) G b:=fun b hn hd=>hd.elim (fun h1=>hn (.inl h1)) fun ⟨i,b0,g,h1,h2,h3⟩=>by
  obtain ⟨_,b1,h4,rfl⟩:=aDz h1
  exact hn (.inr ⟨i,b1,g,h4,h2,aNj.1 h3⟩)
 induction h with
 | own i sz off len g a cap hg hz hc hgc hl ha =>
   simp only [V.fz]
   split
   ·rename_i hcond
    obtain ⟨rfl,hle⟩:=hcond
    obtain ⟨g',b1,b2,b3,b4,b5,b6⟩:=hp.blk i _ hL
    obtain rfl:g'=g:=Option.some.inj (b1.symm.trans hg)
    have hsz:sz=sz0:=hz.symm.trans b2
    subst hsz
    have hlen:((es.drop off).take len).length=len:=by simp; omega
    have cellAt:∀ (i j:Nat) (c:V),((((es.drop off).take len)[i]?).bind fun e=>e.cells[j]?)=some c→((es[off+i]?).bind fun e=>e.cells[j]?)=some c∧i<len∧j<sz:=by
     intro i j c hc
     cases he:((es.drop off).take len)[i]? with
     | none=>rw [he] at hc; simp at hc
     | some e =>
       rw [he] at hc
       simp only [Option.bind_some] at hc
       have hmem:e∈es:=List.mem_of_mem_drop (List.mem_of_mem_take (mem_of_getElem? he))
       have hi:i<len:=by
        have:=(List.getElem?_eq_some_iff.1 he).1
        omega
       rw [List.getElem?_take_of_lt hi,List.getElem?_drop] at he
       refine ⟨by rw [he]; exact hc,hi,?_⟩
       rw [← aA7 (b5 e hmem)]
       exact (List.getElem?_eq_some_iff.1 hc).1
    have main:Rep G (Dp D (aBi i es s.L) G) w (.lst sz ((es.drop off).take len)) (.slice a ((es.drop off).take len).length cap):=by
     refine .lst sz _ a cap g'.blk (g'.off+off*sz) (by omega) (by omega) (fun h0=>?_) (fun e he=>b5 e (List.mem_of_mem_drop (List.mem_of_mem_take he))) (fun i j c hc=>?_) (fun i j c hc=>?_)
     ·rw [hlen] at h0
      refine ⟨ha (by omega),?_⟩
      have hocc:Occ g' (.vec ty sz es) g'.blk:=⟨by omega,rfl⟩
      obtain ⟨k1,k2⟩:=hp.away g'.blk ⟨i,_,g',hL,b1,hocc⟩
      refine ⟨k1,fun hdp=>?_⟩
      rcases hdp with hdp | ⟨id2,b2',g2,l1,l2,l3⟩
      ·exact k2 hdp
      ·obtain ⟨hne,b0,l4,rfl⟩:=aDz l1
       exact hp.apart i id2 _ _ _ _ _ hL l4 b1 l2 (Ne.symm hne) hocc (aNj.1 l3)
     ·obtain ⟨q1,q3,q4⟩:=cellAt i j c hc
      obtain ⟨c',ty,fr,k2,k3,k4,k5⟩:=b6 (by omega)
      rw [aA9 k2]
      have:(off+i+1)*sz≤g'.cap*sz:=Nat.mul_le_mul_right _ (by omega)
      rw [Nat.add_mul,Nat.add_mul] at this
      simp; omega
     ·obtain ⟨q1,q3,q4⟩:=cellAt i j c hc
      obtain ⟨c',ty,fr,k2,k3,k4,k5⟩:=b6 (by omega)
      rw [aBo k2]
      have h5:=k5 _ _ _ q1
      rw [Nat.add_mul] at h5
      have e:g'.off+off*sz+i*sz+j=g'.off+(off*sz+i*sz)+j:=by omega
      rw [e]
      exact hx.rep h5
    rw [hlen] at main
    exact main
   ·exact .own i sz off len g a cap hg hz hc hgc hl ha
 | agg cs vs hn hr ih =>
   refine .agg _ _ (by rw [aCm,List.length_map]; exact hn) fun i c hc=>?_
   obtain ⟨c0,h1,rfl⟩:=aGt hc
   exact ih i c0 h1
 | tup cs vs hn hr ih =>
   refine .tup _ _ (by rw [aCm,List.length_map]; exact hn) fun i c hc=>?_
   obtain ⟨c0,h1,rfl⟩:=aGt hc
   exact ih i c0 h1
 | fn f cs vs hn hr ih =>
   refine .fn _ _ _ (by rw [aCm,List.length_map]; exact hn) fun i c hc=>?_
   obtain ⟨c0,h1,rfl⟩:=aGt hc
   exact ih i c0 h1
 | cptr cs b o hb hd hs hr ih =>
   refine .cptr _ b o hb (sub b hd) (fun j c hc=>?_) (fun j c hc=>?_)
   ·obtain ⟨c0,h1,rfl⟩:=aGt hc
    exact hs j c0 h1
   ·obtain ⟨c0,h1,rfl⟩:=aGt hc
    exact ih j c0 h1
 | lst sz l a cap b o hc hl ha hz hs hr ih =>
   have hlen:(V.fzL id es l).length=l.length:=by rw [aCm,List.length_map]
   have main:Rep G (Dp D (aBi id es s.L) G) w (.lst sz (V.fzL id es l)) (.slice a (V.fzL id es l).length cap):=by
    refine .lst sz _ a cap b o (by omega) hl (fun h0=>?_) (fun e he=>?_) (fun i j c hc=>?_) (fun i j c hc=>?_)
    ·obtain ⟨k1,k2,k3⟩:=ha (by omega)
     exact ⟨k1,k2,sub b k3⟩
    ·rw [aCm] at he
     obtain ⟨e0,h1,rfl⟩:=List.mem_map.1 he
     exact (aKw id es e0 (hz e0 h1)).1
    ·obtain ⟨c0,h1,rfl⟩:=aSx hz hc
     exact hs i j c0 h1
    ·obtain ⟨c0,h1,rfl⟩:=aSx hz hc
     exact ih i j c0 h1
   rw [hlen] at main
   exact main
 | junk v=>exact .junk v
 | bool b=>exact .bool b
 | int k n=>exact .int k n
 | str s h=>exact .str s h
 | nilp=>exact .nilp
 | nils=>exact .nils
 | ptr id off g h=>exact .ptr id off g h
 | eptr id i j g h=>exact .eptr id i j g h
 | map id g h=>exact .map id g h
 | nilm=>exact .nilm
 | raw v=>exact .raw v
theorem bQa {id ty sz0:Nat} {es:List V} (hp:Hp P D n s G w) (hL:s.L id=some (.vec ty sz0 es)) (hi:V.imms es=true) {g:GB} {b:Blk} (h:BlkOk G (Dp D s.L G) w g b):BlkOk G (Dp D (aBi id es s.L) G) w g (b.fz id es):=by
 cases b with
 | box ty0 cs =>
   obtain ⟨c,ty',fr,h1,h2,h3,h4,h5⟩:=h
   refine ⟨c,ty',fr,h1,by rw [aCm,List.length_map]; exact h2,h3,h4,fun i x hx=>?_⟩
   obtain ⟨c0,k1,rfl⟩:=aGt hx
   exact aQo hp hL hi (h5 i c0 k1)
 | vec ty0 sz l =>
   obtain ⟨h1,h2,h3,h4,h5⟩:=h
   refine ⟨h1,by rw [aCm,List.length_map]; exact h2,h3,fun e he=>?_,fun hc=>?_⟩
   ·rw [aCm] at he
    obtain ⟨e0,k1,rfl⟩:=List.mem_map.1 he
    exact (aKw id es e0 (h4 e0 k1)).1
   ·obtain ⟨c,ty',fr,k1,k2,k3,k4⟩:=h5 hc
    refine ⟨c,ty',fr,k1,k2,k3,fun i j x hx=>?_⟩
    obtain ⟨c0,m1,rfl⟩:=aSx h4 hx
    exact aQo hp hL hi (k4 i j c0 m1)
 | map c l =>
   obtain ⟨a,h1,h2,h3⟩:=h
   refine ⟨a,h1,h2,fun i k v b hi'=>?_⟩
   obtain ⟨q1,q2,e,q3,q4,q5,q6⟩:=h3 i k v b hi'
   have r1:=aQo hp hL hi q5
   have r2:=aQo hp hL hi q6
   rw [aFd id es _ q1] at r1
   rw [aFd id es _ q2] at r2
   exact ⟨q1,q2,e,q3,q4,r1,r2⟩
 | bld tb ty0 bs=>exact h
theorem bK0 {id ty sz0:Nat} {es:List V} (hg:Good P D n s G a w) (hL:s.L id=some (.vec ty sz0 es)) (hi:V.imms es=true):Good P D n (s.fz id es) G a w:=by
 refine ⟨hg.size,hg.defers,fun i=>aQo hg.hp hL hi (hg.env i),⟨hg.hp.fin,fun i b hb=>?_,fun i i' b b' g g' x h1 h2 h3 h4 hne h5 h6=>?_,fun x hx=>?_,hg.hp.dlt,hg.hp.gl.nxt aZa⟩⟩
 ·obtain ⟨_,b0,h1,rfl⟩:=aDz hb
  obtain ⟨g,h2,h3⟩:=hg.hp.blk i b0 h1
  exact ⟨g,h2,bQa hg.hp hL hi h3⟩
 ·obtain ⟨_,b0,k1,rfl⟩:=aDz h1
  obtain ⟨_,b1,k2,rfl⟩:=aDz h2
  exact hg.hp.apart i i' b0 b1 g g' x k1 k2 h3 h4 hne (aNj.1 h5) (aNj.1 h6)
 ·obtain ⟨i,b,g,h1,h2,h3⟩:=hx
  obtain ⟨_,b0,k1,rfl⟩:=aDz h1
  exact hg.hp.away x ⟨i,b0,g,k1,h2,aNj.1 h3⟩
theorem bN9 {L:Heap} {G:Ghost} {id ty:Nat} {cs cs':List V} (hL:L id=some (.box ty cs)):Own (upd L id (some (.box ty cs'))) G=Own L G:=by
 funext x
 apply propext
 constructor
 ·rintro ⟨i,b,g,h1,h2,h3⟩
  by_cases e:i=id
  ·subst e
   rw [aAf] at h1
   cases h1
   exact ⟨i,_,g,hL,h2,h3⟩
  ·rw [aAe _ _ _ _ e] at h1
   exact ⟨i,b,g,h1,h2,h3⟩
 ·rintro ⟨i,b,g,h1,h2,h3⟩
  by_cases e:i=id
  ·subst e
   rw [hL] at h1
   cases h1
   exact ⟨i,_,g,aAf _ _ _,h2,h3⟩
  ·exact ⟨i,b,g,by rw [aAe _ _ _ _ e]; exact h1,h2,h3⟩
theorem bNl {id ty:Nat} {cs cs':List V} (hg:Good P D n s G a w) (hL:s.L id=some (.box ty cs)) (hn:cs.length=cs'.length)
 (hw:∀ (i:Nat) (x y:V),cs[i]?=some x→cs'[i]?=some y→∀ (G:Ghost) (D:Nat→Prop) (w:World) (v:Value),Rep G D w x v→Rep G D w y v) :
 Good P D n ⟨s.env,upd s.L id (some (.box ty cs')),s.nx⟩ G a w∧Nxt s.L G w (upd s.L id (some (.box ty cs'))) G w:=by
 have ho:Own (upd s.L id (some (.box ty cs'))) G=Own s.L G:=bN9 hL
 have hd:Dp D (upd s.L id (some (.box ty cs'))) G=Dp D s.L G:=by funext x; simp only [Dp,ho]
 have hx:Nxt s.L G w (upd s.L id (some (.box ty cs'))) G w:=⟨G.le_refl,Same.refl _ _,fun x _ h=>by rw [ho] at h; exact h,rfl,rfl,rfl⟩
 refine ⟨⟨hg.size,hg.defers,fun i=>?_,⟨hg.hp.fin,fun i b hb=>?_,fun i i' b b' g g' x h1 h2 h3 h4 hne h5 h6=>?_,fun x hx=>?_,hg.hp.dlt,hg.hp.gl.nxt hx⟩⟩,hx⟩
 ·show Rep G (Dp D (upd s.L id (some (.box ty cs'))) G) w _ _
  rw [hd]; exact hg.env i
 ·show ∃ g,G i=some g∧BlkOk G (Dp D (upd s.L id (some (.box ty cs'))) G) w g b
  rw [hd]
  by_cases e:i=id
  ·subst e
   simp only [aAf,Option.some.injEq] at hb
   subst hb
   obtain ⟨g,h2,c,ty',fr,k1,k2,k3,k4,k5⟩:=hg.hp.blk i _ hL
   refine ⟨g,h2,c,ty',fr,k1,⟨by rw [k2.1,hn],k2.2⟩,k3,k4,fun j y hy=>?_⟩
   have hj:j<cs.length:=by
    have:=(List.getElem?_eq_some_iff.1 hy).1
    omega
   exact hw j _ y (List.getElem?_eq_getElem hj) hy _ _ _ _ (k5 j _ (List.getElem?_eq_getElem hj))
  ·simp only [aAe _ _ _ _ e] at hb
   exact hg.hp.blk i b hb
 ·have key:∀ {j:Nat} {b:Blk},(upd s.L id (some (.box ty cs'))) j=some b→∃ b0,s.L j=some b0∧∀ g x,Occ g b x→Occ g b0 x:=by
   intro j b hb
   by_cases e:j=id
   ·subst e
    rw [aAf] at hb
    cases hb
    exact ⟨_,hL,fun g x h=>h⟩
   ·rw [aAe _ _ _ _ e] at hb
    exact ⟨b,hb,fun g x h=>h⟩
  obtain ⟨b0,k1,k2⟩:=key h1
  obtain ⟨b1,k3,k4⟩:=key h2
  exact hg.hp.apart i i' b0 b1 g g' x k1 k3 h3 h4 hne (k2 _ _ h5) (k4 _ _ h6)
 ·have:Own s.L G x:=by rw [← ho]; exact hx
  exact hg.hp.away x this
theorem bEw {s':St} (h:FzS s s'):∀ {G:Ghost} {a:Act} {w:World},Good P D n s G a w→(∀ i,s.nx≤i→G i=none)→Good P D n s' G a w∧Nxt s.L G w s'.L G w∧∀ i,s'.nx≤i→G i=none:=by
 induction h with
 | refl s=>exact fun hg hf=>⟨hg,Nxt.refl _ _ _,hf⟩
 | step id ty sz es hL hi hs ih =>
   intro G a w hg hf
   obtain ⟨h1,h2,h3⟩:=ih (bK0 hg hL hi) hf
   exact ⟨h1,aZa.trans h2,h3⟩
 | up id ty cs cs' hL hn hw hs ih =>
   intro G a w hg hf
   obtain ⟨g1,x1⟩:=bNl hg hL hn hw
   obtain ⟨h1,h2,h3⟩:=ih g1 hf
   exact ⟨h1,x1.trans h2,h3⟩
end
theorem aU1 {g:Gh} {s:St} {G:Ghost} {a:Act} {w:World} (hn0:0<n) (h:aB3 g s K) (hg:Good P D n s G a w) (hf:∀ i,s.nx≤i→G i=none) :
 ∃ s' G',K s'∧Good P D n s' G' a w∧Nxt s.L G w s'.L G' w∧∀ i,s'.nx≤i→G' i=none:=by
 cases g with
 | cut =>
   obtain ⟨M,h1,h2⟩:=h
   exact ⟨s,G,h2 _ h1,hg,Nxt.refl _ _ _,hf⟩
 | fz =>
   obtain ⟨s',h1,h2⟩:=h
   obtain ⟨g1,x1,f1⟩:=bEw h1 hg hf
   exact ⟨s',G,h2,g1,x1,f1⟩
 | own d ty sz =>
   obtain ⟨h1,h2⟩:=h
   obtain ⟨g1,x1⟩:=hg.newBlk (w':=w) (Below.refl _ _) (id:=s.nx) (hf _ (Nat.le_refl _)) (by omega) (.vec ty sz []) ⟨0,0,0,sz,0⟩ (fun x hx=>absurd hx.1 (Nat.lt_irrefl _))
    (fun G' D' _=>⟨rfl,by simp,Nat.two_pow_pos 63,by simp,fun hc=>absurd hc (Nat.lt_irrefl _)⟩)
   have hid:upd G s.nx (some (⟨0,0,0,sz,0⟩:GB)) s.nx=some ⟨0,0,0,sz,0⟩:=aAf _ _ _
   have hnone:∀ i,s.nx+1≤i→upd G s.nx (some (⟨0,0,0,sz,0⟩:GB)) i=none:=fun i hi=>by
    rw [aAe _ _ _ _ (by omega)]; exact hf i (by omega)
   refine ⟨_,upd G s.nx (some ⟨0,0,0,sz,0⟩),h2,⟨g1.size,g1.defers,fun i=>?_,⟨fun id hid=>hnone id (by simp only at hid; omega),g1.hp.blk,g1.hp.apart,g1.hp.away,g1.hp.dlt,g1.hp.gl⟩⟩,x1,hnone⟩
   simp only [upd]
   split
   ·rename_i e
    subst e
    have hv:=hg.env i
    rw [h1] at hv
    rw [aD2 hv]
    exact .own _ sz 0 0 _ none 0 hid rfl (Nat.le_refl _) rfl (Nat.two_pow_pos 63) (fun h=>absurd h (Nat.lt_irrefl _))
   ·exact g1.env i
 | bopen d =>
   simp only [aB3] at h
   split at h
   ·rename_i id hd
    split at h
    ·rename_i tb ty bs hL
     exact aTj hn0 hd hL h hg hf
    ·exact h.elim
   ·exact h.elim
 | bclose d ty =>
   simp only [aB3] at h
   split at h
   ·rename_i id hd
    split at h
    ·rename_i tb a' b hL
     obtain ⟨ha,h⟩:=h
     split at h
     ·exact aWv hd hL ha h hg hf
     ·rename_i m len
      obtain ⟨hne,hpos,h⟩:=h
      split at h
      ·rename_i ty' sz es hm
       obtain ⟨rfl,hlen,bs,hbs,h⟩:=h
       exact aXx hd hL ha hne hpos hm hlen hbs h hg hf
      ·exact h.elim
     ·exact h.elim
    ·exact h.elim
   ·exact h.elim
 | frzb d =>
   simp only [aB3] at h
   split at h
   ·rename_i id hd
    split at h
    ·rename_i ty0 cs hL
     obtain ⟨h1,h3⟩:=h
     obtain ⟨g1,x1⟩:=hg.drop id
     refine ⟨_,G,h3,⟨g1.size,g1.defers,fun i=>?_,g1.hp.congr rfl rfl⟩,x1,hf⟩
     simp only [St.set,upd]
     split
     ·rename_i e
      subst e
      have hv:=hg.env i
      rw [hd] at hv
      obtain ⟨g,e1,e2⟩:=aDs hv
      obtain ⟨g',b1,c,ty',fr,b2,b3,b4,b5,b6⟩:=hg.hp.blk id _ hL
      obtain rfl:g'=g:=Option.some.inj (b1.symm.trans e1)
      rw [e2,b4]
      have hocc:Occ g' (.box ty0 cs) g'.blk:=rfl
      obtain ⟨k1,k2⟩:=hg.hp.away g'.blk ⟨id,_,g',hL,b1,hocc⟩
      refine .cptr cs g'.blk (0+0) k1 (fun hdp=>?_) (fun j c0 hc=>?_) (fun j c0 hc=>?_)
      ·rcases hdp with hdp | ⟨id2,b2',g2,l1,l2,l3⟩
       ·exact k2 hdp
       ·by_cases e:id2=id
        ·subst e; simp [St.drop,aAf] at l1
        ·simp only [St.drop,aAe _ _ _ _ e] at l1
         exact hg.hp.apart id id2 _ _ _ _ _ hL l1 b1 l2 (Ne.symm e) hocc l3
      ·have:j<cs.length:=(List.getElem?_eq_some_iff.1 hc).1
       rw [aA9 b2]
       simp; omega
      ·have:j<cs.length:=(List.getElem?_eq_some_iff.1 hc).1
       rw [aBo b2]
       have h5:=b6 j c0 hc
       have e:0+0+j=j:=by omega
       rw [e]
       exact x1.rep h5
     ·exact g1.env i
    ·exact h.elim
   ·exact h.elim
 | frz d =>
   simp only [aB3] at h
   split at h
   ·rename_i id sz off len hd
    split at h
    ·rename_i ty0 sz' es hL
     obtain ⟨h1,h2,h3⟩:=h
     obtain ⟨g1,x1⟩:=hg.drop id
     refine ⟨_,G,h3,⟨g1.size,g1.defers,fun i=>?_,g1.hp.congr rfl rfl⟩,x1,hf⟩
     simp only [St.set,upd]
     split
     ·rename_i e
      subst e
      have hv:=hg.env i
      rw [hd] at hv
      obtain ⟨g,a',cap,e1,e2,e3,e4,e5,e6,e7⟩:=aE6 hv
      rw [e1]
      obtain ⟨g',b1,b2,b3,b4,b5,b6⟩:=hg.hp.blk id _ hL
      obtain rfl:g'=g:=Option.some.inj (b1.symm.trans e2)
      have hlen:((es.drop off).take len).length=len:=by simp; omega
      have hrep:Rep G (Dp D (s.drop id).L G) w (.lst sz ((es.drop off).take len)) (.slice a' ((es.drop off).take len).length cap):=by
       have hsz:sz=sz':=e3.symm.trans b2
       subst hsz
       have cellAt:∀ (i j:Nat) (c:V),((((es.drop off).take len)[i]?).bind fun e=>e.cells[j]?)=some c→((es[off+i]?).bind fun e=>e.cells[j]?)=some c∧i<len∧j<sz:=by
        intro i j c hc
        cases he:((es.drop off).take len)[i]? with
        | none=>rw [he] at hc; simp at hc
        | some e =>
          rw [he] at hc
          simp only [Option.bind_some] at hc
          have hmem:e∈es:=List.mem_of_mem_drop (List.mem_of_mem_take (mem_of_getElem? he))
          have hi:i<len:=by
           have:=(List.getElem?_eq_some_iff.1 he).1
           omega
          rw [List.getElem?_take_of_lt hi,List.getElem?_drop] at he
          refine ⟨by rw [he]; exact hc,hi,?_⟩
          rw [← aA7 (b5 e hmem)]
          exact (List.getElem?_eq_some_iff.1 hc).1
       refine .lst sz _ a' cap g'.blk (g'.off+off*sz) (by omega) (by omega) (fun h0=>?_) (fun e he=>b5 e (List.mem_of_mem_drop (List.mem_of_mem_take he))) (fun i j c hc=>?_) (fun i j c hc=>?_)
       ·rw [hlen] at h0
        refine ⟨e7 (by omega),?_⟩
        have hocc:Occ g' (.vec ty0 sz es) g'.blk:=⟨by omega,rfl⟩
        obtain ⟨k1,k2⟩:=hg.hp.away g'.blk ⟨id,_,g',hL,b1,hocc⟩
        refine ⟨k1,fun hdp=>?_⟩
        rcases hdp with hdp | ⟨id2,b2',g2,l1,l2,l3⟩
        ·exact k2 hdp
        ·by_cases e:id2=id
         ·subst e; simp [St.drop,aAf] at l1
         ·simp only [St.drop,aAe _ _ _ _ e] at l1
          exact hg.hp.apart id id2 _ _ _ _ _ hL l1 b1 l2 (Ne.symm e) hocc l3
       ·obtain ⟨q1,q3,q4⟩:=cellAt i j c hc
        obtain ⟨c',ty,fr,k2,k3,k4,k5⟩:=b6 (by omega)
        rw [aA9 k2]
        have:(off+i+1)*sz≤g'.cap*sz:=Nat.mul_le_mul_right _ (by omega)
        rw [Nat.add_mul,Nat.add_mul] at this
        simp; omega
       ·obtain ⟨q1,q3,q4⟩:=cellAt i j c hc
        obtain ⟨c',ty,fr,k2,k3,k4,k5⟩:=b6 (by omega)
        rw [aBo k2]
        have h5:=k5 _ _ _ q1
        rw [Nat.add_mul] at h5
        have e:g'.off+off*sz+i*sz+j=g'.off+(off*sz+i*sz)+j:=by omega
        rw [e]
        exact x1.rep h5
      rw [hlen] at hrep
      exact hrep
     ·exact g1.env i
    ·exact h.elim
   ·exact h.elim
end
end Go.Ab
namespace Go.Ab
open Go.RowKit
theorem aXr {P:Program} {Q:Exit→Act→World→Prop} {c:Code} (I:Nat→Act→World→Prop)
 (round:∀ m a w,I m a w→c.wp P (Exit.then (fun a' w'=>∃ m',m'<m∧I m' a' w') Q) a w) {m:Nat} {a:Act} {w:World} (h₀:I m a w):(Code.loop c).wp P Q a w:=by
 intro b k cs
 have key:∀ m a w,I m a w→∃ e a' w',Q e a' w'∧Arrives P (lone (b.at a (.code c::.inLoop c::k)) cs w) b k cs e a' w':=by
  intro m
  induction m using Nat.strongRecOn with
  | _ m ih =>
    intro a w hI
    obtain ⟨e,a₁,w₁,hq,harr⟩:=round m a w hI b (.inLoop c::k) cs
    cases e with
    | normal =>
      obtain ⟨m',hlt,hI₁⟩:=hq
      obtain ⟨e₂,a₂,w₂,hq₂,harr₂⟩:=ih m' hlt a₁ w₁ hI₁
      exact ⟨e₂,a₂,w₂,hq₂,.of_steps (Steps.trans harr (.one step_inLoop)) harr₂⟩
    | exit id=>exact ⟨_,a₁,w₁,hq,.pass (x:=.inLoop c) rfl (fun _ _=>.inl (by simp)) harr⟩
    | goto l=>exact ⟨_,a₁,w₁,hq,.pass (x:=.inLoop c) rfl (fun _ _=>.inl (by simp)) harr⟩
    | ret=>exact ⟨_,a₁,w₁,hq,.pass (x:=.inLoop c) rfl (fun _ _=>.inl (by simp)) harr⟩
    | panic ch=>exact ⟨_,a₁,w₁,hq,.pass (x:=.inLoop c) rfl (fun _ _=>.inl (by simp)) harr⟩
    | outgrown=>exact ⟨_,a₁,w₁,hq,.pass (x:=.inLoop c) rfl (fun _ _=>.inl (by simp)) harr⟩
 obtain ⟨e,a',w',hq,harr⟩:=key _ a w h₀
 exact ⟨e,a',w',hq,.of_steps (.one step_loop) harr⟩
section
variable {P:Program} {D:Nat→Prop} {n:Nat} {hint:Nat→Nat}
theorem aKb {L L':Heap} {G G':Ghost} {w w':World} {K:X→St→Prop} {Q:Exit→Act→World→Prop} (hx:Nxt L G w L' G' w') (h:Ends P D n L G w K Q):Ends P D n L' G' w' K Q :=
 fun x s2 G2 a2 w2 k g x2 f=>h x s2 G2 a2 w2 k g (hx.trans x2) f
theorem aLd {L:Heap} {G:Ghost} {w:World} {N:St→Prop} {K:X→St→Prop} {Q:Exit→Act→World→Prop} {next:Act→World→Prop} (h:Ends P D n L G w K Q)
 (hn:∀ s' G' a' w',N s'→Good P D n s' G' a' w'→Nxt L G w s'.L G' w'→(∀ i,s'.nx≤i→G' i=none)→next a' w'):Ends P D n L G w (seqK N K) (Exit.then next Q):=by
 intro x s' G' a' w' k g x' f
 cases x with
 | norm=>exact hn s' G' a' w' k g x' f
 | exit id=>exact h (.exit id) s' G' a' w' k g x' f
 | ret=>exact h .ret s' G' a' w' k g x' f
def Inv (P:Program) (n:Nat) (hint:Nat→Nat) (code:Code):LC→Prop
 | .skip=>code=.skip
 | .bad=>True
 | .ops d gl=>∃ id ops,code=.region id ops d
 | .seq x y=>∃ p q,code=.seq p q∧aCf P n hint p=some x∧aCf P n hint q=some y
 | .cond c x y=>∃ o p q,code=.cond o p q∧opd n o=some c∧aCf P n hint p=some x∧aCf P n hint q=some y
 | .block id x=>∃ p,code=.block id p∧aCf P n hint p=some x
 | .loop x=>∃ p,code=.loop p∧aCf P n hint p=some x
 | .exit id=>code=.exit id
 | .ret=>code=.ret
theorem aDk {code:Code} {l:LC} (h:aCf P n hint code=some l):Inv P n hint code l:=by
 cases code
 case region id ops draw =>
  by_cases hb:l=.bad
  ·subst hb; exact trivial
  ·obtain ⟨gl,_,_,h3,_⟩:=aJ4 h hb
   subst h3
   exact ⟨id,ops,rfl⟩
 case seq p q =>
  simp only [aCf] at h
  split at h
  ·rename_i u v h1 h2
   simp only [Option.some.injEq] at h
   subst h
   exact ⟨p,q,rfl,h1,h2⟩
  ·simp at h
 case cond o p q =>
  simp only [aCf] at h
  split at h
  ·rename_i c u v h0 h1 h2
   simp only [Option.some.injEq] at h
   subst h
   exact ⟨o,p,q,rfl,h0,h1,h2⟩
  ·simp at h
 case block id p =>
  simp only [aCf] at h
  obtain ⟨u,h1,rfl⟩:=Option.map_eq_some_iff.1 h
  exact ⟨p,rfl,h1⟩
 case loop p =>
  simp only [aCf] at h
  obtain ⟨u,h1,rfl⟩:=Option.map_eq_some_iff.1 h
  exact ⟨p,rfl,h1⟩
 all_goals simp only [aCf] at h
 all_goals first
  | (simp only [Option.some.injEq] at h; subst h; exact trivial)
  | (simp only [Option.some.injEq] at h; subst h; rfl)
  | (split at h
     ·simp only [Option.some.injEq] at h; subst h; exact trivial
     ·simp at h; done)
theorem bQj (hn0:0<n):∀ (c:C) (code:Code),aCf P n hint code=some c.erase→c.ok=true→∀ (s:St) (G:Ghost) (a:Act) (w:World) (K:X→St→Prop) (Q:Exit→Act→World→Prop),
 awp P n c K s→Good P D n s G a w→(∀ i,s.nx≤i→G i=none)→Ends P D n s.L G w K Q→code.wp P Q a w:=by
 intro c
 induction c with
 | skip =>
   intro code hl hok s G a w K Q h hg hf he
   have inv:=aDk hl
   obtain rfl:=inv
   exact wp_skip (he .norm s G a w h hg (Nxt.refl _ _ _) hf)
 | bad=>intro code hl hok s G a w K Q h; exact h.elim
 | ops d l =>
   intro code hl hok s G a w K Q h hg hf he
   have inv:=aDk hl
   obtain ⟨id,ops,rfl⟩:=inv
   exact aPc hl (aJl l s hok h) hg hf fun s' G' a' w' k g x=>he .norm _ G' a' w' k g.past.1 x g.past.2
 | seq x y ihx ihy =>
   intro code hl hok s G a w K Q h hg hf he
   simp only [C.ok,Bool.and_eq_true] at hok
   have inv:=aDk hl
   obtain ⟨p,q,rfl,h1,h2⟩:=inv
   exact wp_seq (ihx p h1 hok.1 s G a w _ _ h hg hf (aLd he fun s' G' a' w' k g x f=>ihy q h2 hok.2 s' G' a' w' K Q k g f (aKb x he)))
 | seqc x y ihx ihy =>
   intro code hl hok s G a w K Q h hg hf he
   simp only [C.ok,Bool.and_eq_true] at hok
   obtain ⟨M,hM1,hM2⟩:=h
   have inv:=aDk hl
   obtain ⟨p,q,rfl,h1,h2⟩:=inv
   exact wp_seq (ihx p h1 hok.1 s G a w _ _ hM1 hg hf (aLd he fun s' G' a' w' k g x f=>ihy q h2 hok.2 s' G' a' w' K Q (hM2 s' k) g f (aKb x he)))
 | cond z x y ihx ihy =>
   intro code hl hok s G a w K Q h hg hf he
   simp only [C.ok,Bool.and_eq_true] at hok
   have inv:=aDk hl
   obtain ⟨o,p,q,rfl,h0,h1,h2⟩:=inv
   · · have hr:=aAi hg h0
       cases z with
       | t m =>
         simp only [awp] at h
         split at h <;> try (exact h.elim)
         ·rename_i m' b e1 e2
          cases e1
          rw [e2] at hr
          have hb:=aCg hr
          have hs:∀ b',b=b'→s.set m (.bool b')=s:=fun b' e=>bBy (by rw [← e]; exact e2)
          refine wp_cond_split hb (fun ht=>?_) (fun ht=>?_)
          ·have:=h.1 ht
           rw [hs _ ht] at this
           exact ihx p h1 hok.1 s G a w K Q this hg hf he
          ·have:=h.2 ht
           rw [hs _ ht] at this
           exact ihy q h2 hok.2 s G a w K Q this hg hf he
         ·rename_i e1 _; cases e1
       | k v' =>
         simp only [awp] at h
         split at h <;> try (exact h.elim)
         ·rename_i e1 _; cases e1
         ·rename_i m' b e1 e2
          cases e1
          rw [e2] at hr
          have hb:=aCg hr
          refine wp_cond_split hb (fun ht=>?_) (fun ht=>?_)
          ·simp only [ht,if_true] at h
           exact ihx p h1 hok.1 s G a w K Q h hg hf he
          ·simp only [ht,Bool.false_eq_true,if_false] at h
           exact ihy q h2 hok.2 s G a w K Q h hg hf he
 | block id x ihx =>
   intro code hl hok s G a w K Q h hg hf he
   have inv:=aDk hl
   ·obtain ⟨p,rfl,h1⟩:=inv
    refine wp_block (ihx p h1 hok s G a w _ _ h hg hf ?_)
    intro x' s' G' a' w' k g x f
    cases x' with
    | norm=>exact he .norm s' G' a' w' k g x f
    | ret=>exact he .ret s' G' a' w' k g x f
    | exit m =>
      simp only [blkK] at k
      simp only [bH6,Exit.inBlock]
      by_cases e:m=id
      ·simp only [e,if_true] at k ⊢
       exact he .norm s' G' a' w' k g x f
      ·simp only [e,if_false] at k ⊢
       exact he (.exit m) s' G' a' w' k g x f
 | loop x ihx =>
   intro code hl hok s G a w K Q h hg hf he
   have inv:=aDk hl
   ·obtain ⟨p,rfl,h1⟩:=inv
    obtain ⟨J,⟨m0,hJ0⟩,hJ⟩:=h
    refine aXr (fun m a' w'=>∃ s' G',J m s'∧Good P D n s' G' a' w'∧Nxt s.L G w s'.L G' w'∧∀ i,s'.nx≤i→G' i=none) (fun m a1 w1 hI=>?_) (m:=m0) ⟨s,G,hJ0,hg,Nxt.refl _ _ _,hf⟩
    obtain ⟨s1,G1,j1,g1,x1,f1⟩:=hI
    refine ihx p h1 hok s1 G1 a1 w1 _ _ (hJ m s1 j1) g1 f1 (aLd (aKb x1 he) fun s2 G2 a2 w2 k2 g2 x2 f2=>?_)
    obtain ⟨m2,hlt,j2⟩:=k2
    exact ⟨m2,hlt,s2,G2,j2,g2,x1.trans x2,f2⟩
 | exit id =>
   intro code hl hok s G a w K Q h hg hf he
   have inv:=aDk hl
   ·obtain rfl:=inv
    exact wp_exit (he (.exit id) s G a w h hg (Nxt.refl _ _ _) hf)
 | ret =>
   intro code hl hok s G a w K Q h hg hf he
   have inv:=aDk hl
   ·obtain rfl:=inv
    exact wp_ret (he .ret s G a w h hg (Nxt.refl _ _ _) hf)
 | gh g x ihx =>
   intro code hl hok s G a w K Q h hg hf he
   obtain ⟨s',G',h1,h2,h3,h4⟩:=aU1 hn0 h hg hf
   exact ihx code hl hok s' G' a w K Q h1 h2 h4 (aKb h3 he)
 | gha g x ihx =>
   intro code hl hok s G a w K Q h hg hf he
   refine ihx code hl hok s G a w _ Q h hg hf ?_
   intro x' s' G' a' w' k g' x2 f
   cases x' with
   | norm =>
     obtain ⟨s2,G2,h1,h2,h3,h4⟩:=aU1 hn0 k g' f
     exact he .norm s2 G2 a' w' h1 h2 (x2.trans h3) h4
   | exit id=>exact he (.exit id) s' G' a' w' k g' x2 f
   | ret=>exact he .ret s' G' a' w' k g' x2 f
end
end Go.Ab
namespace Go.Ab
open Go.RowKit
abbrev RV:=Nat×Option (Nat×Bool)
def lowR (P:Program):ResultVar→Option RV
 | .tmp t=>some (t,none)
 | .cell t y=>match szOf P y,aCp P y with
   | some z,some ag=>if ag||z=1 then some (t,some (z,ag)) else none
   | _,_=>none
def aXt (P:Program):List ResultVar→Option (List RV)
 | []=>some []
 | r::l=>match lowR P r,aXt P l with
   | some x,some y=>some (x::y)
   | _,_=>none
def resP:List RV→St→(List V→Prop)→Prop
 | [],_,K=>K []
 | (t,none)::r,s,K=>resP r s fun vs=>K (s.env t::vs)
 | (t,some (sz,ag))::r,s,K=>match s.env t with
   | .ptr id o=>match s.L id with
     | some (.box _ cs)=>o+sz≤cs.length∧resP r s fun vs=>K (pack ag ((cs.drop o).take sz)::vs)
     | _=>False
   | _=>False
def one:List V→V
 | [v]=>v
 | vs=>.tup vs
theorem aOt:∀ {rs:List RV} {s:St} {K:List V→Prop},resP rs s K→∃ vs,K vs
 | [],s,K,h=>⟨_,h⟩
 | (t,none)::r,s,K,h=>let ⟨vs,h⟩:=aOt (rs:=r) h; ⟨_,h⟩
 | (t,some (sz,ag))::r,s,K,h=>by
   simp only [resP] at h
   split at h
   ·split at h
    ·obtain ⟨vs,h⟩:=aOt h.2; exact ⟨_,h⟩
    ·exact h.elim
   ·exact h.elim
def oneR (tmps:Array Value):ResultVar→Sem Value
 | .tmp t=>pure (tmps.getD t undef)
 | .cell c t=>do loadVar t (← asAddr (tmps.getD c undef))
theorem aKy {P:Program} {D:Nat→Prop} {n:Nat} {s:St} {G:Ghost} {a:Act} {w:World} (hg:Good P D n s G a w):∀ (l:List ResultVar) (rs:List RV) (K:List V→Prop),aXt P l=some rs→resP rs s K →
 ∃ (xs:List V) (vs:List Value),K xs∧xs.length=vs.length∧(∀ (i:Nat) x,xs[i]?=some x→Rep G (Dp D s.L G) w x (vs.getD i undef))∧(l.mapM (oneR a.tmps)).run P w=.ok vs w
 | [],rs,K,h,hK=>by
   simp only [aXt,Option.some.injEq] at h
   subst h
   exact ⟨[],[],hK,rfl,by simp,rfl⟩
 | r::l,rs,K,h,hK=>by
   simp only [aXt] at h
   split at h
   ·rename_i x y h1 h2
    simp only [Option.some.injEq] at h
    subst h
    have step:∀ (v:V) (u:Value),Rep G (Dp D s.L G) w v u→resP y s (fun vs=>K (v::vs))→(oneR a.tmps r).run P w=.ok u w →
     ∃ (xs:List V) (vs:List Value),K xs∧xs.length=vs.length∧(∀ (i:Nat) x,xs[i]?=some x→Rep G (Dp D s.L G) w x (vs.getD i undef))∧((r::l).mapM (oneR a.tmps)).run P w=.ok vs w:=by
     intro v u hu hK' hrun
     obtain ⟨xs,vs,k1,k2,k3,k4⟩:=aKy hg l y _ h2 hK'
     refine ⟨v::xs,u::vs,k1,by simp [k2],fun i x hx=>?_,?_⟩
     ·cases i with
      | zero=>simp at hx; subst hx; simpa using hu
      | succ i=>simpa using k3 i x (by simpa using hx)
     ·rw [List.mapM_cons,Sem.run_bind]
      erw [hrun]
      simp only [Result.andThen_ok,Sem.run_bind]
      erw [k4]
      simp only [Result.andThen_ok]
      rfl
    cases r with
    | tmp t =>
      simp only [lowR,Option.some.injEq] at h1
      subst h1
      exact step _ _ (hg.env t) hK rfl
    | cell t ty =>
      simp only [lowR] at h1
      split at h1
      ·rename_i z ag hz hag
       split at h1
       ·rename_i hc
        simp only [Option.some.injEq] at h1
        subst h1
        simp only [resP] at hK
        split at hK
        ·rename_i id off hid
         split at hK
         ·rename_i cs hL
          have rx:=hg.env t
          rw [hid] at rx
          obtain ⟨g,r1,ev⟩:=aDs rx
          obtain ⟨g',k1,c',ty',fr,k2,k3,k4,_,k5⟩:=hg.hp.blk _ _ hL
          obtain rfl:g=g':=Option.some.inj (r1.symm.trans k1)
          have q0:g.off+off=off:=by omega
          rw [q0] at ev
          have get:∀ (j:Nat) (c:V),((cs.drop off).take z)[j]?=some c→cs[off+j]?=some c:=fun j c hc=>by
           rw [List.getElem?_take] at hc; split at hc <;> first | exact aBp hc | cases hc
          have hlen:((cs.drop off).take z).length=z:=by have:=hK.1; simp; omega
          have hc':ag=true∨z=1:=by simpa using hc
          refine step _ _ (aUb (q:=off) (b:=g.blk) hlen hc' fun j c hc=>?_) hK.2 ?_
          ·rw [aBo k2]; exact k5 _ _ (get j c hc)
          ·show (do loadVar ty (← asAddr (a.tmps.getD t undef)):Sem Value).run P w=_
           rw [ev]
           simp only [asAddr,Sem.run_bind,Sem.run_pure,Result.andThen_ok]
           rw [aK4 hz hag hc' fun j hj=>?_]
           have hj':off+j<cs.length:=by have:=hK.1; omega
           rw [aA9 k2]
           simp; omega
         ·exact hK.elim
        ·exact hK.elim
       ·simp at h1
      ·simp at h1
   ·simp at h
theorem aSd {fn:Func} {tmps:Array Value} {P:Program} {w:World} {vs:List Value} (h:(fn.results.toList.mapM (oneR tmps)).run P w=.ok vs w) :
 (results fn tmps).run P w=.ok (if h:vs.toArray.size=1 then vs.toArray[0] else .tuple vs.toArray) w:=by
 have e:fn.results.mapM (oneR tmps)=List.toArray <$> fn.results.toList.mapM (oneR tmps):=by
  have e1:fn.results.mapM (oneR tmps)=fn.results.toList.toArray.mapM (oneR tmps):=by simp
  rw [e1,List.mapM_toArray]
 have e2:results fn tmps=(do
  let vs ← fn.results.mapM (oneR tmps)
  pure (if h:vs.size=1 then vs[0] else .tuple vs)):=rfl
 rw [e2,e]
 simp only [Sem.run_bind]
 have e3:(List.toArray <$> fn.results.toList.mapM (oneR tmps)).run P w=.ok vs.toArray w:=by
  rw [map_eq_pure_bind,Sem.run_bind,h]
  rfl
 rw [e3]
 rfl
theorem bKg {G:Ghost} {D:Nat→Prop} {w:World} {xs:List V} {vs:List Value} (hl:xs.length=vs.length) (h:∀ (i:Nat) x,xs[i]?=some x→Rep G D w x (vs.getD i undef)) :
 Rep G D w (one xs) (if h:vs.toArray.size=1 then vs.toArray[0] else .tuple vs.toArray):=by
 match xs,vs,hl with
 | [x],[v],_=>simpa [one] using h 0 x rfl
 | [],[],_=>exact .tup _ _ rfl (by simp)
 | x::y::r,v::u::q,hl =>
   have:¬ ((v::u::q).toArray.size=1):=by simp
   simp only [one,this,dif_neg,not_false_eq_true]
   refine .tup _ _ (by simpa using hl) fun i c hc=>?_
   have:=h i c hc
   simpa [Array.getD_eq_getD_getElem?] using this
section
variable {P:Program} {n:Nat} {hint:Nat→Nat}
theorem aPf {g:Gh} {s:St} {K:St→Prop} (h:aB3 g s K):∃ s',K s':=by
 cases g with
 | cut=>obtain ⟨M,h1,h2⟩:=h; exact ⟨s,h2 s h1⟩
 | fz=>obtain ⟨s',_,h2⟩:=h; exact ⟨s',h2⟩
 | own d ty sz=>exact ⟨_,h.2⟩
 | bopen d =>
   simp only [aB3] at h
   split at h
   ·split at h
    ·rename_i tb ty bs hL
     by_cases hb:bs=[]
     ·exact ⟨_,(h .nilp (.inl rfl)).1 hb⟩
     ·exact ⟨_,(h .nilp (.inl rfl)).2 hb⟩
    ·exact h.elim
   ·exact h.elim
 | bclose d ty =>
   simp only [aB3] at h
   split at h
   ·split at h
    ·obtain ⟨_,h⟩:=h
     split at h
     ·exact ⟨_,h⟩
     ·obtain ⟨_,_,h⟩:=h
      split at h
      ·obtain ⟨_,_,bs,_,h⟩:=h
       exact ⟨_,h⟩
      ·exact h.elim
     ·exact h.elim
    ·exact h.elim
   ·exact h.elim
 | frzb d =>
   simp only [aB3] at h
   split at h
   ·split at h
    ·exact ⟨_,h.2⟩
    ·exact h.elim
   ·exact h.elim
 | frz d =>
   simp only [aB3] at h
   split at h
   ·split at h
    ·exact ⟨_,h.2.2⟩
    ·exact h.elim
   ·exact h.elim
theorem bPu:∀ (c:C) (s:St) (K:X→St→Prop),c.ok=true→awp P n c K s→∃ x s',K x s':=by
 intro c
 induction c with
 | skip=>intro s K _ h; exact ⟨.norm,s,h⟩
 | bad=>intro s K _ h; exact h.elim
 | ops d l =>
   intro s K hok h
   obtain ⟨s',h'⟩:=bDz (aJl l s hok h)
   exact ⟨.norm,_,h'⟩
 | seq x y ihx ihy =>
   intro s K hok h
   simp only [C.ok,Bool.and_eq_true] at hok
   obtain ⟨x',s',h'⟩:=ihx s _ hok.1 h
   cases x' with
   | norm=>exact ihy s' K hok.2 h'
   | exit id=>exact ⟨_,s',h'⟩
   | ret=>exact ⟨_,s',h'⟩
 | seqc x y ihx ihy =>
   intro s K hok h
   simp only [C.ok,Bool.and_eq_true] at hok
   obtain ⟨M,h1,h2⟩:=h
   obtain ⟨x',s',h'⟩:=ihx s _ hok.1 h1
   cases x' with
   | norm=>exact ihy s' K hok.2 (h2 s' h')
   | exit id=>exact ⟨_,s',h'⟩
   | ret=>exact ⟨_,s',h'⟩
 | cond z x y ihx ihy =>
   intro s K hok h
   simp only [C.ok,Bool.and_eq_true] at hok
   simp only [awp] at h
   split at h
   ·rename_i m b e
    cases b
    ·exact ihy _ K hok.2 (h.2 rfl)
    ·exact ihx _ K hok.1 (h.1 rfl)
   ·split at h
    ·exact ihx _ K hok.1 h
    ·exact ihy _ K hok.2 h
   ·exact h.elim
 | block id x ihx =>
   intro s K hok h
   obtain ⟨x',s',h'⟩:=ihx s _ hok h
   cases x' with
   | norm=>exact ⟨_,s',h'⟩
   | ret=>exact ⟨_,s',h'⟩
   | exit m =>
     simp only [blkK] at h'
     split at h'
     ·exact ⟨_,s',h'⟩
     ·exact ⟨_,s',h'⟩
 | loop x ihx =>
   intro s K hok h
   obtain ⟨J,⟨m0,h0⟩,hJ⟩:=h
   have key:∀ m s,J m s→∃ x s',K x s':=by
    intro m
    induction m using Nat.strongRecOn with
    | _ m ih =>
      intro s hs
      obtain ⟨x',s',h'⟩:=ihx s _ hok (hJ m s hs)
      cases x' with
      | norm=>obtain ⟨m',hlt,hj⟩:=h'; exact ih m' hlt s' hj
      | exit id=>exact ⟨_,s',h'⟩
      | ret=>exact ⟨_,s',h'⟩
   exact key m0 s h0
 | exit id=>intro s K _ h; exact ⟨_,s,h⟩
 | ret=>intro s K _ h; exact ⟨_,s,h⟩
 | gh g x ihx =>
   intro s K hok h
   obtain ⟨s',h'⟩:=aPf h
   exact ihx s' K hok h'
 | gha g x ihx =>
   intro s K hok h
   obtain ⟨x',s',h'⟩:=ihx s _ hok h
   cases x' with
   | norm=>obtain ⟨s2,h2⟩:=aPf h'; exact ⟨.norm,s2,h2⟩
   | exit id=>exact ⟨_,s',h'⟩
   | ret=>exact ⟨_,s',h'⟩
structure Fn (P:Program) (f:Nat) (n:Nat) (rs:List RV) (c:C):Prop where
 get:∃ fn code hint,P.funcs[f]?=some fn∧fn.body=some code∧fn.ntmps=n∧aXt P fn.results.toList=some rs∧aCf P n hint code=some c.erase
 ok:c.ok=true
 pos:0<n
def fnL (P:Program) (f:Nat) (hint:Nat→Nat):Option (Nat×Option (List RV)×Option LC):=match P.funcs[f]? with
 | some fn=>match fn.body with
   | some code=>some (fn.ntmps,aXt P fn.results.toList,aCf P fn.ntmps hint code)
   | none=>none
 | none=>none
theorem aAg {P:Program} {f n:Nat} {rs:List RV} {c:C} (hint:Nat→Nat) (h:fnL P f hint=some (n,some rs,some c.erase)) (ok:(c.ok&&Nat.blt 0 n)=true):Fn P f n rs c:=by
 rw [Bool.and_eq_true] at ok
 unfold fnL at h
 split at h
 ·rename_i fn e
  split at h
  ·rename_i code e2
   simp only [Option.some.injEq,Prod.mk.injEq] at h
   obtain ⟨rfl,h2,h3⟩:=h
   exact ⟨⟨fn,code,hint,e,e2,rfl,h2,h3⟩,ok.1,Nat.le_of_ble_eq_true ok.2⟩
  ·cases h
 ·cases h
def St.enter (args:List V) (L:Heap) (nx:Nat):St:=⟨fun i=>args.getD i .junk,L,nx⟩
def endK (rs:List RV) (post:V→Heap→Nat→Prop):X→St→Prop
 | .norm,s=>resP rs s fun vs=>post (one vs) s.L s.nx
 | .ret,s=>resP rs s fun vs=>post (one vs) s.L s.nx
 | .exit _,_=>False
theorem aX5 {D:Nat→Prop} {args:List V} {L:Heap} {nx:Nat} {G:Ghost} {w:World} {vs:Array Value} (hn:args.length≤n) (hp:Hp P D 0 ⟨fun _=>.junk,L,nx⟩ G w) (hl:args.length=vs.size)
 (hr:∀ i x,args[i]?=some x→Rep G (Dp D L G) w x (vs.getD i undef)):Good P D n (.enter args L nx) G { tmps:=vs++Array.replicate (n-vs.size) undef,defers:=[] } w:=by
 refine ⟨by simp; omega,rfl,fun i=>?_,⟨fun id hid=>hp.fin id (by simp only [St.enter] at hid ⊢; omega),hp.blk,hp.apart,hp.away,hp.dlt,hp.gl⟩⟩
 simp only [St.enter]
 rcases Nat.lt_or_ge i args.length with h | h
 ·have h1:=hr i args[i] (List.getElem?_eq_getElem h)
  have e1:args.getD i .junk=args[i]:=by simp [List.getD,h]
  have hv:i<vs.size:=by omega
  have e2:(vs++Array.replicate (n-vs.size) undef).getD i undef=vs.getD i undef:=by
   simp [Array.getD_eq_getD_getElem?,Array.getElem?_append,hv]
  rw [e1]
  simp only [e2]
  exact h1
 ·have e1:args.getD i .junk=.junk:=by simp [List.getD,List.getElem?_eq_none h]
  rw [e1]
  exact .junk _
theorem aKc {f:Nat} {rs:List RV} {c:C} {args:List V} {L:Heap} {nx:Nat} {post:V→Heap→Nat→Prop} (hf:Fn P f n rs c) (hn:args.length≤n)
 (h:awp P n c (endK rs fun r L' nx'=>nx≤nx'∧post r L' nx') (.enter args L nx)):ECall P f args L nx post:=by
 obtain ⟨fn,code,hint,h1,h2,h3,h4,h5⟩:=hf.get
 refine ⟨?_,fun D G w vs hp hl hr=>?_⟩
 ·obtain ⟨x,s',hk⟩:=bPu c _ _ hf.ok h
  cases x with
  | norm=>obtain ⟨vs,hk⟩:=aOt hk; exact ⟨_,_,_,hk.2⟩
  | ret=>obtain ⟨vs,hk⟩:=aOt hk; exact ⟨_,_,_,hk.2⟩
  | exit id=>exact hk.elim
 ·refine calls_of_wp h1 h2 ?_
  rw [h3]
  refine bQj hf.pos c code h5 hf.ok _ G _ w _ _ h (aX5 hn hp hl hr) (fun i hi=>hp.fin i hi) ?_
  have fin:∀ s' G' a' w',(resP rs s' fun vs=>nx≤s'.nx∧post (one vs) s'.L s'.nx)→Good P D n s' G' a' w'→Nxt L G w s'.L G' w'→(∀ i,s'.nx≤i→G' i=none) →
   a'.defers=[]∧∃ v,(results fn a'.tmps).run P w'=.ok v w'∧∃ v' r L' nx' G'',Ending.returned v=.returned v'∧post r L' nx'∧Hp P D 0 ⟨fun _=>.junk,L',nx'⟩ G'' w'∧nx≤nx'∧Nxt L G w L' G'' w'∧Rep G'' (Dp D L' G'') w' r v':=by
   intro s' G' a' w' k g x f
   obtain ⟨xs,vs',⟨q1,q2⟩,q3,q4,q5⟩:=aKy g _ rs _ h4 k
   exact ⟨g.defers,_,aSd q5,_,one xs,s'.L,s'.nx,G',rfl,q2,⟨f,g.hp.blk,g.hp.apart,g.hp.away,g.hp.dlt,g.hp.gl⟩,q1,x,bKg q3 q4⟩
  intro x s' G' a' w' k g x' f
  cases x with
  | norm=>exact fin s' G' a' w' k g x' f
  | ret=>exact fin s' G' a' w' k g x' f
  | exit id=>exact k.elim
theorem bPl {f:Nat} {rs:List RV} {c:C} {args:List V} {r:V} (hf:Fn P f n rs c) (hn:args.length≤n) (hi:r.imm=true)
 (h:awp P n c (endK rs fun r' L' _=>view L' 3 r'=r) (.enter args (fun _=>none) 0)):PTr P f args r:=by
 have hE:ECall P f args (fun _=>none) 0 fun r' L' _=>view L' 3 r'=r:=by
  refine aKc hf hn ?_
  have:(endK rs fun r' L' nx'=>0≤nx'∧view L' 3 r'=r)=endK rs fun r' L' _=>view L' 3 r'=r:=by
   funext x s
   cases x <;> simp [endK]
  rw [this]
  exact h
 intro D w vs hD hgl hl hr
 have hp:Hp P D 0 ⟨fun _=>.junk,fun _=>none,0⟩ (fun _=>none) w:=⟨fun _ _=>rfl,fun id b h=>by simp at h,fun id id' b b' g g' x h=>by simp at h,fun x ho=>by
  obtain ⟨id,b,g,h,_⟩:=ho
  simp at h,hD,GlW.start hgl⟩
 refine (hE.2 D (fun _=>none) w vs hp hl fun i x hx=>(hr i x hx).mono (Ghost.le_refl _) (fun b _ hn hd=>?_) (Same.refl _ _)).mono ?_
 ·rcases hd with hd | ⟨id,b,g,h,_⟩
  ·exact hn hd
  ·simp at h
 ·rintro e w' ⟨v,r',L',nx',G',rfl,hpost,hp',_,hx,hrep⟩
  refine ⟨v,rfl,⟨hx.os,hx.tape,hx.output,hx.same.1,fun b hb=>hx.same.2 b hb ?_⟩,?_⟩
  ·rintro ⟨id,b,g,h,_⟩
   simp at h
  ·have:=aId hp' 3 hrep 3 (Nat.le_refl _)
   simp only at this
   rw [hpost] at this
   exact this.free hi _
end
end Go.Ab
namespace Go.Ab
def InR (k:IntKind) (x:Int):Prop:=match k with
 | .i8=>-128≤x∧x≤127
 | .i16=>-32768≤x∧x≤32767
 | .i32=>-2147483648≤x∧x≤2147483647
 | .i64=>-9223372036854775808≤x∧x≤9223372036854775807
 | .u8=>0≤x∧x≤255
 | .u16=>0≤x∧x≤65535
 | .u32=>0≤x∧x≤4294967295
 | .u64=>0≤x∧x≤18446744073709551615
theorem InR.wrap {k:IntKind} {x:Int} (h:InR k x):k.wrap x=x:=by
 cases k <;> simp only [InR] at h <;> obtain ⟨h1,h2⟩:=h <;> unfold IntKind.wrap <;> simp [IntKind.bits,IntKind.signed] <;> omega
def aDw (op:BinOp) (x y:V) (K:V→Prop):Prop :=
 match op,x,y with
 | .add,.int k a,.int k' b=>k=k'∧InR k (a+b)∧K (.int k (a+b))
 | .sub,.int k a,.int k' b=>k=k'∧InR k (a-b)∧K (.int k (a-b))
 | .mul,.int k a,.int k' b=>k=k'∧InR k (a*b)∧K (.int k (a*b))
 | .quo,.int k a,.int k' b=>k=k'∧b≠0∧InR k (a.tdiv b)∧K (.int k (a.tdiv b))
 | op,x,y=>vbin op x y K
theorem aT2 {op:BinOp} {x y:V} {K:V→Prop} (h:aDw op x y K):vbin op x y K:=by
 unfold aDw at h
 split at h
 ·obtain ⟨rfl,h1,h2⟩:=h; exact ⟨.inr rfl,by simpa only [vint,h1.wrap] using h2⟩
 ·obtain ⟨rfl,h1,h2⟩:=h; exact ⟨.inr rfl,by simpa only [vint,h1.wrap] using h2⟩
 ·obtain ⟨rfl,h1,h2⟩:=h; exact ⟨.inr rfl,by simpa only [vint,h1.wrap] using h2⟩
 ·obtain ⟨rfl,h0,h1,h2⟩:=h; exact ⟨.inr rfl,h0,by simpa only [h1.wrap] using h2⟩
 ·exact h
def vunC (op:UnOp) (x:V) (K:V→Prop):Prop :=
 match op,x with
 | .neg,.int k a=>InR k (0-a)∧K (.int k (0-a))
 | op,x=>vun op x K
theorem aYf {op:UnOp} {x:V} {K:V→Prop} (h:vunC op x K):vun op x K:=by
 unfold vunC at h
 split at h
 ·obtain ⟨h1,h2⟩:=h
  simp only [vun,h1.wrap]
  exact h2
 ·exact h
def bE7 (k:IntKind) (x:V) (K:V→Prop):Prop :=
 match x with
 | .int _ n=>InR k n∧K (.int k n)
 | _=>False
def wrD (wr:List Nat):Option Nat→Bool
 | some d=>wr.contains d
 | none=>false
def aAj (P:Program) (wr:List Nat):I→St→(St→Prop)→Prop
 | .bin d op x y,s,K=>if wrD wr d then aAc P (.bin d op x y) s K else aDw op (s.ev x) (s.ev y) fun v=>K (s.setO d v)
 | .un d op x,s,K=>if wrD wr d then aAc P (.un d op x) s K else vunC op (s.ev x) fun v=>K (s.setO d v)
 | .cvt d k x,s,K=>if wrD wr d then aAc P (.cvt d k x) s K else bE7 k (s.ev x) fun v=>K (s.setO d v)
 | i,s,K=>aAc P i s K
theorem aQm {P:Program} {wr:List Nat} {i:I} {s:St} {K:St→Prop} (h:aAj P wr i s K):aAc P i s K:=by
 cases i with
 | bin d op x y =>
   simp only [aAj] at h
   split at h
   ·exact h
   ·exact aT2 h
 | un d op x =>
   simp only [aAj] at h
   split at h
   ·exact h
   ·exact aYf h
 | cvt d k x =>
   simp only [aAj] at h
   split at h
   ·exact h
   ·simp only [aAc]
    unfold bE7 at h
    split at h
    ·rename_i e
     obtain ⟨h1,h2⟩:=h
     rw [e]
     simp only [h1.wrap]
     exact h2
    ·exact h.elim
 | _=>exact h
def aC2 (P:Program) (wr:List Nat):List I→St→(St→Prop)→Prop
 | [],s,K=>K s
 | i::r,s,K=>aAj P wr i s fun s=>aC2 P wr r s K
theorem aF3 {P:Program} {wr:List Nat}:∀ {l:List I} {s:St} {K K':St→Prop},aC2 P wr l s K→(∀ s,K s→K' s)→aLy P l s K'
 | [],s,K,K',h,hk=>hk s h
 | i::r,s,K,K',h,hk=>aGx (aQm h) fun s' h'=>aF3 h' hk
def aMk (P:Program) (wr:List Nat) (x:Grp) (s:St) (K:St→Prop):Prop :=
 match x.g with
 | none=>aC2 P wr x.l s K
 | some (t,w)=>match s.env t with
   | .bool b=>(b=w→aC2 P wr x.l (s.set t (.bool w)) K)∧(b=!w→K (aF1 x.l (s.set t (.bool !w))))
   | .tup []=>K (aF1 x.l s)
   | _=>False
theorem aSl {P:Program} {wr:List Nat} {x:Grp} {s:St} {K K':St→Prop} (h:aMk P wr x s K) (hk:∀ s,K s→K' s):grun P x s K':=by
 obtain ⟨g,l⟩:=x
 cases g with
 | none=>exact aF3 h hk
 | some g =>
   obtain ⟨t,w⟩:=g
   simp only [aMk] at h
   simp only [grun]
   split at h
   ·rename_i b e
    simp only [e]
    exact ⟨fun e=>aF3 (h.1 e) hk,fun e=>hk _ (h.2 e)⟩
   ·rename_i e
    simp only [e]
    exact hk _ h
   ·exact h.elim
def aGm (P:Program) (wr:List Nat):List Grp→St→(St→Prop)→Prop
 | [],s,K=>K s
 | x::r,s,K=>aMk P wr x s fun s=>aGm P wr r s K
theorem aJs {P:Program} {wr:List Nat}:∀ {l:List Grp} {s:St} {K K':St→Prop},aGm P wr l s K→(∀ s,K s→K' s)→bC5 P l s K'
 | [],s,K,K',h,hk=>hk s h
 | i::r,s,K,K',h,hk=>aSl h fun s' h'=>aJs h' hk
def awpC (P:Program) (n:Nat) (wr:List Nat):C→(X→St→Prop)→St→Prop
 | .skip,K,s=>K .norm s
 | .bad,_,_=>False
 | .ops _ l,K,s=>aGm P wr l s fun s=>K .norm (s.past n)
 | .seq a b,K,s=>awpC P n wr a (seqK (awpC P n wr b K) K) s
 | .seqc a b,K,s=>∃ M:St→Prop,awpC P n wr a (seqK M K) s∧∀ s,M s→awpC P n wr b K s
 | .cond x a b,K,s=>match x,s.ev x with
   | .t m,.bool t=>(t=true→awpC P n wr a K (s.set m (.bool true)))∧(t=false→awpC P n wr b K (s.set m (.bool false)))
   | .k _,.bool t=>if t then awpC P n wr a K s else awpC P n wr b K s
   | _,_=>False
 | .block id a,K,s=>awpC P n wr a (blkK id K) s
 | .loop a,K,s=>∃ J:Nat→St→Prop,(∃ m,J m s)∧∀ m s,J m s→awpC P n wr a (seqK (fun s=>∃ m',m'<m∧J m' s) K) s
 | .exit id,K,s=>K (.exit id) s
 | .ret,K,s=>K .ret s
 | .gh g a,K,s=>aB3 g s (awpC P n wr a K)
 | .gha g a,K,s=>awpC P n wr a (seqK (fun s=>aB3 g s (K .norm)) K) s
theorem aLh {g:Gh} {s:St} {K K':St→Prop} (h:aB3 g s K) (hk:∀ s,K s→K' s):aB3 g s K':=by
 unfold aB3 at h ⊢
 split at h
 ·exact ⟨h.1,hk _ h.2⟩
 ·split at h
  ·split at h
   ·exact ⟨h.1,h.2.1,hk _ h.2.2⟩
   ·exact h.elim
  ·exact h.elim
 ·split at h
  ·split at h
   ·exact ⟨h.1,hk _ h.2⟩
   ·exact h.elim
  ·exact h.elim
 ·obtain ⟨M,h1,h2⟩:=h; exact ⟨M,h1,fun s hs=>hk s (h2 s hs)⟩
 ·obtain ⟨s',h1,h2⟩:=h; exact ⟨s',h1,hk s' h2⟩
 ·split at h
  ·split at h
   ·exact fun a ha=>⟨fun e=>hk _ ((h a ha).1 e),fun e=>hk _ ((h a ha).2 e)⟩
   ·exact h.elim
  ·exact h.elim
 ·split at h
  ·split at h
   ·refine ⟨h.1,?_⟩
    have h:=h.2
    split at h
    ·exact hk _ h
    ·refine ⟨h.1,h.2.1,?_⟩
     have h:=h.2.2
     split at h
     ·obtain ⟨a,b,bs,c,d⟩:=h
      exact ⟨a,b,bs,c,hk _ d⟩
     ·exact h.elim
    ·exact h.elim
   ·exact h.elim
  ·exact h.elim
theorem aIe {N N':St→Prop} {K K':X→St→Prop} (h1:∀ s,N s→N' s) (h2:∀ x s,K x s→K' x s):∀ x s,seqK N K x s→seqK N' K' x s:=by
 intro x s h
 cases x with
 | norm=>exact h1 s h
 | exit n=>exact h2 _ s h
 | ret=>exact h2 _ s h
theorem aZh {id:Nat} {K K':X→St→Prop} (h2:∀ x s,K x s→K' x s):∀ x s,blkK id K x s→blkK id K' x s:=by
 intro x s h
 cases x with
 | norm=>exact h2 _ s h
 | exit n =>
   simp only [blkK] at h ⊢
   split
   ·rename_i e; simp only [e,if_true] at h; exact h2 _ s h
   ·rename_i e; simp only [e,if_false] at h; exact h2 _ s h
 | ret=>exact h2 _ s h
theorem aNq {P:Program} {n:Nat} {wr:List Nat}:∀ (c:C) {K K':X→St→Prop} {s:St},awpC P n wr c K s→(∀ x s,K x s→K' x s)→awp P n c K' s:=by
 intro c
 induction c with
 | skip=>intro K K' s h hk; exact hk _ _ h
 | bad=>intro K K' s h hk; exact h.elim
 | ops d l=>intro K K' s h hk; exact aJs h fun s h=>hk _ _ h
 | seq a b iha ihb=>intro K K' s h hk; exact iha h (aIe (fun s h=>ihb h hk) hk)
 | seqc a b iha ihb =>
   intro K K' s h hk
   obtain ⟨M,h1,h2⟩:=h
   exact ⟨M,iha h1 (aIe (fun s h=>h) hk),fun s hs=>ihb (h2 s hs) hk⟩
 | cond x a b iha ihb =>
   intro K K' s h hk
   simp only [awpC] at h
   simp only [awp]
   split at h
   ·rename_i m t e
    simp only [e]
    exact ⟨fun e=>iha (h.1 e) hk,fun e=>ihb (h.2 e) hk⟩
   ·rename_i m t e
    simp only [e]
    split at h
    ·rename_i e2; simp only [e2,if_true]; exact iha h hk
    ·rename_i e2; simp only [e2]; exact ihb h hk
   ·exact h.elim
 | block id a iha=>intro K K' s h hk; exact iha h (aZh hk)
 | loop a iha =>
   intro K K' s h hk
   obtain ⟨J,h0,h1⟩:=h
   exact ⟨J,h0,fun m s hj=>iha (h1 m s hj) (aIe (fun s h=>h) hk)⟩
 | exit id=>intro K K' s h hk; exact hk _ _ h
 | ret=>intro K K' s h hk; exact hk _ _ h
 | gh g a iha=>intro K K' s h hk; exact aLh h fun s h=>iha h hk
 | gha g a iha=>intro K K' s h hk; exact iha h (aIe (fun s h=>aLh h fun s h=>hk _ _ h) hk)
theorem ptrC {P:Program} {n f:Nat} {rs:List RV} {c:C} (wr:List Nat) {args:List V} {r:V} (hf:Fn P f n rs c) (hn:args.length≤n) (hi:r.imm=true)
 (h:awpC P n wr c (endK rs fun r' L' _=>view L' 3 r'=r) (.enter args (fun _=>none) 0)):PTr P f args r :=
 bPl hf hn hi (aNq c h fun _ _ h=>h)
theorem aBy {P:Program} {n f:Nat} {rs:List RV} {c:C} (wr:List Nat) {args:List V} {L:Heap} {nx:Nat} {post:V→Heap→Nat→Prop} (hf:Fn P f n rs c) (hn:args.length≤n)
 (h:awpC P n wr c (endK rs fun r L' nx'=>nx≤nx'∧post r L' nx') (.enter args L nx)):ECall P f args L nx post :=
 aKc hf hn (aNq c h fun _ _ h=>h)
end Go.Ab
namespace Go.Ab
theorem bXp {P:Program} {wr:List Nat} {s:St} {K:St→Prop} {d x}:aAj P wr (.mov d x) s K=(K (s.setO d (s.ev x))):=by unfold aAj aAc; rfl
def aM0 (d:Option Nat) (a:V) (b:V) (a1:V) (s:St) (K:St→Prop):Prop :=
 match a1 with
 | .bool t=>K (s.setO d (if t then a else b))
 | _=>False
theorem bN7 {P:Program} {wr:List Nat} {s:St} {K:St→Prop} {d c a b}:aAj P wr (.pick d c a b) s K=aM0 d (s.ev a) (s.ev b) (s.ev c) s K:=by unfold aAj aAc aM0 ; rfl
def aVu (d:Option Nat) (neg:Bool) (ks:List Nat) (a1:V) (a2:V) (s:St) (K:St→Prop):Prop :=
 match a1,a2 with
 | .agg a,.agg b=>∃ t,aAz ks a b=some t∧K (s.setO d (.bool (t != neg)))
 | _,_=>False
theorem bW5 {P:Program} {wr:List Nat} {s:St} {K:St→Prop} {d neg ks x y}:aAj P wr (.eqA d neg ks x y) s K=aVu d neg ks (s.ev x) (s.ev y) s K:=by unfold aAj aAc aVu ; rfl
def aXi (d:Option Nat) (neg:Bool) (a1:V) (a2:V) (s:St) (K:St→Prop):Prop :=
 match a1,a2 with
 | .bool a,.bool b=>K (s.setO d (.bool ((a==b) != neg)))
 | _,_=>False
theorem bTr {P:Program} {wr:List Nat} {s:St} {K:St→Prop} {d neg x y}:aAj P wr (.eqB d neg x y) s K=aXi d neg (s.ev x) (s.ev y) s K:=by unfold aAj aAc aXi ; rfl
theorem bFc {s:St} {K:St→Prop} {d neg a b}:aXi d neg (.bool a) (.bool b) s K=(K (s.setO d (.bool ((a==b) != neg)))):=by unfold aXi; rfl
def aBw (d:Option Nat) (neg:Bool) (a1:Nat) (a2:V) (s:St) (K:St→Prop):Prop :=
 match a1,a2 with
 | 0,.nilp=>K (s.setO d (.bool !neg))
 | 1,.nils=>K (s.setO d (.bool !neg))
 | 2,.nilm=>K (s.setO d (.bool !neg))
 | 0,.ptr q0 q1=>K (s.setO d (.bool neg))
 | 0,.eptr q0 q1 q2=>K (s.setO d (.bool neg))
 | 0,.cptr q0=>K (s.setO d (.bool neg))
 | 2,.map q0=>K (s.setO d (.bool neg))
 | 1,.lst q0 es=>0<es.length∧K (s.setO d (.bool neg))
 | 1,.own q0 q1 q2 len=>0<len∧K (s.setO d (.bool neg))
 | _,_=>False
theorem bLa {P:Program} {wr:List Nat} {s:St} {K:St→Prop} {d neg kd x}:aAj P wr (.isnil d neg kd x) s K=aBw d neg (kd) (s.ev x) s K:=by unfold aAj aAc aBw ; rfl
theorem aVy {s:St} {K:St→Prop} {d neg}:aBw d neg (0) (.nilp) s K=(K (s.setO d (.bool !neg))):=by unfold aBw; rfl
theorem aVt {s:St} {K:St→Prop} {d neg}:aBw d neg (1) (.nils) s K=(K (s.setO d (.bool !neg))):=by unfold aBw; rfl
theorem aXb {s:St} {K:St→Prop} {d neg}:aBw d neg (2) (.nilm) s K=(K (s.setO d (.bool !neg))):=by unfold aBw; rfl
theorem aXl {s:St} {K:St→Prop} {d neg q0 q1}:aBw d neg (0) (.ptr q0 q1) s K=(K (s.setO d (.bool neg))):=by unfold aBw; rfl
theorem aXf {s:St} {K:St→Prop} {d neg q0 q1 q2}:aBw d neg (0) (.eptr q0 q1 q2) s K=(K (s.setO d (.bool neg))):=by unfold aBw; rfl
theorem aYe {s:St} {K:St→Prop} {d neg q0}:aBw d neg (0) (.cptr q0) s K=(K (s.setO d (.bool neg))):=by unfold aBw; rfl
theorem aW1 {s:St} {K:St→Prop} {d neg q0}:aBw d neg (2) (.map q0) s K=(K (s.setO d (.bool neg))):=by unfold aBw; rfl
theorem aXv {s:St} {K:St→Prop} {d neg q0 es}:aBw d neg (1) (.lst q0 es) s K=(0<es.length∧K (s.setO d (.bool neg))):=by unfold aBw; rfl
theorem aW7 {s:St} {K:St→Prop} {d neg q0 q1 q2 len}:aBw d neg (1) (.own q0 q1 q2 len) s K=(0<len∧K (s.setO d (.bool neg))):=by unfold aBw; rfl
def aWs (d:Option Nat) (a1:V) (s:St) (K:St→Prop):Prop :=
 match a1 with
 | .str t=>K (s.setO d (.str t))
 | _=>False
theorem bV6 {P:Program} {wr:List Nat} {s:St} {K:St→Prop} {d x}:aAj P wr (.cvs d x) s K=aWs d (s.ev x) s K:=by unfold aAj aAc aWs ; rfl
theorem bE9 {s:St} {K:St→Prop} {d t}:aWs d (.str t) s K=(K (s.setO d (.str t))):=by unfold aWs; rfl
theorem bJe {P:Program} {wr:List Nat} {s:St} {K:St→Prop} {d zero parts}:aAj P wr (.build d zero parts) s K=((∀ p∈parts,(s.ev p.2.2).ncells=some p.2.1)∧K (s.setO d (.agg (parts.foldl (fun cs p=>aB1 cs p.1 (s.ev p.2.2).cells) zero)))):=by unfold aAj aAc; rfl
def aI9 (d:Option Nat) (off:Nat) (sz:Nat) (ag:Bool) (a1:V) (s:St) (K:St→Prop):Prop :=
 match a1 with
 | .agg cs=>off+sz≤cs.length∧K (s.setO d (pack ag ((cs.drop off).take sz)))
 | _=>False
theorem bJm {P:Program} {wr:List Nat} {s:St} {K:St→Prop} {d off sz ag x}:aAj P wr (.field d off sz ag x) s K=aI9 d off sz ag (s.ev x) s K:=by unfold aAj aAc aI9 ; rfl
theorem aYc {s:St} {K:St→Prop} {d off sz ag cs}:aI9 d off sz ag (.agg cs) s K=(off+sz≤cs.length∧K (s.setO d (pack ag ((cs.drop off).take sz)))):=by unfold aI9; rfl
def aYn (d:Option Nat) (i:Nat) (a1:V) (s:St) (K:St→Prop):Prop :=
 match a1 with
 | .tup cs=>i<cs.length∧K (s.setO d (cs.getD i .junk))
 | _=>False
theorem bRr {P:Program} {wr:List Nat} {s:St} {K:St→Prop} {d i x}:aAj P wr (.ext d i x) s K=aYn d i (s.ev x) s K:=by unfold aAj aAc aYn ; rfl
theorem bGe {s:St} {K:St→Prop} {d i cs}:aYn d i (.tup cs) s K=(i<cs.length∧K (s.setO d (cs.getD i .junk))):=by unfold aYn; rfl
def aYd (d:Option Nat) (a1:V) (a2:V) (s:St) (K:St→Prop):Prop :=
 match a1,a2 with
 | .str t,.int q0 n=>0≤n∧n.toNat<t.length∧K (s.setO d (.int .u8 (t.getD n.toNat 0).toNat))
 | _,_=>False
theorem bVg {P:Program} {wr:List Nat} {s:St} {K:St→Prop} {d x i}:aAj P wr (.idx d x i) s K=aYd d (s.ev x) (s.ev i) s K:=by unfold aAj aAc aYd ; rfl
theorem bFq {s:St} {K:St→Prop} {d t q0 n}:aYd d (.str t) (.int q0 n) s K=(0≤n∧n.toNat<t.length∧K (s.setO d (.int .u8 (t.getD n.toNat 0).toNat))):=by unfold aYd; rfl
def aNg (d:Option Nat) (n:Nat) (sz:Nat) (ag:Bool) (a1:V) (a2:V) (s:St) (K:St→Prop):Prop :=
 match a1,a2 with
 | .agg cs,.int q0 j=>0≤j∧j<n∧n*sz≤cs.length∧K (s.setO d (pack ag ((cs.drop (j.toNat*sz)).take sz)))
 | _,_=>False
theorem bQh {P:Program} {wr:List Nat} {s:St} {K:St→Prop} {d n sz ag x i}:aAj P wr (.idxA d n sz ag x i) s K=aNg d n sz ag (s.ev x) (s.ev i) s K:=by unfold aAj aAc aNg ; rfl
theorem bBw {s:St} {K:St→Prop} {d n sz ag cs q0 j}:aNg d n sz ag (.agg cs) (.int q0 j) s K=(0≤j∧j<n∧n*sz≤cs.length∧K (s.setO d (pack ag ((cs.drop (j.toNat*sz)).take sz)))):=by unfold aNg; rfl
def aNm (d:Option Nat) (lo:Option V) (hi:Option V) (a1:V) (s:St) (K:St→Prop):Prop :=
 match a1 with
 | .str t=>aBu lo 0 fun l=>aBu hi t.length fun h=>l≤h∧h≤t.length∧K (s.setO d (.str ((t.take h).drop l)))
 | _=>False
theorem bQp {P:Program} {wr:List Nat} {s:St} {K:St→Prop} {d x lo hi}:aAj P wr (.slcS d x lo hi) s K=aNm d (lo.map s.ev) (hi.map s.ev) (s.ev x) s K:=by unfold aAj aAc aNm ; rfl
def aMl (d:Option Nat) (sz:Nat) (lo:Option V) (hi:Option V) (a1:V) (s:St) (K:St→Prop):Prop :=
 match a1 with
 | .nils=>aBu lo 0 fun l=>aBu hi 0 fun h=>l≤h∧h≤0∧K (s.setO d .nils)
 | .lst sz' es=>sz'=sz∧aBu lo 0 fun l=>aBu hi es.length fun h=>l≤h∧h≤es.length∧K (s.setO d (.lst sz ((es.take h).drop l)))
 | .own id sz' off n=>sz'=sz∧aBu lo 0 fun l=>aBu hi n fun h=>l≤h∧h≤n∧K (s.setO d (.own id sz (off+l) (h-l)))
 | _=>False
theorem bTy {P:Program} {wr:List Nat} {s:St} {K:St→Prop} {d sz x lo hi}:aAj P wr (.slc d sz x lo hi) s K=aMl d sz (lo.map s.ev) (hi.map s.ev) (s.ev x) s K:=by unfold aAj aAc aMl ; rfl
def aH7 (d:Option Nat) (a1:Bool) (a2:V) (s:St) (K:St→Prop):Prop :=
 match a1,a2 with
 | true,.str t=>K (s.setO d (.int .i64 t.length))
 | false,.nils=>K (s.setO d (.int .i64 0))
 | false,.lst q0 es=>K (s.setO d (.int .i64 es.length))
 | false,.own q0 q1 q2 n=>K (s.setO d (.int .i64 n))
 | _,_=>False
theorem bXn {P:Program} {wr:List Nat} {s:St} {K:St→Prop} {d st x}:aAj P wr (.len d st x) s K=aH7 d (st) (s.ev x) s K:=by unfold aAj aAc aH7 ; rfl
theorem bGw {s:St} {K:St→Prop} {d t}:aH7 d (true) (.str t) s K=(K (s.setO d (.int .i64 t.length))):=by unfold aH7; rfl
theorem bHu {s:St} {K:St→Prop} {d}:aH7 d (false) (.nils) s K=(K (s.setO d (.int .i64 0))):=by unfold aH7; rfl
theorem bHz {s:St} {K:St→Prop} {d q0 es}:aH7 d (false) (.lst q0 es) s K=(K (s.setO d (.int .i64 es.length))):=by unfold aH7; rfl
theorem bHq {s:St} {K:St→Prop} {d q0 q1 q2 n}:aH7 d (false) (.own q0 q1 q2 n) s K=(K (s.setO d (.int .i64 n))):=by unfold aH7; rfl
def aG8 (d:Option Nat) (off:Nat) (a1:V) (s:St) (K:St→Prop):Prop :=
 match a1 with
 | .cptr cs=>K (s.setO d (.cptr (cs.drop off)))
 | .ptr id o=>K (s.setO d (.ptr id (o+off)))
 | .eptr id i j=>K (s.setO d (.eptr id i (j+off)))
 | _=>False
theorem bQ2 {P:Program} {wr:List Nat} {s:St} {K:St→Prop} {d off x}:aAj P wr (.fadr d off x) s K=aG8 d off (s.ev x) s K:=by unfold aAj aAc aG8 ; rfl
theorem bBs {s:St} {K:St→Prop} {d off cs}:aG8 d off (.cptr cs) s K=(K (s.setO d (.cptr (cs.drop off)))):=by unfold aG8; rfl
theorem bD4 {s:St} {K:St→Prop} {d off id o}:aG8 d off (.ptr id o) s K=(K (s.setO d (.ptr id (o+off)))):=by unfold aG8; rfl
theorem bBf {s:St} {K:St→Prop} {d off id i j}:aG8 d off (.eptr id i j) s K=(K (s.setO d (.eptr id i (j+off)))):=by unfold aG8; rfl
def aHc (d:Option Nat) (sz:Nat) (a1:V) (a2:V) (s:St) (K:St→Prop):Prop :=
 match a1,a2 with
 | .lst sz' es,.int q0 n=>sz'=sz∧0≤n∧n.toNat<es.length∧K (s.setO d (.cptr (es.getD n.toNat .junk).cells))
 | .own id sz' off len,.int q0 n=>sz'=sz∧0≤n∧n.toNat<len∧K (s.setO d (.eptr id (off+n.toNat) 0))
 | _,_=>False
theorem bPp {P:Program} {wr:List Nat} {s:St} {K:St→Prop} {d sz x i}:aAj P wr (.iadr d sz x i) s K=aHc d sz (s.ev x) (s.ev i) s K:=by unfold aAj aAc aHc ; rfl
theorem aZ3 {s:St} {K:St→Prop} {d sz sz' es q0 n}:aHc d sz (.lst sz' es) (.int q0 n) s K=(sz'=sz∧0≤n∧n.toNat<es.length∧K (s.setO d (.cptr (es.getD n.toNat .junk).cells))):=by unfold aHc; rfl
theorem aZ9 {s:St} {K:St→Prop} {d sz id sz' off len q0 n}:aHc d sz (.own id sz' off len) (.int q0 n) s K=(sz'=sz∧0≤n∧n.toNat<len∧K (s.setO d (.eptr id (off+n.toNat) 0))):=by unfold aHc; rfl
def aGe (d:Option Nat) (n:Nat) (sz:Nat) (a1:V) (a2:V) (s:St) (K:St→Prop):Prop :=
 match a1,a2 with
 | .cptr cs,.int q0 j=>0≤j∧j<n∧K (s.setO d (.cptr (cs.drop (j.toNat*sz))))
 | .ptr id o,.int q0 j=>0≤j∧j<n∧K (s.setO d (.ptr id (o+j.toNat*sz)))
 | _,_=>False
theorem bMo {P:Program} {wr:List Nat} {s:St} {K:St→Prop} {d n sz x i}:aAj P wr (.iadrA d n sz x i) s K=aGe d n sz (s.ev x) (s.ev i) s K:=by unfold aAj aAc aGe ; rfl
theorem aX7 {s:St} {K:St→Prop} {d n sz cs q0 j}:aGe d n sz (.cptr cs) (.int q0 j) s K=(0≤j∧j<n∧K (s.setO d (.cptr (cs.drop (j.toNat*sz))))):=by unfold aGe; rfl
theorem aWf {s:St} {K:St→Prop} {d n sz id o q0 j}:aGe d n sz (.ptr id o) (.int q0 j) s K=(0≤j∧j<n∧K (s.setO d (.ptr id (o+j.toNat*sz)))):=by unfold aGe; rfl
def aFr (d:Option Nat) (a1:V) (s:St) (K:St→Prop):Prop :=
 match a1 with
 | .cptr cs=>K (s.setO d (.cptr cs))
 | .ptr id o=>K (s.setO d (.ptr id o))
 | .eptr id i j=>K (s.setO d (.eptr id i j))
 | .fn f cs=>K (s.setO d (.fn f cs))
 | _=>False
theorem bNv {P:Program} {wr:List Nat} {s:St} {K:St→Prop} {d x}:aAj P wr (.nchk d x) s K=aFr d (s.ev x) s K:=by unfold aAj aAc aFr ; rfl
theorem bB3 {s:St} {K:St→Prop} {d cs}:aFr d (.cptr cs) s K=(K (s.setO d (.cptr cs))):=by unfold aFr; rfl
theorem bDa {s:St} {K:St→Prop} {d id o}:aFr d (.ptr id o) s K=(K (s.setO d (.ptr id o))):=by unfold aFr; rfl
theorem aZ4 {s:St} {K:St→Prop} {d id i j}:aFr d (.eptr id i j) s K=(K (s.setO d (.eptr id i j))):=by unfold aFr; rfl
theorem bDp {s:St} {K:St→Prop} {d f cs}:aFr d (.fn f cs) s K=(K (s.setO d (.fn f cs))):=by unfold aFr; rfl
def aEk (d:Option Nat) (c:Bool) (sz:Nat) (ag:Bool) (id:Nat) (o:Nat) (bl:Option Blk) (s:St) (K:St→Prop):Prop :=
 match bl with
  | some (.box _ cs)=>c=false∧o+sz≤cs.length∧K (s.setO d (pack ag ((cs.drop o).take sz)))
  | _=>False
def aFy (d:Option Nat) (c:Bool) (sz:Nat) (ag:Bool) (id:Nat) (i:Nat) (j:Nat) (bl:Option Blk) (s:St) (K:St→Prop):Prop :=
 match bl with
  | some (.vec _ sz' es)=>c=false∧i<es.length∧j+sz≤sz'∧K (s.setO d (pack ag (((es.getD i .junk).cells.drop j).take sz)))
  | _=>False
def aEw (d:Option Nat) (c:Bool) (sz:Nat) (ag:Bool) (a1:V) (s:St) (K:St→Prop):Prop :=
 match a1 with
 | .cptr cs=>sz≤cs.length∧K (s.setO d (pack ag (cs.take sz)))
 | .ptr id o=>aEk d c sz ag id o (s.L id) s K
 | .eptr id i j=>aFy d c sz ag id i j (s.L id) s K
 | _=>False
theorem bOn {P:Program} {wr:List Nat} {s:St} {K:St→Prop} {d c sz ag x}:aAj P wr (.load d c sz ag x) s K=aEw d c sz ag (s.ev x) s K:=by unfold aAj aAc aEw aEk aFy; rfl
theorem bAn {s:St} {K:St→Prop} {d c sz ag cs}:aEw d c sz ag (.cptr cs) s K=(sz≤cs.length∧K (s.setO d (pack ag (cs.take sz)))):=by unfold aEw; rfl
theorem aXg {s:St} {K:St→Prop} {d c sz ag id o r0 cs}:aEk d c sz ag id o (some (.box r0 cs)) s K=(c=false∧o+sz≤cs.length∧K (s.setO d (pack ag ((cs.drop o).take sz)))):=by unfold aEk; rfl
theorem aLs {s:St} {K:St→Prop} {d c sz ag id o}:aEw d c sz ag (.ptr id o) s K=(aEk d c sz ag id o (s.L id) s K):=by unfold aEw; rfl
theorem aW5 {s:St} {K:St→Prop} {d c sz ag id i j r0 sz' es}:aFy d c sz ag id i j (some (.vec r0 sz' es)) s K=(c=false∧i<es.length∧j+sz≤sz'∧K (s.setO d (pack ag (((es.getD i .junk).cells.drop j).take sz)))):=by unfold aFy; rfl
theorem bCt {s:St} {K:St→Prop} {d c sz ag id i j}:aEw d c sz ag (.eptr id i j) s K=(aFy d c sz ag id i j (s.L id) s K):=by unfold aEw; rfl
def aE3 (sz:Nat) (v:V) (id:Nat) (o:Nat) (bl:Option Blk) (s:St) (K:St→Prop):Prop :=
 match bl with
  | some (.box ty cs)=>(v).ncells=some sz∧o+sz≤cs.length∧K (s.put id (.box ty (aB1 cs o (v).cells)))
  | _=>False
def aEz (sz:Nat) (v:V) (id:Nat) (i:Nat) (j:Nat) (bl:Option Blk) (s:St) (K:St→Prop):Prop :=
 match bl with
  | some (.vec ty sz' es)=>(v).ncells=some sz∧i<es.length∧j+sz≤sz'∧K (s.put id (.vec ty sz' (es.set i ((es.getD i .junk).recell (aB1 (es.getD i .junk).cells j (v).cells)))))
  | _=>False
def aDv (sz:Nat) (v:V) (a1:V) (s:St) (K:St→Prop):Prop :=
 match a1 with
 | .ptr id o=>aE3 sz v id o (s.L id) s K
 | .eptr id i j=>aEz sz v id i j (s.L id) s K
 | _=>False
theorem bJ9 {P:Program} {wr:List Nat} {s:St} {K:St→Prop} {sz x v}:aAj P wr (.store sz x v) s K=aDv sz (s.ev v) (s.ev x) s K:=by unfold aAj aAc aDv aE3 aEz; rfl
theorem aTw {s:St} {K:St→Prop} {sz v id o ty cs}:aE3 sz v id o (some (.box ty cs)) s K=((v).ncells=some sz∧o+sz≤cs.length∧K (s.put id (.box ty (aB1 cs o (v).cells)))):=by unfold aE3; rfl
theorem aYh {s:St} {K:St→Prop} {sz v id o}:aDv sz v (.ptr id o) s K=(aE3 sz v id o (s.L id) s K):=by unfold aDv; rfl
theorem aSg {s:St} {K:St→Prop} {sz v id i j ty sz' es}:aEz sz v id i j (some (.vec ty sz' es)) s K=((v).ncells=some sz∧i<es.length∧j+sz≤sz'∧K (s.put id (.vec ty sz' (es.set i ((es.getD i .junk).recell (aB1 (es.getD i .junk).cells j (v).cells)))))):=by unfold aEz; rfl
theorem aXj {s:St} {K:St→Prop} {sz v id i j}:aDv sz v (.eptr id i j) s K=(aEz sz v id i j (s.L id) s K):=by unfold aDv; rfl
theorem bS0 {P:Program} {wr:List Nat} {s:St} {K:St→Prop} {nw sz x v}:aAj P wr (.stq nw sz x v) s K=(idq nw s.nx (s.ev x)∧aAj P wr (.store sz x v) s K):=by rfl
theorem bN6 {nx id o:Nat}:idq true nx (.ptr id o)=(nx≤id):=by simp [idq]
theorem bPf {nx id o:Nat}:idq false nx (.ptr id o)=(id<nx):=by simp [idq]
theorem bO7 {nx id o j:Nat}:idq true nx (.eptr id o j)=(nx≤id):=by simp [idq]
theorem bN8 {nx id o j:Nat}:idq false nx (.eptr id o j)=(id<nx):=by simp [idq]
theorem bNb {P:Program} {wr:List Nat} {s:St} {K:St→Prop} {d ty zero}:aAj P wr (.alloc d ty zero) s K=(K ((s.add (s.nx+d) (.box ty zero)).set d (.ptr (s.nx+d) 0))):=by unfold aAj aAc; rfl
theorem bW1 {P:Program} {wr:List Nat} {s:St} {K:St→Prop} {d ty x}:aAj P wr (.box d ty x) s K=((s.ev x).ncells.isSome=true∧K ((s.add (s.nx+d) (.box ty (s.ev x).cells)).set d (.ptr (s.nx+d) 0))):=by unfold aAj aAc; rfl
theorem bSv {P:Program} {wr:List Nat} {s:St} {K:St→Prop} {d sz parts}:aAj P wr (.mkl d sz parts) s K=((∀ p∈parts,(s.ev p).ncells=some sz)∧K (s.setO d (.lst sz (parts.map s.ev)))):=by unfold aAj aAc; rfl
theorem bSe {P:Program} {wr:List Nat} {s:St} {K:St→Prop} {d ty sz parts}:aAj P wr (.mkv d ty sz parts) s K=((∀ p∈parts,(s.ev p).ncells=some sz)∧K ((s.add (s.nx+d) (.vec ty sz (parts.map s.ev))).set d (.own (s.nx+d) sz 0 parts.length))):=by unfold aAj aAc; rfl
def aXa (n:Nat) (ty:Nat) (sz:Nat) (a1:V) (s:St) (K:St→Prop):Prop :=
 match a1 with
 | .int .i64 m=>0≤m∧m≤1073741824∧K ((s.add (s.nx+n) (.vec ty sz [])).set n (.own (s.nx+n) sz 0 0))
 | _=>False
theorem bWb {P:Program} {wr:List Nat} {s:St} {K:St→Prop} {n ty sz x}:aAj P wr (.mk0 n ty sz x) s K=aXa n ty sz (s.ev x) s K:=by unfold aAj aAc aXa ; rfl
theorem bG6 {s:St} {K:St→Prop} {n ty sz m}:aXa n ty sz (.int .i64 m) s K=(0≤m∧m≤1073741824∧K ((s.add (s.nx+n) (.vec ty sz [])).set n (.own (s.nx+n) sz 0 0))):=by unfold aXa; rfl
def aI6 (d:Option Nat) (neg:Bool) (a1:V) (a2:V) (s:St) (K:St→Prop):Prop :=
 match a1,a2 with
 | .ptr i o,.ptr j q=>i=j∧o=q∧K (s.setO d (.bool !neg))
 | _,_=>False
theorem bJ0 {P:Program} {wr:List Nat} {s:St} {K:St→Prop} {d neg x y}:aAj P wr (.ptreq d neg x y) s K=aI6 d neg (s.ev x) (s.ev y) s K:=by unfold aAj aAc aI6 ; rfl
theorem aWl {s:St} {K:St→Prop} {d neg i o j q}:aI6 d neg (.ptr i o) (.ptr j q) s K=(i=j∧o=q∧K (s.setO d (.bool !neg))):=by unfold aI6; rfl
def aE0 (d:Option Nat) (id:Nat) (o:Nat) (bl:Option Blk) (s:St) (K:St→Prop):Prop :=
 match bl with
  | some (.box _ cs)=>o<cs.length∧K (s.setO d (.ptr id o))
  | _=>False
def aI0 (d:Option Nat) (a1:V) (s:St) (K:St→Prop):Prop :=
 match a1 with
 | .ptr id o=>aE0 d id o (s.L id) s K
 | _=>False
theorem bMa {P:Program} {wr:List Nat} {s:St} {K:St→Prop} {d x}:aAj P wr (.touns d x) s K=aI0 d (s.ev x) s K:=by unfold aAj aAc aI0 aE0; rfl
theorem aTa {s:St} {K:St→Prop} {d id o r0 cs}:aE0 d id o (some (.box r0 cs)) s K=(o<cs.length∧K (s.setO d (.ptr id o))):=by unfold aE0; rfl
theorem aV9 {s:St} {K:St→Prop} {d id o}:aI0 d (.ptr id o) s K=(aE0 d id o (s.L id) s K):=by unfold aI0; rfl
def aDy (d:Option Nat) (u:Nat) (z:Nat) (id:Nat) (o:Nat) (bl:Option Blk) (s:St) (K:St→Prop):Prop :=
 match bl with
  | some (.box ty cs)=>o=0∧ty=u∧cs.length=z∧K (s.setO d (.ptr id 0))
  | _=>False
def aGw (d:Option Nat) (u:Nat) (z:Nat) (a1:V) (s:St) (K:St→Prop):Prop :=
 match a1 with
 | .ptr id o=>aDy d u z id o (s.L id) s K
 | _=>False
theorem bG2 {P:Program} {wr:List Nat} {s:St} {K:St→Prop} {d u z x}:aAj P wr (.frouns d u z x) s K=aGw d u z (s.ev x) s K:=by unfold aAj aAc aGw aDy; rfl
theorem aPt {s:St} {K:St→Prop} {d u z id o ty cs}:aDy d u z id o (some (.box ty cs)) s K=(o=0∧ty=u∧cs.length=z∧K (s.setO d (.ptr id 0))):=by unfold aDy; rfl
theorem aTt {s:St} {K:St→Prop} {d u z id o}:aGw d u z (.ptr id o) s K=(aDy d u z id o (s.L id) s K):=by unfold aGw; rfl
def aGr (d:Option Nat) (a1:V) (s:St) (K:St→Prop):Prop :=
 match a1 with
 | .nils=>K (s.setO d .nilp)
 | .own id q0 off n=>0<n∧K (s.setO d (.eptr id off 0))
 | _=>False
theorem bJn {P:Program} {wr:List Nat} {s:St} {K:St→Prop} {d x}:aAj P wr (.sdata d x) s K=aGr d (s.ev x) s K:=by unfold aAj aAc aGr ; rfl
theorem aW4 {s:St} {K:St→Prop} {d}:aGr d (.nils) s K=(K (s.setO d .nilp)):=by unfold aGr; rfl
theorem aX4 {s:St} {K:St→Prop} {d q0 id off n}:aGr d (.own id q0 off n) s K=(0<n∧K (s.setO d (.eptr id off 0))):=by unfold aGr; rfl
def aF7 (d:Option Nat) (ty:Nat) (id:Nat) (i:Nat) (j:Nat) (m:Int) (bl:Option Blk) (s:St) (K:St→Prop):Prop :=
 match bl with
  | some (.vec ty' sz es)=>ty'=ty∧sz=1∧i=0∧j=0∧0<m∧m.toNat≤es.length∧∃ bs,es.take m.toNat=aAs bs∧K ((s.drop id).setO d (.str bs))
  | _=>False
def aJv (d:Option Nat) (ty:Nat) (a1:V) (a2:V) (s:St) (K:St→Prop):Prop :=
 match a1,a2 with
 | .nilp,.int .i64 m=>m=0∧K (s.setO d (.str []))
 | .eptr id i j,.int .i64 m=>aF7 d ty id i j m (s.L id) s K
 | _,_=>False
theorem bPk {P:Program} {wr:List Nat} {s:St} {K:St→Prop} {d ty x y}:aAj P wr (.ustr d ty x y) s K=aJv d ty (s.ev x) (s.ev y) s K:=by unfold aAj aAc aJv aF7; rfl
theorem bCm {s:St} {K:St→Prop} {d ty m}:aJv d ty (.nilp) (.int .i64 m) s K=(m=0∧K (s.setO d (.str []))):=by unfold aJv; rfl
theorem aWr {s:St} {K:St→Prop} {d ty id i j m ty' sz es}:aF7 d ty id i j m (some (.vec ty' sz es)) s K=(ty'=ty∧sz=1∧i=0∧j=0∧0<m∧m.toNat≤es.length∧∃ bs,es.take m.toNat=aAs bs∧K ((s.drop id).setO d (.str bs))):=by unfold aF7; rfl
theorem bCx {s:St} {K:St→Prop} {d ty id i j m}:aJv d ty (.eptr id i j) (.int .i64 m) s K=(aF7 d ty id i j m (s.L id) s K):=by unfold aJv; rfl
def aJz (n:Nat) (ty:Nat) (sz:Nat) (a1:V) (s:St) (K:St→Prop):Prop :=
 match a1 with
 | .nils=>K ((s.add (s.nx+n) (.vec ty sz [])).set n (.own (s.nx+n) sz 0 0))
 | .lst sz' es=>sz'=sz∧es.length≤2^32∧K ((s.add (s.nx+n) (.vec ty sz es)).set n (.own (s.nx+n) sz 0 es.length))
 | _=>False
theorem bOg {P:Program} {wr:List Nat} {s:St} {K:St→Prop} {n ty sz x}:aAj P wr (.appl n ty sz x) s K=aJz n ty sz (s.ev x) s K:=by unfold aAj aAc aJz ; rfl
theorem bBc {s:St} {K:St→Prop} {n ty sz}:aJz n ty sz (.nils) s K=(K ((s.add (s.nx+n) (.vec ty sz [])).set n (.own (s.nx+n) sz 0 0))):=by unfold aJz; rfl
theorem bC7 {s:St} {K:St→Prop} {n ty sz sz' es}:aJz n ty sz (.lst sz' es) s K=(sz'=sz∧es.length≤2^32∧K ((s.add (s.nx+n) (.vec ty sz es)).set n (.own (s.nx+n) sz 0 es.length))):=by unfold aJz; rfl
def aWm (n:Nat) (ty:Nat) (a1:V) (s:St) (K:St→Prop):Prop :=
 match a1 with
 | .str t=>K ((s.add (s.nx+n) (.vec ty 1 (aAs t))).set n (.own (s.nx+n) 1 0 t.length))
 | _=>False
theorem bVj {P:Program} {wr:List Nat} {s:St} {K:St→Prop} {n ty x}:aAj P wr (.s2b n ty x) s K=aWm n ty (s.ev x) s K:=by unfold aAj aAc aWm ; rfl
theorem bEl {s:St} {K:St→Prop} {n ty t}:aWm n ty (.str t) s K=(K ((s.add (s.nx+n) (.vec ty 1 (aAs t))).set n (.own (s.nx+n) 1 0 t.length))):=by unfold aWm; rfl
theorem bR1 {P:Program} {wr:List Nat} {s:St} {K:St→Prop} {d x}:aAj P wr (.b2s d x) s K=(aQd (s.ev x)∧aAu 1 s.L (s.ev x) fun ys=>∃ bs,ys=aAs bs∧K (s.setO d (.str bs))):=by unfold aAj aAc; rfl
theorem bNz {P:Program} {wr:List Nat} {s:St} {K:St→Prop} {d f caps}:aAj P wr (.clos d f caps) s K=(K (s.setO d (.fn f (caps.map s.ev)))):=by unfold aAj aAc; rfl
theorem bV4 {P:Program} {wr:List Nat} {s:St} {K:St→Prop} {d}:aAj P wr (.mkm d) s K=(K ((s.add (s.nx+d) (.map 0 [])).set d (.map (s.nx+d)))):=by unfold aAj aAc; rfl
def v_mx (d:Option Nat) (isMax:Bool) (a1:V) (a2:V) (s:St) (K:St→Prop):Prop :=
 match a1,a2 with
 | .int k a,.int k' b=>k=k'∧K (s.setO d (.int k (mxI isMax a b)))
 | _,_=>False
theorem x_mx {P:Program} {wr:List Nat} {s:St} {K:St→Prop} {d isMax x y}:aAj P wr (.mx d isMax x y) s K=v_mx d isMax (s.ev x) (s.ev y) s K:=by unfold aAj aAc v_mx ; rfl
theorem bL8 {s:St} {K:St→Prop} {d isMax k a k' b}:v_mx d isMax (.int k a) (.int k' b) s K=(k=k'∧K (s.setO d (.int k (mxI isMax a b)))):=by unfold v_mx; rfl
def aWj (d:Option Nat) (isMax:Bool) (a1:V) (a2:V) (a3:V) (s:St) (K:St→Prop):Prop :=
 match a1,a2,a3 with
 | .int k a,.int k' b,.int k'' c=>k=k'∧k=k''∧K (s.setO d (.int k (mxI isMax (mxI isMax a b) c)))
 | _,_,_=>False
theorem bVe {P:Program} {wr:List Nat} {s:St} {K:St→Prop} {d isMax x y z}:aAj P wr (.mx3 d isMax x y z) s K=aWj d isMax (s.ev x) (s.ev y) (s.ev z) s K:=by unfold aAj aAc aWj ; rfl
theorem bGq {s:St} {K:St→Prop} {d isMax k a k' b k'' c}:aWj d isMax (.int k a) (.int k' b) (.int k'' c) s K=(k=k'∧k=k''∧K (s.setO d (.int k (mxI isMax (mxI isMax a b) c)))):=by unfold aWj; rfl
theorem aP0 {d:Option Nat} {a a':V} {b b':V} {a1 a1':V} {s s':St} {K:St→Prop} (ga:a=a') (gb:b=b') (h0:a1=a1') (h9:s=s'):aM0 d a b a1 s K=aM0 d a' b' a1' s' K:=by rw [ga,gb,h0,h9]
attribute [congr] aP0
theorem aS4 {d:Option Nat} {neg:Bool} {ks:List Nat} {a1 a1':V} {a2 a2':V} {s s':St} {K:St→Prop}  (h0:a1=a1') (h1:a2=a2') (h9:s=s'):aVu d neg ks a1 a2 s K=aVu d neg ks a1' a2' s' K:=by rw [h0,h1,h9]
attribute [congr] aS4
theorem aR1 {d:Option Nat} {neg:Bool} {a1 a1':V} {a2 a2':V} {s s':St} {K:St→Prop}  (h0:a1=a1') (h1:a2=a2') (h9:s=s'):aXi d neg a1 a2 s K=aXi d neg a1' a2' s' K:=by rw [h0,h1,h9]
attribute [congr] aR1
theorem aOc {d:Option Nat} {neg:Bool} {a1 a1':Nat} {a2 a2':V} {s s':St} {K:St→Prop}  (h0:a1=a1') (h1:a2=a2') (h9:s=s'):aBw d neg a1 a2 s K=aBw d neg a1' a2' s' K:=by rw [h0,h1,h9]
attribute [congr] aOc
theorem aSt {d:Option Nat} {a1 a1':V} {s s':St} {K:St→Prop}  (h0:a1=a1') (h9:s=s'):aWs d a1 s K=aWs d a1' s' K:=by rw [h0,h9]
attribute [congr] aSt
theorem aOz {d:Option Nat} {off:Nat} {sz:Nat} {ag:Bool} {a1 a1':V} {s s':St} {K:St→Prop}  (h0:a1=a1') (h9:s=s'):aI9 d off sz ag a1 s K=aI9 d off sz ag a1' s' K:=by rw [h0,h9]
attribute [congr] aOz
theorem aTn {d:Option Nat} {i:Nat} {a1 a1':V} {s s':St} {K:St→Prop}  (h0:a1=a1') (h9:s=s'):aYn d i a1 s K=aYn d i a1' s' K:=by rw [h0,h9]
attribute [congr] aTn
theorem aTi {d:Option Nat} {a1 a1':V} {a2 a2':V} {s s':St} {K:St→Prop}  (h0:a1=a1') (h1:a2=a2') (h9:s=s'):aYd d a1 a2 s K=aYd d a1' a2' s' K:=by rw [h0,h1,h9]
attribute [congr] aTi
theorem aQg {d:Option Nat} {n:Nat} {sz:Nat} {ag:Bool} {a1 a1':V} {a2 a2':V} {s s':St} {K:St→Prop}  (h0:a1=a1') (h1:a2=a2') (h9:s=s'):aNg d n sz ag a1 a2 s K=aNg d n sz ag a1' a2' s' K:=by rw [h0,h1,h9]
attribute [congr] aQg
theorem aRl {d:Option Nat} {lo lo':Option V} {hi hi':Option V} {a1 a1':V} {s s':St} {K:St→Prop} (glo:lo=lo') (ghi:hi=hi') (h0:a1=a1') (h9:s=s'):aNm d lo hi a1 s K=aNm d lo' hi' a1' s' K:=by rw [glo,ghi,h0,h9]
attribute [congr] aRl
theorem aR3 {d:Option Nat} {sz:Nat} {lo lo':Option V} {hi hi':Option V} {a1 a1':V} {s s':St} {K:St→Prop} (glo:lo=lo') (ghi:hi=hi') (h0:a1=a1') (h9:s=s'):aMl d sz lo hi a1 s K=aMl d sz lo' hi' a1' s' K:=by rw [glo,ghi,h0,h9]
attribute [congr] aR3
theorem aTo {d:Option Nat} {a1 a1':Bool} {a2 a2':V} {s s':St} {K:St→Prop}  (h0:a1=a1') (h1:a2=a2') (h9:s=s'):aH7 d a1 a2 s K=aH7 d a1' a2' s' K:=by rw [h0,h1,h9]
attribute [congr] aTo
theorem aPj {d:Option Nat} {off:Nat} {a1 a1':V} {s s':St} {K:St→Prop}  (h0:a1=a1') (h9:s=s'):aG8 d off a1 s K=aG8 d off a1' s' K:=by rw [h0,h9]
attribute [congr] aPj
theorem aQ8 {d:Option Nat} {sz:Nat} {a1 a1':V} {a2 a2':V} {s s':St} {K:St→Prop}  (h0:a1=a1') (h1:a2=a2') (h9:s=s'):aHc d sz a1 a2 s K=aHc d sz a1' a2' s' K:=by rw [h0,h1,h9]
attribute [congr] aQ8
theorem aOi {d:Option Nat} {n:Nat} {sz:Nat} {a1 a1':V} {a2 a2':V} {s s':St} {K:St→Prop}  (h0:a1=a1') (h1:a2=a2') (h9:s=s'):aGe d n sz a1 a2 s K=aGe d n sz a1' a2' s' K:=by rw [h0,h1,h9]
attribute [congr] aOi
theorem aP6 {d:Option Nat} {a1 a1':V} {s s':St} {K:St→Prop}  (h0:a1=a1') (h9:s=s'):aFr d a1 s K=aFr d a1' s' K:=by rw [h0,h9]
attribute [congr] aP6
theorem aMm (d:Option Nat) (c:Bool) (sz:Nat) (ag:Bool) (id:Nat) (o:Nat) {bl bl':Option Blk} {s s':St} {K:St→Prop} (h1:bl=bl') (h2:s=s'):aEk d c sz ag id o bl s K=aEk d c sz ag id o bl' s' K:=by rw [h1,h2]
attribute [congr] aMm
theorem aMq (d:Option Nat) (c:Bool) (sz:Nat) (ag:Bool) (id:Nat) (i:Nat) (j:Nat) {bl bl':Option Blk} {s s':St} {K:St→Prop} (h1:bl=bl') (h2:s=s'):aFy d c sz ag id i j bl s K=aFy d c sz ag id i j bl' s' K:=by rw [h1,h2]
attribute [congr] aMq
theorem aQa {d:Option Nat} {c:Bool} {sz:Nat} {ag:Bool} {a1 a1':V} {s s':St} {K:St→Prop}  (h0:a1=a1') (h9:s=s'):aEw d c sz ag a1 s K=aEw d c sz ag a1' s' K:=by rw [h0,h9]
attribute [congr] aQa
theorem aL6 (sz:Nat) (v:V) (id:Nat) (o:Nat) {bl bl':Option Blk} {s s':St} {K:St→Prop} (h1:bl=bl') (h2:s=s'):aE3 sz v id o bl s K=aE3 sz v id o bl' s' K:=by rw [h1,h2]
attribute [congr] aL6
theorem aL5 (sz:Nat) (v:V) (id:Nat) (i:Nat) (j:Nat) {bl bl':Option Blk} {s s':St} {K:St→Prop} (h1:bl=bl') (h2:s=s'):aEz sz v id i j bl s K=aEz sz v id i j bl' s' K:=by rw [h1,h2]
attribute [congr] aL5
theorem aOf {sz:Nat} {v v':V} {a1 a1':V} {s s':St} {K:St→Prop} (gv:v=v') (h0:a1=a1') (h9:s=s'):aDv sz v a1 s K=aDv sz v' a1' s' K:=by rw [gv,h0,h9]
attribute [congr] aOf
theorem aRo {n:Nat} {ty:Nat} {sz:Nat} {a1 a1':V} {s s':St} {K:St→Prop}  (h0:a1=a1') (h9:s=s'):aXa n ty sz a1 s K=aXa n ty sz a1' s' K:=by rw [h0,h9]
attribute [congr] aRo
theorem aOw {d:Option Nat} {neg:Bool} {a1 a1':V} {a2 a2':V} {s s':St} {K:St→Prop}  (h0:a1=a1') (h1:a2=a2') (h9:s=s'):aI6 d neg a1 a2 s K=aI6 d neg a1' a2' s' K:=by rw [h0,h1,h9]
attribute [congr] aOw
theorem aLo (d:Option Nat) (id:Nat) (o:Nat) {bl bl':Option Blk} {s s':St} {K:St→Prop} (h1:bl=bl') (h2:s=s'):aE0 d id o bl s K=aE0 d id o bl' s' K:=by rw [h1,h2]
attribute [congr] aLo
theorem aO8 {d:Option Nat} {a1 a1':V} {s s':St} {K:St→Prop}  (h0:a1=a1') (h9:s=s'):aI0 d a1 s K=aI0 d a1' s' K:=by rw [h0,h9]
attribute [congr] aO8
theorem aJ6 (d:Option Nat) (u:Nat) (z:Nat) (id:Nat) (o:Nat) {bl bl':Option Blk} {s s':St} {K:St→Prop} (h1:bl=bl') (h2:s=s'):aDy d u z id o bl s K=aDy d u z id o bl' s' K:=by rw [h1,h2]
attribute [congr] aJ6
theorem aMi {d:Option Nat} {u:Nat} {z:Nat} {a1 a1':V} {s s':St} {K:St→Prop}  (h0:a1=a1') (h9:s=s'):aGw d u z a1 s K=aGw d u z a1' s' K:=by rw [h0,h9]
attribute [congr] aMi
theorem aNv {d:Option Nat} {a1 a1':V} {s s':St} {K:St→Prop}  (h0:a1=a1') (h9:s=s'):aGr d a1 s K=aGr d a1' s' K:=by rw [h0,h9]
attribute [congr] aNv
theorem aMn (d:Option Nat) (ty:Nat) (id:Nat) (i:Nat) (j:Nat) (m:Int) {bl bl':Option Blk} {s s':St} {K:St→Prop} (h1:bl=bl') (h2:s=s'):aF7 d ty id i j m bl s K=aF7 d ty id i j m bl' s' K:=by rw [h1,h2]
attribute [congr] aMn
theorem aP8 {d:Option Nat} {ty:Nat} {a1 a1':V} {a2 a2':V} {s s':St} {K:St→Prop}  (h0:a1=a1') (h1:a2=a2') (h9:s=s'):aJv d ty a1 a2 s K=aJv d ty a1' a2' s' K:=by rw [h0,h1,h9]
attribute [congr] aP8
theorem aP1 {n:Nat} {ty:Nat} {sz:Nat} {a1 a1':V} {s s':St} {K:St→Prop}  (h0:a1=a1') (h9:s=s'):aJz n ty sz a1 s K=aJz n ty sz a1' s' K:=by rw [h0,h9]
attribute [congr] aP1
theorem aSv {n:Nat} {ty:Nat} {a1 a1':V} {s s':St} {K:St→Prop}  (h0:a1=a1') (h9:s=s'):aWm n ty a1 s K=aWm n ty a1' s' K:=by rw [h0,h9]
attribute [congr] aSv
theorem aXn {d:Option Nat} {isMax:Bool} {a1 a1':V} {a2 a2':V} {s s':St} {K:St→Prop}  (h0:a1=a1') (h1:a2=a2') (h9:s=s'):v_mx d isMax a1 a2 s K=v_mx d isMax a1' a2' s' K:=by rw [h0,h1,h9]
attribute [congr] aXn
theorem aS2 {d:Option Nat} {isMax:Bool} {a1 a1':V} {a2 a2':V} {a3 a3':V} {s s':St} {K:St→Prop}  (h0:a1=a1') (h1:a2=a2') (h2:a3=a3') (h9:s=s'):aWj d isMax a1 a2 a3 s K=aWj d isMax a1' a2' a3' s' K:=by rw [h0,h1,h2,h9]
attribute [congr] aS2
theorem bOf {P:Program} {wr:List Nat} {n:Nat} {s:St} {K:X→St→Prop}  : awpC P n wr (.skip) K s=(K .norm s):=by conv=>lhs; unfold awpC
theorem bTl {P:Program} {wr:List Nat} {n:Nat} {s:St} {K:X→St→Prop}  : awpC P n wr (.bad) K s=(False):=by conv=>lhs; unfold awpC
theorem bUv {P:Program} {wr:List Nat} {n:Nat} {s:St} {K:X→St→Prop} {u0 l}:awpC P n wr (.ops u0 l) K s=(aGm P wr l s fun s=>K .norm (s.past n)):=by conv=>lhs; unfold awpC
theorem bQf {P:Program} {wr:List Nat} {n:Nat} {s:St} {K:X→St→Prop} {a b}:awpC P n wr (.seq a b) K s=(awpC P n wr a (seqK (awpC P n wr b K) K) s):=by conv=>lhs; unfold awpC
theorem bI8 {P:Program} {wr:List Nat} {n:Nat} {s:St} {K:X→St→Prop} {id a}:awpC P n wr (.block id a) K s=(awpC P n wr a (blkK id K) s):=by conv=>lhs; unfold awpC
theorem bP8 {P:Program} {wr:List Nat} {n:Nat} {s:St} {K:X→St→Prop} {id}:awpC P n wr (.exit id) K s=(K (.exit id) s):=by conv=>lhs; unfold awpC
theorem bRg {P:Program} {wr:List Nat} {n:Nat} {s:St} {K:X→St→Prop}  : awpC P n wr (.ret) K s=(K .ret s):=by conv=>lhs; unfold awpC
theorem w_gh {P:Program} {wr:List Nat} {n:Nat} {s:St} {K:X→St→Prop} {g a}:awpC P n wr (.gh g a) K s=(aB3 g s (awpC P n wr a K)):=by conv=>lhs; unfold awpC
theorem bTb {P:Program} {wr:List Nat} {n:Nat} {s:St} {K:X→St→Prop} {g a}:awpC P n wr (.gha g a) K s=(awpC P n wr a (seqK (fun s=>aB3 g s (K .norm)) K) s):=by conv=>lhs; unfold awpC
theorem aT1 {P:Program} {wr:List Nat} {s:St} {K:St→Prop}:aGm P wr [] s K=K s:=by unfold aGm; rfl
theorem aRb {P:Program} {wr:List Nat} {s:St} {K:St→Prop} {x:Grp} {r:List Grp}:aGm P wr (x::r) s K=aMk P wr x s fun s=>aGm P wr r s K:=by rw [aGm]
theorem aQ0 {P:Program} {wr:List Nat} {s:St} {K:St→Prop}:aC2 P wr [] s K=K s:=by unfold aC2; rfl
theorem aO2 {P:Program} {wr:List Nat} {s:St} {K:St→Prop} {x:I} {r:List I}:aC2 P wr (x::r) s K=aAj P wr x s fun s=>aC2 P wr r s K:=by rw [aC2]
theorem aTc {P:Program} {wr:List Nat} {s:St} {K:St→Prop} {l:List I}:aMk P wr ⟨none,l⟩ s K=aC2 P wr l s K:=by unfold aMk; rfl
theorem aRs {P:Program} {wr:List Nat} {i:I} {s s':St} {K:St→Prop} (h:s=s'):aAj P wr i s K=aAj P wr i s' K:=by rw [h]
theorem aPg {P:Program} {wr:List Nat} {i:List I} {s s':St} {K:St→Prop} (h:s=s'):aC2 P wr i s K=aC2 P wr i s' K:=by rw [h]
theorem aRw {P:Program} {wr:List Nat} {i:List Grp} {s s':St} {K:St→Prop} (h:s=s'):aGm P wr i s K=aGm P wr i s' K:=by rw [h]
theorem aV0 {P:Program} {wr:List Nat} {i:Grp} {s s':St} {K:St→Prop} (h:s=s'):aMk P wr i s K=aMk P wr i s' K:=by rw [h]
theorem bC2 {P:Program} {wr:List Nat} {n:Nat} {c:C} {K:X→St→Prop} {s s':St} (h:s=s'):awpC P n wr c K s=awpC P n wr c K s':=by rw [h]
theorem aPa {g:Gh} {K:St→Prop} {s s':St} (h:s=s'):aB3 g s K=aB3 g s' K:=by rw [h]
attribute [congr] aRs aPg aRw aV0 bC2 aPa
inductive Tg.{u} {α:Sort u} (a:α):Type where
 | mk
def aGg (b:Bool) {A B:Prop} (_:Tg A) (_:Tg B):Prop:=(b=true→A)∧(b=false→B)
theorem aV1 {A B:Prop} {x:Tg A} {y:Tg B}:aGg true x y=A:=by simp [aGg]
theorem aK2 {A B:Prop} {x:Tg A} {y:Tg B}:aGg false x y=B:=by simp [aGg]
theorem bC4 {b:Bool} {A B:Prop} {x:Tg A} {y:Tg B}:aGg (!b) x y=aGg b y x:=by cases b <;> simp [aGg]
theorem aAm {p:Prop} [Decidable p] {A B:Prop} {x:Tg A} {y:Tg B} (h1:p→A) (h2:¬ p→B):aGg (decide p) x y:=⟨fun h=>h1 (of_decide_eq_true h),fun h=>h2 (of_decide_eq_false h)⟩
def bEj (P:Program) (f:Nat) (args:List V) {K:V→Prop} (_:Tg K):Prop:=∃ r,PTr P f args r∧V.imms args=true∧r.imm=true∧K r
theorem aAa {P:Program} {f:Nat} {args:List V} {K:V→Prop} {x:Tg K} {r:V} (h:PTr P f args r) (h1:V.imms args=true) (h2:r.imm=true) (h3:K r):bEj P f args x:=⟨r,h,h1,h2,h3⟩
def bBv (P:Program) (f:Nat) (args:List V) {K:V→Prop} (_:Tg K):Prop:=∃ r,PTr P f args r∧V.imms args=true∧r.flat=true∧K r
theorem aPq {P:Program} {f:Nat} {args:List V} {K:V→Prop} {x:Tg K} {r:V} (h:PTr P f args r) (h1:V.imms args=true) (h2:r.flat=true) (h3:K r):bBv P f args x:=⟨r,h,h1,h2,h3⟩
def aHd (P:Program) (f:Nat) (args:List V) (L:Heap) (nx:Nat) {K:V→Heap→Nat→Prop} (_:Tg K):Prop:=ECall P f args L nx K
theorem aAb {P:Program} {f:Nat} {args:List V} {L:Heap} {nx:Nat} {post K:V→Heap→Nat→Prop} {x:Tg K} (h:ECall P f args L nx post) (h2:∀ r L' nx',post r L' nx'→K r L' nx'):aHd P f args L nx x:=h.mono h2
def bOz (P:Program) (n:Nat) (wr:List Nat) {a:C} {K:X→St→Prop} (_:Tg a) (_:Tg K) (s:St):Prop:=∃ J:Nat→St→Prop,(∃ m,J m s)∧∀ m s,J m s→awpC P n wr a (seqK (fun s=>∃ m',m'<m∧J m' s) K) s
theorem aAh {P:Program} {wr:List Nat} {n:Nat} {a:C} {K:X→St→Prop} {x:Tg a} {y:Tg K} {s:St} (J:Nat→St→Prop) (m:Nat) (h:J m s) (h2:∀ m s,J m s→awpC P n wr a (seqK (fun s=>∃ m',m'<m∧J m' s) K) s):bOz P n wr x y s:=⟨J,⟨m,h⟩,h2⟩
theorem bO2 {P:Program} {wr:List Nat} {n:Nat} {s:St} {K:X→St→Prop} {a}:awpC P n wr (.loop a) K s=bOz P n wr (Tg.mk (a:=a)) (Tg.mk (a:=K)) s:=by (conv=>lhs; unfold awpC); rfl
def cutK (P:Program) (n:Nat) (wr:List Nat) {a b:C} {K:X→St→Prop} (_:Tg a) (_:Tg b) (_:Tg K) (s:St):Prop:=∃ M:St→Prop,awpC P n wr a (seqK M K) s∧∀ s,M s→awpC P n wr b K s
theorem aCo {P:Program} {wr:List Nat} {n:Nat} {a b:C} {K:X→St→Prop} {x:Tg a} {y:Tg b} {z:Tg K} {s:St} (M:St→Prop) (h:awpC P n wr a (seqK M K) s) (h2:∀ s,M s→awpC P n wr b K s):cutK P n wr x y z s:=⟨M,h,h2⟩
theorem bO0 {P:Program} {wr:List Nat} {n:Nat} {s:St} {K:X→St→Prop} {a b}:awpC P n wr (.seqc a b) K s=cutK P n wr (Tg.mk (a:=a)) (Tg.mk (a:=b)) (Tg.mk (a:=K)) s:=by (conv=>lhs; unfold awpC); rfl
theorem bP2 {P:Program} {wr:List Nat} {s:St} {K:St→Prop} {d f args}:aAj P wr (.call d true f args) s K=bEj P f (args.map s.ev) (Tg.mk (a:=fun r=>K (s.setO d r))):=by unfold aAj aAc bEj; simp
theorem bNa {P:Program} {wr:List Nat} {s:St} {K:St→Prop} {d f args}:aAj P wr (.call d false f args) s K=bBv P f (args.map fun a=>view s.L 3 (s.ev a)) (Tg.mk (a:=fun r=>K (s.setO d r))):=by unfold aAj aAc bBv; simp
theorem bMu {P:Program} {wr:List Nat} {s:St} {K:St→Prop} {d n f args}:aAj P wr (.ecall d n f args) s K=aHd P f (args.map s.ev) s.L (s.nx+n) (Tg.mk (a:=fun r L' nx'=>K ((⟨s.env,L',nx'⟩:St).setO d r))):=by unfold aAj aAc aHd; rfl
def aI7 (P:Program) (d:Option Nat) (n:Nat) (args:List V) (x:V) (s:St) (K:St→Prop):Prop :=
 match x with
 | .fn f cs=>aC6 P f=true∧aHd P f (args++cs) s.L (s.nx+n) (Tg.mk (a:=fun r L' nx'=>K ((⟨s.env,L',nx'⟩:St).setO d r)))
 | _=>False
theorem aOk {P:Program} {d:Option Nat} {n:Nat} {args args':List V} {x x':V} {s s':St} {K:St→Prop} (h:args=args') (h2:x=x') (h3:s=s'):aI7 P d n args x s K=aI7 P d n args' x' s' K:=by rw [h,h2,h3]
attribute [congr] aOk
theorem bFb {P:Program} {wr:List Nat} {s:St} {K:St→Prop} {d n x args}:aAj P wr (.vcall d n x args) s K=aI7 P d n (args.map s.ev) (s.ev x) s K:=by unfold aAj aAc aI7 aHd; rfl
theorem bA3 {P:Program} {s:St} {K:St→Prop} {d n args f cs}:aI7 P d n args (.fn f cs) s K=(aC6 P f=true∧aHd P f (args++cs) s.L (s.nx+n) (Tg.mk (a:=fun r L' nx'=>K ((⟨s.env,L',nx'⟩:St).setO d r)))):=by unfold aI7; rfl
def bH8 (P:Program) (x:V) (args:List V) {K:V→Prop} (_:Tg K):Prop :=
 match x with
 | .fn f cs=>aC6 P f=true∧∃ r,PTr P f (args++cs) r∧V.imms (args++cs)=true∧r.flat=true∧K r
 | _=>False
theorem bLm {P:Program} {wr:List Nat} {s:St} {K:St→Prop} {d x args}:aAj P wr (.pcall d x args) s K=bH8 P (view s.L 4 (s.ev x)) (args.map fun a=>view s.L 3 (s.ev a)) (Tg.mk (a:=fun r=>K (s.setO d r))):=by unfold aAj aAc bH8; rfl
def bAr (ag:Bool) (ks:List Nat) (z:V) (c:Bool) (k:V) (bl:Option Blk) {K:V→Prop} (_:Tg K):Prop :=
 aMo ag ks k=true∧match bl with
 | some (.map _ es)=>∃ r,aFm ag ks k es=some r∧(mres c z es r).imm=true∧K (mres c z es r)
 | _=>False
def bAy (ag:Bool) (ks:List Nat) (k v:V) (bl:Option Blk) {K:Blk→Prop} (_:Tg K):Prop :=
 aMo ag ks k=true∧v.imm=true∧match bl with
 | some (.map c es)=>∃ r,aFm ag ks k es=some r∧K (aOd c es k v r)
 | _=>False
def bCc (ag:Bool) (ks:List Nat) (z k:V) (bl:Option Blk) {K:Blk→V→Prop} (_:Tg K):Prop :=
 aMo ag ks k=true∧match bl with
 | some (.map c es)=>∃ r,aFm ag ks k es=some r∧(mres false z es r).imm=true∧K (aOd c es k (mres false z es r) r) (.tup [mres false z es r,.int .i64 (aNb c es r)])
 | _=>False
def mstK (n:Int) (v:V) (bl:Option Blk) {K:Blk→Prop} (_:Tg K):Prop :=
 v.imm=true∧match bl with
 | some (.map c es)=>∃ i,es.findIdx? (fun e=>decide ((e.2.2:Int)=n))=some i∧K (.map c (es.set i ((es.getD i default).1,v,(es.getD i default).2.2)))
 | _=>False
theorem aSn {ag:Bool} {ks:List Nat} {z:V} {c:Bool} {k k':V} {bl bl':Option Blk} {K:V→Prop} {x:Tg K} (h:k=k') (h2:bl=bl'):bAr ag ks z c k bl x=bAr ag ks z c k' bl' x:=by rw [h,h2]
theorem aSf {ag:Bool} {ks:List Nat} {k k' v v':V} {bl bl':Option Blk} {K:Blk→Prop} {x:Tg K} (h:k=k') (h1:v=v') (h2:bl=bl'):bAy ag ks k v bl x=bAy ag ks k' v' bl' x:=by rw [h,h1,h2]
theorem aSk {ag:Bool} {ks:List Nat} {z k k':V} {bl bl':Option Blk} {K:Blk→V→Prop} {x:Tg K} (h:k=k') (h2:bl=bl'):bCc ag ks z k bl x=bCc ag ks z k' bl' x:=by rw [h,h2]
theorem aXw {n:Int} {v v':V} {bl bl':Option Blk} {K:Blk→Prop} {x:Tg K} (h1:v=v') (h2:bl=bl'):mstK n v bl x=mstK n v' bl' x:=by rw [h1,h2]
attribute [congr] aSn aSf aSk aXw
def aJx (d:Option Nat) (ag:Bool) (ks:List Nat) (z:V) (c:Bool) (x k:V) (s:St) (K:St→Prop):Prop :=
 match x with
 | .nilm=>aMo ag ks k=true∧(mres c z [] none).imm=true∧K (s.setO d (mres c z [] none))
 | .map id=>bAr ag ks z c k (s.L id) (Tg.mk (a:=fun v=>K (s.setO d v)))
 | _=>False
def aMs (ag:Bool) (ks:List Nat) (x k v:V) (s:St) (K:St→Prop):Prop :=
 match x with
 | .map id=>bAy ag ks k v (s.L id) (Tg.mk (a:=fun b=>K (s.put id b)))
 | _=>False
def aNr (d:Option Nat) (ag:Bool) (ks:List Nat) (z:V) (x k:V) (s:St) (K:St→Prop):Prop :=
 match x with
 | .map id=>bCc ag ks z k (s.L id) (Tg.mk (a:=fun b r=>K ((s.put id b).setO d r)))
 | _=>False
def aW0 (x t v:V) (s:St) (K:St→Prop):Prop :=
 match x,t with
 | .map id,.int .i64 n=>mstK n v (s.L id) (Tg.mk (a:=fun b=>K (s.put id b)))
 | _,_=>False
theorem aRf {d:Option Nat} {ag:Bool} {ks:List Nat} {z:V} {c:Bool} {x x' k k':V} {s s':St} {K:St→Prop} (h:x=x') (h2:k=k') (h3:s=s'):aJx d ag ks z c x k s K=aJx d ag ks z c x' k' s' K:=by rw [h,h2,h3]
theorem aQl {ag:Bool} {ks:List Nat} {x x' k k' v v':V} {s s':St} {K:St→Prop} (h:x=x') (h2:k=k') (h3:v=v') (h4:s=s'):aMs ag ks x k v s K=aMs ag ks x' k' v' s' K:=by rw [h,h2,h3,h4]
theorem aQ7 {d:Option Nat} {ag:Bool} {ks:List Nat} {z:V} {x x' k k':V} {s s':St} {K:St→Prop} (h:x=x') (h2:k=k') (h3:s=s'):aNr d ag ks z x k s K=aNr d ag ks z x' k' s' K:=by rw [h,h2,h3]
theorem aTr {x x' t t' v v':V} {s s':St} {K:St→Prop} (h:x=x') (h2:t=t') (h3:v=v') (h4:s=s'):aW0 x t v s K=aW0 x' t' v' s' K:=by rw [h,h2,h3,h4]
attribute [congr] aRf aQl aQ7 aTr
theorem bP6 {P:Program} {wr:List Nat} {s:St} {K:St→Prop} {d ag ks z c x k}:aAj P wr (.mget d ag ks z c x k) s K=aJx d ag ks z c (s.ev x) (s.ev k) s K:=by (unfold aAj aAc aJx bAr; cases h:s.ev x <;> first | (simp [h]; done) | (simp [h]; intros; exact Iff.rfl))
theorem bQn {P:Program} {wr:List Nat} {s:St} {K:St→Prop} {ag ks x k v}:aAj P wr (.mput ag ks x k v) s K=aMs ag ks (s.ev x) (s.ev k) (s.ev v) s K:=by (unfold aAj aAc aMs bAy; cases h:s.ev x <;> first | (simp [h]; done) | (simp [h]; intros; exact Iff.rfl))
theorem bOo {P:Program} {wr:List Nat} {s:St} {K:St→Prop} {d ag ks z x k}:aAj P wr (.ment d ag ks z x k) s K=aNr d ag ks z (s.ev x) (s.ev k) s K:=by (unfold aAj aAc aNr bCc; cases h:s.ev x <;> first | (simp [h]; done) | (simp [h]; intros; exact Iff.rfl))
theorem bUx {P:Program} {wr:List Nat} {s:St} {K:St→Prop} {x t v}:aAj P wr (.mst x t v) s K=aW0 (s.ev x) (s.ev t) (s.ev v) s K:=by (unfold aAj aAc aW0 mstK; cases h:s.ev x <;> first | (simp [h]; done) | (cases h2:s.ev t <;> first | (simp [h,h2]; done) | (rename_i kk _; cases kk <;> first | (simp [h,h2]; done) | (simp [h,h2]; intros; exact Iff.rfl))))
theorem bFx {d:Option Nat} {ag:Bool} {ks:List Nat} {z:V} {c:Bool} {k:V} {s:St} {K:St→Prop}:aJx d ag ks z c .nilm k s K=(aMo ag ks k=true∧(mres c z [] none).imm=true∧K (s.setO d (mres c z [] none))):=by unfold aJx; rfl
theorem bEv {d:Option Nat} {ag:Bool} {ks:List Nat} {z:V} {c:Bool} {k:V} {id:Nat} {s:St} {K:St→Prop}:aJx d ag ks z c (.map id) k s K=bAr ag ks z c k (s.L id) (Tg.mk (a:=fun v=>K (s.setO d v))):=by unfold aJx; rfl
theorem bHn {ag:Bool} {ks:List Nat} {k v:V} {id:Nat} {s:St} {K:St→Prop}:aMs ag ks (.map id) k v s K=bAy ag ks k v (s.L id) (Tg.mk (a:=fun b=>K (s.put id b))):=by unfold aMs; rfl
theorem bHa {d:Option Nat} {ag:Bool} {ks:List Nat} {z:V} {k:V} {id:Nat} {s:St} {K:St→Prop}:aNr d ag ks z (.map id) k s K=bCc ag ks z k (s.L id) (Tg.mk (a:=fun b r=>K ((s.put id b).setO d r))):=by unfold aNr; rfl
theorem bLf {v:V} {n:Int} {id:Nat} {s:St} {K:St→Prop}:aW0 (.map id) (.int .i64 n) v s K=mstK n v (s.L id) (Tg.mk (a:=fun b=>K (s.put id b))):=by unfold aW0; rfl
theorem bHm {f cs}:(V.fn f cs).cells=[.fn f cs]:=rfl
theorem aY9 {f cs}:(V.fn f cs).ncells=some 1:=rfl
theorem bPx {f cs}:(V.fn f cs).one=true:=rfl
theorem bPb {f cs}:(V.fn f cs).imm=V.imms cs:=by simp only [V.imm]
def aM8 (P:Program) (n:Nat) (wr:List Nat) (a b:C) (K:X→St→Prop) (s:St) (m:Nat):V→Prop
 | .bool t=>(t=true→awpC P n wr a K (s.set m (.bool true)))∧(t=false→awpC P n wr b K (s.set m (.bool false)))
 | _=>False
theorem aPv {P:Program} {wr:List Nat} {n:Nat} {a b:C} {K:X→St→Prop} {s s':St} {m:Nat} {v v':V} (h:s=s') (h':v=v'):aM8 P n wr a b K s m v=aM8 P n wr a b K s' m v':=by rw [h,h']
attribute [congr] aPv
theorem bLq {P:Program} {wr:List Nat} {n:Nat} {a b:C} {K:X→St→Prop} {s:St} {m:Nat}:awpC P n wr (.cond (.t m) a b) K s=aM8 P n wr a b K s m (s.ev (.t m)):=by (conv=>lhs; unfold awpC); unfold aM8; generalize s.ev (.t m)=v; cases v <;> rfl
theorem bK2 {P:Program} {wr:List Nat} {n:Nat} {a b:C} {K:X→St→Prop} {s:St} {t:Bool}:awpC P n wr (.cond (.k (.bool t)) a b) K s=if t then awpC P n wr a K s else awpC P n wr b K s:=by (conv=>lhs; unfold awpC); rfl
theorem bHl {P:Program} {wr:List Nat} {n:Nat} {a b:C} {K:X→St→Prop} {s:St} {m:Nat} {t:Bool}:aM8 P n wr a b K s m (.bool t)=aGg t (Tg.mk (a:=awpC P n wr a K (s.set m (.bool true)))) (Tg.mk (a:=awpC P n wr b K (s.set m (.bool false)))):=by unfold aM8 aGg; rfl
def aHa (P:Program) (wr:List Nat) (l:List I) (t:Nat) (w:Bool) (s:St) (K:St→Prop):V→Prop
 | .bool b=>(b=w→aC2 P wr l (s.set t (.bool w)) K)∧(b=!w→K (aF1 l (s.set t (.bool !w))))
 | .tup []=>K (aF1 l s)
 | _=>False
theorem aP7 {P:Program} {wr:List Nat} {l:List I} {t:Nat} {w:Bool} {s s':St} {K:St→Prop} {v v':V} (h:s=s') (h':v=v'):aHa P wr l t w s K v=aHa P wr l t w s' K v':=by rw [h,h']
attribute [congr] aP7
theorem aS9 {P:Program} {wr:List Nat} {s:St} {K:St→Prop} {l:List I} {t:Nat} {w:Bool}:aMk P wr ⟨some (t,w),l⟩ s K=aHa P wr l t w s K (s.env t):=by unfold aMk aHa; rfl
theorem bFl {P:Program} {wr:List Nat} {s:St} {K:St→Prop} {l:List I} {t:Nat} {b:Bool}:aHa P wr l t true s K (.bool b)=aGg b (Tg.mk (a:=aC2 P wr l (s.set t (.bool true)) K)) (Tg.mk (a:=K (aF1 l (s.set t (.bool false))))):=by unfold aHa aGg; rfl
theorem bEh {P:Program} {wr:List Nat} {s:St} {K:St→Prop} {l:List I} {t:Nat} {b:Bool}:aHa P wr l t false s K (.bool b)=aGg b (Tg.mk (a:=K (aF1 l (s.set t (.bool true))))) (Tg.mk (a:=aC2 P wr l (s.set t (.bool false)) K)):=by unfold aHa aGg; exact propext And.comm
theorem bFo {P:Program} {wr:List Nat} {s:St} {K:St→Prop} {l:List I} {t:Nat} {w:Bool}:aHa P wr l t w s K (.tup [])=K (aF1 l s):=by unfold aHa; rfl
theorem aZs {s:St}:aF1 [] s=s:=rfl
theorem aYj {s:St} {i:I} {r:List I}:aF1 (i::r) s=aF1 r (s.setO i.dst (.tup [])):=rfl
theorem bGp {s:St} {K:St→Prop} {d a b t}:aM0 d a b (.bool t) s K=aGg t (Tg.mk (a:=K (s.setO d a))) (Tg.mk (a:=K (s.setO d b))):=by unfold aM0 aGg; cases t <;> simp
def aBl (d:Option Nat) (op:BinOp) (x y:V) (s:St) (K:St→Prop):Prop:=aDw op x y fun v=>K (s.setO d v)
def aGb (d:Option Nat) (op:BinOp) (x y:V) (s:St) (K:St→Prop):Prop:=vbin op x y fun v=>K (s.setO d v)
theorem aTd {d:Option Nat} {op:BinOp} {x x' y y':V} {s s':St} {K:St→Prop} (h:x=x') (h2:y=y') (h3:s=s'):aBl d op x y s K=aBl d op x' y' s' K:=by rw [h,h2,h3]
theorem aPx {d:Option Nat} {op:BinOp} {x x' y y':V} {s s':St} {K:St→Prop} (h:x=x') (h2:y=y') (h3:s=s'):aGb d op x y s K=aGb d op x' y' s' K:=by rw [h,h2,h3]
attribute [congr] aTd aPx
theorem bVn {P:Program} {wr:List Nat} {s:St} {K:St→Prop} {d op x y}:aAj P wr (.bin d op x y) s K=bif wrD wr d then aGb d op (s.ev x) (s.ev y) s K else aBl d op (s.ev x) (s.ev y) s K:=by simp only [aAj,aAc,aBl,aGb]; cases wrD wr d <;> simp
theorem bJ7 {d:Option Nat}:wrD [] d=false:=by cases d <;> rfl
theorem bFd {d a:Nat} {r:List Nat}:wrD (a::r) (some d)=(decide (d=a)||wrD r (some d)):=by
 simp only [wrD,List.contains_cons]
 congr 1
theorem bSz {s:St} {K:St→Prop} {d k a b}:aBl d .add (.int k a) (.int k b) s K=(InR k (a+b)∧K (s.setO d (.int k (a+b)))):=by simp [aBl,aDw]
theorem bT5 {s:St} {K:St→Prop} {d k a b}:aBl d .sub (.int k a) (.int k b) s K=(InR k (a-b)∧K (s.setO d (.int k (a-b)))):=by simp [aBl,aDw]
theorem bUj {s:St} {K:St→Prop} {d k a b}:aBl d .mul (.int k a) (.int k b) s K=(InR k (a*b)∧K (s.setO d (.int k (a*b)))):=by simp [aBl,aDw]
theorem bSh {s:St} {K:St→Prop} {d k a b}:aBl d .quo (.int k a) (.int k b) s K=(b≠0∧InR k (a.tdiv b)∧K (s.setO d (.int k (a.tdiv b)))):=by simp [aBl,aDw]
theorem bP9 {s:St} {K:St→Prop} {d k a b}:aGb d .add (.int k a) (.int k b) s K=K (s.setO d (.int k (k.wrap (a+b)))):=by simp [aGb,vbin,vint]
theorem bO1 {s:St} {K:St→Prop} {d k a b}:aGb d .sub (.int k a) (.int k b) s K=K (s.setO d (.int k (k.wrap (a-b)))):=by simp [aGb,vbin,vint]
theorem bQ3 {s:St} {K:St→Prop} {d k a b}:aGb d .mul (.int k a) (.int k b) s K=K (s.setO d (.int k (k.wrap (a*b)))):=by simp [aGb,vbin,vint]
theorem bP7 {s:St} {K:St→Prop} {d k a b}:aGb d .quo (.int k a) (.int k b) s K=(b≠0∧K (s.setO d (.int k (k.wrap (a.tdiv b))))):=by simp [aGb,vbin,vint]
theorem bUs {s:St} {K:St→Prop} {d k a b}:aBl d .rem (.int k a) (.int k b) s K=(b≠0∧K (s.setO d (.int k (a.tmod b)))):=by simp [aBl,aDw,vbin,vint]
theorem bTw {s:St} {K:St→Prop} {d k a b}:aBl d .and (.int k a) (.int k b) s K=K (s.setO d (.int k (aHj .and k a b))):=by simp [aBl,aDw,vbin,vint]
theorem v_or {s:St} {K:St→Prop} {d k a b}:aBl d .or (.int k a) (.int k b) s K=K (s.setO d (.int k (aHj .or k a b))):=by simp [aBl,aDw,vbin,vint]
theorem bTp {s:St} {K:St→Prop} {d k a b}:aBl d .xor (.int k a) (.int k b) s K=K (s.setO d (.int k (aHj .xor k a b))):=by simp [aBl,aDw,vbin,vint]
theorem bGs {s:St} {K:St→Prop} {d k a b}:aBl d .andNot (.int k a) (.int k b) s K=K (s.setO d (.int k (aHj .andNot k a b))):=by simp [aBl,aDw,vbin,vint]
theorem bU2 {s:St} {K:St→Prop} {d k a b}:aBl d .eql (.int k a) (.int k b) s K=K (s.setO d (.bool (decide (a=b)))):=by simp [aBl,aDw,vbin,vint]
theorem bVp {s:St} {K:St→Prop} {d k a b}:aBl d .neq (.int k a) (.int k b) s K=K (s.setO d (.bool (!decide (a=b)))):=by simp [aBl,aDw,vbin,vint]
theorem bVt {s:St} {K:St→Prop} {d k a b}:aBl d .lss (.int k a) (.int k b) s K=K (s.setO d (.bool (decide (a<b)))):=by simp [aBl,aDw,vbin,vint]
theorem bWw {s:St} {K:St→Prop} {d k a b}:aBl d .leq (.int k a) (.int k b) s K=K (s.setO d (.bool (decide (a≤b)))):=by simp [aBl,aDw,vbin,vint]
theorem bXm {s:St} {K:St→Prop} {d k a b}:aBl d .gtr (.int k a) (.int k b) s K=K (s.setO d (.bool (decide (b<a)))):=by simp [aBl,aDw,vbin,vint]
theorem bTz {s:St} {K:St→Prop} {d k a b}:aBl d .geq (.int k a) (.int k b) s K=K (s.setO d (.bool (decide (b≤a)))):=by simp [aBl,aDw,vbin,vint]
theorem bW7 {s:St} {K:St→Prop} {d k k' a b}:aBl d .shr (.int k a) (.int k' b) s K=(0≤b∧K (s.setO d (.int k (vshr k a b)))):=by simp [aBl,aDw,vbin,vint]
theorem bQq {s:St} {K:St→Prop} {d a b}:aBl d .add (.str a) (.str b) s K=(a.length+b.length<2^63∧K (s.setO d (.str (a++b)))):=by simp [aBl,aDw,vbin,vstr]
theorem bNs {s:St} {K:St→Prop} {d a b}:aBl d .eql (.str a) (.str b) s K=K (s.setO d (.bool (decide (a=b)))):=by simp [aBl,aDw,vbin,vstr]
theorem bQk {s:St} {K:St→Prop} {d a b}:aBl d .neq (.str a) (.str b) s K=K (s.setO d (.bool (!decide (a=b)))):=by simp [aBl,aDw,vbin,vstr]
theorem bPe {s:St} {K:St→Prop} {d a b}:aBl d .lss (.str a) (.str b) s K=K (s.setO d (.bool (Op.bytesLess a b))):=by simp [aBl,aDw,vbin,vstr]
theorem bPv {s:St} {K:St→Prop} {d a b}:aBl d .leq (.str a) (.str b) s K=K (s.setO d (.bool (Op.bytesLess a b||decide (a=b)))):=by simp [aBl,aDw,vbin,vstr]
theorem bPh {s:St} {K:St→Prop} {d a b}:aBl d .gtr (.str a) (.str b) s K=K (s.setO d (.bool (!(Op.bytesLess a b||decide (a=b))))):=by simp [aBl,aDw,vbin,vstr]
theorem bQm {s:St} {K:St→Prop} {d a b}:aBl d .geq (.str a) (.str b) s K=K (s.setO d (.bool (!Op.bytesLess a b))):=by simp [aBl,aDw,vbin,vstr]
def v_un (d:Option Nat) (op:UnOp) (x:V) (s:St) (K:St→Prop):Prop:=vunC op x fun v=>K (s.setO d v)
def aWa (d:Option Nat) (op:UnOp) (x:V) (s:St) (K:St→Prop):Prop:=vun op x fun v=>K (s.setO d v)
theorem aV3 {d:Option Nat} {op:UnOp} {x x':V} {s s':St} {K:St→Prop} (h:x=x') (h3:s=s'):v_un d op x s K=v_un d op x' s' K:=by rw [h,h3]
theorem aRx {d:Option Nat} {op:UnOp} {x x':V} {s s':St} {K:St→Prop} (h:x=x') (h3:s=s'):aWa d op x s K=aWa d op x' s' K:=by rw [h,h3]
attribute [congr] aV3 aRx
theorem x_un {P:Program} {wr:List Nat} {s:St} {K:St→Prop} {d op x}:aAj P wr (.un d op x) s K=bif wrD wr d then aWa d op (s.ev x) s K else v_un d op (s.ev x) s K:=by simp only [aAj,aAc,v_un,aWa]; cases wrD wr d <;> simp
theorem bVr {s:St} {K:St→Prop} {d b}:v_un d .not (.bool b) s K=K (s.setO d (.bool !b)):=by simp [v_un,vunC,vun]
theorem bS8 {s:St} {K:St→Prop} {d k b}:v_un d .neg (.int k b) s K=(InR k (0-b)∧K (s.setO d (.int k (0-b)))):=by simp [v_un,vunC]
theorem bOc {s:St} {K:St→Prop} {d k b}:aWa d .neg (.int k b) s K=K (s.setO d (.int k (k.wrap (0-b)))):=by simp [aWa,vun]
def aYl (d:Option Nat) (k:IntKind) (x:V) (s:St) (K:St→Prop):Prop:=bE7 k x fun v=>K (s.setO d v)
def aM9 (d:Option Nat) (k:IntKind) (x:V) (s:St) (K:St→Prop):Prop:=match x with
 | .int _ n=>K (s.setO d (.int k (k.wrap n)))
 | _=>False
theorem aTx {d:Option Nat} {k:IntKind} {x x':V} {s s':St} {K:St→Prop} (h:x=x') (h3:s=s'):aYl d k x s K=aYl d k x' s' K:=by rw [h,h3]
theorem aPm {d:Option Nat} {k:IntKind} {x x':V} {s s':St} {K:St→Prop} (h:x=x') (h3:s=s'):aM9 d k x s K=aM9 d k x' s' K:=by rw [h,h3]
attribute [congr] aTx aPm
theorem bSl {P:Program} {wr:List Nat} {s:St} {K:St→Prop} {d k x}:aAj P wr (.cvt d k x) s K=bif wrD wr d then aM9 d k (s.ev x) s K else aYl d k (s.ev x) s K:=by simp only [aAj,aAc,aYl,aM9]; cases wrD wr d <;> simp <;> rfl
theorem bL6 {s:St} {K:St→Prop} {d k q n}:aYl d k (.int q n) s K=(InR k n∧K (s.setO d (.int k n))):=by simp [aYl,bE7]
theorem bLh {s:St} {K:St→Prop} {d k q n}:aM9 d k (.int q n) s K=K (s.setO d (.int k (k.wrap n))):=by simp [aM9]
def ceqK (ks:List Nat) (a b:List V) (K:Bool→Prop):Prop:=∃ t,aAz ks a b=some t∧K t
theorem aWn {ks:List Nat} {a a' b b':List V} {K:Bool→Prop} (h:a=a') (h2:b=b'):ceqK ks a b K=ceqK ks a' b' K:=by rw [h,h2]
attribute [congr] aWn
theorem bKp {s:St} {K:St→Prop} {d neg ks a b}:aVu d neg ks (.agg a) (.agg b) s K=ceqK ks a b fun t=>K (s.setO d (.bool (t != neg))):=by unfold aVu ceqK; rfl
theorem bFu {K:Bool→Prop}:ceqK [] [] [] K=K true:=by simp [ceqK,aAz]
theorem aNw {k:Nat} {ks:List Nat} {x y:V} {r q:List V} {K:Bool→Prop} {c:Bool} (h:aCd k x y=some c):ceqK (k::ks) (x::r) (y::q) K=ceqK ks r q fun t=>K (c&&t):=by
 simp only [ceqK,aAz,h]
 cases aAz ks r q <;> simp
theorem bF6 {ks:List Nat} {k:IntKind} {a b:Int} {r q:List V} {K:Bool→Prop}:ceqK (0::ks) (.int k a::r) (.int k b::q) K=ceqK ks r q fun t=>K (decide (a=b)&&t):=aNw (by simp [aCd])
theorem bEe {ks:List Nat} {a b:List UInt8} {r q:List V} {K:Bool→Prop}:ceqK (1::ks) (.str a::r) (.str b::q) K=ceqK ks r q fun t=>K (decide (a=b)&&t):=aNw (by simp [aCd])
theorem bCs {ks:List Nat} {a b:Bool} {r q:List V} {K:Bool→Prop}:ceqK (2::ks) (.bool a::r) (.bool b::q) K=ceqK ks r q fun t=>K ((a==b)&&t):=aNw (by simp [aCd])
theorem aX0 {d:Nat} {K:Nat→Prop}:aBu none d K=K d:=rfl
theorem aWc {d:Nat} {K:Nat→Prop} {k i}:aBu (some (.int k i)) d K=(0≤i∧K i.toNat):=rfl
theorem aTk {o o':Option V} {d d':Nat} {K:Nat→Prop} (h:o=o') (h2:d=d'):aBu o d K=aBu o' d' K:=by rw [h,h2]
attribute [congr] aTk
theorem bG0 {s:St} {K:St→Prop} {d lo hi t}:aNm d lo hi (.str t) s K=(aBu lo 0 fun l=>aBu hi t.length fun h=>l≤h∧h≤t.length∧K (s.setO d (.str ((t.take h).drop l)))):=by unfold aNm; rfl
theorem bJl {s:St} {K:St→Prop} {d sz lo hi}:aMl d sz lo hi (.nils) s K=(aBu lo 0 fun l=>aBu hi 0 fun h=>l≤h∧h≤0∧K (s.setO d .nils)):=by unfold aMl; rfl
theorem bNc {s:St} {K:St→Prop} {d sz lo hi es}:aMl d sz lo hi (.lst sz es) s K=(aBu lo 0 fun l=>aBu hi es.length fun h=>l≤h∧h≤es.length∧K (s.setO d (.lst sz ((es.take h).drop l)))):=by unfold aMl; simp
theorem bI6 {s:St} {K:St→Prop} {d sz lo hi id off n}:aMl d sz lo hi (.own id sz off n) s K=(aBu lo 0 fun l=>aBu hi n fun h=>l≤h∧h≤n∧K (s.setO d (.own id sz (off+l) (h-l)))):=by unfold aMl; simp
def elO (sz:Nat) (bl:Option Blk) (off len:Nat) (K:List V→Prop):Prop :=
 match bl with
 | some (.vec _ _ es)=>off+len≤es.length∧K ((es.drop off).take len)
 | _=>False
theorem bDg {sz:Nat} {bl bl':Option Blk} {off len:Nat} {K:List V→Prop} (h:bl=bl'):elO sz bl off len K=elO sz bl' off len K:=by rw [h]
attribute [congr] bDg
theorem bWd {sz ty sz':Nat} {es:List V} {off len:Nat} {K:List V→Prop}:elO sz (some (.vec ty sz' es)) off len K=(off+len≤es.length∧K ((es.drop off).take len)):=rfl
theorem aOx {sz:Nat} {L L':Heap} {y y':V} {K:List V→Prop} (h:L=L') (h2:y=y'):aAu sz L y K=aAu sz L' y' K:=by rw [h,h2]
attribute [congr] aOx
theorem bCq {sz:Nat} {L:Heap} {K:List V→Prop}:aAu sz L .nils K=K []:=rfl
theorem bBd {sz:Nat} {L:Heap} {es:List V} {K:List V→Prop}:aAu sz L (.lst sz es) K=K es:=by simp [aAu]
theorem aY2 {L:Heap} {s:List UInt8} {K:List V→Prop}:aAu 1 L (.str s) K=K (aAs s):=by simp [aAu,aAs]
theorem aZv {sz:Nat} {L:Heap} {id off len:Nat} {K:List V→Prop}:aAu sz L (.own id sz off len) K=elO sz (L id) off len K:=by
 unfold aAu elO
 simp only
 cases L id with
 | none=>simp
 | some b=>cases b <;> simp
def appN (d ty sz:Nat) (ys:List V) (s:St) (K:St→Prop):Prop:=(ys=[]→K (s.set d .nils))∧(ys≠[]→ys.length≤2^32∧K ((s.add (s.nx+d) (.vec ty sz ys)).set d (.own (s.nx+d) sz 0 ys.length)))
theorem aWq {d ty sz:Nat} {ys ys':List V} {s s':St} {K:St→Prop} (h:ys=ys') (h2:s=s'):appN d ty sz ys s K=appN d ty sz ys' s' K:=by rw [h,h2]
attribute [congr] aWq
theorem bGv {d ty sz:Nat} {s:St} {K:St→Prop}:appN d ty sz [] s K=K (s.set d .nils):=by simp [appN]
theorem aZk {d ty sz:Nat} {y:V} {ys:List V} {s:St} {K:St→Prop}:appN d ty sz (y::ys) s K=((y::ys).length≤2^32∧K ((s.add (s.nx+d) (.vec ty sz (y::ys))).set d (.own (s.nx+d) sz 0 (y::ys).length))):=by simp [appN]
def appO (d ty sz id off n:Nat) (bl:Option Blk) (y:V) (s:St) (K:St→Prop):Prop :=
 match bl with
 | some (.vec ty' _ es)=>ty'=ty∧off+n≤es.length∧aAu sz s.L y fun ys=>n+ys.length≤2^32 ∧
  K (((s.drop id).add (s.nx+d) (.vec ty sz ((es.drop off).take n++ys))).set d (.own (s.nx+d) sz 0 (n+ys.length)))
 | _=>False
theorem aVv {d ty sz id off n:Nat} {bl bl':Option Blk} {y y':V} {s s':St} {K:St→Prop} (h:bl=bl') (h2:y=y') (h3:s=s'):appO d ty sz id off n bl y s K=appO d ty sz id off n bl' y' s' K:=by rw [h,h2,h3]
attribute [congr] aVv
theorem bOa {d ty sz id off n r0:Nat} {es:List V} {y:V} {s:St} {K:St→Prop}:appO d ty sz id off n (some (.vec ty r0 es)) y s K=(off+n≤es.length∧aAu sz s.L y fun ys=>n+ys.length≤2^32 ∧
 K (((s.drop id).add (s.nx+d) (.vec ty sz ((es.drop off).take n++ys))).set d (.own (s.nx+d) sz 0 (n+ys.length)))):=by simp [appO]
def aSa (d ty sz:Nat) (x y:V) (s:St) (K:St→Prop):Prop:=(x=.nils∧aAu sz s.L y (fun ys=>ys=[])∧K (s.set d .nils))∨aC0 d ty sz x y s K
theorem aTz {d ty sz:Nat} {x x' y y':V} {s s':St} {K:St→Prop} (h:x=x') (h2:y=y') (h3:s=s'):aSa d ty sz x y s K=aSa d ty sz x' y' s' K:=by rw [h,h2,h3]
attribute [congr] aTz
theorem bR6 {P:Program} {wr:List Nat} {s:St} {K:St→Prop} {d ty sz x y}:aAj P wr (.app d ty sz x y) s K=aSa d ty sz (s.ev x) (s.ev y) s K:=by unfold aAj aAc; rfl
theorem bK7 {d ty sz id off n:Nat} {y:V} {s:St} {K:St→Prop}:aSa d ty sz (.own id sz off n) y s K=appO d ty sz id off n (s.L id) y s K:=by
 unfold aSa aC0 appO
 simp only [reduceCtorEq,false_and,false_or]
 cases s.L id with
 | none=>rfl
 | some b=>cases b <;> simp
theorem bGm {s:St} {K:List V→Prop}:resP [] s K=K []:=rfl
theorem bAg {t:Nat} {r:List RV} {s:St} {K:List V→Prop}:resP ((t,none)::r) s K=resP r s fun vs=>K (s.env t::vs):=rfl
def resB (sz:Nat) (ag:Bool) (o:Nat) (bl:Option Blk) (r:List RV) (s:St) (K:List V→Prop):Prop :=
 match bl with
 | some (.box _ cs)=>o+sz≤cs.length∧resP r s fun vs=>K (pack ag ((cs.drop o).take sz)::vs)
 | _=>False
theorem aX8 {sz:Nat} {ag:Bool} {o:Nat} {bl bl':Option Blk} {r:List RV} {s s':St} {K:List V→Prop} (h:bl=bl') (h2:s=s'):resB sz ag o bl r s K=resB sz ag o bl' r s' K:=by rw [h,h2]
attribute [congr] aX8
theorem bOw {sz:Nat} {ag:Bool} {o ty:Nat} {cs:List V} {r:List RV} {s:St} {K:List V→Prop}:resB sz ag o (some (.box ty cs)) r s K=(o+sz≤cs.length∧resP r s fun vs=>K (pack ag ((cs.drop o).take sz)::vs)):=rfl
def resV (sz:Nat) (ag:Bool) (v:V) (r:List RV) (s:St) (K:List V→Prop):Prop :=
 match v with
 | .ptr id o=>resB sz ag o (s.L id) r s K
 | _=>False
theorem aV5 {sz:Nat} {ag:Bool} {v v':V} {r:List RV} {s s':St} {K:List V→Prop} (h:v=v') (h2:s=s'):resV sz ag v r s K=resV sz ag v' r s' K:=by rw [h,h2]
attribute [congr] aV5
theorem bPi {sz:Nat} {ag:Bool} {id o:Nat} {r:List RV} {s:St} {K:List V→Prop}:resV sz ag (.ptr id o) r s K=resB sz ag o (s.L id) r s K:=rfl
theorem bA7 {t sz:Nat} {ag:Bool} {r:List RV} {s:St} {K:List V→Prop}:resP ((t,some (sz,ag))::r) s K=resV sz ag (s.env t) r s K:=by
 simp only [resP,resV]
 cases s.env t <;> rfl
theorem bCd {rs:List RV} {post:V→Heap→Nat→Prop} {s:St}:endK rs post .norm s=resP rs s fun vs=>post (one vs) s.L s.nx:=rfl
theorem bHx {rs:List RV} {post:V→Heap→Nat→Prop} {s:St}:endK rs post .ret s=resP rs s fun vs=>post (one vs) s.L s.nx:=rfl
theorem bMm {v:V}:one [v]=v:=rfl
theorem bM2:one []=.tup []:=rfl
theorem bJp {a b:V} {r:List V}:one (a::b::r)=.tup (a::b::r):=rfl
theorem bAt {N:St→Prop} {K:X→St→Prop} {s:St}:seqK N K .norm s=N s:=rfl
theorem bAu {N:St→Prop} {K:X→St→Prop} {s:St} {i:Nat}:seqK N K (.exit i) s=K (.exit i) s:=rfl
theorem bE3 {N:St→Prop} {K:X→St→Prop} {s:St}:seqK N K .ret s=K .ret s:=rfl
theorem bAi {id:Nat} {K:X→St→Prop} {s:St}:blkK id K .norm s=K .norm s:=rfl
theorem bGa {id:Nat} {K:X→St→Prop} {s:St}:blkK id K .ret s=K .ret s:=rfl
theorem aY0 {id:Nat} {K:X→St→Prop} {s:St} {i:Nat}:blkK id K (.exit i) s=if i=id then K .norm s else K (.exit i) s:=rfl
theorem aW9 {N:St→Prop} {K:X→St→Prop} {x x':X} {s s':St} (h:x=x') (h2:s=s'):seqK N K x s=seqK N K x' s':=by rw [h,h2]
theorem aYi {id:Nat} {K:X→St→Prop} {x x':X} {s s':St} (h:x=x') (h2:s=s'):blkK id K x s=blkK id K x' s':=by rw [h,h2]
theorem aYk {rs:List RV} {post:V→Heap→Nat→Prop} {x x':X} {s s':St} (h:x=x') (h2:s=s'):endK rs post x s=endK rs post x' s':=by rw [h,h2]
attribute [congr] aW9 aYi aYk
theorem bEd {cs:List V}:(V.agg cs).cells=cs:=rfl
theorem aZw {k n}:(V.int k n).cells=[.int k n]:=rfl
theorem bBn {s}:(V.str s).cells=[.str s]:=rfl
theorem aWb {s}:(V.bool s).cells=[.bool s]:=rfl
theorem aV7:V.nils.cells=[.nils]:=rfl
theorem aV8:V.nilp.cells=[.nilp]:=rfl
theorem bDt {z es}:(V.lst z es).cells=[.lst z es]:=rfl
theorem bA6 {a b c d}:(V.own a b c d).cells=[.own a b c d]:=rfl
theorem aPk {a b}:(V.ptr a b).cells=[.ptr a b]:=rfl
theorem aNc {cs:List V}:(V.agg cs).ncells=if cs.all V.one then some cs.length else none:=rfl
theorem aXd {k n}:(V.int k n).ncells=some 1:=rfl
theorem aXu {s}:(V.str s).ncells=some 1:=rfl
theorem aR0 {s}:(V.bool s).ncells=some 1:=rfl
theorem aRr:V.nils.ncells=some 1:=rfl
theorem aTu:V.nilp.ncells=some 1:=rfl
theorem aWx {z es}:(V.lst z es).ncells=some 1:=rfl
theorem aXz {a b c d}:(V.own a b c d).ncells=some 1:=rfl
theorem aWd {a b}:(V.ptr a b).ncells=some 1:=rfl
theorem bDy {k n}:(V.int k n).one=true:=rfl
theorem bAq {s}:(V.str s).one=true:=rfl
theorem bFp {s}:(V.bool s).one=true:=rfl
theorem bHf:V.nils.one=true:=rfl
theorem bGc:V.nilp.one=true:=rfl
theorem bJu {z es}:(V.lst z es).one=true:=rfl
theorem bI2 {a b c d}:(V.own a b c d).one=true:=rfl
theorem bJx {a b}:(V.ptr a b).one=true:=rfl
theorem aMx {cs ds:List V}:(V.agg cs).recell ds=.agg ds:=rfl
theorem bQ0 {cs:List V}:pack true cs=.agg cs:=rfl
theorem bOq {cs:List V}:pack false cs=cs.headD .junk:=rfl
theorem ev_t {s:St} {n:Nat}:s.ev (.t n)=s.env n:=rfl
theorem ev_k {s:St} {v:V}:s.ev (.k v)=v:=rfl
theorem bL1 {k n}:(V.int k n).imm=true:=rfl
theorem bLi {s}:(V.str s).imm=true:=rfl
theorem bFf {s}:(V.bool s).imm=true:=rfl
theorem bFt:V.nils.imm=true:=rfl
theorem bBo {z es}:(V.lst z es).imm=V.imms es:=by simp [V.imm]
theorem aR9 {es}:(V.agg es).imm=V.imms es:=by simp [V.imm]
theorem bM0 {es}:(V.tup es).imm=V.imms es:=by simp [V.imm]
theorem bFy:V.imms []=true:=by simp [V.imms]
theorem bCv {x r}:V.imms (x::r)=(x.imm&&V.imms r):=by simp [V.imms]
theorem aX2 {n:Nat}:((n:Nat):Int).toNat=n:=Int.toNat_natCast n
theorem aR7 {n:Nat}:(0≤((n:Nat):Int))=True:=eq_true (Int.natCast_nonneg n)
theorem aRp {α:Type} {a r:List α} {x:α}:decide (((a.length:Nat):Int)<(((a++x::r).length:Nat):Int))=true:=by simp; omega
theorem aX9 {α:Type} {a:List α}:decide (((a.length:Nat):Int)<(((a++[]).length:Nat):Int))=false:=by simp
theorem bP3 {a:Int}:decide (a<a)=false:=by simp
theorem aRt {α:Type} {a r:List α} {x:α}:(a.length<(a++x::r).length)=True:=by simp
theorem aWe (t:List UInt8):(t.map fun b=>V.int .u8 b.toNat)=aAs t:=rfl
theorem aXp:aAs []=[]:=rfl
theorem aKl (c:UInt8) (t:List UInt8):aAs (c::t)=.int .u8 c.toNat::aAs t:=rfl
theorem aBz (bs:List UInt8):(aAs bs).length=bs.length:=by simp [aAs]
theorem bLz:aQd .nils=True:=rfl
theorem bKd {z:Nat} {es:List V}:aQd (.lst z es)=True:=rfl
theorem bMg {i z o n:Nat}:aQd (.own i z o n)=True:=rfl
theorem bD2 {a b:Int}:mxI true a b=max a b:=by simp only [mxI,if_true]; omega
theorem aS7 {a b:Int}:mxI false a b=min a b:=by simp only [mxI]; simp; omega
theorem updE (f:Nat→V) (i:Nat) (v:V) (j:Nat):upd f i v j=if j=i then v else f j:=rfl
theorem bDn (f:Nat→Option Blk) (i:Nat) (v:Option Blk):upd f i v i=v:=by simp [upd]
theorem bI7 (f:Nat→Option Blk) (i j:Nat) (v:Option Blk) (h:j≠i):upd f i v j=f j:=by simp [upd,h]
theorem bFk {x:Int} (h:-9223372036854775808≤x∧x≤9223372036854775807):IntKind.wrap .i64 x=x:=by
 obtain ⟨h1,h2⟩:=h
 unfold IntKind.wrap
 simp [IntKind.bits,IntKind.signed]
 omega
attribute [push_cast] bXp bN7 bW5 bTr bFc bLa aVy aVt aXb aXl aXf aYe aW1 aXv aW7 bV6 bE9 bJe bJm aYc bRr bGe bVg bFq bQh bBw bQp bTy bXn bGw bHu bHz bHq bQ2 bBs bD4 bBf bPp aZ3 aZ9 bMo aX7 aWf bNv bB3 bDa aZ4 bDp bOn bAn aXg aLs aW5 bCt bJ9 aTw aYh aSg aXj bS0 bN6 bPf bO7 bN8 bNb bW1 bSv bSe bWb bG6 bJ0 aWl bMa aTa aV9 bG2 aPt aTt bJn aW4 aX4 bPk bCm aWr bCx bOg bBc bC7 bVj bEl bR1 bNz bV4 x_mx bL8 bVe bGq bOf bTl bUv bQf bI8 bP8 bRg w_gh bTb aT1 aRb aQ0 aO2 aTc
attribute [push_cast] aV1 aK2 bO2 bO0 bP2 bNa bMu bFb bA3 bLm bP6 bQn bOo bUx bFx bEv bHn bHa bLf bHm aY9 bPx bPb bLq bK2 bHl aS9 bFl bEh bFo aZs aYj bGp bVn bJ7 bFd bSz bT5 bUj bSh bP9 bO1 bQ3 bP7 bUs bTw v_or bTp bGs bU2 bVp bVt bWw bXm bTz bW7 bQq bNs bQk bPe bPv bPh bQm x_un bVr bS8 bOc bSl bL6 bLh bKp bFu bF6 bEe bCs aX0 aWc bG0 bJl bNc bI6 bWd bCq bBd aY2 aZv bGv aZk bOa bR6 bK7 bGm bAg bOw bPi bA7 bCd bHx bMm bM2 bJp bAt bAu bE3 bAi bGa aY0 bEd aZw bBn aWb aV7 aV8 bDt bA6 aPk aNc aXd aXu aR0 aRr aTu aWx aXz aWd bDy bAq bFp bHf bGc bJu bI2 bJx aMx bQ0 bOq ev_t ev_k bL1 bLi bFf bFt bBo aR9 bM0 bFy bCv aX2 aR7 aRp aX9 bP3 aRt aWe aXp aKl aBz bLz bKd bMg bD2 aS7 updE bDn bI7 bFk bC4
attribute [push_cast] decide_true decide_false aB3 St.setO St.set St.past St.put St.add St.drop St.enter I.dst aB1 List.getD_cons_zero List.getD_cons_succ List.take_succ_cons List.take_zero List.take_nil List.drop_zero List.drop_succ_cons List.drop_nil List.headD_cons List.nil_append List.cons_append List.append_nil List.map_cons List.map_nil List.length_cons List.length_nil List.all_cons List.all_nil List.forall_mem_cons List.foldl_cons List.foldl_nil Option.map_some Option.map_none Nat.zero_add Nat.add_zero if_true if_false Bool.not_true Bool.not_false Bool.and_true Bool.true_and true_and and_true true_implies false_implies Bool.true_eq_false Bool.false_eq_true or_true true_or Nat.le_refl Bool.not_not cond_true cond_false InR Bool.or_false Bool.false_or Bool.bne_true Bool.bne_false Option.isSome_some ne_eq not_false_eq_true Nat.zero_le Nat.add_assoc Nat.add_left_cancel_iff bD2 aS7
theorem aTh {α:Type} {p:α→Prop}:(∀ x,x∈([]:List α)→p x)=True:=by simp
attribute [push_cast] aTh
end Go.Ab
namespace Go.Ab
mutual
def V.le:V→V→Prop
 | .nils,y=>y=.nils∨∃ sz,y=.lst sz []
 | .agg a,y=>∃ b,y=.agg b∧V.leL a b
 | .lst sz a,y=>∃ b,y=.lst sz b∧V.leL a b
 | .tup a,y=>∃ b,y=.tup b∧V.leL a b
 | .junk,y=>y=.junk
 | .bool b,y=>y=.bool b
 | .int k n,y=>y=.int k n
 | .str s,y=>y=.str s
 | .nilp,y=>y=.nilp
 | .ptr a b,y=>y=.ptr a b
 | .eptr a b c,y=>y=.eptr a b c
 | .cptr a,y=>y=.cptr a
 | .own a b c d,y=>y=.own a b c d
 | .fn f c,y=>y=.fn f c
 | .map i,y=>y=.map i
 | .nilm,y=>y=.nilm
 | .raw v,y=>y=.raw v
def V.leL:List V→List V→Prop
 | [],y=>y=[]
 | x::r,y=>∃ z q,y=z::q∧x.le z∧V.leL r q
end
mutual
theorem V.le_refl:∀ x:V,x.le x
 | .nils=>by simp [V.le]
 | .agg a=>by simp [V.le,V.leL_refl a]
 | .lst sz a=>by simp [V.le,V.leL_refl a]
 | .tup a=>by simp [V.le,V.leL_refl a]
 | .junk=>by simp [V.le]
 | .bool b=>by simp [V.le]
 | .int k n=>by simp [V.le]
 | .str s=>by simp [V.le]
 | .nilp=>by simp [V.le]
 | .ptr a b=>by simp [V.le]
 | .eptr a b c=>by simp [V.le]
 | .cptr a=>by simp [V.le]
 | .own a b c d=>by simp [V.le]
 | .fn f c=>by simp [V.le]
 | .map i=>by simp [V.le]
 | .nilm=>by simp [V.le]
 | .raw v=>by simp [V.le]
theorem V.leL_refl:∀ l:List V,V.leL l l
 | []=>by simp [V.leL]
 | x::r=>by simp only [V.leL]; exact ⟨x,r,rfl,V.le_refl x,V.leL_refl r⟩
end
theorem aFf {x y:V} {r q:List V}:V.leL (x::r) (y::q)=(x.le y∧V.leL r q):=by
 simp only [V.leL]
 exact propext ⟨fun ⟨z,q',h,h1,h2⟩=>by cases h; exact ⟨h1,h2⟩,fun ⟨h1,h2⟩=>⟨y,q,rfl,h1,h2⟩⟩
theorem aHk:V.leL [] []=True:=by simp [V.leL]
theorem aMz {a b:List V}:V.le (.agg a) (.agg b)=V.leL a b:=by simp [V.le]
theorem aMy {s:Nat} {a b:List V}:V.le (.lst s a) (.lst s b)=V.leL a b:=by simp [V.le]
theorem bJh {s:Nat}:V.le .nils (.lst s [])=True:=by simp [V.le]
theorem bLc {x:V}:V.le x x=True:=eq_true (V.le_refl x)
theorem bL0 {x:List V}:V.leL x x=True:=eq_true (V.leL_refl x)
attribute [push_cast] aFf aHk aMz aMy bJh bLc bL0
theorem aC8:∀ {a b:List V},V.leL a b→a.length=b.length
 | [],b,h=>by simp [V.leL] at h; simp [h]
 | x::r,b,h=>by obtain ⟨z,q,rfl,_,h2⟩:=h; simp [aC8 h2]
theorem aF4:∀ {a b:List V} {i:Nat} {y:V},V.leL a b→b[i]?=some y→∃ x,a[i]?=some x∧x.le y
 | [],b,i,y,h,hy=>by simp [V.leL] at h; subst h; simp at hy
 | x::r,b,i,y,h,hy=>by
   obtain ⟨z,q,rfl,h1,h2⟩:=h
   cases i with
   | zero=>simp at hy; subst hy; exact ⟨x,rfl,h1⟩
   | succ i=>simpa using aF4 h2 (by simpa using hy)
theorem bPc {x y:V} (h:x.le y) (h1:x.one=true):y.one=true:=by
 cases x <;> simp only [V.le] at h
 case nils=>rcases h with rfl | ⟨sz,rfl⟩ <;> rfl
 case agg=>simp [V.one] at h1
 case tup=>simp [V.one] at h1
 case lst=>obtain ⟨b,rfl,_⟩:=h; rfl
 all_goals (subst h; exact h1)
theorem bA1:∀ {a b:List V},V.leL a b→a.all V.one=true→b.all V.one=true
 | [],b,h,_=>by simp [V.leL] at h; simp [h]
 | x::r,b,h,h1=>by
   obtain ⟨z,q,rfl,h2,h3⟩:=h
   simp only [List.all_cons,Bool.and_eq_true] at h1 ⊢
   exact ⟨bPc h2 h1.1,bA1 h3 h1.2⟩
theorem bCu {x y:V} {sz:Nat} (h:x.le y) (h1:x.ncells=some sz):y.ncells=some sz:=by
 cases x <;> simp only [V.le] at h
 case nils=>rcases h with rfl | ⟨sz,rfl⟩ <;> simpa [V.ncells,V.one] using h1
 case agg a =>
  obtain ⟨b,rfl,h2⟩:=h
  simp only [V.ncells] at h1 ⊢
  split at h1
  ·rename_i h3
   rw [if_pos (bA1 h2 h3),← aC8 h2]
   exact h1
  ·simp at h1
 case tup=>simp [V.ncells,V.one] at h1
 case lst=>obtain ⟨b,rfl,_⟩:=h; simpa [V.ncells,V.one] using h1
 all_goals (subst h; exact h1)
theorem bFm {x y:V} (h:x.le y) {sz:Nat} (h1:x.ncells=some sz):V.leL x.cells y.cells:=by
 cases x <;> simp only [V.le] at h
 case nils=>rcases h with rfl | ⟨sz,rfl⟩ <;> simp [V.cells,V.leL,V.le]
 case agg a=>obtain ⟨b,rfl,h2⟩:=h; exact h2
 case tup=>simp [V.ncells,V.one] at h1
 case lst=>obtain ⟨b,rfl,h2⟩:=h; simp [V.cells,V.leL,V.le,h2]
 all_goals (subst h; exact V.leL_refl _)
theorem Rep.le {G:Ghost} {D:Nat→Prop} {w:World} {x:V} {v:Value} (h:Rep G D w x v):∀ {y:V},x.le y→Rep G D w y v:=by
 induction h with
 | nils =>
   intro y hy
   simp only [V.le] at hy
   rcases hy with rfl | ⟨sz,rfl⟩
   ·exact .nils
   ·exact .lst sz [] none 0 0 0 (by simp) (by omega) (by simp) (by simp) (by simp) (by simp)
 | agg cs vs hn hr ih =>
   intro y hy
   obtain ⟨b,rfl,hb⟩:=hy
   refine .agg _ _ (by rw [← aC8 hb]; exact hn) fun i c hc=>?_
   obtain ⟨x,hx,hle⟩:=aF4 hb hc
   exact ih i x hx hle
 | tup cs vs hn hr ih =>
   intro y hy
   obtain ⟨b,rfl,hb⟩:=hy
   refine .tup _ _ (by rw [← aC8 hb]; exact hn) fun i c hc=>?_
   obtain ⟨x,hx,hle⟩:=aF4 hb hc
   exact ih i x hx hle
 | lst sz es a cap b o hc hl ha hz hs hr ih =>
   intro y hy
   obtain ⟨es',rfl,hb⟩:=hy
   have hlen:=aC8 hb
   have key:∀ (i j:Nat) (c:V),(es'[i]?.bind fun e:V=>e.cells[j]?)=some c→∃ c':V,(es[i]?.bind fun e:V=>e.cells[j]?)=some c'∧c'.le c:=by
    intro i j c hx
    cases he:es'[i]? with
    | none=>simp [he] at hx
    | some e' =>
      obtain ⟨e,he2,hle⟩:=aF4 hb he
      simp only [he,Option.bind_some] at hx
      obtain ⟨c',hc',hle'⟩:=aF4 (bFm hle (hz e (mem_of_getElem? he2))) hx
      exact ⟨c',by simp [he2,hc'],hle'⟩
   rw [hlen]
   refine .lst sz es' a cap b o (by omega) hl (fun h0=>ha (by omega)) (fun e he=>?_) (fun i j c hx=>?_) (fun i j c hx=>?_)
   ·obtain ⟨i,hi,he⟩:=List.getElem_of_mem he
    obtain ⟨e2,he2,hle⟩:=aF4 hb (show es'[i]?=some e by rw [← he]; exact List.getElem?_eq_getElem hi)
    exact bCu hle (hz e2 (mem_of_getElem? he2))
   ·obtain ⟨c',hc',_⟩:=key i j c hx
    exact hs i j c' hc'
   ·obtain ⟨c',hc',hle⟩:=key i j c hx
    exact ih i j c' hc' hle
 | junk v=>intro y hy; simp only [V.le] at hy; subst hy; exact .junk v
 | bool b=>intro y hy; simp only [V.le] at hy; subst hy; exact .bool b
 | int k n=>intro y hy; simp only [V.le] at hy; subst hy; exact .int k n
 | str s h=>intro y hy; simp only [V.le] at hy; subst hy; exact .str s h
 | nilp=>intro y hy; simp only [V.le] at hy; subst hy; exact .nilp
 | ptr id off g h=>intro y hy; simp only [V.le] at hy; subst hy; exact .ptr id off g h
 | eptr id i j g h=>intro y hy; simp only [V.le] at hy; subst hy; exact .eptr id i j g h
 | cptr cs b o hb hd hs hr ih=>intro y hy; simp only [V.le] at hy; subst hy; exact .cptr cs b o hb hd hs hr
 | own id sz off len g a cap h hz hc hg hl ha=>intro y hy; simp only [V.le] at hy; subst hy; exact .own id sz off len g a cap h hz hc hg hl ha
 | fn f cs vs hn hr ih=>intro y hy; simp only [V.le] at hy; subst hy; exact .fn f cs vs hn hr
 | map id g h=>intro y hy; simp only [V.le] at hy; subst hy; exact .map id g h
 | nilm=>intro y hy; simp only [V.le] at hy; subst hy; exact .nilm
 | raw v=>intro y hy; simp only [V.le] at hy; subst hy; exact .raw v
theorem PTr.le {P:Program} {f:FuncId} {args args':List V} {r:V} (h:PTr P f args' r) (hl:V.leL args args'):PTr P f args r:=by
 intro D w vs hD hgl hn hr
 refine h D w vs hD hgl (by rw [← aC8 hl]; exact hn) fun i x hx=>?_
 obtain ⟨x',hx',hle⟩:=aF4 hl hx
 exact (hr i x' hx').le hle
theorem aIk {P:Program} {f:Nat} {args args':List V} {K:V→Prop} {x:Tg K} {r:V} (h:PTr P f args' r) (hl:V.leL args args') (h1:V.imms args=true) (h2:r.imm=true) (h3:K r):bEj P f args x:=aAa (h.le hl) h1 h2 h3
end Go.Ab
