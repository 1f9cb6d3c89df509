/- Several texts of one kind, merged. No condition. -/
import Derived.Test.YtdnhjbdnebokiaaGreatDoorAbE3
import Derived.Tactics
set_option linter.unusedSimpArgs false
set_option linter.unusedVariables false
namespace Go.Ab
open Go.RowKit
theorem aBz {F:Nat→Prop} {l:List V} (h:∀ (j:Nat) (c:V),l[j]?=some c→V.fit F c):V.fits F l :=
 (aAx F _).2 fun y hy=>by
  obtain ⟨j,hj,rfl⟩:=List.mem_iff_getElem.1 hy
  exact h j _ (List.getElem?_eq_getElem hj)
theorem aIf {F:Nat→Prop} {x:V} (h:∀ (j:Nat) (c:V),x.cells[j]?=some c→V.fit F c):x.fit F:=by
 cases x <;> simp only [V.cells] at h <;> first
  | exact h 0 _ rfl
  | (simp only [V.fit]; exact aBz h)
theorem aRo {G:Ghost} {D:Nat→Prop} {w:World} {x:V} {v:Value} (h:Rep G D w x v):x.fit (fun id=>(G id).isSome=true):=by
 induction h with
 | junk v=>simp [V.fit]
 | bool b=>simp [V.fit]
 | int k n=>simp [V.fit]
 | str s h=>simp [V.fit]
 | nilp=>simp [V.fit]
 | nils=>simp [V.fit]
 | ptr id off g h=>simp [V.fit,h]
 | eptr id i j g h=>simp [V.fit,h]
 | cptr cs b o hb hd hs hr ih=>simp only [V.fit]; exact aBz ih
 | lst sz es a cap b o hc hl ha hz hs hr ih =>
   simp only [V.fit]
   refine aBz fun i e he=>aIf fun j c hj=>ih i j c ?_
   rw [he]; exact hj
 | own id sz off len g a cap h hz hc hg hl ha=>simp [V.fit,h]
 | agg cs vs hn hr ih=>simp only [V.fit]; exact aBz ih
 | tup cs vs hn hr ih=>simp only [V.fit]; exact aBz ih
 | fn f cs vs hn hr ih=>simp only [V.fit]; exact aBz ih
 | map id g h=>simp [V.fit,h]
 | nilm=>simp [V.fit]
 | raw v=>simp [V.fit]
theorem Good.sfit {P:Program} {D:Nat→Prop} {n:Nat} {s:St} {G:Ghost} {a:Act} {w:World} (h:Good P D n s G a w):SFit (fun id=>(G id).isSome=true) s:=by
 refine ⟨fun t=>aRo (h.env t),fun id b hb=>?_⟩
 obtain ⟨g,hg,hok⟩:=h.hp.blk id b hb
 refine ⟨by simp [hg],?_⟩
 cases b with
 | box ty0 cs =>
   obtain ⟨c,ty,fr,_,_,_,_,h5⟩:=hok
   exact aBz fun i x hx=>aRo (h5 i x hx)
 | vec ty0 sz es =>
   obtain ⟨_,h2,_,_,h5⟩:=hok
   refine aBz fun i e he=>aIf fun j c hj=>?_
   have hpos:0<g.cap:=by
    have:i<es.length:=(List.getElem?_eq_some_iff.1 he).1
    omega
   obtain ⟨c',ty,fr,_,_,_,k4⟩:=h5 hpos
   exact aRo (k4 i j c (by rw [he]; exact hj))
 | map _ _=>trivial
 | bld _ _ _=>trivial
theorem aPt {P:Program} {n:Nat} {hint:Nat→Nat} {ops:Array Oper} {o:Oper} {x:GI} (h:aIp P n hint ops o=some x) :
 aAu n o.dst=true∧lowG ops n o.guard=some x.g∧lowX P n hint o=some x.i∧x.i.dst=o.dst:=by
 simp only [aIp] at h
 split at h
 ·rename_i hd
  split at h
  ·rename_i g i hg hi
   split at h
   ·rename_i he
    simp only [Option.some.injEq] at h
    subst h
    exact ⟨hd,hg,hi,he⟩
   ·simp at h
  ·simp at h
 ·simp at h
theorem aJp {P:Program} {n:Nat} {hint:Nat→Nat} {ops:Array Oper}:∀ (r:List Oper) (l:List GI),aK5 P n hint ops r=some l→l.length=r.length∧∀ i o,r[i]?=some o→aIp P n hint ops o=some (l.getD i default)
 | [],l,h=>by simp only [aK5,Option.some.injEq] at h; subst h; simp
 | o::r,l,h=>by
   simp only [aK5] at h
   split at h
   ·rename_i x y h1 h2
    simp only [Option.some.injEq] at h
    subst h
    obtain ⟨k1,k2⟩:=aJp r y h2
    refine ⟨by simp [k1],fun i o' ho=>?_⟩
    cases i with
    | zero=>simp only [List.getElem?_cons_zero,Option.some.injEq] at ho; subst ho; simpa using h1
    | succ i=>simp only [List.getElem?_cons_succ] at ho; simpa using k2 i o' ho
   ·simp at h
section
variable {P:Program} {D:Nat→Prop} {n:Nat} {hint:Nat→Nat} {ops:Array Oper} {s:St} {G:Ghost} {a:Act} {w:World} {K:St→Prop} {Q:Exit→Act→World→Prop}
theorem aOa {o:Oper} (hd:aAu n o.dst=true) {f:Nat} {xs:List V} {vals:Array Value} {next:Act→World→Prop}
 (hE:ECall P f xs s.L (s.nx+n) fun r L' nx'=>K ((⟨s.env,L',nx'⟩:St).setO o.dst r)) (hl:xs.length=vals.size) (hr:∀ (i:Nat) y,xs[i]?=some y→Rep G (Dp D s.L G) w y (vals.getD i undef))
 (hrun:(execOp a.eval o).run P w=.ok (.enter f vals) w) (hg:Good P D n s G a w)
 (hn:∀ s' G' a' w',K s'→Good P D n s' G' a' w'→Nxt s.L G w s'.L G' w'→s.nx+n≤s'.nx∧(∀ i,s'.nx≤i→G' i=none)→next a' w'):o.upon P a next Q ((execOp a.eval o).run P w):=by
 obtain ⟨_,hE⟩:=hE
 rw [hrun]
 simp only [Oper.upon]
 have hp:Hp P D 0 ⟨fun _=>.junk,s.L,s.nx+n⟩ G w:=⟨hg.hp.fin,hg.hp.blk,hg.hp.apart,hg.hp.away,hg.hp.dlt,hg.hp.gl⟩
 refine (hE D G w vals hp hl hr).mono ?_
 rintro e w' ⟨v,r,L',nx',G',rfl,hK,hp',hle,hx,hr⟩
 have hfin:∀ i,nx'≤i→G' i=none:=fun i hi=>hp'.fin i hi
 have hp2:Hp P D n ⟨s.env,L',nx'⟩ G' w':=⟨fun id hid=>hfin id (by simp only at hid; omega),hp'.blk,hp'.apart,hp'.away,hp'.dlt,hp'.gl⟩
 have g1:Good P D n ⟨s.env,L',nx'⟩ G' a w':=hg.later hx hp2
 exact hn _ _ _ _ hK (g1.put hd hr) (by rw [aEe]; exact hx) ⟨by rw [aCf]; exact hle,fun i hi=>hfin i (by rw [aCf] at hi; exact hi)⟩
theorem aPo {o:Oper} {i:I} (hd:aAu n o.dst=true) (h:lowE P n hint o=some i):∀ (s:St) (G:Ghost) (a:Act) (w:World) (K:St→Prop) (next:Act→World→Prop) (Q:Exit→Act→World→Prop),aAa P i s K→Good P D n s G a w →
 (∀ s' G' a' w',K s'→Good P D n s' G' a' w'→Nxt s.L G w s'.L G' w'→s.nx+n≤s'.nx∧(∀ i,s'.nx≤i→G' i=none)→next a' w')→o.upon P a next Q ((execOp a.eval o).run P w):=by
 intro s G a w K next Q hi hg hn
 unfold lowE at h
 split at h
 ·rename_i c hop
  split at h
  ·rename_i f hc
   split at h
   ·rename_i hb
    simp only [Bool.and_eq_true] at hb
    obtain ⟨qs,hq,rfl⟩:=Option.map_eq_some_iff.1 h
    obtain ⟨l1,l2⟩:=aDy hg hq
    refine aOa hd hi (vals:=c.args.map a.eval) (by simp [l1]) (fun i y hy=>?_) (aMh hc hb.2 hop) hg hn
    have h1:=l2 i y hy
    have:(c.args.map a.eval).getD i undef=(c.args.toList.map a.eval)[i]?.getD undef:=by simp [Array.getD_eq_getD_getElem?]
    rw [this]
    exact h1
   ·simp at h
  ·rename_i t hc
   split at h
   ·rename_i ht
    simp only [Bool.and_eq_true,decide_eq_true_eq] at ht
    replace ht:=ht.1
    obtain ⟨qs,hq,rfl⟩:=Option.map_eq_some_iff.1 h
    obtain ⟨l1,l2⟩:=aDy hg hq
    simp only [aAa] at hi
    split at hi
    ·rename_i f cs hfn
     obtain ⟨hb,hE⟩:=hi
     have rx:=aAe hg (show opd n (.tmp t)=some (.t t) by simp only [opd,if_pos ht])
     rw [hfn] at rx
     obtain ⟨vs,hv,hvl,hvr⟩:=aNk rx
     refine aOa hd hE (vals:=c.args.map a.eval++vs) (by simp [l1,hvl]) (fun i y hy=>?_) (aO3 hc hv hb hop) hg hn
     by_cases hi:i<qs.length
     ·have h1:=l2 i y (by rw [List.getElem?_append_left (by simpa using hi)] at hy; exact hy)
      have:(c.args.map a.eval++vs).getD i undef=(c.args.toList.map a.eval)[i]?.getD undef:=by
       have hi':i<c.args.size:=by rw [l1] at hi; simpa using hi
       simp [Array.getD_eq_getD_getElem?,Array.getElem?_append,hi']
      rw [this]
      exact h1
     ·rw [List.getElem?_append_right (by simp; omega)] at hy
      have h1:=hvr _ _ hy
      have:(c.args.map a.eval++vs).getD i undef=vs.getD (i-(qs.map s.ev).length) undef:=by
       have hi':¬ i<c.args.size:=by rw [l1] at hi; simpa using hi
       have hz:qs.length=c.args.size:=by rw [l1]; simp
       simp [Array.getD_eq_getD_getElem?,Array.getElem?_append,hi',hz]
      rw [this]
      exact h1
    ·exact hi.elim
   ·simp at h
  ·simp at h
 ·simp at h
def NewX (n:Nat) (m:Option Nat) (s:St) (G:Ghost) (s':St) (G':Ghost):Prop:=New m s G s' G'∨(s.nx+n≤s'.nx∧∀ i,s'.nx≤i→G' i=none)
theorem NewX.free {m:Option Nat} {s:St} {G:Ghost} {s':St} {G':Ghost} (h:NewX n m s G s' G') {d:Nat} (h1:G (s.nx+d)=none) (h2:m≠some d):G' (s'.nx+d)=none:=by
 rcases h with h | h
 ·cases hc:G' (s'.nx+d) with
  | none=>rfl
  | some g =>
    exfalso
    rcases h.2 (s'.nx+d) (by simp [hc]) with k1 | ⟨d',hd',he⟩
    ·rw [h.1,h1] at k1
     simp at k1
    ·rw [h.1] at he
     have:d=d':=by omega
     subst this
     exact h2 hd'
 ·exact h.2 _ (by omega)
theorem bE8 {i:Nat} {o:Oper} {x:GI} {next:Act→World→Prop} (ho:ops[i]?=some o) (hx:aIp P n hint ops o=some x) (h:aAy P x s K) (hg:Good P D n s G a w)
 (hn:∀ s' G' a' w',K s'→Good P D n s' G' a' w'→Nxt s.L G w s'.L G' w'→NewX n x.i.mk s G s' G'→next a' w') (hfree:∀ d,x.i.mk=some d→G (s.nx+d)=none) :
 wpOp P ops Q i next a w:=by
 obtain ⟨hd,hgd,hi,hdst⟩:=aPt hx
 have run:aAa P x.i s K→Region.wanted o (yielded ops a.tmps)=true→wpOp P ops Q i next a w:=fun h hw=>by
  simp only [wpOp,ho,hw,if_true]
  refine .inl ?_
  unfold lowX at hi
  split at hi
  ·rename_i i' he
   simp only [Option.some.injEq] at hi
   subst hi
   exact aPo hd he s G a w K next Q h hg fun s' G' a' w' k g x e=>hn s' G' a' w' k g x (.inr e)
  ·exact aV3 hd hi s G a w K next Q h hg (fun s' G' a' w' k g x e=>hn s' G' a' w' k g x (.inl e)) hfree
 have skip:K (s.setO x.i.dst (.tup []))→Region.wanted o (yielded ops a.tmps)=false→wpOp P ops Q i next a w:=fun h hw=>by
  simp only [wpOp,ho,hw,Bool.false_eq_true,if_false]
  have hput:=hg.put (d:=x.i.dst) (by rw [hdst]; exact hd) (x:=.tup []) (v:=undef) (.tup [] #[] rfl (by simp))
  rw [hdst] at hput h
  exact hn _ _ _ _ h hput (by rw [aEe]; exact Nxt.refl _ _ _) (.inl (New.same (aCf _ _ _)))
 obtain ⟨g,xi⟩:=x
 cases hgo:o.guard with
 | none =>
   rw [hgo] at hgd
   simp only [lowG,Option.some.injEq] at hgd
   subst hgd
   exact run h (by simp [Region.wanted,hgo])
 | some jw =>
   obtain ⟨j,wt⟩:=jw
   rw [hgo] at hgd
   simp only [lowG] at hgd
   split at hgd
   ·rename_i t ht
    split at hgd
    ·rename_i htn
     simp only [Option.some.injEq] at hgd
     subst hgd
     have hv:a.tmps[t]?=some (a.tmps.getD t undef):=by
      have:t<a.tmps.size:=by rw [hg.size]; exact htn
      simp [this]
     have hy:yielded ops a.tmps j=match a.tmps.getD t undef with | .bool b=>some b | _=>none:=by
      simp only [yielded,ht,Option.bind_some,hv]
      cases a.tmps.getD t undef <;> rfl
     have hr:=hg.env t
     simp only [aAy] at h
     split at h
     ·rename_i b hb
      rw [hb] at hr
      have hvb:=aBw hr
      rw [hvb] at hy
      simp only at hy
      split at h
      ·rename_i hbw
       exact run h (by simp [Region.wanted,hgo,hy,hbw])
      ·rename_i hbw
       exact skip h (by simp [Region.wanted,hgo,hy,hbw])
     ·rename_i hb
      rw [hb] at hr
      obtain ⟨vs,hvs,_⟩:=aP9 hr
      rw [hvs] at hy
      exact skip h (by simp [Region.wanted,hgo,hy])
     ·exact h.elim
    ·simp at hgd
   ·simp at hgd
theorem aKo {x:GI} {l:List GI} (h:(mks (x::l)).Nodup):(mks l).Nodup∧∀ d,x.i.mk=some d→∀ y,y∈l→y.i.mk≠some d:=by
 simp only [mks,List.filterMap_cons] at h
 cases hx:x.i.mk with
 | none=>rw [hx] at h; exact ⟨h,fun d hd=>by simp at hd⟩
 | some m =>
   rw [hx] at h
   simp only [List.nodup_cons] at h
   refine ⟨h.2,fun d hd y hy hyd=>h.1 ?_⟩
   simp only [Option.some.injEq] at hd
   subst hd
   exact List.mem_filterMap.2 ⟨y,hy,hyd⟩
theorem aNz {l:List GI} (hl:∀ i o,ops[i]?=some o→aIp P n hint ops o=some (l.getD i default)):∀ (is:List Nat) (s:St) (G:Ghost) (a:Act) (w:World),(∀ i,i∈is→i<ops.size) →
 aops P (at_ l is) s K→Good P D n s G a w→(∀ x,x∈at_ l is→∀ d,x.i.mk=some d→G (s.nx+d)=none)→(mks (at_ l is)).Nodup →
 (∀ s' G' a' w',K s'→Good P D n s' G' a' w'→Nxt s.L G w s'.L G' w'→Q .normal a' w')→wpOps P ops Q is a w
 | [],s,G,a,w,_,h,hg,_,_,hn=>hn _ _ _ _ h hg (Nxt.refl _ _ _)
 | i::is,s,G,a,w,hi,h,hg,hf,hnd,hn=>by
   have hlt:=hi i (by simp)
   rw [wpOps_cons]
   obtain ⟨hnd1,hnd2⟩:=aKo hnd
   refine bE8 (Array.getElem?_eq_getElem hlt) (hl i _ (Array.getElem?_eq_getElem hlt)) h hg (fun s1 G1 a1 w1 k1 g1 x1 n1=>?_) (hf (l.getD i default) (by simp [at_]))
   exact aNz hl is s1 G1 a1 w1 (fun j hj=>hi j (by simp [hj])) k1 g1 (fun y hy d hd=>n1.free (hf y (by simp only [at_,List.map_cons,List.mem_cons]; exact .inr hy) d hd) fun e=>hnd2 d e y hy hd) hnd1
    (fun s2 G2 a2 w2 k2 g2 x2=>hn s2 G2 a2 w2 k2 g2 (x1.trans x2))
theorem aJs:∀ {l:List Nat},aO1 l=true→l.Nodup
 | [],_=>List.nodup_nil
 | x::r,h=>by
   simp only [aO1,Bool.and_eq_true,Bool.not_eq_true'] at h
   exact List.nodup_cons.2 ⟨by have:=h.1; simpa using this,aJs h.2⟩
theorem aMx (l:List GI):at_ l (List.range l.length)=l:=by
 apply List.ext_getElem
 ·simp [at_]
 ·intro i h1 h2
  simp only [at_,List.getElem_map,List.getElem_range,List.getD_eq_getElem?_getD,List.getElem?_eq_getElem h2,Option.getD_some]
theorem bJv {l:List GI} (hl':∀ i o,ops[i]?=some o→aIp P n hint ops o=some (l.getD i default)) (hl:l.length=ops.size) (ho:aMf (bDq ops) l=true) (he:aLt ops=true) (hc:l.all (·.i.constOk)=true) :
 ∀ (fuel t:Nat) (listed:Array Bool) (s:St) (G:Ghost) (a:Act) (w:World),listed.size=ops.size→(aE3 ops listed).length≤fuel →
   (∀ k o,listed.getD k false=true→ops[k]?=some o→∀ e,e∈o.after→Region.binds .any e=true→listed.getD e.on false=true) →
   Good P D n s G a w→(∀ x,x∈at_ l (aE3 ops listed)→∀ d,x.i.mk=some d→G (s.nx+d)=none)→(mks (at_ l (aE3 ops listed))).Nodup →
   aops P (at_ l (aE3 ops listed)) s K→(∀ s' G' a' w',K s'→Good P D n s' G' a' w'→Nxt s.L G w s'.L G' w'→Q .normal a' w')→wpOps P ops Q (Region.linearise.go .any ops fuel t listed []) a w:=by
 have constOf:∀ i,i<ops.size→(l.getD i default).i.constOk=true:=fun i hi=>by
  have:i<l.length:=by omega
  rw [List.getD_eq_getElem?_getD,List.getElem?_eq_getElem this]
  exact List.all_eq_true.1 hc _ (List.getElem_mem _)
 intro fuel
 induction fuel with
 | zero =>
   intro t listed s G a w hsz hf hcl hfit hfr hnd h hn
   have:aE3 ops listed=[]:=List.length_eq_zero_iff.1 (by omega)
   rw [this] at h
   have h:K s:=h
   simp only [Region.linearise.go,List.reverse_nil,wpOps]
   exact hn s G a w h hfit (Nxt.refl _ _ _)
 | succ fuel ih =>
   intro t listed s G a w hsz hf hcl hfit hfr hnd h hn
   simp only [Region.linearise.go]
   change wpOps P ops Q (match (Region.ready .any ops listed)[t % (Region.ready .any ops listed).length]? with
    | some i=>Region.linearise.go .any ops fuel (t / (Region.ready .any ops listed).length) (listed.setIfInBounds i true) [i]
    | none=>[].reverse) a w
   cases hi:(Region.ready .any ops listed)[t % (Region.ready .any ops listed).length]? with
   | none =>
     have hnil:Region.ready .any ops listed=[]:=by
      cases hr:Region.ready .any ops listed with
      | nil=>rfl
      | cons x xs =>
        rw [hr] at hi
        have hlt:t % (x::xs).length<(x::xs).length:=Nat.mod_lt _ (by simp)
        simp at hi
        simp at hlt
        omega
     have hrem:aE3 ops listed=[]:=by
      cases hr:aE3 ops listed with
      | nil=>rfl
      | cons x xs =>
        exfalso
        have hx:x∈aE3 ops listed:=by rw [hr]; simp
        have hx1:x<ops.size∧listed.getD x true=false:=by
         simp only [aE3,List.mem_filter,List.mem_range,Bool.not_eq_true'] at hx
         exact hx
        have hmin:∀ y,y<x→y<ops.size→listed.getD y true=true:=by
         intro y hy hys
         have hpw:(aE3 ops listed).Pairwise (·<·):=List.Pairwise.filter _ List.pairwise_lt_range
         cases hly:listed.getD y true with
         | true=>rfl
         | false =>
           have hm:y∈aE3 ops listed:=by
            simp only [aE3,List.mem_filter,List.mem_range,Bool.not_eq_true']
            exact ⟨hys,hly⟩
           rw [hr] at hm hpw
           rcases List.mem_cons.1 hm with e | hm
           ·omega
           ·have:=List.rel_of_pairwise_cons hpw hm
            omega
        have hmem:x∈Region.ready .any ops listed:=by
         rw [mem_ready]
         refine ⟨hx1.2,ops[x]'hx1.1,Array.getElem?_eq_getElem hx1.1,fun e hme hb=>?_⟩
         have hlt:e.on<x:=by
          simp only [aLt,List.all_eq_true,List.mem_range] at he
          have:=he x hx1.1
          rw [Array.getElem?_eq_getElem hx1.1] at this
          simp only [Option.map_some,Option.getD_some,List.all_eq_true] at this
          have:=this e (Array.mem_toList_iff.2 hme)
          simpa [hb] using this
         have:=hmin e.on hlt (by omega)
         rwa [aDp (by omega)] at this
        rw [hnil] at hmem
        cases hmem
     rw [hrem] at h
     have h:K s:=h
     simp only [List.reverse_nil,wpOps]
     exact hn s G a w h hfit (Nxt.refl _ _ _)
   | some i =>
     simp only []
     rw [linearise_go_acc,List.reverse_singleton,List.singleton_append,wpOps_cons]
     have hmem:=List.mem_of_getElem? hi
     obtain ⟨hun,o,ho',hall⟩:=mem_ready.1 hmem
     have his:i<ops.size:=(Array.getElem?_eq_some_iff.1 ho').1
     have hun':listed.getD i false=false:=by rw [← aDp (by omega)]; exact hun
     obtain ⟨p,b,h1,h2,h3⟩:=aIh (p:=fun j=>!listed.getD j true) (q:=fun j=>!(listed.setIfInBounds i true).getD j true) (List.range ops.size) List.pairwise_lt_range (List.mem_range.2 his) (by simp only [hun]; rfl)
      (fun j hj=>by rw [getD_set_ne true (Ne.symm hj)]) (by simp [hsz,his])
     have hra:aE3 ops listed=p++i::b:=h1
     have hrb:aE3 ops (listed.setIfInBounds i true)=p++b:=h2
     have ham:∀ j,j∈p→j<i∧listed.getD j false=false:=fun j hj=>by
      have hm:j∈aE3 ops listed:=by rw [hra]; simp [hj]
      simp only [aE3,List.mem_filter,List.mem_range,Bool.not_eq_true'] at hm
      exact ⟨h3 j hj,by rw [← aDp (by omega)]; exact hm.2⟩
     have hind:∀ x,x∈at_ l p→x.i.constOk=true∧x.indep (l.getD i default)=true:=by
      intro x hx
      obtain ⟨j,hj,rfl⟩:=List.mem_map.1 hx
      obtain ⟨hji,hjl⟩:=ham j hj
      refine ⟨constOf j (by omega),?_⟩
      simp only [aMf,List.all_eq_true,List.mem_range,Bool.or_eq_true] at ho
      rcases ho i (by omega) j hji with hb | hb
      ·have:=aNa (S:=fun k=>listed.getD k false=true) (fun k o hk hko e hm hbb=>hcl k o hk hko e hm hbb) ho' hall hb
       simp only [hjl] at this
       exact absurd this (by simp)
      ·have e1:l[j]?=some (l.getD j default):=by
        rw [List.getD_eq_getElem?_getD,List.getElem?_eq_getElem (show j<l.length by omega)]; rfl
       have e2:l[i]?=some (l.getD i default):=by
        rw [List.getD_eq_getElem?_getD,List.getElem?_eq_getElem (show i<l.length by omega)]; rfl
       rw [e1,e2] at hb
       exact hb
     rw [hra] at h hfr hnd hf
     have hmid:at_ l (p++i::b)=at_ l p++l.getD i default::at_ l b:=by simp [at_]
     rw [hmid] at h hfr hnd
     have hperm:(at_ l p++l.getD i default::at_ l b).Perm (l.getD i default::(at_ l p++at_ l b)):=List.perm_middle
     have hnd':=aKp hperm hnd
     have hj:=bOn (at_ l p) s _ (l.getD i default) (at_ l b) hind (constOf i his) hfit.sfit (fun x hx d hd hF=>by
      rw [hfr x (by
       rcases List.mem_cons.1 hx with rfl | hx
       ·simp
       ·simp [hx]) d hd] at hF
      simp at hF)
      (by
       have hsub:(mks (l.getD i default::at_ l p)).Sublist (mks (l.getD i default::(at_ l p++at_ l b))):=by
        refine List.Sublist.filterMap _ ?_
        exact List.Sublist.cons_cons _ (List.sublist_append_left _ _)
       exact hnd'.sublist hsub) h
     change aAy P (l.getD i default) s (fun s'=>aops P (at_ l p++at_ l b) s' K) at hj
     have hab:at_ l (p++b)=at_ l p++at_ l b:=by simp [at_]
     refine bE8 ho' (hl' i o ho') hj hfit (fun s1 G1 a1 w1 k1 g1 x1 n1=>?_) (hfr (l.getD i default) (by simp))
     refine ih (t / (Region.ready .any ops listed).length) (listed.setIfInBounds i true) s1 G1 a1 w1 (by simp [hsz]) (by
      rw [hrb]
      simp only [List.length_append,List.length_cons] at hf ⊢
      omega) (fun k o hk hko e hm hbb=>by
       by_cases e1:k=i
       ·subst e1
        rw [ho'] at hko
        obtain rfl:=Option.some.inj hko
        exact getD_set_true (hall e hm hbb)
       ·rw [getD_set_ne false (Ne.symm e1)] at hk
        exact getD_set_true (hcl k o hk hko e hm hbb)) g1 (by
       rw [hrb,hab]
       intro x hx d hd
       refine n1.free (hfr x ?_ d hd) fun e=>?_
       ·rcases List.mem_append.1 hx with hx | hx <;> simp [hx]
       ·simp only [mks,List.filterMap_cons,e,List.nodup_cons] at hnd'
        exact hnd'.1 (List.mem_filterMap.2 ⟨x,hx,hd⟩)) (by
       rw [hrb,hab]
       have hsub:(mks (at_ l p++at_ l b)).Sublist (mks (l.getD i default::(at_ l p++at_ l b))):=List.Sublist.filterMap _ (List.sublist_cons_self _ _)
       exact hnd'.sublist hsub) (by rw [hrb,hab]; exact k1) (fun s2 G2 a2 w2 k2 g2 x2=>hn s2 G2 a2 w2 k2 g2 (x1.trans x2))
theorem aIi {id:Nat} {draw:Bool} {l:LC} (h:aBv P n hint (.region id ops draw)=some l) (hb:l≠.bad) :
 ∃ gl,aK5 P n hint ops ops.toList=some gl∧aO1 (mks gl)=true∧l=.ops draw gl∧(draw=true→P.follows .mixedOrders=true∧aMf (bDq ops) gl=true∧aLt ops=true∧gl.all (·.i.constOk)=true):=by
 simp only [aBv] at h
 split at h
 ·rename_i gl hgl
  split at h
  ·rename_i hnd
   split at h
   ·rename_i hdr
    split at h
    ·rename_i hc
     simp only [Option.some.injEq] at h
     simp only [Bool.and_eq_true] at hc
     exact ⟨gl,hgl,hnd,by rw [← h,hdr],fun _=>⟨hc.1.1.1,hc.1.1.2,hc.1.2,hc.2⟩⟩
    ·split at h
     ·simp only [Option.some.injEq] at h
      exact absurd h.symm hb
     ·simp at h
   ·rename_i hdr
    simp only [Option.some.injEq] at h
    exact ⟨gl,hgl,hnd,by rw [← h]; simp at hdr; rw [hdr],fun hh=>absurd hh hdr⟩
  ·simp at h
 ·split at h
  ·simp only [Option.some.injEq] at h
   exact absurd h.symm hb
  ·simp at h
theorem aPe {id:Nat} {draw:Bool} {gl:List GI} (h:aBv P n hint (.region id ops draw)=some (.ops draw gl)) (ha:aops P gl s K) (hg:Good P D n s G a w) (hf:∀ i,s.nx≤i→G i=none)
 (hn:∀ s' G' a' w',K s'→Good P D n s' G' a' w'→Nxt s.L G w s'.L G' w'→Q .normal a' w'):(Code.region id ops draw).wp P Q a w:=by
 obtain ⟨gl',hgl,hnd,he,hdr⟩:=aIi h (by simp)
 simp only [LC.ops.injEq,true_and] at he
 subst he
 obtain ⟨hlen,hl⟩:=aJp _ _ hgl
 have hlen':gl.length=ops.size:=by simpa using hlen
 have hl':∀ i o,ops[i]?=some o→aIp P n hint ops o=some (gl.getD i default):=fun i o ho=>hl i o (by simpa using ho)
 have hnd':=aJs hnd
 cases draw with
 | false =>
   refine wp_region (aNz hl' _ s G a w (fun i hi=>List.mem_range.1 hi) ?_ hg (fun x _ d _=>hf _ (by omega)) ?_ hn)
   ·rw [← hlen',aMx]; exact ha
   ·rw [← hlen',aMx]; exact hnd'
 | true =>
   obtain ⟨h1,h2,h3,h4⟩:=hdr rfl
   refine wp_region_draw fun t=>?_
   simp only [Region.schedule,h1,Bool.true_or,if_true]
   obtain ⟨g2,x2⟩:=hg.grow (w':={ w with drawn:=w.drawn+1 }) ⟨rfl,rfl,rfl,Nat.le_refl _,fun _ _=>rfl⟩
   have hrem:aE3 ops (Array.replicate ops.size false)=List.range ops.size:=by
    simp only [aE3]
    refine List.filter_eq_self.2 fun i hi=>?_
    have:=List.mem_range.1 hi
    simp [this]
   have hat:at_ gl (aE3 ops (Array.replicate ops.size false))=gl:=by rw [hrem,← hlen',aMx]
   refine bJv hl' hlen' h2 h3 h4 ops.size t (Array.replicate ops.size false) s G a _ (by simp) (by rw [hrem]; simp) (fun k o hk=>by
    simp only [Array.getD_eq_getD_getElem?,Array.getElem?_replicate] at hk
    split at hk <;> simp at hk) g2 (fun x _ d _=>hf _ (by omega)) (by rw [hat]; exact hnd') (by rw [hat]; exact ha) (fun s' G' a' w' k g x=>hn s' G' a' w' k g (x2.trans x))
end
end Go.Ab
namespace Go.Ab
open Go.RowKit
section
variable {P:Program} {D:Nat→Prop} {n:Nat} {K:St→Prop} {s:St} {G:Ghost} {a:Act} {w:World}
theorem aVe {bs:List UInt8} {i j:Nat} {x:V} (h:(((aAr bs)[i]?).bind fun e=>e.cells[j]?)=some x):∃ b,bs[i]?=some b∧j=0∧x=.int .u8 b.toNat:=by
 simp only [aAr,List.getElem?_map] at h
 cases hb:bs[i]? with
 | none=>rw [hb] at h; simp at h
 | some b =>
   rw [hb] at h
   simp only [Option.map_some,Option.bind_some,V.cells] at h
   match j,h with
   | 0,h=>simp at h; exact ⟨b,rfl,rfl,h.symm⟩
theorem aQb {d id tb ty:Nat} {bs:List UInt8} (hn0:0<n) (hd:s.env d=.ptr id 0) (hL:s.L id=some (.bld tb ty bs))
 (h:∀ a,(a=.nilp∨a=.ptr id 0)→(bs=[]→K ⟨s.env,upd s.L id (some (.box tb [a,.nils])),s.nx⟩)∧(bs≠[]→K ⟨s.env,upd (upd s.L s.nx (some (.vec ty 1 (aAr bs)))) id (some (.box tb [a,.own s.nx 1 0 bs.length])),s.nx+1⟩)) (hg:Good P D n s G a w) (hf:∀ i,s.nx≤i→G i=none) :
 ∃ s' G',K s'∧Good P D n s' G' a w∧Nxt s.L G w s'.L G' w∧∀ i,s'.nx≤i→G' i=none:=by
 obtain ⟨g,hG,c,fr,cap,o,ad,h1,h2,h3,h4,h5,h6,h7,h8,h9,h10⟩:=hg.hp.blk _ _ hL
 have hnx:G s.nx=none:=hf _ (Nat.le_refl _)
 have hne:id≠s.nx:=fun e=>by rw [e,hnx] at hG; cases hG
 let gv:GB:=⟨g.aux,o,cap,1,0⟩
 obtain ⟨a0,ha0,hrep0⟩:∃ a0,(a0=.nilp∨a0=.ptr id 0)∧∀ (G':Ghost) (D':Nat→Prop),G' id=some g→Rep G' D' w a0 (c.getD 0 undef):=by
  rcases h5 with e | e
  ·exact ⟨_,.inl rfl,fun _ _ _=>by rw [e]; exact .nilp⟩
  ·refine ⟨_,.inr rfl,fun G' D' hG'=>?_⟩
   rw [e]
   have:=Rep.ptr (D:=D') (w:=w) id 0 g hG'
   rw [h3] at this
   exact this
 by_cases hbs:bs=[]
 ·have hcap0:cap=0:=by
   rcases Nat.eq_zero_or_pos cap with h | h
   ·exact h
   ·exact absurd hbs (h10 h).1
  subst hbs
  subst hcap0
  have hK:=(h a0 ha0).1 rfl
  have hx:Nxt s.L G w (upd s.L id (some (.box tb [a0,.nils]))) G w:=by
   refine ⟨G.le_refl,Same.refl _ _,?_,rfl,rfl,rfl⟩
   rintro x _ ⟨i,b,gi,q1,q2,q3⟩
   by_cases e:i=id
   ·subst e
    rw [aAf] at q1
    obtain rfl:=Option.some.inj q1
    obtain rfl:=Option.some.inj (hG.symm.trans q2)
    exact ⟨i,_,g,hL,hG,.inl q3⟩
   ·rw [aAd _ _ _ _ e] at q1
    exact ⟨i,b,gi,q1,q2,q3⟩
  refine ⟨_,G,hK,hg.later hx ?_,hx,hf⟩
  refine hg.hp.turn (·=id) hx hg.hp.fin (fun i b hl hni=>by simpa only [aAd _ _ _ _ hni] using hl) (fun _ _ _ _ _ _ _ _=>rfl) (fun i b gi _ hni hgi=>hgi) (fun i j hi hj=>hi.trans hj.symm) (fun i b hl hi=>?_)
  subst hi
  simp only [aAf,Option.some.injEq] at hl
  subst hl
  refine ⟨g,hG,⟨c,tb,fr,h1,⟨h2,rfl⟩,h3,by rw [h2]; exact h4,fun i x hx'=>?_⟩,fun x ho=>?_⟩
  ·match i,hx' with
   | 0,hx' =>
     simp only [List.getElem?_cons_zero,Option.some.injEq] at hx'
     subst hx'
     exact hrep0 _ _ hG
   | 1,hx' =>
     simp only [List.getElem?_cons_succ,List.getElem?_cons_zero,Option.some.injEq] at hx'
     subst hx'
     rw [h6,(h9 rfl).2]
     exact .nils
  ·have ho':x=g.blk:=ho
   have haw:=hg.hp.away x ⟨i,_,g,hL,hG,.inl ho'⟩
   refine ⟨haw.1,haw.2,fun i2 b2 g2 hl2 hn2 hg2 ho2=>?_⟩
   simp only [aAd _ _ _ _ hn2] at hl2
   exact hg.hp.apart i2 i b2 _ g2 g x hl2 hL hg2 hG hn2 ho2 (.inl ho')
 have hK:=(h a0 ha0).2 hbs
 have hGid:upd G s.nx (some gv) id=some g:=by rw [aAd _ _ _ _ hne]; exact hG
 have hGnx:upd G s.nx (some gv) s.nx=some gv:=aAf _ _ _
 have part:∀ i b g',upd (upd s.L s.nx (some (Blk.vec ty 1 (aAr bs)))) id (some (Blk.box tb [a0,.own s.nx 1 0 bs.length])) i=some b→upd G s.nx (some gv) i=some g' →
  (i=id∧b=.box tb [a0,.own s.nx 1 0 bs.length]∧g'=g)∨(i=s.nx∧b=.vec ty 1 (aAr bs)∧g'=gv)∨(i≠id∧i≠s.nx∧s.L i=some b∧G i=some g'):=fun i b g' hb hg'=>by
  by_cases e1:i=id
  ·subst e1
   rw [aAf] at hb
   rw [hGid] at hg'
   exact .inl ⟨rfl,(Option.some.inj hb).symm,(Option.some.inj hg').symm⟩
  ·rw [aAd _ _ _ _ e1] at hb
   by_cases e2:i=s.nx
   ·subst e2
    rw [aAf] at hb hg'
    exact .inr (.inl ⟨rfl,(Option.some.inj hb).symm,(Option.some.inj hg').symm⟩)
   ·rw [aAd _ _ _ _ e2] at hb hg'
    exact .inr (.inr ⟨e1,e2,hb,hg'⟩)
 have occ:∀ i b g' x,upd (upd s.L s.nx (some (Blk.vec ty 1 (aAr bs)))) id (some (Blk.box tb [a0,.own s.nx 1 0 bs.length])) i=some b→upd G s.nx (some gv) i=some g'→Occ g' b x →
  (i=id∧x=g.blk)∨(i=s.nx∧0<cap∧x=g.aux)∨(i≠id∧i≠s.nx∧s.L i=some b∧G i=some g'∧Occ g' b x):=fun i b g' x hb hg' ho=>by
  rcases part i b g' hb hg' with ⟨e1,e2,e3⟩ | ⟨e1,e2,e3⟩ | ⟨e1,e2,e3,e4⟩
  ·subst e2 e3; exact .inl ⟨e1,ho⟩
  ·subst e2 e3; exact .inr (.inl ⟨e1,ho.1,ho.2⟩)
  ·exact .inr (.inr ⟨e1,e2,e3,e4,ho⟩)
 have own:∀ x,Own (upd (upd s.L s.nx (some (Blk.vec ty 1 (aAr bs)))) id (some (Blk.box tb [a0,.own s.nx 1 0 bs.length]))) (upd G s.nx (some gv)) x→Own s.L G x:=by
  rintro x ⟨i,b,g',q1,q2,q3⟩
  rcases occ i b g' x q1 q2 q3 with ⟨_,e⟩ | ⟨_,_,e⟩ | ⟨_,_,e1,e2,e3⟩
  ·exact ⟨id,_,g,hL,hG,.inl e⟩
  ·exact ⟨id,_,g,hL,hG,.inr e⟩
  ·exact ⟨i,b,g',e1,e2,e3⟩
 have hx:Nxt s.L G w (upd (upd s.L s.nx (some (Blk.vec ty 1 (aAr bs)))) id (some (Blk.box tb [a0,.own s.nx 1 0 bs.length]))) (upd G s.nx (some gv)) w :=
  ⟨aYg hnx gv,Same.refl _ _,fun x _=>own x,rfl,rfl,rfl⟩
 have hfin:∀ i,s.nx+1≤i→upd G s.nx (some gv) i=none:=fun i hi=>by rw [aAd _ _ _ _ (by omega)]; exact hf i (by omega)
 refine ⟨_,upd G s.nx (some gv),hK,⟨hg.size,hg.defers,fun i=>hx.rep (hg.env i),⟨fun i hi=>hfin i (by simp only at hi; omega),fun i b hb=>?_,fun i i' b b' g1 g2 x hb hb' hg1 hg2 hii ho ho'=>?_,fun x ho=>hg.hp.away x (own x ho),hg.hp.dlt,hg.hp.gl.nxt hx⟩⟩,hx,hfin⟩
 ·by_cases e1:i=id
  ·subst e1
   simp only [aAf,Option.some.injEq] at hb
   subst hb
   refine ⟨g,hGid,c,tb,fr,h1,⟨h2,rfl⟩,h3,by rw [h2]; exact h4,fun i x hx'=>?_⟩
   match i,hx' with
   | 0,hx' =>
     simp only [List.getElem?_cons_zero,Option.some.injEq] at hx'
     subst hx'
     exact hrep0 _ _ hGid
   | 1,hx' =>
     simp only [List.getElem?_cons_succ,List.getElem?_cons_zero,Option.some.injEq] at hx'
     subst hx'
     rw [h6]
     exact .own _ 1 0 _ gv ad cap hGnx rfl h7 rfl h8 (fun hc=>by rw [(h10 hc).2.1]; simp [gv])
  ·simp only [aAd _ _ _ _ e1] at hb
   by_cases e2:i=s.nx
   ·subst e2
    simp only [aAf,Option.some.injEq] at hb
    subst hb
    refine ⟨gv,hGnx,rfl,by simpa [aAr] using h7,h8,fun e he=>?_,fun hc=>?_⟩
    ·simp only [aAr,List.mem_map] at he
     obtain ⟨b,_,rfl⟩:=he
     rfl
    ·obtain ⟨_,k1,k2,cb,fb,k3,k4,k5,k6⟩:=h10 hc
     refine ⟨cb,ty,fb,k3,⟨by show o+cap*1≤cb.size; omega,rfl⟩,⟨by show Open fb o (cap*1); rw [Nat.mul_one]; exact k5,fun h=>absurd rfl h⟩,fun i j x hx'=>?_⟩
     obtain ⟨b,hb,rfl,rfl⟩:=aVe hx'
     have:=k6 i b hb
     have e:gv.off+i*1+0=o+i:=by show o+i*1+0=o+i; omega
     rw [e,this]
     exact .int _ _
   ·simp only [aAd _ _ _ _ e2] at hb
    obtain ⟨g',q1,q2⟩:=hg.hp.blk i b hb
    exact ⟨g',by rw [aAd _ _ _ _ e2]; exact q1,q2.keep hx fun _ _=>rfl⟩
 ·rcases occ i b g1 x hb hg1 ho with ⟨e1,e2⟩ | ⟨e1,e2,e3⟩ | ⟨e1,e2,e3,e4,e5⟩ <;> rcases occ i' b' g2 x hb' hg2 ho' with ⟨d1,d2⟩ | ⟨d1,d2,d3⟩ | ⟨d1,d2,d3,d4,d5⟩
  ·exact hii (e1.trans d1.symm)
  ·exact (h10 d2).2.2.1 (d3.symm.trans e2)
  ·exact hg.hp.apart id i' _ b' g g2 x hL d3 hG d4 (Ne.symm d1) (.inl e2) d5
  ·exact (h10 e2).2.2.1 (e3.symm.trans d2)
  ·exact hii (e1.trans d1.symm)
  ·exact hg.hp.apart id i' _ b' g g2 x hL d3 hG d4 (Ne.symm d1) (.inr e3) d5
  ·exact hg.hp.apart i id b _ g1 g x e3 hL e4 hG e1 e5 (.inl d2)
  ·exact hg.hp.apart i id b _ g1 g x e3 hL e4 hG e1 e5 (.inr d3)
  ·exact hg.hp.apart i i' b b' g1 g2 x e3 d3 e4 d4 hii e5 d5
theorem aLe {D':Nat→Prop} {G':Ghost} {id:Nat} {g:GB} {x:V} {v:Value} (hG:G' id=some g) (h0:g.off=0) (ha:x=.nilp∨x=.ptr id 0) (h:Rep G' D' w x v):v=.pointer none∨v=.pointer (some ⟨g.blk,0,none⟩):=by
 rcases ha with rfl | rfl
 ·cases h; exact .inl rfl
 ·obtain ⟨g',q1,q2⟩:=aCx h
  obtain rfl:g=g':=Option.some.inj (hG.symm.trans q1)
  rw [h0] at q2
  exact .inr q2
theorem aK2 {G:Ghost} {id:Nat} {g:GB} (h:G id=some g) (x:Nat):G.le (upd G id (some { g with aux:=x })):=fun i g' hi=>by
 by_cases e:i=id
 ·subst e
  obtain rfl:g=g':=Option.some.inj (h.symm.trans hi)
  exact ⟨x,aAf _ _ _⟩
 ·exact ⟨g'.aux,by rw [aAd _ _ _ _ e]; exact hi⟩
theorem aU2 {d id tb ty:Nat} {a0:V} (hd:s.env d=.ptr id 0) (hL:s.L id=some (.box tb [a0,.nils])) (ha:a0=.nilp∨a0=.ptr id 0)
 (h:K ⟨s.env,upd s.L id (some (.bld tb ty [])),s.nx⟩) (hg:Good P D n s G a w) (hf:∀ i,s.nx≤i→G i=none) :
 ∃ s' G',K s'∧Good P D n s' G' a w∧Nxt s.L G w s'.L G' w∧∀ i,s'.nx≤i→G' i=none:=by
 obtain ⟨g,hG,c,tb',fr,h1,⟨h2,htb⟩,h3,h4,h5⟩:=hg.hp.blk _ _ hL
 rw [htb] at h1
 have hlt:id<s.nx:=by
  rcases Nat.lt_or_ge id s.nx with h | h
  ·exact h
  ·rw [hf id h] at hG; cases hG
 let g':GB:={ g with aux:=g.blk }
 have hx:Nxt s.L G w (upd s.L id (some (.bld tb ty []))) (upd G id (some g')) w:=by
  refine ⟨aK2 hG _,Same.refl _ _,?_,rfl,rfl,rfl⟩
  rintro x _ ⟨i,b,gi,q1,q2,q3⟩
  by_cases e:i=id
  ·subst e
   rw [aAf] at q1 q2
   obtain rfl:=Option.some.inj q1
   obtain rfl:=Option.some.inj q2
   refine ⟨i,_,g,hL,hG,?_⟩
   rcases q3 with q3 | q3 <;> exact q3
  ·rw [aAd _ _ _ _ e] at q1 q2
   exact ⟨i,b,gi,q1,q2,q3⟩
 have hfin:∀ i,s.nx≤i→upd G id (some g') i=none:=fun i hi=>by rw [aAd _ _ _ _ (by omega)]; exact hf i hi
 have hsz:c.size=2:=by simpa using h2
 refine ⟨_,upd G id (some g'),h,hg.later hx ?_,hx,hfin⟩
 refine hg.hp.turn (·=id) hx (fun i hi=>hfin i (by simp only at hi; omega)) (fun i b hl hni=>by simpa only [aAd _ _ _ _ hni] using hl) (fun _ _ _ _ _ _ _ _=>rfl) (fun i b gi _ hni hgi=>by rw [aAd _ _ _ _ hni]; exact hgi) (fun i j hi hj=>hi.trans hj.symm) (fun i b hl hi=>?_)
 subst hi
 simp only [aAf,Option.some.injEq] at hl
 subst hl
 refine ⟨g',aAf _ _ _,⟨c,fr,0,0,none,h1,hsz,h3,by rw [← hsz]; exact h4,aLe (g:=g) hG h3 ha (h5 0 a0 rfl),?_,Nat.le_refl _,Nat.two_pow_pos 63,fun _=>⟨rfl,rfl⟩,fun h=>absurd h (Nat.lt_irrefl _)⟩,fun x ho=>?_⟩
 ·have:=h5 1 .nils rfl
  exact aC1 this
 ·have ho':x=g.blk:=by rcases ho with ho | ho <;> exact ho
  have haw:=hg.hp.away x ⟨i,_,g,hL,hG,ho'⟩
  refine ⟨haw.1,haw.2,fun i2 b2 g2 hl2 hn2 hg2 ho2=>?_⟩
  simp only [aAd _ _ _ _ hn2] at hl2
  exact hg.hp.apart i2 i b2 _ g2 g x hl2 hL hg2 hG hn2 ho2 ho'
theorem aTg {d id tb ty m sz len:Nat} {a0:V} {es:List V} {bs:List UInt8} (hd:s.env d=.ptr id 0) (hL:s.L id=some (.box tb [a0,.own m 1 0 len])) (ha:a0=.nilp∨a0=.ptr id 0) (hne:m≠id) (hpos:0<len) (hm:s.L m=some (.vec ty sz es)) (hlen:len≤es.length)
 (hbs:es.take len=aAr bs) (h:K ⟨s.env,upd (upd s.L m none) id (some (.bld tb ty bs)),s.nx⟩) (hg:Good P D n s G a w) (hf:∀ i,s.nx≤i→G i=none) :
 ∃ s' G',K s'∧Good P D n s' G' a w∧Nxt s.L G w s'.L G' w∧∀ i,s'.nx≤i→G' i=none:=by
 obtain ⟨g,hG,c,tb',fr,h1,⟨h2,htb⟩,h3,h4,h5⟩:=hg.hp.blk _ _ hL
 rw [htb] at h1
 obtain ⟨gm,hGm,m1,m2,m3,m4,m5⟩:=hg.hp.blk _ _ hm
 have hlt:id<s.nx:=by
  rcases Nat.lt_or_ge id s.nx with h | h
  ·exact h
  ·rw [hf id h] at hG; cases hG
 have hsz:c.size=2:=by simpa using h2
 obtain ⟨g2,ad,cap,r0,r1,r2,r3,r4,r5,r6⟩:=aDj (h5 1 (.own m 1 0 len) rfl)
 obtain rfl:gm=g2:=Option.some.inj (hGm.symm.trans r1)
 have hcap:cap=gm.cap:=by omega
 subst hcap
 have hz1:sz=1:=m1.symm.trans r2
 subst hz1
 have hbl:bs.length=len:=by
  have:=congrArg List.length hbs
  simp [aAr] at this
  omega
 let g':GB:={ g with aux:=if 0<gm.cap then gm.blk else g.blk }
 have occ:∀ x,Occ g' (.bld tb ty bs) x→x=g.blk∨(0<gm.cap∧x=gm.blk):=fun x ho=>by
  rcases ho with ho | ho
  ·exact .inl ho
  ·simp only [g'] at ho
   split at ho
   ·rename_i hc; exact .inr ⟨hc,ho⟩
   ·exact .inl ho
 have hx:Nxt s.L G w (upd (upd s.L m none) id (some (.bld tb ty bs))) (upd G id (some g')) w:=by
  refine ⟨aK2 hG _,Same.refl _ _,?_,rfl,rfl,rfl⟩
  rintro x _ ⟨i,b,gi,q1,q2,q3⟩
  by_cases e:i=id
  ·subst e
   rw [aAf] at q1 q2
   obtain rfl:=Option.some.inj q1
   obtain rfl:=Option.some.inj q2
   rcases occ x q3 with q3 | q3
   ·exact ⟨i,_,g,hL,hG,q3⟩
   ·exact ⟨m,_,gm,hm,hGm,q3⟩
  ·rw [aAd _ _ _ _ e] at q1 q2
   by_cases e2:i=m
   ·subst e2; rw [aAf] at q1; cases q1
   ·rw [aAd _ _ _ _ e2] at q1
    exact ⟨i,b,gi,q1,q2,q3⟩
 have hfin:∀ i,s.nx≤i→upd G id (some g') i=none:=fun i hi=>by rw [aAd _ _ _ _ (by omega)]; exact hf i hi
 have hLi:∀ i b,i≠id→upd (upd s.L m none) id (some (Blk.bld tb ty bs)) i=some b→s.L i=some b∧i≠m:=fun i b hni hl=>by
  rw [aAd _ _ _ _ hni] at hl
  by_cases e2:i=m
  ·subst e2; rw [aAf] at hl; cases hl
  ·rw [aAd _ _ _ _ e2] at hl; exact ⟨hl,e2⟩
 refine ⟨_,upd G id (some g'),h,hg.later hx ?_,hx,hfin⟩
 refine hg.hp.turn (·=id) hx (fun i hi=>hfin i (by simp only at hi; omega)) (fun i b hl hni=>(hLi i b hni hl).1) (fun _ _ _ _ _ _ _ _=>rfl) (fun i b gi _ hni hgi=>by rw [aAd _ _ _ _ hni]; exact hgi) (fun i j hi hj=>hi.trans hj.symm) (fun i b hl hi=>?_)
 subst hi
 simp only [aAf,Option.some.injEq] at hl
 subst hl
 refine ⟨g',aAf _ _ _,⟨c,fr,gm.cap,gm.off,ad,h1,hsz,h3,by rw [← hsz]; exact h4,aLe (g:=g) hG h3 ha (h5 0 a0 rfl),?_,by omega,m3,fun hc=>?_,fun hc=>?_⟩,fun x ho=>?_⟩
 ·rw [hbl]; exact r0
 ·omega
 ·obtain ⟨c',ty',fr',k2,k3,k4,k5⟩:=m5 hc
  have haux:g'.aux=gm.blk:=by simp only [g',hc,if_true]
  rw [haux]
  refine ⟨fun e=>by rw [e] at hbl; simp at hbl; omega,by rw [r6 hc]; simp,fun e=>?_,c',fr',by rw [k2,k3.2],by have:=k3.1; omega,by have:=k4.op; rwa [Nat.mul_one] at this,fun i x hi=>?_⟩
  ·exact hg.hp.apart m i _ _ gm g gm.blk hm hL hGm hG hne ⟨hc,rfl⟩ e
  ·have hi2:i<len:=by
    have:=(List.getElem?_eq_some_iff.1 hi).1
    omega
   have he:es[i]?=some (.int .u8 x.toNat):=by
    have e1:(es.take len)[i]?=es[i]?:=List.getElem?_take_of_lt hi2
    rw [← e1,hbs]
    simp [aAr,hi]
   have:=k5 i 0 (.int .u8 x.toNat) (by rw [he]; rfl)
   have e:gm.off+i*1+0=gm.off+i:=by omega
   rw [e] at this
   exact aAs this
 ·rcases occ x ho with ho | ho
  ·have haw:=hg.hp.away x ⟨i,_,g,hL,hG,ho⟩
   refine ⟨haw.1,haw.2,fun i2 b2 g2 hl2 hn2 hg2 ho2=>?_⟩
   exact hg.hp.apart i2 i b2 _ g2 g x (hLi i2 b2 hn2 hl2).1 hL hg2 hG hn2 ho2 ho
  ·have haw:=hg.hp.away x ⟨m,_,gm,hm,hGm,ho⟩
   refine ⟨haw.1,haw.2,fun i2 b2 g2 hl2 hn2 hg2 ho2=>?_⟩
   exact hg.hp.apart i2 m b2 _ g2 gm x (hLi i2 b2 hn2 hl2).1 hm hg2 hGm (hLi i2 b2 hn2 hl2).2 ho2 ho
end
end Go.Ab
namespace Go.Ab
open Go.RowKit
section
variable {P:Program} {D:Nat→Prop} {n:Nat} {hint:Nat→Nat} {K K':St→Prop}
theorem bLk {α:Type} (f:Nat→α) (i:Nat) (v:α) (h:f i=v):upd f i v=f:=by
 funext t
 simp only [upd]
 split
 ·rename_i e; rw [e,h]
 ·rfl
theorem aYp {s:St} {i:Nat} {v:V} (h:s.env i=v):s.set i v=s:=by
 simp only [St.set,bLk _ _ _ h]
theorem aO8:∀ (l:List I) (s:St),aJz P l s K→aops P (l.map fun i=>⟨none,i⟩) s K
 | [],s,h=>h
 | i::r,s,h=>aF4 h fun s' h=>aO8 r s' h
theorem aNw {t:Nat} {w:Bool}:∀ (l:List I) (s:St),l.all (fun i=>i.dst != some t)=true→s.env t=.bool w→aJz P l s K→aops P (l.map fun i=>⟨some (t,w),i⟩) s K
 | [],s,_,_,h=>h
 | i::r,s,ha,hs,h=>by
   simp only [List.all_cons,Bool.and_eq_true,bne_iff_ne] at ha
   simp only [List.map_cons,aops,aAy,hs,if_true]
   exact aHd h fun s' h he=>aNw r s' ha.2 (by rw [he t ha.1,hs]) h
theorem aI7 {t:Nat} {w:Bool} (hv:V→Prop) (hvs:∀ v,hv v→v=.bool (!w)∨v=.tup []):∀ (l:List I) (s:St),l.all (fun i=>i.dst != some t)=true→hv (s.env t)→K (aEv l s)→aops P (l.map fun i=>⟨some (t,w),i⟩) s K
 | [],s,_,_,h=>h
 | i::r,s,ha,hs,h=>by
   simp only [List.all_cons,Bool.and_eq_true,bne_iff_ne] at ha
   have ih:=aI7 hv hvs r (s.setO i.dst (.tup [])) ha.2 (by rw [aCg ha.1]; exact hs) h
   simp only [List.map_cons,aops,aAy]
   rcases hvs _ hs with e | e
   ·rw [e]
    have:(!w)≠w:=by cases w <;> simp
    simp only [this,if_false]
    exact ih
   ·rw [e]
    exact ih
theorem aWd {x:Grp} {s:St} (hok:x.ok=true) (h:grun P x s K):aops P x.flat s K:=by
 obtain ⟨g,l⟩:=x
 cases g with
 | none=>exact aO8 l s h
 | some tw =>
   obtain ⟨t,w⟩:=tw
   simp only [grun] at h
   simp only [Grp.ok] at hok
   simp only [Grp.flat]
   split at h
   ·rename_i b hb
    by_cases e:b=w
    ·subst e
     have h1:=h.1 rfl
     rw [aYp hb] at h1
     exact aNw l s hok hb h1
    ·have e':b=!w:=by cases b <;> cases w <;> simp_all
     subst e'
     have h1:=h.2 rfl
     rw [aYp hb] at h1
     exact aI7 (fun v=>v=.bool (!w)) (fun v hv=>.inl hv) l s hok hb h1
   ·rename_i hb
    exact aI7 (fun v=>v=.tup []) (fun v hv=>.inr hv) l s hok hb h
   ·exact h.elim
theorem aHq:∀ (l:List Grp) (s:St),l.all Grp.ok=true→aYo P l s K→aops P (l.flatMap Grp.flat) s K
 | [],s,_,h=>h
 | x::r,s,ho,h=>by
   simp only [List.all_cons,Bool.and_eq_true] at ho
   rw [List.flatMap_cons]
   refine aJ3 _ _ _ ?_
   have:=aWd ho.1 h
   exact aNx this fun s' h=>aHq r s' ho.2 h
def bD9:X→Exit
 | .norm=>.normal
 | .exit n=>.exit n
 | .ret=>.ret
def Ends (P:Program) (D:Nat→Prop) (n:Nat) (L:Heap) (G:Ghost) (w:World) (K:X→St→Prop) (Q:Exit→Act→World→Prop):Prop :=
 ∀ x s' G' a' w',K x s'→Good P D n s' G' a' w'→Nxt L G w s'.L G' w'→(∀ i,s'.nx≤i→G' i=none)→Q (bD9 x) a' w'
theorem Good.past {s:St} {G:Ghost} {a:Act} {w:World} (h:Good P D n s G a w):Good P D n (s.past n) G a w∧∀ i,(s.past n).nx≤i→G i=none:=by
 refine ⟨⟨h.size,h.defers,h.env,⟨fun id hid=>h.hp.fin id ?_,h.hp.blk,h.hp.apart,h.hp.away,h.hp.dlt,h.hp.gl⟩⟩,fun i hi=>h.hp.fin i hi⟩
 simp only [St.past] at hid
 omega
theorem aBx (id:Nat) (es:List V):∀ l:List V,V.fzL id es l=l.map (V.fz id es)
 | []=>rfl
 | x::r=>by simp [V.fzL,aBx id es r]
mutual
theorem aK7 (id:Nat) (es:List V):∀ x:V,x.imm=true→x.fz id es=x
 | .own _ _ _ _,h=>by simp [V.imm] at h
 | .agg cs,h=>by simp only [V.imm] at h; simp [V.fz,aDo id es cs h]
 | .tup cs,h=>by simp only [V.imm] at h; simp [V.fz,aDo id es cs h]
 | .fn f cs,h=>by simp only [V.imm] at h; simp [V.fz,aDo id es cs h]
 | .lst sz cs,h=>by simp only [V.imm] at h; simp [V.fz,aDo id es cs h]
 | .cptr cs,h=>by simp only [V.imm] at h; simp [V.fz,aDo id es cs h]
 | .junk,_=>rfl
 | .bool b,_=>rfl
 | .int k n,_=>rfl
 | .str s,_=>rfl
 | .nilp,_=>rfl
 | .nils,_=>rfl
 | .ptr i o,_=>rfl
 | .eptr i j k,_=>rfl
 | .map i,_=>rfl
 | .nilm,_=>rfl
 | .raw v,_=>rfl
theorem aDo (id:Nat) (es:List V):∀ l:List V,V.imms l=true→V.fzL id es l=l
 | [],_=>rfl
 | x::r,h=>by
   simp only [V.imms,Bool.and_eq_true] at h
   simp [V.fzL,aK7 id es x h.1,aDo id es r h.2]
end
theorem bI7 (id:Nat) (es:List V) (x:V):(x.fz id es).one=x.one:=by
 cases x <;> simp only [V.fz] <;> try rfl
 split <;> rfl
theorem aKh (id:Nat) (es:List V) (x:V) {k:Nat} (h:x.ncells=some k):(x.fz id es).ncells=some k∧(x.fz id es).cells=V.fzL id es x.cells:=by
 cases x with
 | agg cs =>
   simp only [V.ncells] at h
   split at h
   ·rename_i ha
    refine ⟨?_,by simp [V.fz,V.cells]⟩
    simp only [V.fz,V.ncells,aBx]
    rw [if_pos]
    ·simpa using h
    ·rw [List.all_eq_true] at ha ⊢
     intro y hy
     obtain ⟨z,hz,rfl⟩:=List.mem_map.1 hy
     rw [bI7]
     exact ha z hz
   ·simp at h
 | own i sz off n =>
   simp only [V.fz]
   split
   ·rename_i hc; refine ⟨by simpa [V.ncells,V.one] using h,by simp [V.cells,V.fzL,V.fz,hc]⟩
   ·rename_i hc; refine ⟨by simpa [V.ncells,V.one] using h,by simp [V.cells,V.fzL,V.fz,hc]⟩
 | junk=>simp [V.ncells,V.one] at h
 | tup cs=>simp [V.ncells,V.one] at h
 | _=>exact ⟨by simpa [V.ncells,V.one,V.fz] using h,by simp [V.cells,V.fzL,V.fz]⟩
theorem aFp {id:Nat} {es l:List V} {i:Nat} {y:V} (h:(V.fzL id es l)[i]?=some y):∃ x,l[i]?=some x∧y=x.fz id es:=by
 rw [aBx,List.getElem?_map] at h
 cases hx:l[i]? with
 | none=>simp [hx] at h
 | some x=>simp [hx] at h; exact ⟨x,rfl,h.symm⟩
theorem aQ0 {id:Nat} {es l:List V} {sz i j:Nat} {c:V} (hz:∀ e,e∈l→e.ncells=some sz) (h:((V.fzL id es l)[i]?.bind fun e:V=>e.cells[j]?)=some c):∃ c',(l[i]?.bind fun e:V=>e.cells[j]?)=some c'∧c=c'.fz id es:=by
 cases he:(V.fzL id es l)[i]? with
 | none=>simp [he] at h
 | some e' =>
   obtain ⟨e,h1,rfl⟩:=aFp he
   simp only [he,Option.bind_some] at h
   rw [(aKh id es e (hz e (mem_of_getElem? h1))).2] at h
   obtain ⟨c',h2,rfl⟩:=aFp h
   exact ⟨c',by simp [h1,h2],rfl⟩
section
variable {s:St} {G:Ghost} {a:Act} {w:World}
theorem aK6 {id:Nat} {es:List V} {g:GB} {b:Blk} {x:Nat}:Occ g (b.fz id es) x↔Occ g b x:=by cases b <;> rfl
theorem aCw {id:Nat} {es:List V} {L:Heap} {i:Nat} {b:Blk} (h:aBr id es L i=some b):i≠id∧∃ b0,L i=some b0∧b=b0.fz id es:=by
 unfold aBr at h
 split at h
 ·cases h
 ·rename_i hne
  cases hb:L i with
  | none=>simp [hb] at h
  | some b0=>simp [hb] at h; exact ⟨hne,b0,rfl,h.symm⟩
theorem aZr {id:Nat} {es:List V} {L:Heap}:Nxt L G w (aBr id es L) G w:=by
 refine ⟨G.le_refl,Same.refl _ _,?_,rfl,rfl,rfl⟩
 rintro x _ ⟨i,b,g,h1,h2,h3⟩
 obtain ⟨_,b0,h4,rfl⟩:=aCw h1
 exact ⟨i,b0,g,h4,h2,aK6.1 h3⟩
theorem aPa {id ty sz0:Nat} {es:List V} (hp:Hp P D n s G w) (hL:s.L id=some (.vec ty sz0 es)) (hi:V.imms es=true) {x:V} {v:Value} (h:Rep G (Dp D s.L G) w x v):Rep G (Dp D (aBr id es s.L) G) w (x.fz id es) v:=by
 have hx:Nxt s.L G w (aBr id es s.L) G w:=aZr
 have sub:∀ b,¬ Dp D s.L G b→¬ Dp D (aBr id es s.L) G b:=fun b hn hd=>hd.elim (fun h1=>hn (.inl h1)) fun ⟨i,b0,g,h1,h2,h3⟩=>by
  obtain ⟨_,b1,h4,rfl⟩:=aCw h1
  exact hn (.inr ⟨i,b1,g,h4,h2,aK6.1 h3⟩)
 induction h with
 | own i sz off len g a cap hg hz hc hgc hl ha =>
   simp only [V.fz]
   split
   ·rename_i hcond
    obtain ⟨rfl,hle⟩:=hcond
    obtain ⟨g',b1,b2,b3,b4,b5,b6⟩:=hp.blk i _ hL
    obtain rfl:g'=g:=Option.some.inj (b1.symm.trans hg)
    have hsz:sz=sz0:=hz.symm.trans b2
    subst hsz
    have hlen:((es.drop off).take len).length=len:=by simp; omega
    have cellAt:∀ (i j:Nat) (c:V),((((es.drop off).take len)[i]?).bind fun e=>e.cells[j]?)=some c→((es[off+i]?).bind fun e=>e.cells[j]?)=some c∧i<len∧j<sz:=by
     intro i j c hc
     cases he:((es.drop off).take len)[i]? with
     | none=>rw [he] at hc; simp at hc
     | some e =>
       rw [he] at hc
       simp only [Option.bind_some] at hc
       have hmem:e∈es:=List.mem_of_mem_drop (List.mem_of_mem_take (mem_of_getElem? he))
       have hi:i<len:=by
        have:=(List.getElem?_eq_some_iff.1 he).1
        omega
       rw [List.getElem?_take_of_lt hi,List.getElem?_drop] at he
       refine ⟨by rw [he]; exact hc,hi,?_⟩
       rw [← aAw (b5 e hmem)]
       exact (List.getElem?_eq_some_iff.1 hc).1
    have main:Rep G (Dp D (aBr i es s.L) G) w (.lst sz ((es.drop off).take len)) (.slice a ((es.drop off).take len).length cap):=by
     refine .lst sz _ a cap g'.blk (g'.off+off*sz) (by omega) (by omega) (fun h0=>?_) (fun e he=>b5 e (List.mem_of_mem_drop (List.mem_of_mem_take he))) (fun i j c hc=>?_) (fun i j c hc=>?_)
     ·rw [hlen] at h0
      refine ⟨ha (by omega),?_⟩
      have hocc:Occ g' (.vec ty sz es) g'.blk:=⟨by omega,rfl⟩
      obtain ⟨k1,k2⟩:=hp.away g'.blk ⟨i,_,g',hL,b1,hocc⟩
      refine ⟨k1,fun hdp=>?_⟩
      rcases hdp with hdp | ⟨id2,b2',g2,l1,l2,l3⟩
      ·exact k2 hdp
      ·obtain ⟨hne,b0,l4,rfl⟩:=aCw l1
       exact hp.apart i id2 _ _ _ _ _ hL l4 b1 l2 (Ne.symm hne) hocc (aK6.1 l3)
     ·obtain ⟨q1,q3,q4⟩:=cellAt i j c hc
      obtain ⟨c',ty,fr,k2,k3,k4,k5⟩:=b6 (by omega)
      rw [aAv k2]
      have:(off+i+1)*sz≤g'.cap*sz:=Nat.mul_le_mul_right _ (by omega)
      rw [Nat.add_mul,Nat.add_mul] at this
      simp; omega
     ·obtain ⟨q1,q3,q4⟩:=cellAt i j c hc
      obtain ⟨c',ty,fr,k2,k3,k4,k5⟩:=b6 (by omega)
      rw [aA7 k2]
      have h5:=k5 _ _ _ q1
      rw [Nat.add_mul] at h5
      have e:g'.off+off*sz+i*sz+j=g'.off+(off*sz+i*sz)+j:=by omega
      rw [e]
      exact hx.rep h5
    rw [hlen] at main
    exact main
   ·exact .own i sz off len g a cap hg hz hc hgc hl ha
 | agg cs vs hn hr ih =>
   refine .agg _ _ (by rw [aBx,List.length_map]; exact hn) fun i c hc=>?_
   obtain ⟨c0,h1,rfl⟩:=aFp hc
   exact ih i c0 h1
 | tup cs vs hn hr ih =>
   refine .tup _ _ (by rw [aBx,List.length_map]; exact hn) fun i c hc=>?_
   obtain ⟨c0,h1,rfl⟩:=aFp hc
   exact ih i c0 h1
 | fn f cs vs hn hr ih =>
   refine .fn _ _ _ (by rw [aBx,List.length_map]; exact hn) fun i c hc=>?_
   obtain ⟨c0,h1,rfl⟩:=aFp hc
   exact ih i c0 h1
 | cptr cs b o hb hd hs hr ih =>
   refine .cptr _ b o hb (sub b hd) (fun j c hc=>?_) (fun j c hc=>?_)
   ·obtain ⟨c0,h1,rfl⟩:=aFp hc
    exact hs j c0 h1
   ·obtain ⟨c0,h1,rfl⟩:=aFp hc
    exact ih j c0 h1
 | lst sz l a cap b o hc hl ha hz hs hr ih =>
   have hlen:(V.fzL id es l).length=l.length:=by rw [aBx,List.length_map]
   have main:Rep G (Dp D (aBr id es s.L) G) w (.lst sz (V.fzL id es l)) (.slice a (V.fzL id es l).length cap):=by
    refine .lst sz _ a cap b o (by omega) hl (fun h0=>?_) (fun e he=>?_) (fun i j c hc=>?_) (fun i j c hc=>?_)
    ·obtain ⟨k1,k2,k3⟩:=ha (by omega)
     exact ⟨k1,k2,sub b k3⟩
    ·rw [aBx] at he
     obtain ⟨e0,h1,rfl⟩:=List.mem_map.1 he
     exact (aKh id es e0 (hz e0 h1)).1
    ·obtain ⟨c0,h1,rfl⟩:=aQ0 hz hc
     exact hs i j c0 h1
    ·obtain ⟨c0,h1,rfl⟩:=aQ0 hz hc
     exact ih i j c0 h1
   rw [hlen] at main
   exact main
 | junk v=>exact .junk v
 | bool b=>exact .bool b
 | int k n=>exact .int k n
 | str s h=>exact .str s h
 | nilp=>exact .nilp
 | nils=>exact .nils
 | ptr id off g h=>exact .ptr id off g h
 | eptr id i j g h=>exact .eptr id i j g h
 | map id g h=>exact .map id g h
 | nilm=>exact .nilm
 | raw v=>exact .raw v
theorem bIn {id ty sz0:Nat} {es:List V} (hp:Hp P D n s G w) (hL:s.L id=some (.vec ty sz0 es)) (hi:V.imms es=true) {g:GB} {b:Blk} (h:BlkOk G (Dp D s.L G) w g b):BlkOk G (Dp D (aBr id es s.L) G) w g (b.fz id es):=by
 cases b with
 | box ty0 cs =>
   obtain ⟨c,ty',fr,h1,h2,h3,h4,h5⟩:=h
   refine ⟨c,ty',fr,h1,by rw [aBx,List.length_map]; exact h2,h3,h4,fun i x hx=>?_⟩
   obtain ⟨c0,k1,rfl⟩:=aFp hx
   exact aPa hp hL hi (h5 i c0 k1)
 | vec ty0 sz l =>
   obtain ⟨h1,h2,h3,h4,h5⟩:=h
   refine ⟨h1,by rw [aBx,List.length_map]; exact h2,h3,fun e he=>?_,fun hc=>?_⟩
   ·rw [aBx] at he
    obtain ⟨e0,k1,rfl⟩:=List.mem_map.1 he
    exact (aKh id es e0 (h4 e0 k1)).1
   ·obtain ⟨c,ty',fr,k1,k2,k3,k4⟩:=h5 hc
    refine ⟨c,ty',fr,k1,k2,k3,fun i j x hx=>?_⟩
    obtain ⟨c0,m1,rfl⟩:=aQ0 h4 hx
    exact aPa hp hL hi (k4 i j c0 m1)
 | map c l =>
   obtain ⟨a,h1,h2,h3⟩:=h
   refine ⟨a,h1,h2,fun i k v b hi'=>?_⟩
   obtain ⟨q1,q2,e,q3,q4,q5,q6⟩:=h3 i k v b hi'
   have r1:=aPa hp hL hi q5
   have r2:=aPa hp hL hi q6
   rw [aK7 id es _ q1] at r1
   rw [aK7 id es _ q2] at r2
   exact ⟨q1,q2,e,q3,q4,r1,r2⟩
 | bld tb ty0 bs=>exact h
theorem bFt {id ty sz0:Nat} {es:List V} (hg:Good P D n s G a w) (hL:s.L id=some (.vec ty sz0 es)) (hi:V.imms es=true):Good P D n (s.fz id es) G a w:=by
 refine ⟨hg.size,hg.defers,fun i=>aPa hg.hp hL hi (hg.env i),⟨hg.hp.fin,fun i b hb=>?_,fun i i' b b' g g' x h1 h2 h3 h4 hne h5 h6=>?_,fun x hx=>?_,hg.hp.dlt,hg.hp.gl.nxt aZr⟩⟩
 ·obtain ⟨_,b0,h1,rfl⟩:=aCw hb
  obtain ⟨g,h2,h3⟩:=hg.hp.blk i b0 h1
  exact ⟨g,h2,bIn hg.hp hL hi h3⟩
 ·obtain ⟨_,b0,k1,rfl⟩:=aCw h1
  obtain ⟨_,b1,k2,rfl⟩:=aCw h2
  exact hg.hp.apart i i' b0 b1 g g' x k1 k2 h3 h4 hne (aK6.1 h5) (aK6.1 h6)
 ·obtain ⟨i,b,g,h1,h2,h3⟩:=hx
  obtain ⟨_,b0,k1,rfl⟩:=aCw h1
  exact hg.hp.away x ⟨i,b0,g,k1,h2,aK6.1 h3⟩
theorem bKn {L:Heap} {G:Ghost} {id ty:Nat} {cs cs':List V} (hL:L id=some (.box ty cs)):Own (upd L id (some (.box ty cs'))) G=Own L G:=by
 funext x
 apply propext
 constructor
 ·rintro ⟨i,b,g,h1,h2,h3⟩
  by_cases e:i=id
  ·subst e
   rw [aAf] at h1
   cases h1
   exact ⟨i,_,g,hL,h2,h3⟩
  ·rw [aAd _ _ _ _ e] at h1
   exact ⟨i,b,g,h1,h2,h3⟩
 ·rintro ⟨i,b,g,h1,h2,h3⟩
  by_cases e:i=id
  ·subst e
   rw [hL] at h1
   cases h1
   exact ⟨i,_,g,aAf _ _ _,h2,h3⟩
  ·exact ⟨i,b,g,by rw [aAd _ _ _ _ e]; exact h1,h2,h3⟩
theorem bGy {id ty:Nat} {cs cs':List V} (hg:Good P D n s G a w) (hL:s.L id=some (.box ty cs)) (hn:cs.length=cs'.length)
 (hw:∀ (i:Nat) (x y:V),cs[i]?=some x→cs'[i]?=some y→∀ (G:Ghost) (D:Nat→Prop) (w:World) (v:Value),Rep G D w x v→Rep G D w y v) :
 Good P D n ⟨s.env,upd s.L id (some (.box ty cs')),s.nx⟩ G a w∧Nxt s.L G w (upd s.L id (some (.box ty cs'))) G w:=by
 have ho:Own (upd s.L id (some (.box ty cs'))) G=Own s.L G:=bKn hL
 have hd:Dp D (upd s.L id (some (.box ty cs'))) G=Dp D s.L G:=by funext x; simp only [Dp,ho]
 have hx:Nxt s.L G w (upd s.L id (some (.box ty cs'))) G w:=⟨G.le_refl,Same.refl _ _,fun x _ h=>by rw [ho] at h; exact h,rfl,rfl,rfl⟩
 refine ⟨⟨hg.size,hg.defers,fun i=>?_,⟨hg.hp.fin,fun i b hb=>?_,fun i i' b b' g g' x h1 h2 h3 h4 hne h5 h6=>?_,fun x hx=>?_,hg.hp.dlt,hg.hp.gl.nxt hx⟩⟩,hx⟩
 ·show Rep G (Dp D (upd s.L id (some (.box ty cs'))) G) w _ _
  rw [hd]; exact hg.env i
 ·show ∃ g,G i=some g∧BlkOk G (Dp D (upd s.L id (some (.box ty cs'))) G) w g b
  rw [hd]
  by_cases e:i=id
  ·subst e
   simp only [aAf,Option.some.injEq] at hb
   subst hb
   obtain ⟨g,h2,c,ty',fr,k1,k2,k3,k4,k5⟩:=hg.hp.blk i _ hL
   refine ⟨g,h2,c,ty',fr,k1,⟨by rw [k2.1,hn],k2.2⟩,k3,k4,fun j y hy=>?_⟩
   have hj:j<cs.length:=by
    have:=(List.getElem?_eq_some_iff.1 hy).1
    omega
   exact hw j _ y (List.getElem?_eq_getElem hj) hy _ _ _ _ (k5 j _ (List.getElem?_eq_getElem hj))
  ·simp only [aAd _ _ _ _ e] at hb
   exact hg.hp.blk i b hb
 ·have key:∀ {j:Nat} {b:Blk},(upd s.L id (some (.box ty cs'))) j=some b→∃ b0,s.L j=some b0∧∀ g x,Occ g b x→Occ g b0 x:=by
   intro j b hb
   by_cases e:j=id
   ·subst e
    rw [aAf] at hb
    cases hb
    exact ⟨_,hL,fun g x h=>h⟩
   ·rw [aAd _ _ _ _ e] at hb
    exact ⟨b,hb,fun g x h=>h⟩
  obtain ⟨b0,k1,k2⟩:=key h1
  obtain ⟨b1,k3,k4⟩:=key h2
  exact hg.hp.apart i i' b0 b1 g g' x k1 k3 h3 h4 hne (k2 _ _ h5) (k4 _ _ h6)
 ·have:Own s.L G x:=by rw [← ho]; exact hx
  exact hg.hp.away x this
theorem bBh {s':St} (h:FzS s s'):∀ {G:Ghost} {a:Act} {w:World},Good P D n s G a w→(∀ i,s.nx≤i→G i=none)→Good P D n s' G a w∧Nxt s.L G w s'.L G w∧∀ i,s'.nx≤i→G i=none:=by
 induction h with
 | refl s=>exact fun hg hf=>⟨hg,Nxt.refl _ _ _,hf⟩
 | step id ty sz es hL hi hs ih =>
   intro G a w hg hf
   obtain ⟨h1,h2,h3⟩:=ih (bFt hg hL hi) hf
   exact ⟨h1,aZr.trans h2,h3⟩
 | up id ty cs cs' hL hn hw hs ih =>
   intro G a w hg hf
   obtain ⟨g1,x1⟩:=bGy hg hL hn hw
   obtain ⟨h1,h2,h3⟩:=ih g1 hf
   exact ⟨h1,x1.trans h2,h3⟩
end
theorem aS8 {g:Gh} {s:St} {G:Ghost} {a:Act} {w:World} (hn0:0<n) (h:aBl g s K) (hg:Good P D n s G a w) (hf:∀ i,s.nx≤i→G i=none) :
 ∃ s' G',K s'∧Good P D n s' G' a w∧Nxt s.L G w s'.L G' w∧∀ i,s'.nx≤i→G' i=none:=by
 cases g with
 | cut =>
   obtain ⟨M,h1,h2⟩:=h
   exact ⟨s,G,h2 _ h1,hg,Nxt.refl _ _ _,hf⟩
 | fz =>
   obtain ⟨s',h1,h2⟩:=h
   obtain ⟨g1,x1,f1⟩:=bBh h1 hg hf
   exact ⟨s',G,h2,g1,x1,f1⟩
 | own d ty sz =>
   obtain ⟨h1,h2⟩:=h
   obtain ⟨g1,x1⟩:=hg.newBlk (w':=w) (Below.refl _ _) (id:=s.nx) (hf _ (Nat.le_refl _)) (by omega) (.vec ty sz []) ⟨0,0,0,sz,0⟩ (fun x hx=>absurd hx.1 (Nat.lt_irrefl _))
    (fun G' D' _=>⟨rfl,by simp,Nat.two_pow_pos 63,by simp,fun hc=>absurd hc (Nat.lt_irrefl _)⟩)
   have hid:upd G s.nx (some (⟨0,0,0,sz,0⟩:GB)) s.nx=some ⟨0,0,0,sz,0⟩:=aAf _ _ _
   have hnone:∀ i,s.nx+1≤i→upd G s.nx (some (⟨0,0,0,sz,0⟩:GB)) i=none:=fun i hi=>by
    rw [aAd _ _ _ _ (by omega)]; exact hf i (by omega)
   refine ⟨_,upd G s.nx (some ⟨0,0,0,sz,0⟩),h2,⟨g1.size,g1.defers,fun i=>?_,⟨fun id hid=>hnone id (by simp only at hid; omega),g1.hp.blk,g1.hp.apart,g1.hp.away,g1.hp.dlt,g1.hp.gl⟩⟩,x1,hnone⟩
   simp only [upd]
   split
   ·rename_i e
    subst e
    have hv:=hg.env i
    rw [h1] at hv
    rw [aC1 hv]
    exact .own _ sz 0 0 _ none 0 hid rfl (Nat.le_refl _) rfl (Nat.two_pow_pos 63) (fun h=>absurd h (Nat.lt_irrefl _))
   ·exact g1.env i
 | bopen d =>
   simp only [aBl] at h
   split at h
   ·rename_i id hd
    split at h
    ·rename_i tb ty bs hL
     exact aQb hn0 hd hL h hg hf
    ·exact h.elim
   ·exact h.elim
 | bclose d ty =>
   simp only [aBl] at h
   split at h
   ·rename_i id hd
    split at h
    ·rename_i tb a' b hL
     obtain ⟨ha,h⟩:=h
     split at h
     ·exact aU2 hd hL ha h hg hf
     ·rename_i m len
      obtain ⟨hne,hpos,h⟩:=h
      split at h
      ·rename_i ty' sz es hm
       obtain ⟨rfl,hlen,bs,hbs,h⟩:=h
       exact aTg hd hL ha hne hpos hm hlen hbs h hg hf
      ·exact h.elim
     ·exact h.elim
    ·exact h.elim
   ·exact h.elim
 | frzb d =>
   simp only [aBl] at h
   split at h
   ·rename_i id hd
    split at h
    ·rename_i ty0 cs hL
     obtain ⟨h1,h3⟩:=h
     obtain ⟨g1,x1⟩:=hg.drop id
     refine ⟨_,G,h3,⟨g1.size,g1.defers,fun i=>?_,g1.hp.congr rfl rfl⟩,x1,hf⟩
     simp only [St.set,upd]
     split
     ·rename_i e
      subst e
      have hv:=hg.env i
      rw [hd] at hv
      obtain ⟨g,e1,e2⟩:=aCx hv
      obtain ⟨g',b1,c,ty',fr,b2,b3,b4,b5,b6⟩:=hg.hp.blk id _ hL
      obtain rfl:g'=g:=Option.some.inj (b1.symm.trans e1)
      rw [e2,b4]
      have hocc:Occ g' (.box ty0 cs) g'.blk:=rfl
      obtain ⟨k1,k2⟩:=hg.hp.away g'.blk ⟨id,_,g',hL,b1,hocc⟩
      refine .cptr cs g'.blk (0+0) k1 (fun hdp=>?_) (fun j c0 hc=>?_) (fun j c0 hc=>?_)
      ·rcases hdp with hdp | ⟨id2,b2',g2,l1,l2,l3⟩
       ·exact k2 hdp
       ·by_cases e:id2=id
        ·subst e; simp [St.drop,aAf] at l1
        ·simp only [St.drop,aAd _ _ _ _ e] at l1
         exact hg.hp.apart id id2 _ _ _ _ _ hL l1 b1 l2 (Ne.symm e) hocc l3
      ·have:j<cs.length:=(List.getElem?_eq_some_iff.1 hc).1
       rw [aAv b2]
       simp; omega
      ·have:j<cs.length:=(List.getElem?_eq_some_iff.1 hc).1
       rw [aA7 b2]
       have h5:=b6 j c0 hc
       have e:0+0+j=j:=by omega
       rw [e]
       exact x1.rep h5
     ·exact g1.env i
    ·exact h.elim
   ·exact h.elim
 | frz d =>
   simp only [aBl] at h
   split at h
   ·rename_i id sz off len hd
    split at h
    ·rename_i ty0 sz' es hL
     obtain ⟨h1,h2,h3⟩:=h
     obtain ⟨g1,x1⟩:=hg.drop id
     refine ⟨_,G,h3,⟨g1.size,g1.defers,fun i=>?_,g1.hp.congr rfl rfl⟩,x1,hf⟩
     simp only [St.set,upd]
     split
     ·rename_i e
      subst e
      have hv:=hg.env i
      rw [hd] at hv
      obtain ⟨g,a',cap,e1,e2,e3,e4,e5,e6,e7⟩:=aDj hv
      rw [e1]
      obtain ⟨g',b1,b2,b3,b4,b5,b6⟩:=hg.hp.blk id _ hL
      obtain rfl:g'=g:=Option.some.inj (b1.symm.trans e2)
      have hlen:((es.drop off).take len).length=len:=by simp; omega
      have hrep:Rep G (Dp D (s.drop id).L G) w (.lst sz ((es.drop off).take len)) (.slice a' ((es.drop off).take len).length cap):=by
       have hsz:sz=sz':=e3.symm.trans b2
       subst hsz
       have cellAt:∀ (i j:Nat) (c:V),((((es.drop off).take len)[i]?).bind fun e=>e.cells[j]?)=some c→((es[off+i]?).bind fun e=>e.cells[j]?)=some c∧i<len∧j<sz:=by
        intro i j c hc
        cases he:((es.drop off).take len)[i]? with
        | none=>rw [he] at hc; simp at hc
        | some e =>
          rw [he] at hc
          simp only [Option.bind_some] at hc
          have hmem:e∈es:=List.mem_of_mem_drop (List.mem_of_mem_take (mem_of_getElem? he))
          have hi:i<len:=by
           have:=(List.getElem?_eq_some_iff.1 he).1
           omega
          rw [List.getElem?_take_of_lt hi,List.getElem?_drop] at he
          refine ⟨by rw [he]; exact hc,hi,?_⟩
          rw [← aAw (b5 e hmem)]
          exact (List.getElem?_eq_some_iff.1 hc).1
       refine .lst sz _ a' cap g'.blk (g'.off+off*sz) (by omega) (by omega) (fun h0=>?_) (fun e he=>b5 e (List.mem_of_mem_drop (List.mem_of_mem_take he))) (fun i j c hc=>?_) (fun i j c hc=>?_)
       ·rw [hlen] at h0
        refine ⟨e7 (by omega),?_⟩
        have hocc:Occ g' (.vec ty0 sz es) g'.blk:=⟨by omega,rfl⟩
        obtain ⟨k1,k2⟩:=hg.hp.away g'.blk ⟨id,_,g',hL,b1,hocc⟩
        refine ⟨k1,fun hdp=>?_⟩
        rcases hdp with hdp | ⟨id2,b2',g2,l1,l2,l3⟩
        ·exact k2 hdp
        ·by_cases e:id2=id
         ·subst e; simp [St.drop,aAf] at l1
         ·simp only [St.drop,aAd _ _ _ _ e] at l1
          exact hg.hp.apart id id2 _ _ _ _ _ hL l1 b1 l2 (Ne.symm e) hocc l3
       ·obtain ⟨q1,q3,q4⟩:=cellAt i j c hc
        obtain ⟨c',ty,fr,k2,k3,k4,k5⟩:=b6 (by omega)
        rw [aAv k2]
        have:(off+i+1)*sz≤g'.cap*sz:=Nat.mul_le_mul_right _ (by omega)
        rw [Nat.add_mul,Nat.add_mul] at this
        simp; omega
       ·obtain ⟨q1,q3,q4⟩:=cellAt i j c hc
        obtain ⟨c',ty,fr,k2,k3,k4,k5⟩:=b6 (by omega)
        rw [aA7 k2]
        have h5:=k5 _ _ _ q1
        rw [Nat.add_mul] at h5
        have e:g'.off+off*sz+i*sz+j=g'.off+(off*sz+i*sz)+j:=by omega
        rw [e]
        exact x1.rep h5
      rw [hlen] at hrep
      exact hrep
     ·exact g1.env i
    ·exact h.elim
   ·exact h.elim
end
end Go.Ab
namespace Go.Ab
open Go.RowKit
theorem aT0 {P:Program} {Q:Exit→Act→World→Prop} {c:Code} (I:Nat→Act→World→Prop)
 (round:∀ m a w,I m a w→c.wp P (Exit.then (fun a' w'=>∃ m',m'<m∧I m' a' w') Q) a w) {m:Nat} {a:Act} {w:World} (h₀:I m a w):(Code.loop c).wp P Q a w:=by
 intro b k cs
 have key:∀ m a w,I m a w→∃ e a' w',Q e a' w'∧Arrives P (lone (b.at a (.code c::.inLoop c::k)) cs w) b k cs e a' w':=by
  intro m
  induction m using Nat.strongRecOn with
  | _ m ih =>
    intro a w hI
    obtain ⟨e,a₁,w₁,hq,harr⟩:=round m a w hI b (.inLoop c::k) cs
    cases e with
    | normal =>
      obtain ⟨m',hlt,hI₁⟩:=hq
      obtain ⟨e₂,a₂,w₂,hq₂,harr₂⟩:=ih m' hlt a₁ w₁ hI₁
      exact ⟨e₂,a₂,w₂,hq₂,.of_steps (Steps.trans harr (.one step_inLoop)) harr₂⟩
    | exit id=>exact ⟨_,a₁,w₁,hq,.pass (x:=.inLoop c) rfl (fun _ _=>.inl (by simp)) harr⟩
    | goto l=>exact ⟨_,a₁,w₁,hq,.pass (x:=.inLoop c) rfl (fun _ _=>.inl (by simp)) harr⟩
    | ret=>exact ⟨_,a₁,w₁,hq,.pass (x:=.inLoop c) rfl (fun _ _=>.inl (by simp)) harr⟩
    | panic ch=>exact ⟨_,a₁,w₁,hq,.pass (x:=.inLoop c) rfl (fun _ _=>.inl (by simp)) harr⟩
    | outgrown=>exact ⟨_,a₁,w₁,hq,.pass (x:=.inLoop c) rfl (fun _ _=>.inl (by simp)) harr⟩
 obtain ⟨e,a',w',hq,harr⟩:=key _ a w h₀
 exact ⟨e,a',w',hq,.of_steps (.one step_loop) harr⟩
section
variable {P:Program} {D:Nat→Prop} {n:Nat} {hint:Nat→Nat}
theorem aI4 {L L':Heap} {G G':Ghost} {w w':World} {K:X→St→Prop} {Q:Exit→Act→World→Prop} (hx:Nxt L G w L' G' w') (h:Ends P D n L G w K Q):Ends P D n L' G' w' K Q :=
 fun x s2 G2 a2 w2 k g x2 f=>h x s2 G2 a2 w2 k g (hx.trans x2) f
theorem aKk {L:Heap} {G:Ghost} {w:World} {N:St→Prop} {K:X→St→Prop} {Q:Exit→Act→World→Prop} {next:Act→World→Prop} (h:Ends P D n L G w K Q)
 (hn:∀ s' G' a' w',N s'→Good P D n s' G' a' w'→Nxt L G w s'.L G' w'→(∀ i,s'.nx≤i→G' i=none)→next a' w'):Ends P D n L G w (seqK N K) (Exit.then next Q):=by
 intro x s' G' a' w' k g x' f
 cases x with
 | norm=>exact hn s' G' a' w' k g x' f
 | exit id=>exact h (.exit id) s' G' a' w' k g x' f
 | ret=>exact h .ret s' G' a' w' k g x' f
def Inv (P:Program) (n:Nat) (hint:Nat→Nat) (code:Code):LC→Prop
 | .skip=>code=.skip
 | .bad=>True
 | .ops d gl=>∃ id ops,code=.region id ops d
 | .seq x y=>∃ p q,code=.seq p q∧aBv P n hint p=some x∧aBv P n hint q=some y
 | .cond c x y=>∃ o p q,code=.cond o p q∧opd n o=some c∧aBv P n hint p=some x∧aBv P n hint q=some y
 | .block id x=>∃ p,code=.block id p∧aBv P n hint p=some x
 | .loop x=>∃ p,code=.loop p∧aBv P n hint p=some x
 | .exit id=>code=.exit id
 | .ret=>code=.ret
theorem aCk {code:Code} {l:LC} (h:aBv P n hint code=some l):Inv P n hint code l:=by
 cases code
 case region id ops draw =>
  by_cases hb:l=.bad
  ·subst hb; exact trivial
  ·obtain ⟨gl,_,_,h3,_⟩:=aIi h hb
   subst h3
   exact ⟨id,ops,rfl⟩
 case seq p q =>
  simp only [aBv] at h
  split at h
  ·rename_i u v h1 h2
   simp only [Option.some.injEq] at h
   subst h
   exact ⟨p,q,rfl,h1,h2⟩
  ·simp at h
 case cond o p q =>
  simp only [aBv] at h
  split at h
  ·rename_i c u v h0 h1 h2
   simp only [Option.some.injEq] at h
   subst h
   exact ⟨o,p,q,rfl,h0,h1,h2⟩
  ·simp at h
 case block id p =>
  simp only [aBv] at h
  obtain ⟨u,h1,rfl⟩:=Option.map_eq_some_iff.1 h
  exact ⟨p,rfl,h1⟩
 case loop p =>
  simp only [aBv] at h
  obtain ⟨u,h1,rfl⟩:=Option.map_eq_some_iff.1 h
  exact ⟨p,rfl,h1⟩
 all_goals simp only [aBv] at h
 all_goals first
  | (simp only [Option.some.injEq] at h; subst h; exact trivial)
  | (simp only [Option.some.injEq] at h; subst h; rfl)
  | (split at h
     ·simp only [Option.some.injEq] at h; subst h; exact trivial
     ·simp at h; done)
theorem bKv (hn0:0<n):∀ (c:C) (code:Code),aBv P n hint code=some c.erase→c.ok=true→∀ (s:St) (G:Ghost) (a:Act) (w:World) (K:X→St→Prop) (Q:Exit→Act→World→Prop),
 awp P n c K s→Good P D n s G a w→(∀ i,s.nx≤i→G i=none)→Ends P D n s.L G w K Q→code.wp P Q a w:=by
 intro c
 induction c with
 | skip =>
   intro code hl hok s G a w K Q h hg hf he
   have inv:=aCk hl
   obtain rfl:=inv
   exact wp_skip (he .norm s G a w h hg (Nxt.refl _ _ _) hf)
 | bad=>intro code hl hok s G a w K Q h; exact h.elim
 | ops d l =>
   intro code hl hok s G a w K Q h hg hf he
   have inv:=aCk hl
   obtain ⟨id,ops,rfl⟩:=inv
   exact aPe hl (aHq l s hok h) hg hf fun s' G' a' w' k g x=>he .norm _ G' a' w' k g.past.1 x g.past.2
 | seq x y ihx ihy =>
   intro code hl hok s G a w K Q h hg hf he
   simp only [C.ok,Bool.and_eq_true] at hok
   have inv:=aCk hl
   obtain ⟨p,q,rfl,h1,h2⟩:=inv
   exact wp_seq (ihx p h1 hok.1 s G a w _ _ h hg hf (aKk he fun s' G' a' w' k g x f=>ihy q h2 hok.2 s' G' a' w' K Q k g f (aI4 x he)))
 | seqc x y ihx ihy =>
   intro code hl hok s G a w K Q h hg hf he
   simp only [C.ok,Bool.and_eq_true] at hok
   obtain ⟨M,hM1,hM2⟩:=h
   have inv:=aCk hl
   obtain ⟨p,q,rfl,h1,h2⟩:=inv
   exact wp_seq (ihx p h1 hok.1 s G a w _ _ hM1 hg hf (aKk he fun s' G' a' w' k g x f=>ihy q h2 hok.2 s' G' a' w' K Q (hM2 s' k) g f (aI4 x he)))
 | cond z x y ihx ihy =>
   intro code hl hok s G a w K Q h hg hf he
   simp only [C.ok,Bool.and_eq_true] at hok
   have inv:=aCk hl
   obtain ⟨o,p,q,rfl,h0,h1,h2⟩:=inv
   · · have hr:=aAe hg h0
       cases z with
       | t m =>
         simp only [awp] at h
         split at h <;> try (exact h.elim)
         ·rename_i m' b e1 e2
          cases e1
          rw [e2] at hr
          have hb:=aBw hr
          have hs:∀ b',b=b'→s.set m (.bool b')=s:=fun b' e=>aYp (by rw [← e]; exact e2)
          refine wp_cond_split hb (fun ht=>?_) (fun ht=>?_)
          ·have:=h.1 ht
           rw [hs _ ht] at this
           exact ihx p h1 hok.1 s G a w K Q this hg hf he
          ·have:=h.2 ht
           rw [hs _ ht] at this
           exact ihy q h2 hok.2 s G a w K Q this hg hf he
         ·rename_i e1 _; cases e1
       | k v' =>
         simp only [awp] at h
         split at h <;> try (exact h.elim)
         ·rename_i e1 _; cases e1
         ·rename_i m' b e1 e2
          cases e1
          rw [e2] at hr
          have hb:=aBw hr
          refine wp_cond_split hb (fun ht=>?_) (fun ht=>?_)
          ·simp only [ht,if_true] at h
           exact ihx p h1 hok.1 s G a w K Q h hg hf he
          ·simp only [ht,Bool.false_eq_true,if_false] at h
           exact ihy q h2 hok.2 s G a w K Q h hg hf he
 | block id x ihx =>
   intro code hl hok s G a w K Q h hg hf he
   have inv:=aCk hl
   ·obtain ⟨p,rfl,h1⟩:=inv
    refine wp_block (ihx p h1 hok s G a w _ _ h hg hf ?_)
    intro x' s' G' a' w' k g x f
    cases x' with
    | norm=>exact he .norm s' G' a' w' k g x f
    | ret=>exact he .ret s' G' a' w' k g x f
    | exit m =>
      simp only [blkK] at k
      simp only [bD9,Exit.inBlock]
      by_cases e:m=id
      ·simp only [e,if_true] at k ⊢
       exact he .norm s' G' a' w' k g x f
      ·simp only [e,if_false] at k ⊢
       exact he (.exit m) s' G' a' w' k g x f
 | loop x ihx =>
   intro code hl hok s G a w K Q h hg hf he
   have inv:=aCk hl
   ·obtain ⟨p,rfl,h1⟩:=inv
    obtain ⟨J,⟨m0,hJ0⟩,hJ⟩:=h
    refine aT0 (fun m a' w'=>∃ s' G',J m s'∧Good P D n s' G' a' w'∧Nxt s.L G w s'.L G' w'∧∀ i,s'.nx≤i→G' i=none) (fun m a1 w1 hI=>?_) (m:=m0) ⟨s,G,hJ0,hg,Nxt.refl _ _ _,hf⟩
    obtain ⟨s1,G1,j1,g1,x1,f1⟩:=hI
    refine ihx p h1 hok s1 G1 a1 w1 _ _ (hJ m s1 j1) g1 f1 (aKk (aI4 x1 he) fun s2 G2 a2 w2 k2 g2 x2 f2=>?_)
    obtain ⟨m2,hlt,j2⟩:=k2
    exact ⟨m2,hlt,s2,G2,j2,g2,x1.trans x2,f2⟩
 | exit id =>
   intro code hl hok s G a w K Q h hg hf he
   have inv:=aCk hl
   ·obtain rfl:=inv
    exact wp_exit (he (.exit id) s G a w h hg (Nxt.refl _ _ _) hf)
 | ret =>
   intro code hl hok s G a w K Q h hg hf he
   have inv:=aCk hl
   ·obtain rfl:=inv
    exact wp_ret (he .ret s G a w h hg (Nxt.refl _ _ _) hf)
 | gh g x ihx =>
   intro code hl hok s G a w K Q h hg hf he
   obtain ⟨s',G',h1,h2,h3,h4⟩:=aS8 hn0 h hg hf
   exact ihx code hl hok s' G' a w K Q h1 h2 h4 (aI4 h3 he)
 | gha g x ihx =>
   intro code hl hok s G a w K Q h hg hf he
   refine ihx code hl hok s G a w _ Q h hg hf ?_
   intro x' s' G' a' w' k g' x2 f
   cases x' with
   | norm =>
     obtain ⟨s2,G2,h1,h2,h3,h4⟩:=aS8 hn0 k g' f
     exact he .norm s2 G2 a' w' h1 h2 (x2.trans h3) h4
   | exit id=>exact he (.exit id) s' G' a' w' k g' x2 f
   | ret=>exact he .ret s' G' a' w' k g' x2 f
end
end Go.Ab
namespace Go.Ab
open Go.RowKit
abbrev RV:=Nat×Option (Nat×Bool)
def lowR (P:Program):ResultVar→Option RV
 | .tmp t=>some (t,none)
 | .cell t y=>match szOf P y,aB3 P y with
   | some z,some ag=>if ag||z=1 then some (t,some (z,ag)) else none
   | _,_=>none
def aV5 (P:Program):List ResultVar→Option (List RV)
 | []=>some []
 | r::l=>match lowR P r,aV5 P l with
   | some x,some y=>some (x::y)
   | _,_=>none
def resP:List RV→St→(List V→Prop)→Prop
 | [],_,K=>K []
 | (t,none)::r,s,K=>resP r s fun vs=>K (s.env t::vs)
 | (t,some (sz,ag))::r,s,K=>match s.env t with
   | .ptr id o=>match s.L id with
     | some (.box _ cs)=>o+sz≤cs.length∧resP r s fun vs=>K (pack ag ((cs.drop o).take sz)::vs)
     | _=>False
   | _=>False
def one:List V→V
 | [v]=>v
 | vs=>.tup vs
theorem aM1:∀ {rs:List RV} {s:St} {K:List V→Prop},resP rs s K→∃ vs,K vs
 | [],s,K,h=>⟨_,h⟩
 | (t,none)::r,s,K,h=>let ⟨vs,h⟩:=aM1 (rs:=r) h; ⟨_,h⟩
 | (t,some (sz,ag))::r,s,K,h=>by
   simp only [resP] at h
   split at h
   ·split at h
    ·obtain ⟨vs,h⟩:=aM1 h.2; exact ⟨_,h⟩
    ·exact h.elim
   ·exact h.elim
def oneR (tmps:Array Value):ResultVar→Sem Value
 | .tmp t=>pure (tmps.getD t undef)
 | .cell c t=>do loadVar t (← asAddr (tmps.getD c undef))
theorem aJy {P:Program} {D:Nat→Prop} {n:Nat} {s:St} {G:Ghost} {a:Act} {w:World} (hg:Good P D n s G a w):∀ (l:List ResultVar) (rs:List RV) (K:List V→Prop),aV5 P l=some rs→resP rs s K →
 ∃ (xs:List V) (vs:List Value),K xs∧xs.length=vs.length∧(∀ (i:Nat) x,xs[i]?=some x→Rep G (Dp D s.L G) w x (vs.getD i undef))∧(l.mapM (oneR a.tmps)).run P w=.ok vs w
 | [],rs,K,h,hK=>by
   simp only [aV5,Option.some.injEq] at h
   subst h
   exact ⟨[],[],hK,rfl,by simp,rfl⟩
 | r::l,rs,K,h,hK=>by
   simp only [aV5] at h
   split at h
   ·rename_i x y h1 h2
    simp only [Option.some.injEq] at h
    subst h
    have step:∀ (v:V) (u:Value),Rep G (Dp D s.L G) w v u→resP y s (fun vs=>K (v::vs))→(oneR a.tmps r).run P w=.ok u w →
     ∃ (xs:List V) (vs:List Value),K xs∧xs.length=vs.length∧(∀ (i:Nat) x,xs[i]?=some x→Rep G (Dp D s.L G) w x (vs.getD i undef))∧((r::l).mapM (oneR a.tmps)).run P w=.ok vs w:=by
     intro v u hu hK' hrun
     obtain ⟨xs,vs,k1,k2,k3,k4⟩:=aJy hg l y _ h2 hK'
     refine ⟨v::xs,u::vs,k1,by simp [k2],fun i x hx=>?_,?_⟩
     ·cases i with
      | zero=>simp at hx; subst hx; simpa using hu
      | succ i=>simpa using k3 i x (by simpa using hx)
     ·rw [List.mapM_cons,Sem.run_bind]
      erw [hrun]
      simp only [Result.andThen_ok,Sem.run_bind]
      erw [k4]
      simp only [Result.andThen_ok]
      rfl
    cases r with
    | tmp t =>
      simp only [lowR,Option.some.injEq] at h1
      subst h1
      exact step _ _ (hg.env t) hK rfl
    | cell t ty =>
      simp only [lowR] at h1
      split at h1
      ·rename_i z ag hz hag
       split at h1
       ·rename_i hc
        simp only [Option.some.injEq] at h1
        subst h1
        simp only [resP] at hK
        split at hK
        ·rename_i id off hid
         split at hK
         ·rename_i cs hL
          have rx:=hg.env t
          rw [hid] at rx
          obtain ⟨g,r1,ev⟩:=aCx rx
          obtain ⟨g',k1,c',ty',fr,k2,k3,k4,_,k5⟩:=hg.hp.blk _ _ hL
          obtain rfl:g=g':=Option.some.inj (r1.symm.trans k1)
          have q0:g.off+off=off:=by omega
          rw [q0] at ev
          have get:∀ (j:Nat) (c:V),((cs.drop off).take z)[j]?=some c→cs[off+j]?=some c:=fun j c hc=>by
           rw [List.getElem?_take] at hc; split at hc <;> first | exact aA8 hc | cases hc
          have hlen:((cs.drop off).take z).length=z:=by have:=hK.1; simp; omega
          have hc':ag=true∨z=1:=by simpa using hc
          refine step _ _ (aSg (q:=off) (b:=g.blk) hlen hc' fun j c hc=>?_) hK.2 ?_
          ·rw [aA7 k2]; exact k5 _ _ (get j c hc)
          ·show (do loadVar ty (← asAddr (a.tmps.getD t undef)):Sem Value).run P w=_
           rw [ev]
           simp only [asAddr,Sem.run_bind,Sem.run_pure,Result.andThen_ok]
           rw [aJ2 hz hag hc' fun j hj=>?_]
           have hj':off+j<cs.length:=by have:=hK.1; omega
           rw [aAv k2]
           simp; omega
         ·exact hK.elim
        ·exact hK.elim
       ·simp at h1
      ·simp at h1
   ·simp at h
theorem aQh {fn:Func} {tmps:Array Value} {P:Program} {w:World} {vs:List Value} (h:(fn.results.toList.mapM (oneR tmps)).run P w=.ok vs w) :
 (results fn tmps).run P w=.ok (if h:vs.toArray.size=1 then vs.toArray[0] else .tuple vs.toArray) w:=by
 have e:fn.results.mapM (oneR tmps)=List.toArray <$> fn.results.toList.mapM (oneR tmps):=by
  have e1:fn.results.mapM (oneR tmps)=fn.results.toList.toArray.mapM (oneR tmps):=by simp
  rw [e1,List.mapM_toArray]
 have e2:results fn tmps=(do
  let vs ← fn.results.mapM (oneR tmps)
  pure (if h:vs.size=1 then vs[0] else .tuple vs)):=rfl
 rw [e2,e]
 simp only [Sem.run_bind]
 have e3:(List.toArray <$> fn.results.toList.mapM (oneR tmps)).run P w=.ok vs.toArray w:=by
  rw [map_eq_pure_bind,Sem.run_bind,h]
  rfl
 rw [e3]
 rfl
theorem bF3 {G:Ghost} {D:Nat→Prop} {w:World} {xs:List V} {vs:List Value} (hl:xs.length=vs.length) (h:∀ (i:Nat) x,xs[i]?=some x→Rep G D w x (vs.getD i undef)) :
 Rep G D w (one xs) (if h:vs.toArray.size=1 then vs.toArray[0] else .tuple vs.toArray):=by
 match xs,vs,hl with
 | [x],[v],_=>simpa [one] using h 0 x rfl
 | [],[],_=>exact .tup _ _ rfl (by simp)
 | x::y::r,v::u::q,hl =>
   have:¬ ((v::u::q).toArray.size=1):=by simp
   simp only [one,this,dif_neg,not_false_eq_true]
   refine .tup _ _ (by simpa using hl) fun i c hc=>?_
   have:=h i c hc
   simpa [Array.getD_eq_getD_getElem?] using this
section
variable {P:Program} {n:Nat} {hint:Nat→Nat}
theorem aPh {g:Gh} {s:St} {K:St→Prop} (h:aBl g s K):∃ s',K s':=by
 cases g with
 | cut=>obtain ⟨M,h1,h2⟩:=h; exact ⟨s,h2 s h1⟩
 | fz=>obtain ⟨s',_,h2⟩:=h; exact ⟨s',h2⟩
 | own d ty sz=>exact ⟨_,h.2⟩
 | bopen d =>
   simp only [aBl] at h
   split at h
   ·split at h
    ·rename_i tb ty bs hL
     by_cases hb:bs=[]
     ·exact ⟨_,(h .nilp (.inl rfl)).1 hb⟩
     ·exact ⟨_,(h .nilp (.inl rfl)).2 hb⟩
    ·exact h.elim
   ·exact h.elim
 | bclose d ty =>
   simp only [aBl] at h
   split at h
   ·split at h
    ·obtain ⟨_,h⟩:=h
     split at h
     ·exact ⟨_,h⟩
     ·obtain ⟨_,_,h⟩:=h
      split at h
      ·obtain ⟨_,_,bs,_,h⟩:=h
       exact ⟨_,h⟩
      ·exact h.elim
     ·exact h.elim
    ·exact h.elim
   ·exact h.elim
 | frzb d =>
   simp only [aBl] at h
   split at h
   ·split at h
    ·exact ⟨_,h.2⟩
    ·exact h.elim
   ·exact h.elim
 | frz d =>
   simp only [aBl] at h
   split at h
   ·split at h
    ·exact ⟨_,h.2.2⟩
    ·exact h.elim
   ·exact h.elim
theorem bIs:∀ (c:C) (s:St) (K:X→St→Prop),c.ok=true→awp P n c K s→∃ x s',K x s':=by
 intro c
 induction c with
 | skip=>intro s K _ h; exact ⟨.norm,s,h⟩
 | bad=>intro s K _ h; exact h.elim
 | ops d l =>
   intro s K hok h
   obtain ⟨s',h'⟩:=aWl (aHq l s hok h)
   exact ⟨.norm,_,h'⟩
 | seq x y ihx ihy =>
   intro s K hok h
   simp only [C.ok,Bool.and_eq_true] at hok
   obtain ⟨x',s',h'⟩:=ihx s _ hok.1 h
   cases x' with
   | norm=>exact ihy s' K hok.2 h'
   | exit id=>exact ⟨_,s',h'⟩
   | ret=>exact ⟨_,s',h'⟩
 | seqc x y ihx ihy =>
   intro s K hok h
   simp only [C.ok,Bool.and_eq_true] at hok
   obtain ⟨M,h1,h2⟩:=h
   obtain ⟨x',s',h'⟩:=ihx s _ hok.1 h1
   cases x' with
   | norm=>exact ihy s' K hok.2 (h2 s' h')
   | exit id=>exact ⟨_,s',h'⟩
   | ret=>exact ⟨_,s',h'⟩
 | cond z x y ihx ihy =>
   intro s K hok h
   simp only [C.ok,Bool.and_eq_true] at hok
   simp only [awp] at h
   split at h
   ·rename_i m b e
    cases b
    ·exact ihy _ K hok.2 (h.2 rfl)
    ·exact ihx _ K hok.1 (h.1 rfl)
   ·split at h
    ·exact ihx _ K hok.1 h
    ·exact ihy _ K hok.2 h
   ·exact h.elim
 | block id x ihx =>
   intro s K hok h
   obtain ⟨x',s',h'⟩:=ihx s _ hok h
   cases x' with
   | norm=>exact ⟨_,s',h'⟩
   | ret=>exact ⟨_,s',h'⟩
   | exit m =>
     simp only [blkK] at h'
     split at h'
     ·exact ⟨_,s',h'⟩
     ·exact ⟨_,s',h'⟩
 | loop x ihx =>
   intro s K hok h
   obtain ⟨J,⟨m0,h0⟩,hJ⟩:=h
   have key:∀ m s,J m s→∃ x s',K x s':=by
    intro m
    induction m using Nat.strongRecOn with
    | _ m ih =>
      intro s hs
      obtain ⟨x',s',h'⟩:=ihx s _ hok (hJ m s hs)
      cases x' with
      | norm=>obtain ⟨m',hlt,hj⟩:=h'; exact ih m' hlt s' hj
      | exit id=>exact ⟨_,s',h'⟩
      | ret=>exact ⟨_,s',h'⟩
   exact key m0 s h0
 | exit id=>intro s K _ h; exact ⟨_,s,h⟩
 | ret=>intro s K _ h; exact ⟨_,s,h⟩
 | gh g x ihx =>
   intro s K hok h
   obtain ⟨s',h'⟩:=aPh h
   exact ihx s' K hok h'
 | gha g x ihx =>
   intro s K hok h
   obtain ⟨x',s',h'⟩:=ihx s _ hok h
   cases x' with
   | norm=>obtain ⟨s2,h2⟩:=aPh h'; exact ⟨.norm,s2,h2⟩
   | exit id=>exact ⟨_,s',h'⟩
   | ret=>exact ⟨_,s',h'⟩
structure Fn (P:Program) (f:Nat) (n:Nat) (rs:List RV) (c:C):Prop where
 get:∃ fn code hint,P.funcs[f]?=some fn∧fn.body=some code∧fn.ntmps=n∧aV5 P fn.results.toList=some rs∧aBv P n hint code=some c.erase
 ok:c.ok=true
 pos:0<n
def fnL (P:Program) (f:Nat) (hint:Nat→Nat):Option (Nat×Option (List RV)×Option LC):=match P.funcs[f]? with
 | some fn=>match fn.body with
   | some code=>some (fn.ntmps,aV5 P fn.results.toList,aBv P fn.ntmps hint code)
   | none=>none
 | none=>none
theorem aAi {P:Program} {f n:Nat} {rs:List RV} {c:C} (hint:Nat→Nat) (h:fnL P f hint=some (n,some rs,some c.erase)) (ok:(c.ok&&Nat.blt 0 n)=true):Fn P f n rs c:=by
 rw [Bool.and_eq_true] at ok
 unfold fnL at h
 split at h
 ·rename_i fn e
  split at h
  ·rename_i code e2
   simp only [Option.some.injEq,Prod.mk.injEq] at h
   obtain ⟨rfl,h2,h3⟩:=h
   exact ⟨⟨fn,code,hint,e,e2,rfl,h2,h3⟩,ok.1,Nat.le_of_ble_eq_true ok.2⟩
  ·cases h
 ·cases h
def St.enter (args:List V) (L:Heap) (nx:Nat):St:=⟨fun i=>args.getD i .junk,L,nx⟩
def endK (rs:List RV) (post:V→Heap→Nat→Prop):X→St→Prop
 | .norm,s=>resP rs s fun vs=>post (one vs) s.L s.nx
 | .ret,s=>resP rs s fun vs=>post (one vs) s.L s.nx
 | .exit _,_=>False
theorem aT4 {D:Nat→Prop} {args:List V} {L:Heap} {nx:Nat} {G:Ghost} {w:World} {vs:Array Value} (hn:args.length≤n) (hp:Hp P D 0 ⟨fun _=>.junk,L,nx⟩ G w) (hl:args.length=vs.size)
 (hr:∀ i x,args[i]?=some x→Rep G (Dp D L G) w x (vs.getD i undef)):Good P D n (.enter args L nx) G { tmps:=vs++Array.replicate (n-vs.size) undef,defers:=[] } w:=by
 refine ⟨by simp; omega,rfl,fun i=>?_,⟨fun id hid=>hp.fin id (by simp only [St.enter] at hid ⊢; omega),hp.blk,hp.apart,hp.away,hp.dlt,hp.gl⟩⟩
 simp only [St.enter]
 rcases Nat.lt_or_ge i args.length with h | h
 ·have h1:=hr i args[i] (List.getElem?_eq_getElem h)
  have e1:args.getD i .junk=args[i]:=by simp [List.getD,h]
  have hv:i<vs.size:=by omega
  have e2:(vs++Array.replicate (n-vs.size) undef).getD i undef=vs.getD i undef:=by
   simp [Array.getD_eq_getD_getElem?,Array.getElem?_append,hv]
  rw [e1]
  simp only [e2]
  exact h1
 ·have e1:args.getD i .junk=.junk:=by simp [List.getD,List.getElem?_eq_none h]
  rw [e1]
  exact .junk _
theorem aIy {f:Nat} {rs:List RV} {c:C} {args:List V} {L:Heap} {nx:Nat} {post:V→Heap→Nat→Prop} (hf:Fn P f n rs c) (hn:args.length≤n)
 (h:awp P n c (endK rs fun r L' nx'=>nx≤nx'∧post r L' nx') (.enter args L nx)):ECall P f args L nx post:=by
 obtain ⟨fn,code,hint,h1,h2,h3,h4,h5⟩:=hf.get
 refine ⟨?_,fun D G w vs hp hl hr=>?_⟩
 ·obtain ⟨x,s',hk⟩:=bIs c _ _ hf.ok h
  cases x with
  | norm=>obtain ⟨vs,hk⟩:=aM1 hk; exact ⟨_,_,_,hk.2⟩
  | ret=>obtain ⟨vs,hk⟩:=aM1 hk; exact ⟨_,_,_,hk.2⟩
  | exit id=>exact hk.elim
 ·refine calls_of_wp h1 h2 ?_
  rw [h3]
  refine bKv hf.pos c code h5 hf.ok _ G _ w _ _ h (aT4 hn hp hl hr) (fun i hi=>hp.fin i hi) ?_
  have fin:∀ s' G' a' w',(resP rs s' fun vs=>nx≤s'.nx∧post (one vs) s'.L s'.nx)→Good P D n s' G' a' w'→Nxt L G w s'.L G' w'→(∀ i,s'.nx≤i→G' i=none) →
   a'.defers=[]∧∃ v,(results fn a'.tmps).run P w'=.ok v w'∧∃ v' r L' nx' G'',Ending.returned v=.returned v'∧post r L' nx'∧Hp P D 0 ⟨fun _=>.junk,L',nx'⟩ G'' w'∧nx≤nx'∧Nxt L G w L' G'' w'∧Rep G'' (Dp D L' G'') w' r v':=by
   intro s' G' a' w' k g x f
   obtain ⟨xs,vs',⟨q1,q2⟩,q3,q4,q5⟩:=aJy g _ rs _ h4 k
   exact ⟨g.defers,_,aQh q5,_,one xs,s'.L,s'.nx,G',rfl,q2,⟨f,g.hp.blk,g.hp.apart,g.hp.away,g.hp.dlt,g.hp.gl⟩,q1,x,bF3 q3 q4⟩
  intro x s' G' a' w' k g x' f
  cases x with
  | norm=>exact fin s' G' a' w' k g x' f
  | ret=>exact fin s' G' a' w' k g x' f
  | exit id=>exact k.elim
theorem bLo {f:Nat} {rs:List RV} {c:C} {args:List V} {r:V} (hf:Fn P f n rs c) (hn:args.length≤n) (hi:r.imm=true)
 (h:awp P n c (endK rs fun r' L' _=>view L' 3 r'=r) (.enter args (fun _=>none) 0)):PTr P f args r:=by
 have hE:ECall P f args (fun _=>none) 0 fun r' L' _=>view L' 3 r'=r:=by
  refine aIy hf hn ?_
  have:(endK rs fun r' L' nx'=>0≤nx'∧view L' 3 r'=r)=endK rs fun r' L' _=>view L' 3 r'=r:=by
   funext x s
   cases x <;> simp [endK]
  rw [this]
  exact h
 intro D w vs hD hgl hl hr
 have hp:Hp P D 0 ⟨fun _=>.junk,fun _=>none,0⟩ (fun _=>none) w:=⟨fun _ _=>rfl,fun id b h=>by simp at h,fun id id' b b' g g' x h=>by simp at h,fun x ho=>by
  obtain ⟨id,b,g,h,_⟩:=ho
  simp at h,hD,GlW.start hgl⟩
 refine (hE.2 D (fun _=>none) w vs hp hl fun i x hx=>(hr i x hx).mono (Ghost.le_refl _) (fun b _ hn hd=>?_) (Same.refl _ _)).mono ?_
 ·rcases hd with hd | ⟨id,b,g,h,_⟩
  ·exact hn hd
  ·simp at h
 ·rintro e w' ⟨v,r',L',nx',G',rfl,hpost,hp',_,hx,hrep⟩
  refine ⟨v,rfl,⟨hx.os,hx.tape,hx.output,hx.same.1,fun b hb=>hx.same.2 b hb ?_⟩,?_⟩
  ·rintro ⟨id,b,g,h,_⟩
   simp at h
  ·have:=aG8 hp' 3 hrep 3 (Nat.le_refl _)
   simp only at this
   rw [hpost] at this
   exact this.free hi _
end
end Go.Ab
namespace Go.Ab
def InR (k:IntKind) (x:Int):Prop:=match k with
 | .i8=>-128≤x∧x≤127
 | .i16=>-32768≤x∧x≤32767
 | .i32=>-2147483648≤x∧x≤2147483647
 | .i64=>-9223372036854775808≤x∧x≤9223372036854775807
 | .u8=>0≤x∧x≤255
 | .u16=>0≤x∧x≤65535
 | .u32=>0≤x∧x≤4294967295
 | .u64=>0≤x∧x≤18446744073709551615
theorem InR.wrap {k:IntKind} {x:Int} (h:InR k x):k.wrap x=x:=by
 cases k <;> simp only [InR] at h <;> obtain ⟨h1,h2⟩:=h <;> unfold IntKind.wrap <;> simp [IntKind.bits,IntKind.signed] <;> omega
def aCu (op:BinOp) (x y:V) (K:V→Prop):Prop :=
 match op,x,y with
 | .add,.int k a,.int k' b=>k=k'∧InR k (a+b)∧K (.int k (a+b))
 | .sub,.int k a,.int k' b=>k=k'∧InR k (a-b)∧K (.int k (a-b))
 | .mul,.int k a,.int k' b=>k=k'∧InR k (a*b)∧K (.int k (a*b))
 | .quo,.int k a,.int k' b=>k=k'∧b≠0∧InR k (a.tdiv b)∧K (.int k (a.tdiv b))
 | op,x,y=>vbin op x y K
theorem aRy {op:BinOp} {x y:V} {K:V→Prop} (h:aCu op x y K):vbin op x y K:=by
 unfold aCu at h
 split at h
 ·obtain ⟨rfl,h1,h2⟩:=h; exact ⟨.inr rfl,by simpa only [vint,h1.wrap] using h2⟩
 ·obtain ⟨rfl,h1,h2⟩:=h; exact ⟨.inr rfl,by simpa only [vint,h1.wrap] using h2⟩
 ·obtain ⟨rfl,h1,h2⟩:=h; exact ⟨.inr rfl,by simpa only [vint,h1.wrap] using h2⟩
 ·obtain ⟨rfl,h0,h1,h2⟩:=h; exact ⟨.inr rfl,h0,by simpa only [h1.wrap] using h2⟩
 ·exact h
def vunC (op:UnOp) (x:V) (K:V→Prop):Prop :=
 match op,x with
 | .neg,.int k a=>InR k (0-a)∧K (.int k (0-a))
 | op,x=>vun op x K
theorem aT9 {op:UnOp} {x:V} {K:V→Prop} (h:vunC op x K):vun op x K:=by
 unfold vunC at h
 split at h
 ·obtain ⟨h1,h2⟩:=h
  simp only [vun,h1.wrap]
  exact h2
 ·exact h
def bDy (k:IntKind) (x:V) (K:V→Prop):Prop :=
 match x with
 | .int _ n=>InR k n∧K (.int k n)
 | _=>False
def wrD (wr:List Nat):Option Nat→Bool
 | some d=>wr.contains d
 | none=>false
def aAg (P:Program) (wr:List Nat):I→St→(St→Prop)→Prop
 | .bin d op x y,s,K=>if wrD wr d then aAa P (.bin d op x y) s K else aCu op (s.ev x) (s.ev y) fun v=>K (s.setO d v)
 | .un d op x,s,K=>if wrD wr d then aAa P (.un d op x) s K else vunC op (s.ev x) fun v=>K (s.setO d v)
 | .cvt d k x,s,K=>if wrD wr d then aAa P (.cvt d k x) s K else bDy k (s.ev x) fun v=>K (s.setO d v)
 | i,s,K=>aAa P i s K
theorem aN8 {P:Program} {wr:List Nat} {i:I} {s:St} {K:St→Prop} (h:aAg P wr i s K):aAa P i s K:=by
 cases i with
 | bin d op x y =>
   simp only [aAg] at h
   split at h
   ·exact h
   ·exact aRy h
 | un d op x =>
   simp only [aAg] at h
   split at h
   ·exact h
   ·exact aT9 h
 | cvt d k x =>
   simp only [aAg] at h
   split at h
   ·exact h
   ·simp only [aAa]
    unfold bDy at h
    split at h
    ·rename_i e
     obtain ⟨h1,h2⟩:=h
     rw [e]
     simp only [h1.wrap]
     exact h2
    ·exact h.elim
 | _=>exact h
def aCa (P:Program) (wr:List Nat):List I→St→(St→Prop)→Prop
 | [],s,K=>K s
 | i::r,s,K=>aAg P wr i s fun s=>aCa P wr r s K
theorem aEp {P:Program} {wr:List Nat}:∀ {l:List I} {s:St} {K K':St→Prop},aCa P wr l s K→(∀ s,K s→K' s)→aJz P l s K'
 | [],s,K,K',h,hk=>hk s h
 | i::r,s,K,K',h,hk=>aF4 (aN8 h) fun s' h'=>aEp h' hk
def aKr (P:Program) (wr:List Nat) (x:Grp) (s:St) (K:St→Prop):Prop :=
 match x.g with
 | none=>aCa P wr x.l s K
 | some (t,w)=>match s.env t with
   | .bool b=>(b=w→aCa P wr x.l (s.set t (.bool w)) K)∧(b=!w→K (aEv x.l (s.set t (.bool !w))))
   | .tup []=>K (aEv x.l s)
   | _=>False
theorem aRd {P:Program} {wr:List Nat} {x:Grp} {s:St} {K K':St→Prop} (h:aKr P wr x s K) (hk:∀ s,K s→K' s):grun P x s K':=by
 obtain ⟨g,l⟩:=x
 cases g with
 | none=>exact aEp h hk
 | some g =>
   obtain ⟨t,w⟩:=g
   simp only [aKr] at h
   simp only [grun]
   split at h
   ·rename_i b e
    simp only [e]
    exact ⟨fun e=>aEp (h.1 e) hk,fun e=>hk _ (h.2 e)⟩
   ·rename_i e
    simp only [e]
    exact hk _ h
   ·exact h.elim
def aFg (P:Program) (wr:List Nat):List Grp→St→(St→Prop)→Prop
 | [],s,K=>K s
 | x::r,s,K=>aKr P wr x s fun s=>aFg P wr r s K
theorem aIe {P:Program} {wr:List Nat}:∀ {l:List Grp} {s:St} {K K':St→Prop},aFg P wr l s K→(∀ s,K s→K' s)→aYo P l s K'
 | [],s,K,K',h,hk=>hk s h
 | i::r,s,K,K',h,hk=>aRd h fun s' h'=>aIe h' hk
def awpC (P:Program) (n:Nat) (wr:List Nat):C→(X→St→Prop)→St→Prop
 | .skip,K,s=>K .norm s
 | .bad,_,_=>False
 | .ops _ l,K,s=>aFg P wr l s fun s=>K .norm (s.past n)
 | .seq a b,K,s=>awpC P n wr a (seqK (awpC P n wr b K) K) s
 | .seqc a b,K,s=>∃ M:St→Prop,awpC P n wr a (seqK M K) s∧∀ s,M s→awpC P n wr b K s
 | .cond x a b,K,s=>match x,s.ev x with
   | .t m,.bool t=>(t=true→awpC P n wr a K (s.set m (.bool true)))∧(t=false→awpC P n wr b K (s.set m (.bool false)))
   | .k _,.bool t=>if t then awpC P n wr a K s else awpC P n wr b K s
   | _,_=>False
 | .block id a,K,s=>awpC P n wr a (blkK id K) s
 | .loop a,K,s=>∃ J:Nat→St→Prop,(∃ m,J m s)∧∀ m s,J m s→awpC P n wr a (seqK (fun s=>∃ m',m'<m∧J m' s) K) s
 | .exit id,K,s=>K (.exit id) s
 | .ret,K,s=>K .ret s
 | .gh g a,K,s=>aBl g s (awpC P n wr a K)
 | .gha g a,K,s=>awpC P n wr a (seqK (fun s=>aBl g s (K .norm)) K) s
theorem aJm {g:Gh} {s:St} {K K':St→Prop} (h:aBl g s K) (hk:∀ s,K s→K' s):aBl g s K':=by
 unfold aBl at h ⊢
 split at h
 ·exact ⟨h.1,hk _ h.2⟩
 ·split at h
  ·split at h
   ·exact ⟨h.1,h.2.1,hk _ h.2.2⟩
   ·exact h.elim
  ·exact h.elim
 ·split at h
  ·split at h
   ·exact ⟨h.1,hk _ h.2⟩
   ·exact h.elim
  ·exact h.elim
 ·obtain ⟨M,h1,h2⟩:=h; exact ⟨M,h1,fun s hs=>hk s (h2 s hs)⟩
 ·obtain ⟨s',h1,h2⟩:=h; exact ⟨s',h1,hk s' h2⟩
 ·split at h
  ·split at h
   ·exact fun a ha=>⟨fun e=>hk _ ((h a ha).1 e),fun e=>hk _ ((h a ha).2 e)⟩
   ·exact h.elim
  ·exact h.elim
 ·split at h
  ·split at h
   ·refine ⟨h.1,?_⟩
    have h:=h.2
    split at h
    ·exact hk _ h
    ·refine ⟨h.1,h.2.1,?_⟩
     have h:=h.2.2
     split at h
     ·obtain ⟨a,b,bs,c,d⟩:=h
      exact ⟨a,b,bs,c,hk _ d⟩
     ·exact h.elim
    ·exact h.elim
   ·exact h.elim
  ·exact h.elim
theorem aGy {N N':St→Prop} {K K':X→St→Prop} (h1:∀ s,N s→N' s) (h2:∀ x s,K x s→K' x s):∀ x s,seqK N K x s→seqK N' K' x s:=by
 intro x s h
 cases x with
 | norm=>exact h1 s h
 | exit n=>exact h2 _ s h
 | ret=>exact h2 _ s h
theorem aYy {id:Nat} {K K':X→St→Prop} (h2:∀ x s,K x s→K' x s):∀ x s,blkK id K x s→blkK id K' x s:=by
 intro x s h
 cases x with
 | norm=>exact h2 _ s h
 | exit n =>
   simp only [blkK] at h ⊢
   split
   ·rename_i e; simp only [e,if_true] at h; exact h2 _ s h
   ·rename_i e; simp only [e,if_false] at h; exact h2 _ s h
 | ret=>exact h2 _ s h
theorem aLi {P:Program} {n:Nat} {wr:List Nat}:∀ (c:C) {K K':X→St→Prop} {s:St},awpC P n wr c K s→(∀ x s,K x s→K' x s)→awp P n c K' s:=by
 intro c
 induction c with
 | skip=>intro K K' s h hk; exact hk _ _ h
 | bad=>intro K K' s h hk; exact h.elim
 | ops d l=>intro K K' s h hk; exact aIe h fun s h=>hk _ _ h
 | seq a b iha ihb=>intro K K' s h hk; exact iha h (aGy (fun s h=>ihb h hk) hk)
 | seqc a b iha ihb =>
   intro K K' s h hk
   obtain ⟨M,h1,h2⟩:=h
   exact ⟨M,iha h1 (aGy (fun s h=>h) hk),fun s hs=>ihb (h2 s hs) hk⟩
 | cond x a b iha ihb =>
   intro K K' s h hk
   simp only [awpC] at h
   simp only [awp]
   split at h
   ·rename_i m t e
    simp only [e]
    exact ⟨fun e=>iha (h.1 e) hk,fun e=>ihb (h.2 e) hk⟩
   ·rename_i m t e
    simp only [e]
    split at h
    ·rename_i e2; simp only [e2,if_true]; exact iha h hk
    ·rename_i e2; simp only [e2]; exact ihb h hk
   ·exact h.elim
 | block id a iha=>intro K K' s h hk; exact iha h (aYy hk)
 | loop a iha =>
   intro K K' s h hk
   obtain ⟨J,h0,h1⟩:=h
   exact ⟨J,h0,fun m s hj=>iha (h1 m s hj) (aGy (fun s h=>h) hk)⟩
 | exit id=>intro K K' s h hk; exact hk _ _ h
 | ret=>intro K K' s h hk; exact hk _ _ h
 | gh g a iha=>intro K K' s h hk; exact aJm h fun s h=>iha h hk
 | gha g a iha=>intro K K' s h hk; exact iha h (aGy (fun s h=>aJm h fun s h=>hk _ _ h) hk)
theorem ptrC {P:Program} {n f:Nat} {rs:List RV} {c:C} (wr:List Nat) {args:List V} {r:V} (hf:Fn P f n rs c) (hn:args.length≤n) (hi:r.imm=true)
 (h:awpC P n wr c (endK rs fun r' L' _=>view L' 3 r'=r) (.enter args (fun _=>none) 0)):PTr P f args r :=
 bLo hf hn hi (aLi c h fun _ _ h=>h)
theorem aCo {P:Program} {n f:Nat} {rs:List RV} {c:C} (wr:List Nat) {args:List V} {L:Heap} {nx:Nat} {post:V→Heap→Nat→Prop} (hf:Fn P f n rs c) (hn:args.length≤n)
 (h:awpC P n wr c (endK rs fun r L' nx'=>nx≤nx'∧post r L' nx') (.enter args L nx)):ECall P f args L nx post :=
 aIy hf hn (aLi c h fun _ _ h=>h)
end Go.Ab
namespace Go.Ab
theorem bMm {P:Program} {wr:List Nat} {s:St} {K:St→Prop} {d x}:aAg P wr (.mov d x) s K=(K (s.setO d (s.ev x))):=by unfold aAg aAa; rfl
def aLk (d:Option Nat) (a:V) (b:V) (a1:V) (s:St) (K:St→Prop):Prop :=
 match a1 with
 | .bool t=>K (s.setO d (if t then a else b))
 | _=>False
theorem bJ4 {P:Program} {wr:List Nat} {s:St} {K:St→Prop} {d c a b}:aAg P wr (.pick d c a b) s K=aLk d (s.ev a) (s.ev b) (s.ev c) s K:=by unfold aAg aAa aLk ; rfl
def aVv (d:Option Nat) (neg:Bool) (ks:List Nat) (a1:V) (a2:V) (s:St) (K:St→Prop):Prop :=
 match a1,a2 with
 | .agg a,.agg b=>∃ t,aAo ks a b=some t∧K (s.setO d (.bool (t != neg)))
 | _,_=>False
theorem bM1 {P:Program} {wr:List Nat} {s:St} {K:St→Prop} {d neg ks x y}:aAg P wr (.eqA d neg ks x y) s K=aVv d neg ks (s.ev x) (s.ev y) s K:=by unfold aAg aAa aVv ; rfl
def aTk (d:Option Nat) (neg:Bool) (a1:V) (a2:V) (s:St) (K:St→Prop):Prop :=
 match a1,a2 with
 | .bool a,.bool b=>K (s.setO d (.bool ((a==b) != neg)))
 | _,_=>False
theorem bMs {P:Program} {wr:List Nat} {s:St} {K:St→Prop} {d neg x y}:aAg P wr (.eqB d neg x y) s K=aTk d neg (s.ev x) (s.ev y) s K:=by unfold aAg aAa aTk ; rfl
theorem bBb {s:St} {K:St→Prop} {d neg a b}:aTk d neg (.bool a) (.bool b) s K=(K (s.setO d (.bool ((a==b) != neg)))):=by unfold aTk; rfl
def aBc (d:Option Nat) (neg:Bool) (a1:Nat) (a2:V) (s:St) (K:St→Prop):Prop :=
 match a1,a2 with
 | 0,.nilp=>K (s.setO d (.bool !neg))
 | 1,.nils=>K (s.setO d (.bool !neg))
 | 2,.nilm=>K (s.setO d (.bool !neg))
 | 0,.ptr q0 q1=>K (s.setO d (.bool neg))
 | 0,.eptr q0 q1 q2=>K (s.setO d (.bool neg))
 | 0,.cptr q0=>K (s.setO d (.bool neg))
 | 2,.map q0=>K (s.setO d (.bool neg))
 | 1,.lst q0 es=>0<es.length∧K (s.setO d (.bool neg))
 | 1,.own q0 q1 q2 len=>0<len∧K (s.setO d (.bool neg))
 | _,_=>False
theorem bHg {P:Program} {wr:List Nat} {s:St} {K:St→Prop} {d neg kd x}:aAg P wr (.isnil d neg kd x) s K=aBc d neg (kd) (s.ev x) s K:=by unfold aAg aAa aBc ; rfl
theorem aTy {s:St} {K:St→Prop} {d neg}:aBc d neg (0) (.nilp) s K=(K (s.setO d (.bool !neg))):=by unfold aBc; rfl
theorem aUj {s:St} {K:St→Prop} {d neg}:aBc d neg (1) (.nils) s K=(K (s.setO d (.bool !neg))):=by unfold aBc; rfl
theorem aU3 {s:St} {K:St→Prop} {d neg}:aBc d neg (2) (.nilm) s K=(K (s.setO d (.bool !neg))):=by unfold aBc; rfl
theorem aT1 {s:St} {K:St→Prop} {d neg q0 q1}:aBc d neg (0) (.ptr q0 q1) s K=(K (s.setO d (.bool neg))):=by unfold aBc; rfl
theorem aVw {s:St} {K:St→Prop} {d neg q0 q1 q2}:aBc d neg (0) (.eptr q0 q1 q2) s K=(K (s.setO d (.bool neg))):=by unfold aBc; rfl
theorem aTj {s:St} {K:St→Prop} {d neg q0}:aBc d neg (0) (.cptr q0) s K=(K (s.setO d (.bool neg))):=by unfold aBc; rfl
theorem aUr {s:St} {K:St→Prop} {d neg q0}:aBc d neg (2) (.map q0) s K=(K (s.setO d (.bool neg))):=by unfold aBc; rfl
theorem aU5 {s:St} {K:St→Prop} {d neg q0 es}:aBc d neg (1) (.lst q0 es) s K=(0<es.length∧K (s.setO d (.bool neg))):=by unfold aBc; rfl
theorem aVo {s:St} {K:St→Prop} {d neg q0 q1 q2 len}:aBc d neg (1) (.own q0 q1 q2 len) s K=(0<len∧K (s.setO d (.bool neg))):=by unfold aBc; rfl
def aV2 (d:Option Nat) (a1:V) (s:St) (K:St→Prop):Prop :=
 match a1 with
 | .str t=>K (s.setO d (.str t))
 | _=>False
theorem bM7 {P:Program} {wr:List Nat} {s:St} {K:St→Prop} {d x}:aAg P wr (.cvs d x) s K=aV2 d (s.ev x) s K:=by unfold aAg aAa aV2 ; rfl
theorem bBl {s:St} {K:St→Prop} {d t}:aV2 d (.str t) s K=(K (s.setO d (.str t))):=by unfold aV2; rfl
theorem bH7 {P:Program} {wr:List Nat} {s:St} {K:St→Prop} {d zero parts}:aAg P wr (.build d zero parts) s K=((∀ p∈parts,(s.ev p.2.2).ncells=some p.2.1)∧K (s.setO d (.agg (parts.foldl (fun cs p=>aBm cs p.1 (s.ev p.2.2).cells) zero)))):=by unfold aAg aAa; rfl
def aHz (d:Option Nat) (off:Nat) (sz:Nat) (ag:Bool) (a1:V) (s:St) (K:St→Prop):Prop :=
 match a1 with
 | .agg cs=>off+sz≤cs.length∧K (s.setO d (pack ag ((cs.drop off).take sz)))
 | _=>False
theorem bF9 {P:Program} {wr:List Nat} {s:St} {K:St→Prop} {d off sz ag x}:aAg P wr (.field d off sz ag x) s K=aHz d off sz ag (s.ev x) s K:=by unfold aAg aAa aHz ; rfl
theorem aUh {s:St} {K:St→Prop} {d off sz ag cs}:aHz d off sz ag (.agg cs) s K=(off+sz≤cs.length∧K (s.setO d (pack ag ((cs.drop off).take sz)))):=by unfold aHz; rfl
def aVs (d:Option Nat) (i:Nat) (a1:V) (s:St) (K:St→Prop):Prop :=
 match a1 with
 | .tup cs=>i<cs.length∧K (s.setO d (cs.getD i .junk))
 | _=>False
theorem bL3 {P:Program} {wr:List Nat} {s:St} {K:St→Prop} {d i x}:aAg P wr (.ext d i x) s K=aVs d i (s.ev x) s K:=by unfold aAg aAa aVs ; rfl
theorem bCb {s:St} {K:St→Prop} {d i cs}:aVs d i (.tup cs) s K=(i<cs.length∧K (s.setO d (cs.getD i .junk))):=by unfold aVs; rfl
def aTu (d:Option Nat) (a1:V) (a2:V) (s:St) (K:St→Prop):Prop :=
 match a1,a2 with
 | .str t,.int q0 n=>0≤n∧n.toNat<t.length∧K (s.setO d (.int .u8 (t.getD n.toNat 0).toNat))
 | _,_=>False
theorem bO5 {P:Program} {wr:List Nat} {s:St} {K:St→Prop} {d x i}:aAg P wr (.idx d x i) s K=aTu d (s.ev x) (s.ev i) s K:=by unfold aAg aAa aTu ; rfl
theorem bB3 {s:St} {K:St→Prop} {d t q0 n}:aTu d (.str t) (.int q0 n) s K=(0≤n∧n.toNat<t.length∧K (s.setO d (.int .u8 (t.getD n.toNat 0).toNat))):=by unfold aTu; rfl
def aLl (d:Option Nat) (n:Nat) (sz:Nat) (ag:Bool) (a1:V) (a2:V) (s:St) (K:St→Prop):Prop :=
 match a1,a2 with
 | .agg cs,.int q0 j=>0≤j∧j<n∧n*sz≤cs.length∧K (s.setO d (pack ag ((cs.drop (j.toNat*sz)).take sz)))
 | _,_=>False
theorem bKk {P:Program} {wr:List Nat} {s:St} {K:St→Prop} {d n sz ag x i}:aAg P wr (.idxA d n sz ag x i) s K=aLl d n sz ag (s.ev x) (s.ev i) s K:=by unfold aAg aAa aLl ; rfl
theorem aXq {s:St} {K:St→Prop} {d n sz ag cs q0 j}:aLl d n sz ag (.agg cs) (.int q0 j) s K=(0≤j∧j<n∧n*sz≤cs.length∧K (s.setO d (pack ag ((cs.drop (j.toNat*sz)).take sz)))):=by unfold aLl; rfl
def aK4 (d:Option Nat) (lo:Option V) (hi:Option V) (a1:V) (s:St) (K:St→Prop):Prop :=
 match a1 with
 | .str t=>aBb lo 0 fun l=>aBb hi t.length fun h=>l≤h∧h≤t.length∧K (s.setO d (.str ((t.take h).drop l)))
 | _=>False
theorem bIj {P:Program} {wr:List Nat} {s:St} {K:St→Prop} {d x lo hi}:aAg P wr (.slcS d x lo hi) s K=aK4 d (lo.map s.ev) (hi.map s.ev) (s.ev x) s K:=by unfold aAg aAa aK4 ; rfl
def aKu (d:Option Nat) (sz:Nat) (lo:Option V) (hi:Option V) (a1:V) (s:St) (K:St→Prop):Prop :=
 match a1 with
 | .nils=>aBb lo 0 fun l=>aBb hi 0 fun h=>l≤h∧h≤0∧K (s.setO d .nils)
 | .lst sz' es=>sz'=sz∧aBb lo 0 fun l=>aBb hi es.length fun h=>l≤h∧h≤es.length∧K (s.setO d (.lst sz ((es.take h).drop l)))
 | .own id sz' off n=>sz'=sz∧aBb lo 0 fun l=>aBb hi n fun h=>l≤h∧h≤n∧K (s.setO d (.own id sz (off+l) (h-l)))
 | _=>False
theorem bM5 {P:Program} {wr:List Nat} {s:St} {K:St→Prop} {d sz x lo hi}:aAg P wr (.slc d sz x lo hi) s K=aKu d sz (lo.map s.ev) (hi.map s.ev) (s.ev x) s K:=by unfold aAg aAa aKu ; rfl
def aG4 (d:Option Nat) (a1:Bool) (a2:V) (s:St) (K:St→Prop):Prop :=
 match a1,a2 with
 | true,.str t=>K (s.setO d (.int .i64 t.length))
 | false,.nils=>K (s.setO d (.int .i64 0))
 | false,.lst q0 es=>K (s.setO d (.int .i64 es.length))
 | false,.own q0 q1 q2 n=>K (s.setO d (.int .i64 n))
 | _,_=>False
theorem bPb {P:Program} {wr:List Nat} {s:St} {K:St→Prop} {d st x}:aAg P wr (.len d st x) s K=aG4 d (st) (s.ev x) s K:=by unfold aAg aAa aG4 ; rfl
theorem bBt {s:St} {K:St→Prop} {d t}:aG4 d (true) (.str t) s K=(K (s.setO d (.int .i64 t.length))):=by unfold aG4; rfl
theorem bA6 {s:St} {K:St→Prop} {d}:aG4 d (false) (.nils) s K=(K (s.setO d (.int .i64 0))):=by unfold aG4; rfl
theorem bAz {s:St} {K:St→Prop} {d q0 es}:aG4 d (false) (.lst q0 es) s K=(K (s.setO d (.int .i64 es.length))):=by unfold aG4; rfl
theorem bDl {s:St} {K:St→Prop} {d q0 q1 q2 n}:aG4 d (false) (.own q0 q1 q2 n) s K=(K (s.setO d (.int .i64 n))):=by unfold aG4; rfl
def aF9 (d:Option Nat) (off:Nat) (a1:V) (s:St) (K:St→Prop):Prop :=
 match a1 with
 | .cptr cs=>K (s.setO d (.cptr (cs.drop off)))
 | .ptr id o=>K (s.setO d (.ptr id (o+off)))
 | .eptr id i j=>K (s.setO d (.eptr id i (j+off)))
 | _=>False
theorem bLi {P:Program} {wr:List Nat} {s:St} {K:St→Prop} {d off x}:aAg P wr (.fadr d off x) s K=aF9 d off (s.ev x) s K:=by unfold aAg aAa aF9 ; rfl
theorem aWv {s:St} {K:St→Prop} {d off cs}:aF9 d off (.cptr cs) s K=(K (s.setO d (.cptr (cs.drop off)))):=by unfold aF9; rfl
theorem aZs {s:St} {K:St→Prop} {d off id o}:aF9 d off (.ptr id o) s K=(K (s.setO d (.ptr id (o+off)))):=by unfold aF9; rfl
theorem aYk {s:St} {K:St→Prop} {d off id i j}:aF9 d off (.eptr id i j) s K=(K (s.setO d (.eptr id i (j+off)))):=by unfold aF9; rfl
def aGc (d:Option Nat) (sz:Nat) (a1:V) (a2:V) (s:St) (K:St→Prop):Prop :=
 match a1,a2 with
 | .lst sz' es,.int q0 n=>sz'=sz∧0≤n∧n.toNat<es.length∧K (s.setO d (.cptr (es.getD n.toNat .junk).cells))
 | .own id sz' off len,.int q0 n=>sz'=sz∧0≤n∧n.toNat<len∧K (s.setO d (.eptr id (off+n.toNat) 0))
 | _,_=>False
theorem bLj {P:Program} {wr:List Nat} {s:St} {K:St→Prop} {d sz x i}:aAg P wr (.iadr d sz x i) s K=aGc d sz (s.ev x) (s.ev i) s K:=by unfold aAg aAa aGc ; rfl
theorem aZl {s:St} {K:St→Prop} {d sz sz' es q0 n}:aGc d sz (.lst sz' es) (.int q0 n) s K=(sz'=sz∧0≤n∧n.toNat<es.length∧K (s.setO d (.cptr (es.getD n.toNat .junk).cells))):=by unfold aGc; rfl
theorem aXx {s:St} {K:St→Prop} {d sz id sz' off len q0 n}:aGc d sz (.own id sz' off len) (.int q0 n) s K=(sz'=sz∧0≤n∧n.toNat<len∧K (s.setO d (.eptr id (off+n.toNat) 0))):=by unfold aGc; rfl
def aFo (d:Option Nat) (n:Nat) (sz:Nat) (a1:V) (a2:V) (s:St) (K:St→Prop):Prop :=
 match a1,a2 with
 | .cptr cs,.int q0 j=>0≤j∧j<n∧K (s.setO d (.cptr (cs.drop (j.toNat*sz))))
 | .ptr id o,.int q0 j=>0≤j∧j<n∧K (s.setO d (.ptr id (o+j.toNat*sz)))
 | _,_=>False
theorem bHo {P:Program} {wr:List Nat} {s:St} {K:St→Prop} {d n sz x i}:aAg P wr (.iadrA d n sz x i) s K=aFo d n sz (s.ev x) (s.ev i) s K:=by unfold aAg aAa aFo ; rfl
theorem aTf {s:St} {K:St→Prop} {d n sz cs q0 j}:aFo d n sz (.cptr cs) (.int q0 j) s K=(0≤j∧j<n∧K (s.setO d (.cptr (cs.drop (j.toNat*sz))))):=by unfold aFo; rfl
theorem aUm {s:St} {K:St→Prop} {d n sz id o q0 j}:aFo d n sz (.ptr id o) (.int q0 j) s K=(0≤j∧j<n∧K (s.setO d (.ptr id (o+j.toNat*sz)))):=by unfold aFo; rfl
def aEj (d:Option Nat) (a1:V) (s:St) (K:St→Prop):Prop :=
 match a1 with
 | .cptr cs=>K (s.setO d (.cptr cs))
 | .ptr id o=>K (s.setO d (.ptr id o))
 | .eptr id i j=>K (s.setO d (.eptr id i j))
 | .fn f cs=>K (s.setO d (.fn f cs))
 | _=>False
theorem bLw {P:Program} {wr:List Nat} {s:St} {K:St→Prop} {d x}:aAg P wr (.nchk d x) s K=aEj d (s.ev x) s K:=by unfold aAg aAa aEj ; rfl
theorem aYl {s:St} {K:St→Prop} {d cs}:aEj d (.cptr cs) s K=(K (s.setO d (.cptr cs))):=by unfold aEj; rfl
theorem aWo {s:St} {K:St→Prop} {d id o}:aEj d (.ptr id o) s K=(K (s.setO d (.ptr id o))):=by unfold aEj; rfl
theorem bAv {s:St} {K:St→Prop} {d id i j}:aEj d (.eptr id i j) s K=(K (s.setO d (.eptr id i j))):=by unfold aEj; rfl
theorem aZn {s:St} {K:St→Prop} {d f cs}:aEj d (.fn f cs) s K=(K (s.setO d (.fn f cs))):=by unfold aEj; rfl
def aE2 (d:Option Nat) (c:Bool) (sz:Nat) (ag:Bool) (id:Nat) (o:Nat) (bl:Option Blk) (s:St) (K:St→Prop):Prop :=
 match bl with
  | some (.box _ cs)=>c=false∧o+sz≤cs.length∧K (s.setO d (pack ag ((cs.drop o).take sz)))
  | _=>False
def aEo (d:Option Nat) (c:Bool) (sz:Nat) (ag:Bool) (id:Nat) (i:Nat) (j:Nat) (bl:Option Blk) (s:St) (K:St→Prop):Prop :=
 match bl with
  | some (.vec _ sz' es)=>c=false∧i<es.length∧j+sz≤sz'∧K (s.setO d (pack ag (((es.getD i .junk).cells.drop j).take sz)))
  | _=>False
def aFi (d:Option Nat) (c:Bool) (sz:Nat) (ag:Bool) (a1:V) (s:St) (K:St→Prop):Prop :=
 match a1 with
 | .cptr cs=>sz≤cs.length∧K (s.setO d (pack ag (cs.take sz)))
 | .ptr id o=>aE2 d c sz ag id o (s.L id) s K
 | .eptr id i j=>aEo d c sz ag id i j (s.L id) s K
 | _=>False
theorem bJm {P:Program} {wr:List Nat} {s:St} {K:St→Prop} {d c sz ag x}:aAg P wr (.load d c sz ag x) s K=aFi d c sz ag (s.ev x) s K:=by unfold aAg aAa aFi aE2 aEo; rfl
theorem aYe {s:St} {K:St→Prop} {d c sz ag cs}:aFi d c sz ag (.cptr cs) s K=(sz≤cs.length∧K (s.setO d (pack ag (cs.take sz)))):=by unfold aFi; rfl
theorem aU9 {s:St} {K:St→Prop} {d c sz ag id o r0 cs}:aE2 d c sz ag id o (some (.box r0 cs)) s K=(c=false∧o+sz≤cs.length∧K (s.setO d (pack ag ((cs.drop o).take sz)))):=by unfold aE2; rfl
theorem aXa {s:St} {K:St→Prop} {d c sz ag id o}:aFi d c sz ag (.ptr id o) s K=(aE2 d c sz ag id o (s.L id) s K):=by unfold aFi; rfl
theorem aUk {s:St} {K:St→Prop} {d c sz ag id i j r0 sz' es}:aEo d c sz ag id i j (some (.vec r0 sz' es)) s K=(c=false∧i<es.length∧j+sz≤sz'∧K (s.setO d (pack ag (((es.getD i .junk).cells.drop j).take sz)))):=by unfold aEo; rfl
theorem aZq {s:St} {K:St→Prop} {d c sz ag id i j}:aFi d c sz ag (.eptr id i j) s K=(aEo d c sz ag id i j (s.L id) s K):=by unfold aFi; rfl
def aDq (sz:Nat) (v:V) (id:Nat) (o:Nat) (bl:Option Blk) (s:St) (K:St→Prop):Prop :=
 match bl with
  | some (.box ty cs)=>(v).ncells=some sz∧o+sz≤cs.length∧K (s.put id (.box ty (aBm cs o (v).cells)))
  | _=>False
def aDu (sz:Nat) (v:V) (id:Nat) (i:Nat) (j:Nat) (bl:Option Blk) (s:St) (K:St→Prop):Prop :=
 match bl with
  | some (.vec ty sz' es)=>(v).ncells=some sz∧i<es.length∧j+sz≤sz'∧K (s.put id (.vec ty sz' (es.set i ((es.getD i .junk).recell (aBm (es.getD i .junk).cells j (v).cells)))))
  | _=>False
def aDs (sz:Nat) (v:V) (a1:V) (s:St) (K:St→Prop):Prop :=
 match a1 with
 | .ptr id o=>aDq sz v id o (s.L id) s K
 | .eptr id i j=>aDu sz v id i j (s.L id) s K
 | _=>False
theorem bHd {P:Program} {wr:List Nat} {s:St} {K:St→Prop} {sz x v}:aAg P wr (.store sz x v) s K=aDs sz (s.ev v) (s.ev x) s K:=by unfold aAg aAa aDs aDq aDu; rfl
theorem aRa {s:St} {K:St→Prop} {sz v id o ty cs}:aDq sz v id o (some (.box ty cs)) s K=((v).ncells=some sz∧o+sz≤cs.length∧K (s.put id (.box ty (aBm cs o (v).cells)))):=by unfold aDq; rfl
theorem aUb {s:St} {K:St→Prop} {sz v id o}:aDs sz v (.ptr id o) s K=(aDq sz v id o (s.L id) s K):=by unfold aDs; rfl
theorem aP8 {s:St} {K:St→Prop} {sz v id i j ty sz' es}:aDu sz v id i j (some (.vec ty sz' es)) s K=((v).ncells=some sz∧i<es.length∧j+sz≤sz'∧K (s.put id (.vec ty sz' (es.set i ((es.getD i .junk).recell (aBm (es.getD i .junk).cells j (v).cells)))))):=by unfold aDu; rfl
theorem aVg {s:St} {K:St→Prop} {sz v id i j}:aDs sz v (.eptr id i j) s K=(aDu sz v id i j (s.L id) s K):=by unfold aDs; rfl
theorem bOp {P:Program} {wr:List Nat} {s:St} {K:St→Prop} {nw sz x v}:aAg P wr (.stq nw sz x v) s K=(idq nw s.nx (s.ev x)∧aAg P wr (.store sz x v) s K):=by rfl
theorem bKm {nx id o:Nat}:idq true nx (.ptr id o)=(nx≤id):=by simp [idq]
theorem bLv {nx id o:Nat}:idq false nx (.ptr id o)=(id<nx):=by simp [idq]
theorem bKr {nx id o j:Nat}:idq true nx (.eptr id o j)=(nx≤id):=by simp [idq]
theorem bJs {nx id o j:Nat}:idq false nx (.eptr id o j)=(id<nx):=by simp [idq]
theorem bH9 {P:Program} {wr:List Nat} {s:St} {K:St→Prop} {d ty zero}:aAg P wr (.alloc d ty zero) s K=(K ((s.add (s.nx+d) (.box ty zero)).set d (.ptr (s.nx+d) 0))):=by unfold aAg aAa; rfl
theorem bMa {P:Program} {wr:List Nat} {s:St} {K:St→Prop} {d ty x}:aAg P wr (.box d ty x) s K=((s.ev x).ncells.isSome=true∧K ((s.add (s.nx+d) (.box ty (s.ev x).cells)).set d (.ptr (s.nx+d) 0))):=by unfold aAg aAa; rfl
theorem bN9 {P:Program} {wr:List Nat} {s:St} {K:St→Prop} {d sz parts}:aAg P wr (.mkl d sz parts) s K=((∀ p∈parts,(s.ev p).ncells=some sz)∧K (s.setO d (.lst sz (parts.map s.ev)))):=by unfold aAg aAa; rfl
theorem bOv {P:Program} {wr:List Nat} {s:St} {K:St→Prop} {d ty sz parts}:aAg P wr (.mkv d ty sz parts) s K=((∀ p∈parts,(s.ev p).ncells=some sz)∧K ((s.add (s.nx+d) (.vec ty sz (parts.map s.ev))).set d (.own (s.nx+d) sz 0 parts.length))):=by unfold aAg aAa; rfl
def aUa (n:Nat) (ty:Nat) (sz:Nat) (a1:V) (s:St) (K:St→Prop):Prop :=
 match a1 with
 | .int .i64 m=>0≤m∧m≤1073741824∧K ((s.add (s.nx+n) (.vec ty sz [])).set n (.own (s.nx+n) sz 0 0))
 | _=>False
theorem bO2 {P:Program} {wr:List Nat} {s:St} {K:St→Prop} {n ty sz x}:aAg P wr (.mk0 n ty sz x) s K=aUa n ty sz (s.ev x) s K:=by unfold aAg aAa aUa ; rfl
theorem bBs {s:St} {K:St→Prop} {n ty sz m}:aUa n ty sz (.int .i64 m) s K=(0≤m∧m≤1073741824∧K ((s.add (s.nx+n) (.vec ty sz [])).set n (.own (s.nx+n) sz 0 0))):=by unfold aUa; rfl
def aHl (d:Option Nat) (neg:Bool) (a1:V) (a2:V) (s:St) (K:St→Prop):Prop :=
 match a1,a2 with
 | .ptr i o,.ptr j q=>i=j∧o=q∧K (s.setO d (.bool !neg))
 | _,_=>False
theorem bH5 {P:Program} {wr:List Nat} {s:St} {K:St→Prop} {d neg x y}:aAg P wr (.ptreq d neg x y) s K=aHl d neg (s.ev x) (s.ev y) s K:=by unfold aAg aAa aHl ; rfl
theorem aUn {s:St} {K:St→Prop} {d neg i o j q}:aHl d neg (.ptr i o) (.ptr j q) s K=(i=j∧o=q∧K (s.setO d (.bool !neg))):=by unfold aHl; rfl
def aDk (d:Option Nat) (id:Nat) (o:Nat) (bl:Option Blk) (s:St) (K:St→Prop):Prop :=
 match bl with
  | some (.box _ cs)=>o<cs.length∧K (s.setO d (.ptr id o))
  | _=>False
def aH0 (d:Option Nat) (a1:V) (s:St) (K:St→Prop):Prop :=
 match a1 with
 | .ptr id o=>aDk d id o (s.L id) s K
 | _=>False
theorem bF8 {P:Program} {wr:List Nat} {s:St} {K:St→Prop} {d x}:aAg P wr (.touns d x) s K=aH0 d (s.ev x) s K:=by unfold aAg aAa aH0 aDk; rfl
theorem aQ4 {s:St} {K:St→Prop} {d id o r0 cs}:aDk d id o (some (.box r0 cs)) s K=(o<cs.length∧K (s.setO d (.ptr id o))):=by unfold aDk; rfl
theorem aU0 {s:St} {K:St→Prop} {d id o}:aH0 d (.ptr id o) s K=(aDk d id o (s.L id) s K):=by unfold aH0; rfl
def aCs (d:Option Nat) (u:Nat) (z:Nat) (id:Nat) (o:Nat) (bl:Option Blk) (s:St) (K:St→Prop):Prop :=
 match bl with
  | some (.box ty cs)=>o=0∧ty=u∧cs.length=z∧K (s.setO d (.ptr id 0))
  | _=>False
def aFw (d:Option Nat) (u:Nat) (z:Nat) (a1:V) (s:St) (K:St→Prop):Prop :=
 match a1 with
 | .ptr id o=>aCs d u z id o (s.L id) s K
 | _=>False
theorem bCf {P:Program} {wr:List Nat} {s:St} {K:St→Prop} {d u z x}:aAg P wr (.frouns d u z x) s K=aFw d u z (s.ev x) s K:=by unfold aAg aAa aFw aCs; rfl
theorem aPj {s:St} {K:St→Prop} {d u z id o ty cs}:aCs d u z id o (some (.box ty cs)) s K=(o=0∧ty=u∧cs.length=z∧K (s.setO d (.ptr id 0))):=by unfold aCs; rfl
theorem aRq {s:St} {K:St→Prop} {d u z id o}:aFw d u z (.ptr id o) s K=(aCs d u z id o (s.L id) s K):=by unfold aFw; rfl
def aFb (d:Option Nat) (a1:V) (s:St) (K:St→Prop):Prop :=
 match a1 with
 | .nils=>K (s.setO d .nilp)
 | .own id q0 off n=>0<n∧K (s.setO d (.eptr id off 0))
 | _=>False
theorem bFe {P:Program} {wr:List Nat} {s:St} {K:St→Prop} {d x}:aAg P wr (.sdata d x) s K=aFb d (s.ev x) s K:=by unfold aAg aAa aFb ; rfl
theorem aTz {s:St} {K:St→Prop} {d}:aFb d (.nils) s K=(K (s.setO d .nilp)):=by unfold aFb; rfl
theorem aTe {s:St} {K:St→Prop} {d q0 id off n}:aFb d (.own id q0 off n) s K=(0<n∧K (s.setO d (.eptr id off 0))):=by unfold aFb; rfl
def aEu (d:Option Nat) (ty:Nat) (id:Nat) (i:Nat) (j:Nat) (m:Int) (bl:Option Blk) (s:St) (K:St→Prop):Prop :=
 match bl with
  | some (.vec ty' sz es)=>ty'=ty∧sz=1∧i=0∧j=0∧0<m∧m.toNat≤es.length∧∃ bs,es.take m.toNat=aAr bs∧K ((s.drop id).setO d (.str bs))
  | _=>False
def aIl (d:Option Nat) (ty:Nat) (a1:V) (a2:V) (s:St) (K:St→Prop):Prop :=
 match a1,a2 with
 | .nilp,.int .i64 m=>m=0∧K (s.setO d (.str []))
 | .eptr id i j,.int .i64 m=>aEu d ty id i j m (s.L id) s K
 | _,_=>False
theorem bJ3 {P:Program} {wr:List Nat} {s:St} {K:St→Prop} {d ty x y}:aAg P wr (.ustr d ty x y) s K=aIl d ty (s.ev x) (s.ev y) s K:=by unfold aAg aAa aIl aEu; rfl
theorem aYn {s:St} {K:St→Prop} {d ty m}:aIl d ty (.nilp) (.int .i64 m) s K=(m=0∧K (s.setO d (.str []))):=by unfold aIl; rfl
theorem aVl {s:St} {K:St→Prop} {d ty id i j m ty' sz es}:aEu d ty id i j m (some (.vec ty' sz es)) s K=(ty'=ty∧sz=1∧i=0∧j=0∧0<m∧m.toNat≤es.length∧∃ bs,es.take m.toNat=aAr bs∧K ((s.drop id).setO d (.str bs))):=by unfold aEu; rfl
theorem aW7 {s:St} {K:St→Prop} {d ty id i j m}:aIl d ty (.eptr id i j) (.int .i64 m) s K=(aEu d ty id i j m (s.L id) s K):=by unfold aIl; rfl
def aId (n:Nat) (ty:Nat) (sz:Nat) (a1:V) (s:St) (K:St→Prop):Prop :=
 match a1 with
 | .nils=>K ((s.add (s.nx+n) (.vec ty sz [])).set n (.own (s.nx+n) sz 0 0))
 | .lst sz' es=>sz'=sz∧es.length≤2^32∧K ((s.add (s.nx+n) (.vec ty sz es)).set n (.own (s.nx+n) sz 0 es.length))
 | _=>False
theorem bK3 {P:Program} {wr:List Nat} {s:St} {K:St→Prop} {n ty sz x}:aAg P wr (.appl n ty sz x) s K=aId n ty sz (s.ev x) s K:=by unfold aAg aAa aId ; rfl
theorem aYm {s:St} {K:St→Prop} {n ty sz}:aId n ty sz (.nils) s K=(K ((s.add (s.nx+n) (.vec ty sz [])).set n (.own (s.nx+n) sz 0 0))):=by unfold aId; rfl
theorem aZz {s:St} {K:St→Prop} {n ty sz sz' es}:aId n ty sz (.lst sz' es) s K=(sz'=sz∧es.length≤2^32∧K ((s.add (s.nx+n) (.vec ty sz es)).set n (.own (s.nx+n) sz 0 es.length))):=by unfold aId; rfl
def aUc (n:Nat) (ty:Nat) (a1:V) (s:St) (K:St→Prop):Prop :=
 match a1 with
 | .str t=>K ((s.add (s.nx+n) (.vec ty 1 (aAr t))).set n (.own (s.nx+n) 1 0 t.length))
 | _=>False
theorem bMw {P:Program} {wr:List Nat} {s:St} {K:St→Prop} {n ty x}:aAg P wr (.s2b n ty x) s K=aUc n ty (s.ev x) s K:=by unfold aAg aAa aUc ; rfl
theorem bCw {s:St} {K:St→Prop} {n ty t}:aUc n ty (.str t) s K=(K ((s.add (s.nx+n) (.vec ty 1 (aAr t))).set n (.own (s.nx+n) 1 0 t.length))):=by unfold aUc; rfl
theorem bMd {P:Program} {wr:List Nat} {s:St} {K:St→Prop} {d x}:aAg P wr (.b2s d x) s K=(aNe (s.ev x)∧aAp 1 s.L (s.ev x) fun ys=>∃ bs,ys=aAr bs∧K (s.setO d (.str bs))):=by unfold aAg aAa; rfl
theorem bKp {P:Program} {wr:List Nat} {s:St} {K:St→Prop} {d f caps}:aAg P wr (.clos d f caps) s K=(K (s.setO d (.fn f (caps.map s.ev)))):=by unfold aAg aAa; rfl
theorem bMb {P:Program} {wr:List Nat} {s:St} {K:St→Prop} {d}:aAg P wr (.mkm d) s K=(K ((s.add (s.nx+d) (.map 0 [])).set d (.map (s.nx+d)))):=by unfold aAg aAa; rfl
def v_mx (d:Option Nat) (isMax:Bool) (a1:V) (a2:V) (s:St) (K:St→Prop):Prop :=
 match a1,a2 with
 | .int k a,.int k' b=>k=k'∧K (s.setO d (.int k (mxI isMax a b)))
 | _,_=>False
theorem x_mx {P:Program} {wr:List Nat} {s:St} {K:St→Prop} {d isMax x y}:aAg P wr (.mx d isMax x y) s K=v_mx d isMax (s.ev x) (s.ev y) s K:=by unfold aAg aAa v_mx ; rfl
theorem bIc {s:St} {K:St→Prop} {d isMax k a k' b}:v_mx d isMax (.int k a) (.int k' b) s K=(k=k'∧K (s.setO d (.int k (mxI isMax a b)))):=by unfold v_mx; rfl
def aUq (d:Option Nat) (isMax:Bool) (a1:V) (a2:V) (a3:V) (s:St) (K:St→Prop):Prop :=
 match a1,a2,a3 with
 | .int k a,.int k' b,.int k'' c=>k=k'∧k=k''∧K (s.setO d (.int k (mxI isMax (mxI isMax a b) c)))
 | _,_,_=>False
theorem bNd {P:Program} {wr:List Nat} {s:St} {K:St→Prop} {d isMax x y z}:aAg P wr (.mx3 d isMax x y z) s K=aUq d isMax (s.ev x) (s.ev y) (s.ev z) s K:=by unfold aAg aAa aUq ; rfl
theorem bD2 {s:St} {K:St→Prop} {d isMax k a k' b k'' c}:aUq d isMax (.int k a) (.int k' b) (.int k'' c) s K=(k=k'∧k=k''∧K (s.setO d (.int k (mxI isMax (mxI isMax a b) c)))):=by unfold aUq; rfl
theorem aPm {d:Option Nat} {a a':V} {b b':V} {a1 a1':V} {s s':St} {K:St→Prop} (ga:a=a') (gb:b=b') (h0:a1=a1') (h9:s=s'):aLk d a b a1 s K=aLk d a' b' a1' s' K:=by rw [ga,gb,h0,h9]
attribute [congr] aPm
theorem aPq {d:Option Nat} {neg:Bool} {ks:List Nat} {a1 a1':V} {a2 a2':V} {s s':St} {K:St→Prop}  (h0:a1=a1') (h1:a2=a2') (h9:s=s'):aVv d neg ks a1 a2 s K=aVv d neg ks a1' a2' s' K:=by rw [h0,h1,h9]
attribute [congr] aPq
theorem aP6 {d:Option Nat} {neg:Bool} {a1 a1':V} {a2 a2':V} {s s':St} {K:St→Prop}  (h0:a1=a1') (h1:a2=a2') (h9:s=s'):aTk d neg a1 a2 s K=aTk d neg a1' a2' s' K:=by rw [h0,h1,h9]
attribute [congr] aP6
theorem aMr {d:Option Nat} {neg:Bool} {a1 a1':Nat} {a2 a2':V} {s s':St} {K:St→Prop}  (h0:a1=a1') (h1:a2=a2') (h9:s=s'):aBc d neg a1 a2 s K=aBc d neg a1' a2' s' K:=by rw [h0,h1,h9]
attribute [congr] aMr
theorem aRs {d:Option Nat} {a1 a1':V} {s s':St} {K:St→Prop}  (h0:a1=a1') (h9:s=s'):aV2 d a1 s K=aV2 d a1' s' K:=by rw [h0,h9]
attribute [congr] aRs
theorem aMg {d:Option Nat} {off:Nat} {sz:Nat} {ag:Bool} {a1 a1':V} {s s':St} {K:St→Prop}  (h0:a1=a1') (h9:s=s'):aHz d off sz ag a1 s K=aHz d off sz ag a1' s' K:=by rw [h0,h9]
attribute [congr] aMg
theorem aQ5 {d:Option Nat} {i:Nat} {a1 a1':V} {s s':St} {K:St→Prop}  (h0:a1=a1') (h9:s=s'):aVs d i a1 s K=aVs d i a1' s' K:=by rw [h0,h9]
attribute [congr] aQ5
theorem aRg {d:Option Nat} {a1 a1':V} {a2 a2':V} {s s':St} {K:St→Prop}  (h0:a1=a1') (h1:a2=a2') (h9:s=s'):aTu d a1 a2 s K=aTu d a1' a2' s' K:=by rw [h0,h1,h9]
attribute [congr] aRg
theorem aN4 {d:Option Nat} {n:Nat} {sz:Nat} {ag:Bool} {a1 a1':V} {a2 a2':V} {s s':St} {K:St→Prop}  (h0:a1=a1') (h1:a2=a2') (h9:s=s'):aLl d n sz ag a1 a2 s K=aLl d n sz ag a1' a2' s' K:=by rw [h0,h1,h9]
attribute [congr] aN4
theorem aNh {d:Option Nat} {lo lo':Option V} {hi hi':Option V} {a1 a1':V} {s s':St} {K:St→Prop} (glo:lo=lo') (ghi:hi=hi') (h0:a1=a1') (h9:s=s'):aK4 d lo hi a1 s K=aK4 d lo' hi' a1' s' K:=by rw [glo,ghi,h0,h9]
attribute [congr] aNh
theorem aQm {d:Option Nat} {sz:Nat} {lo lo':Option V} {hi hi':Option V} {a1 a1':V} {s s':St} {K:St→Prop} (glo:lo=lo') (ghi:hi=hi') (h0:a1=a1') (h9:s=s'):aKu d sz lo hi a1 s K=aKu d sz lo' hi' a1' s' K:=by rw [glo,ghi,h0,h9]
attribute [congr] aQm
theorem aQ6 {d:Option Nat} {a1 a1':Bool} {a2 a2':V} {s s':St} {K:St→Prop}  (h0:a1=a1') (h1:a2=a2') (h9:s=s'):aG4 d a1 a2 s K=aG4 d a1' a2' s' K:=by rw [h0,h1,h9]
attribute [congr] aQ6
theorem aOi {d:Option Nat} {off:Nat} {a1 a1':V} {s s':St} {K:St→Prop}  (h0:a1=a1') (h9:s=s'):aF9 d off a1 s K=aF9 d off a1' s' K:=by rw [h0,h9]
attribute [congr] aOi
theorem aOf {d:Option Nat} {sz:Nat} {a1 a1':V} {a2 a2':V} {s s':St} {K:St→Prop}  (h0:a1=a1') (h1:a2=a2') (h9:s=s'):aGc d sz a1 a2 s K=aGc d sz a1' a2' s' K:=by rw [h0,h1,h9]
attribute [congr] aOf
theorem aMy {d:Option Nat} {n:Nat} {sz:Nat} {a1 a1':V} {a2 a2':V} {s s':St} {K:St→Prop}  (h0:a1=a1') (h1:a2=a2') (h9:s=s'):aFo d n sz a1 a2 s K=aFo d n sz a1' a2' s' K:=by rw [h0,h1,h9]
attribute [congr] aMy
theorem aOs {d:Option Nat} {a1 a1':V} {s s':St} {K:St→Prop}  (h0:a1=a1') (h9:s=s'):aEj d a1 s K=aEj d a1' s' K:=by rw [h0,h9]
attribute [congr] aOs
theorem aKn (d:Option Nat) (c:Bool) (sz:Nat) (ag:Bool) (id:Nat) (o:Nat) {bl bl':Option Blk} {s s':St} {K:St→Prop} (h1:bl=bl') (h2:s=s'):aE2 d c sz ag id o bl s K=aE2 d c sz ag id o bl' s' K:=by rw [h1,h2]
attribute [congr] aKn
theorem aKq (d:Option Nat) (c:Bool) (sz:Nat) (ag:Bool) (id:Nat) (i:Nat) (j:Nat) {bl bl':Option Blk} {s s':St} {K:St→Prop} (h1:bl=bl') (h2:s=s'):aEo d c sz ag id i j bl s K=aEo d c sz ag id i j bl' s' K:=by rw [h1,h2]
attribute [congr] aKq
theorem aNj {d:Option Nat} {c:Bool} {sz:Nat} {ag:Bool} {a1 a1':V} {s s':St} {K:St→Prop}  (h0:a1=a1') (h9:s=s'):aFi d c sz ag a1 s K=aFi d c sz ag a1' s' K:=by rw [h0,h9]
attribute [congr] aNj
theorem aJi (sz:Nat) (v:V) (id:Nat) (o:Nat) {bl bl':Option Blk} {s s':St} {K:St→Prop} (h1:bl=bl') (h2:s=s'):aDq sz v id o bl s K=aDq sz v id o bl' s' K:=by rw [h1,h2]
attribute [congr] aJi
theorem aJd (sz:Nat) (v:V) (id:Nat) (i:Nat) (j:Nat) {bl bl':Option Blk} {s s':St} {K:St→Prop} (h1:bl=bl') (h2:s=s'):aDu sz v id i j bl s K=aDu sz v id i j bl' s' K:=by rw [h1,h2]
attribute [congr] aJd
theorem aLw {sz:Nat} {v v':V} {a1 a1':V} {s s':St} {K:St→Prop} (gv:v=v') (h0:a1=a1') (h9:s=s'):aDs sz v a1 s K=aDs sz v' a1' s' K:=by rw [gv,h0,h9]
attribute [congr] aLw
theorem aQr {n:Nat} {ty:Nat} {sz:Nat} {a1 a1':V} {s s':St} {K:St→Prop}  (h0:a1=a1') (h9:s=s'):aUa n ty sz a1 s K=aUa n ty sz a1' s' K:=by rw [h0,h9]
attribute [congr] aQr
theorem aNc {d:Option Nat} {neg:Bool} {a1 a1':V} {a2 a2':V} {s s':St} {K:St→Prop}  (h0:a1=a1') (h1:a2=a2') (h9:s=s'):aHl d neg a1 a2 s K=aHl d neg a1' a2' s' K:=by rw [h0,h1,h9]
attribute [congr] aNc
theorem aJt (d:Option Nat) (id:Nat) (o:Nat) {bl bl':Option Blk} {s s':St} {K:St→Prop} (h1:bl=bl') (h2:s=s'):aDk d id o bl s K=aDk d id o bl' s' K:=by rw [h1,h2]
attribute [congr] aJt
theorem aLx {d:Option Nat} {a1 a1':V} {s s':St} {K:St→Prop}  (h0:a1=a1') (h9:s=s'):aH0 d a1 s K=aH0 d a1' s' K:=by rw [h0,h9]
attribute [congr] aLx
theorem aIr (d:Option Nat) (u:Nat) (z:Nat) (id:Nat) (o:Nat) {bl bl':Option Blk} {s s':St} {K:St→Prop} (h1:bl=bl') (h2:s=s'):aCs d u z id o bl s K=aCs d u z id o bl' s' K:=by rw [h1,h2]
attribute [congr] aIr
theorem aKm {d:Option Nat} {u:Nat} {z:Nat} {a1 a1':V} {s s':St} {K:St→Prop}  (h0:a1=a1') (h9:s=s'):aFw d u z a1 s K=aFw d u z a1' s' K:=by rw [h0,h9]
attribute [congr] aKm
theorem aM0 {d:Option Nat} {a1 a1':V} {s s':St} {K:St→Prop}  (h0:a1=a1') (h9:s=s'):aFb d a1 s K=aFb d a1' s' K:=by rw [h0,h9]
attribute [congr] aM0
theorem aKs (d:Option Nat) (ty:Nat) (id:Nat) (i:Nat) (j:Nat) (m:Int) {bl bl':Option Blk} {s s':St} {K:St→Prop} (h1:bl=bl') (h2:s=s'):aEu d ty id i j m bl s K=aEu d ty id i j m bl' s' K:=by rw [h1,h2]
attribute [congr] aKs
theorem aPd {d:Option Nat} {ty:Nat} {a1 a1':V} {a2 a2':V} {s s':St} {K:St→Prop}  (h0:a1=a1') (h1:a2=a2') (h9:s=s'):aIl d ty a1 a2 s K=aIl d ty a1' a2' s' K:=by rw [h0,h1,h9]
attribute [congr] aPd
theorem aNl {n:Nat} {ty:Nat} {sz:Nat} {a1 a1':V} {s s':St} {K:St→Prop}  (h0:a1=a1') (h9:s=s'):aId n ty sz a1 s K=aId n ty sz a1' s' K:=by rw [h0,h9]
attribute [congr] aNl
theorem aQ9 {n:Nat} {ty:Nat} {a1 a1':V} {s s':St} {K:St→Prop}  (h0:a1=a1') (h9:s=s'):aUc n ty a1 s K=aUc n ty a1' s' K:=by rw [h0,h9]
attribute [congr] aQ9
theorem aVb {d:Option Nat} {isMax:Bool} {a1 a1':V} {a2 a2':V} {s s':St} {K:St→Prop}  (h0:a1=a1') (h1:a2=a2') (h9:s=s'):v_mx d isMax a1 a2 s K=v_mx d isMax a1' a2' s' K:=by rw [h0,h1,h9]
attribute [congr] aVb
theorem aP1 {d:Option Nat} {isMax:Bool} {a1 a1':V} {a2 a2':V} {a3 a3':V} {s s':St} {K:St→Prop}  (h0:a1=a1') (h1:a2=a2') (h2:a3=a3') (h9:s=s'):aUq d isMax a1 a2 a3 s K=aUq d isMax a1' a2' a3' s' K:=by rw [h0,h1,h2,h9]
attribute [congr] aP1
theorem bJ6 {P:Program} {wr:List Nat} {n:Nat} {s:St} {K:X→St→Prop}  : awpC P n wr (.skip) K s=(K .norm s):=by conv=>lhs; unfold awpC
theorem bN1 {P:Program} {wr:List Nat} {n:Nat} {s:St} {K:X→St→Prop}  : awpC P n wr (.bad) K s=(False):=by conv=>lhs; unfold awpC
theorem bO9 {P:Program} {wr:List Nat} {n:Nat} {s:St} {K:X→St→Prop} {u0 l}:awpC P n wr (.ops u0 l) K s=(aFg P wr l s fun s=>K .norm (s.past n)):=by conv=>lhs; unfold awpC
theorem bOs {P:Program} {wr:List Nat} {n:Nat} {s:St} {K:X→St→Prop} {a b}:awpC P n wr (.seq a b) K s=(awpC P n wr a (seqK (awpC P n wr b K) K) s):=by conv=>lhs; unfold awpC
theorem bFm {P:Program} {wr:List Nat} {n:Nat} {s:St} {K:X→St→Prop} {id a}:awpC P n wr (.block id a) K s=(awpC P n wr a (blkK id K) s):=by conv=>lhs; unfold awpC
theorem bLb {P:Program} {wr:List Nat} {n:Nat} {s:St} {K:X→St→Prop} {id}:awpC P n wr (.exit id) K s=(K (.exit id) s):=by conv=>lhs; unfold awpC
theorem bM6 {P:Program} {wr:List Nat} {n:Nat} {s:St} {K:X→St→Prop}  : awpC P n wr (.ret) K s=(K .ret s):=by conv=>lhs; unfold awpC
theorem w_gh {P:Program} {wr:List Nat} {n:Nat} {s:St} {K:X→St→Prop} {g a}:awpC P n wr (.gh g a) K s=(aBl g s (awpC P n wr a K)):=by conv=>lhs; unfold awpC
theorem bMt {P:Program} {wr:List Nat} {n:Nat} {s:St} {K:X→St→Prop} {g a}:awpC P n wr (.gha g a) K s=(awpC P n wr a (seqK (fun s=>aBl g s (K .norm)) K) s):=by conv=>lhs; unfold awpC
theorem aPr {P:Program} {wr:List Nat} {s:St} {K:St→Prop}:aFg P wr [] s K=K s:=by unfold aFg; rfl
theorem aOd {P:Program} {wr:List Nat} {s:St} {K:St→Prop} {x:Grp} {r:List Grp}:aFg P wr (x::r) s K=aKr P wr x s fun s=>aFg P wr r s K:=by rw [aFg]
theorem aNf {P:Program} {wr:List Nat} {s:St} {K:St→Prop}:aCa P wr [] s K=K s:=by unfold aCa; rfl
theorem aMo {P:Program} {wr:List Nat} {s:St} {K:St→Prop} {x:I} {r:List I}:aCa P wr (x::r) s K=aAg P wr x s fun s=>aCa P wr r s K:=by rw [aCa]
theorem aQe {P:Program} {wr:List Nat} {s:St} {K:St→Prop} {l:List I}:aKr P wr ⟨none,l⟩ s K=aCa P wr l s K:=by unfold aKr; rfl
theorem aQ3 {P:Program} {wr:List Nat} {i:I} {s s':St} {K:St→Prop} (h:s=s'):aAg P wr i s K=aAg P wr i s' K:=by rw [h]
theorem aOv {P:Program} {wr:List Nat} {i:List I} {s s':St} {K:St→Prop} (h:s=s'):aCa P wr i s K=aCa P wr i s' K:=by rw [h]
theorem aQd {P:Program} {wr:List Nat} {i:List Grp} {s s':St} {K:St→Prop} (h:s=s'):aFg P wr i s K=aFg P wr i s' K:=by rw [h]
theorem aT6 {P:Program} {wr:List Nat} {i:Grp} {s s':St} {K:St→Prop} (h:s=s'):aKr P wr i s K=aKr P wr i s' K:=by rw [h]
theorem aZk {P:Program} {wr:List Nat} {n:Nat} {c:C} {K:X→St→Prop} {s s':St} (h:s=s'):awpC P n wr c K s=awpC P n wr c K s':=by rw [h]
theorem aNi {g:Gh} {K:St→Prop} {s s':St} (h:s=s'):aBl g s K=aBl g s' K:=by rw [h]
attribute [congr] aQ3 aOv aQd aT6 aZk aNi
inductive Tg.{u} {α:Sort u} (a:α):Type where
 | mk
def aFc (b:Bool) {A B:Prop} (_:Tg A) (_:Tg B):Prop:=(b=true→A)∧(b=false→B)
theorem aVd {A B:Prop} {x:Tg A} {y:Tg B}:aFc true x y=A:=by simp [aFc]
theorem aQy {A B:Prop} {x:Tg A} {y:Tg B}:aFc false x y=B:=by simp [aFc]
theorem aW8 {b:Bool} {A B:Prop} {x:Tg A} {y:Tg B}:aFc (!b) x y=aFc b y x:=by cases b <;> simp [aFc]
theorem aJc {b:Bool} {A B:Prop} {x:Tg A} {y:Tg B} (h1:b=true→A) (h2:b=false→B):aFc b x y:=⟨h1,h2⟩
theorem aAk {p:Prop} [Decidable p] {A B:Prop} {x:Tg A} {y:Tg B} (h1:p→A) (h2:¬ p→B):aFc (decide p) x y:=⟨fun h=>h1 (of_decide_eq_true h),fun h=>h2 (of_decide_eq_false h)⟩
def bIg (P:Program) (f:Nat) (args:List V) {K:V→Prop} (_:Tg K):Prop:=∃ r,PTr P f args r∧V.imms args=true∧r.imm=true∧K r
theorem aAh {P:Program} {f:Nat} {args:List V} {K:V→Prop} {x:Tg K} {r:V} (h:PTr P f args r) (h1:V.imms args=true) (h2:r.imm=true) (h3:K r):bIg P f args x:=⟨r,h,h1,h2,h3⟩
def bAa (P:Program) (f:Nat) (args:List V) {K:V→Prop} (_:Tg K):Prop:=∃ r,PTr P f args r∧V.imms args=true∧r.flat=true∧K r
theorem aPf {P:Program} {f:Nat} {args:List V} {K:V→Prop} {x:Tg K} {r:V} (h:PTr P f args r) (h1:V.imms args=true) (h2:r.flat=true) (h3:K r):bAa P f args x:=⟨r,h,h1,h2,h3⟩
def aK9 (P:Program) (f:Nat) (args:List V) (L:Heap) (nx:Nat) {K:V→Heap→Nat→Prop} (_:Tg K):Prop:=ECall P f args L nx K
theorem aAc {P:Program} {f:Nat} {args:List V} {L:Heap} {nx:Nat} {post K:V→Heap→Nat→Prop} {x:Tg K} (h:ECall P f args L nx post) (h2:∀ r L' nx',post r L' nx'→K r L' nx'):aK9 P f args L nx x:=h.mono h2
def bJa (P:Program) (n:Nat) (wr:List Nat) {a:C} {K:X→St→Prop} (_:Tg a) (_:Tg K) (s:St):Prop:=∃ J:Nat→St→Prop,(∃ m,J m s)∧∀ m s,J m s→awpC P n wr a (seqK (fun s=>∃ m',m'<m∧J m' s) K) s
theorem aAl {P:Program} {wr:List Nat} {n:Nat} {a:C} {K:X→St→Prop} {x:Tg a} {y:Tg K} {s:St} (J:Nat→St→Prop) (m:Nat) (h:J m s) (h2:∀ m s,J m s→awpC P n wr a (seqK (fun s=>∃ m',m'<m∧J m' s) K) s):bJa P n wr x y s:=⟨J,⟨m,h⟩,h2⟩
theorem bKs {P:Program} {wr:List Nat} {n:Nat} {s:St} {K:X→St→Prop} {a}:awpC P n wr (.loop a) K s=bJa P n wr (Tg.mk (a:=a)) (Tg.mk (a:=K)) s:=by (conv=>lhs; unfold awpC); rfl
def cutK (P:Program) (n:Nat) (wr:List Nat) {a b:C} {K:X→St→Prop} (_:Tg a) (_:Tg b) (_:Tg K) (s:St):Prop:=∃ M:St→Prop,awpC P n wr a (seqK M K) s∧∀ s,M s→awpC P n wr b K s
theorem aLc {P:Program} {wr:List Nat} {n:Nat} {a b:C} {K:X→St→Prop} {x:Tg a} {y:Tg b} {z:Tg K} {s:St} (M:St→Prop) (h:awpC P n wr a (seqK M K) s) (h2:∀ s,M s→awpC P n wr b K s):cutK P n wr x y z s:=⟨M,h,h2⟩
theorem bJg {P:Program} {wr:List Nat} {n:Nat} {s:St} {K:X→St→Prop} {a b}:awpC P n wr (.seqc a b) K s=cutK P n wr (Tg.mk (a:=a)) (Tg.mk (a:=b)) (Tg.mk (a:=K)) s:=by (conv=>lhs; unfold awpC); rfl
theorem bKf {P:Program} {wr:List Nat} {s:St} {K:St→Prop} {d f args}:aAg P wr (.call d true f args) s K=bIg P f (args.map s.ev) (Tg.mk (a:=fun r=>K (s.setO d r))):=by unfold aAg aAa bIg; simp
theorem bG2 {P:Program} {wr:List Nat} {s:St} {K:St→Prop} {d f args}:aAg P wr (.call d false f args) s K=bAa P f (args.map fun a=>view s.L 3 (s.ev a)) (Tg.mk (a:=fun r=>K (s.setO d r))):=by unfold aAg aAa bAa; simp
theorem bFg {P:Program} {wr:List Nat} {s:St} {K:St→Prop} {d n f args}:aAg P wr (.ecall d n f args) s K=aK9 P f (args.map s.ev) s.L (s.nx+n) (Tg.mk (a:=fun r L' nx'=>K ((⟨s.env,L',nx'⟩:St).setO d r))):=by unfold aAg aAa aK9; rfl
def aH1 (P:Program) (d:Option Nat) (n:Nat) (args:List V) (x:V) (s:St) (K:St→Prop):Prop :=
 match x with
 | .fn f cs=>aBp P f=true∧aK9 P f (args++cs) s.L (s.nx+n) (Tg.mk (a:=fun r L' nx'=>K ((⟨s.env,L',nx'⟩:St).setO d r)))
 | _=>False
theorem aM6 {P:Program} {d:Option Nat} {n:Nat} {args args':List V} {x x':V} {s s':St} {K:St→Prop} (h:args=args') (h2:x=x') (h3:s=s'):aH1 P d n args x s K=aH1 P d n args' x' s' K:=by rw [h,h2,h3]
attribute [congr] aM6
theorem bCj {P:Program} {wr:List Nat} {s:St} {K:St→Prop} {d n x args}:aAg P wr (.vcall d n x args) s K=aH1 P d n (args.map s.ev) (s.ev x) s K:=by unfold aAg aAa aH1 aK9; rfl
theorem aV9 {P:Program} {s:St} {K:St→Prop} {d n args f cs}:aH1 P d n args (.fn f cs) s K=(aBp P f=true∧aK9 P f (args++cs) s.L (s.nx+n) (Tg.mk (a:=fun r L' nx'=>K ((⟨s.env,L',nx'⟩:St).setO d r)))):=by unfold aH1; rfl
def aYw (P:Program) (x:V) (args:List V) {K:V→Prop} (_:Tg K):Prop :=
 match x with
 | .fn f cs=>aBp P f=true∧∃ r,PTr P f (args++cs) r∧V.imms (args++cs)=true∧r.flat=true∧K r
 | _=>False
theorem aIa {P:Program} {x:V} {args:List V} {f:Nat} {cs:List V} {r:V} {K:V→Prop} {t:Tg K} (hx:x=.fn f cs) (hb:aBp P f=true) (h:PTr P f (args++cs) r) (h1:V.imms (args++cs)=true) (h2:r.flat=true) (h3:K r):aYw P x args t:=by subst hx; exact ⟨hb,r,h,h1,h2,h3⟩
theorem bGq {P:Program} {wr:List Nat} {s:St} {K:St→Prop} {d x args}:aAg P wr (.pcall d x args) s K=aYw P (view s.L 4 (s.ev x)) (args.map fun a=>view s.L 3 (s.ev a)) (Tg.mk (a:=fun r=>K (s.setO d r))):=by unfold aAg aAa aYw; rfl
def aTs (ag:Bool) (ks:List Nat) (z:V) (c:Bool) (k:V) (bl:Option Blk) {K:V→Prop} (_:Tg K):Prop :=
 aD3 ag ks k=true∧match bl with
 | some (.map _ es)=>∃ r,aCr ag ks k es=some r∧(mres c z es r).imm=true∧K (mres c z es r)
 | _=>False
theorem aCc {ag:Bool} {ks:List Nat} {z:V} {c:Bool} {k:V} {bl:Option Blk} {K:V→Prop} {x:Tg K} {cl:Nat} {es:List (V×V×Nat)} {r:Option Nat} (hb:bl=some (.map cl es)) (h0:aD3 ag ks k=true) (h1:aCr ag ks k es=some r) (h2:(mres c z es r).imm=true) (h3:K (mres c z es r)):aTs ag ks z c k bl x:=by subst hb; exact ⟨h0,r,h1,h2,h3⟩
def aUy (ag:Bool) (ks:List Nat) (k v:V) (bl:Option Blk) {K:Blk→Prop} (_:Tg K):Prop :=
 aD3 ag ks k=true∧v.imm=true∧match bl with
 | some (.map c es)=>∃ r,aCr ag ks k es=some r∧K (aGs c es k v r)
 | _=>False
theorem aGi {ag:Bool} {ks:List Nat} {k v:V} {bl:Option Blk} {K:Blk→Prop} {x:Tg K} {cl:Nat} {es:List (V×V×Nat)} {r:Option Nat} (hb:bl=some (.map cl es)) (h0:aD3 ag ks k=true) (h2:v.imm=true) (h1:aCr ag ks k es=some r) (h3:K (aGs cl es k v r)):aUy ag ks k v bl x:=by subst hb; exact ⟨h0,h2,r,h1,h3⟩
def aZ4 (ag:Bool) (ks:List Nat) (z k:V) (bl:Option Blk) {K:Blk→V→Prop} (_:Tg K):Prop :=
 aD3 ag ks k=true∧match bl with
 | some (.map c es)=>∃ r,aCr ag ks k es=some r∧(mres false z es r).imm=true∧K (aGs c es k (mres false z es r) r) (.tup [mres false z es r,.int .i64 (aKx c es r)])
 | _=>False
def mstK (n:Int) (v:V) (bl:Option Blk) {K:Blk→Prop} (_:Tg K):Prop :=
 v.imm=true∧match bl with
 | some (.map c es)=>∃ i,es.findIdx? (fun e=>decide ((e.2.2:Int)=n))=some i∧K (.map c (es.set i ((es.getD i default).1,v,(es.getD i default).2.2)))
 | _=>False
theorem aPz {ag:Bool} {ks:List Nat} {z:V} {c:Bool} {k k':V} {bl bl':Option Blk} {K:V→Prop} {x:Tg K} (h:k=k') (h2:bl=bl'):aTs ag ks z c k bl x=aTs ag ks z c k' bl' x:=by rw [h,h2]
theorem aRn {ag:Bool} {ks:List Nat} {k k' v v':V} {bl bl':Option Blk} {K:Blk→Prop} {x:Tg K} (h:k=k') (h1:v=v') (h2:bl=bl'):aUy ag ks k v bl x=aUy ag ks k' v' bl' x:=by rw [h,h1,h2]
theorem aRf {ag:Bool} {ks:List Nat} {z k k':V} {bl bl':Option Blk} {K:Blk→V→Prop} {x:Tg K} (h:k=k') (h2:bl=bl'):aZ4 ag ks z k bl x=aZ4 ag ks z k' bl' x:=by rw [h,h2]
theorem aTq {n:Int} {v v':V} {bl bl':Option Blk} {K:Blk→Prop} {x:Tg K} (h1:v=v') (h2:bl=bl'):mstK n v bl x=mstK n v' bl' x:=by rw [h1,h2]
attribute [congr] aPz aRn aRf aTq
def aIk (d:Option Nat) (ag:Bool) (ks:List Nat) (z:V) (c:Bool) (x k:V) (s:St) (K:St→Prop):Prop :=
 match x with
 | .nilm=>aD3 ag ks k=true∧(mres c z [] none).imm=true∧K (s.setO d (mres c z [] none))
 | .map id=>aTs ag ks z c k (s.L id) (Tg.mk (a:=fun v=>K (s.setO d v)))
 | _=>False
def aK8 (ag:Bool) (ks:List Nat) (x k v:V) (s:St) (K:St→Prop):Prop :=
 match x with
 | .map id=>aUy ag ks k v (s.L id) (Tg.mk (a:=fun b=>K (s.put id b)))
 | _=>False
def aLp (d:Option Nat) (ag:Bool) (ks:List Nat) (z:V) (x k:V) (s:St) (K:St→Prop):Prop :=
 match x with
 | .map id=>aZ4 ag ks z k (s.L id) (Tg.mk (a:=fun b r=>K ((s.put id b).setO d r)))
 | _=>False
def aT7 (x t v:V) (s:St) (K:St→Prop):Prop :=
 match x,t with
 | .map id,.int .i64 n=>mstK n v (s.L id) (Tg.mk (a:=fun b=>K (s.put id b)))
 | _,_=>False
theorem aOh {d:Option Nat} {ag:Bool} {ks:List Nat} {z:V} {c:Bool} {x x' k k':V} {s s':St} {K:St→Prop} (h:x=x') (h2:k=k') (h3:s=s'):aIk d ag ks z c x k s K=aIk d ag ks z c x' k' s' K:=by rw [h,h2,h3]
theorem aPn {ag:Bool} {ks:List Nat} {x x' k k' v v':V} {s s':St} {K:St→Prop} (h:x=x') (h2:k=k') (h3:v=v') (h4:s=s'):aK8 ag ks x k v s K=aK8 ag ks x' k' v' s' K:=by rw [h,h2,h3,h4]
theorem aOn {d:Option Nat} {ag:Bool} {ks:List Nat} {z:V} {x x' k k':V} {s s':St} {K:St→Prop} (h:x=x') (h2:k=k') (h3:s=s'):aLp d ag ks z x k s K=aLp d ag ks z x' k' s' K:=by rw [h,h2,h3]
theorem aRx {x x' t t' v v':V} {s s':St} {K:St→Prop} (h:x=x') (h2:t=t') (h3:v=v') (h4:s=s'):aT7 x t v s K=aT7 x' t' v' s' K:=by rw [h,h2,h3,h4]
attribute [congr] aOh aPn aOn aRx
theorem bI9 {P:Program} {wr:List Nat} {s:St} {K:St→Prop} {d ag ks z c x k}:aAg P wr (.mget d ag ks z c x k) s K=aIk d ag ks z c (s.ev x) (s.ev k) s K:=by (unfold aAg aAa aIk aTs; cases h:s.ev x <;> first | (simp [h]; done) | (simp [h]; intros; exact Iff.rfl))
theorem bK4 {P:Program} {wr:List Nat} {s:St} {K:St→Prop} {ag ks x k v}:aAg P wr (.mput ag ks x k v) s K=aK8 ag ks (s.ev x) (s.ev k) (s.ev v) s K:=by (unfold aAg aAa aK8 aUy; cases h:s.ev x <;> first | (simp [h]; done) | (simp [h]; intros; exact Iff.rfl))
theorem bIy {P:Program} {wr:List Nat} {s:St} {K:St→Prop} {d ag ks z x k}:aAg P wr (.ment d ag ks z x k) s K=aLp d ag ks z (s.ev x) (s.ev k) s K:=by (unfold aAg aAa aLp aZ4; cases h:s.ev x <;> first | (simp [h]; done) | (simp [h]; intros; exact Iff.rfl))
theorem bNr {P:Program} {wr:List Nat} {s:St} {K:St→Prop} {x t v}:aAg P wr (.mst x t v) s K=aT7 (s.ev x) (s.ev t) (s.ev v) s K:=by (unfold aAg aAa aT7 mstK; cases h:s.ev x <;> first | (simp [h]; done) | (cases h2:s.ev t <;> first | (simp [h,h2]; done) | (rename_i kk _; cases kk <;> first | (simp [h,h2]; done) | (simp [h,h2]; intros; exact Iff.rfl))))
theorem bCo {d:Option Nat} {ag:Bool} {ks:List Nat} {z:V} {c:Bool} {k:V} {s:St} {K:St→Prop}:aIk d ag ks z c .nilm k s K=(aD3 ag ks k=true∧(mres c z [] none).imm=true∧K (s.setO d (mres c z [] none))):=by unfold aIk; rfl
theorem bB1 {d:Option Nat} {ag:Bool} {ks:List Nat} {z:V} {c:Bool} {k:V} {id:Nat} {s:St} {K:St→Prop}:aIk d ag ks z c (.map id) k s K=aTs ag ks z c k (s.L id) (Tg.mk (a:=fun v=>K (s.setO d v))):=by unfold aIk; rfl
theorem bBo {ag:Bool} {ks:List Nat} {k v:V} {id:Nat} {s:St} {K:St→Prop}:aK8 ag ks (.map id) k v s K=aUy ag ks k v (s.L id) (Tg.mk (a:=fun b=>K (s.put id b))):=by unfold aK8; rfl
theorem bCy {d:Option Nat} {ag:Bool} {ks:List Nat} {z:V} {k:V} {id:Nat} {s:St} {K:St→Prop}:aLp d ag ks z (.map id) k s K=aZ4 ag ks z k (s.L id) (Tg.mk (a:=fun b r=>K ((s.put id b).setO d r))):=by unfold aLp; rfl
theorem bGf {v:V} {n:Int} {id:Nat} {s:St} {K:St→Prop}:aT7 (.map id) (.int .i64 n) v s K=mstK n v (s.L id) (Tg.mk (a:=fun b=>K (s.put id b))):=by unfold aT7; rfl
theorem bCg {f cs}:(V.fn f cs).cells=[.fn f cs]:=rfl
theorem aWq {f cs}:(V.fn f cs).ncells=some 1:=rfl
theorem bLf {f cs}:(V.fn f cs).one=true:=rfl
theorem bLe {f cs}:(V.fn f cs).imm=V.imms cs:=by simp only [V.imm]
def aLm (P:Program) (n:Nat) (wr:List Nat) (a b:C) (K:X→St→Prop) (s:St) (m:Nat):V→Prop
 | .bool t=>(t=true→awpC P n wr a K (s.set m (.bool true)))∧(t=false→awpC P n wr b K (s.set m (.bool false)))
 | _=>False
theorem aNy {P:Program} {wr:List Nat} {n:Nat} {a b:C} {K:X→St→Prop} {s s':St} {m:Nat} {v v':V} (h:s=s') (h':v=v'):aLm P n wr a b K s m v=aLm P n wr a b K s' m v':=by rw [h,h']
attribute [congr] aNy
theorem bGc {P:Program} {wr:List Nat} {n:Nat} {a b:C} {K:X→St→Prop} {s:St} {m:Nat}:awpC P n wr (.cond (.t m) a b) K s=aLm P n wr a b K s m (s.ev (.t m)):=by (conv=>lhs; unfold awpC); unfold aLm; generalize s.ev (.t m)=v; cases v <;> rfl
theorem bFi {P:Program} {wr:List Nat} {n:Nat} {a b:C} {K:X→St→Prop} {s:St} {t:Bool}:awpC P n wr (.cond (.k (.bool t)) a b) K s=if t then awpC P n wr a K s else awpC P n wr b K s:=by (conv=>lhs; unfold awpC); rfl
theorem bB7 {P:Program} {wr:List Nat} {n:Nat} {a b:C} {K:X→St→Prop} {s:St} {m:Nat} {t:Bool}:aLm P n wr a b K s m (.bool t)=aFc t (Tg.mk (a:=awpC P n wr a K (s.set m (.bool true)))) (Tg.mk (a:=awpC P n wr b K (s.set m (.bool false)))):=by unfold aLm aFc; rfl
def aGa (P:Program) (wr:List Nat) (l:List I) (t:Nat) (w:Bool) (s:St) (K:St→Prop):V→Prop
 | .bool b=>(b=w→aCa P wr l (s.set t (.bool w)) K)∧(b=!w→K (aEv l (s.set t (.bool !w))))
 | .tup []=>K (aEv l s)
 | _=>False
theorem aN1 {P:Program} {wr:List Nat} {l:List I} {t:Nat} {w:Bool} {s s':St} {K:St→Prop} {v v':V} (h:s=s') (h':v=v'):aGa P wr l t w s K v=aGa P wr l t w s' K v':=by rw [h,h']
attribute [congr] aN1
theorem aQx {P:Program} {wr:List Nat} {s:St} {K:St→Prop} {l:List I} {t:Nat} {w:Bool}:aKr P wr ⟨some (t,w),l⟩ s K=aGa P wr l t w s K (s.env t):=by unfold aKr aGa; rfl
theorem bB0 {P:Program} {wr:List Nat} {s:St} {K:St→Prop} {l:List I} {t:Nat} {b:Bool}:aGa P wr l t true s K (.bool b)=aFc b (Tg.mk (a:=aCa P wr l (s.set t (.bool true)) K)) (Tg.mk (a:=K (aEv l (s.set t (.bool false))))):=by unfold aGa aFc; rfl
theorem bBm {P:Program} {wr:List Nat} {s:St} {K:St→Prop} {l:List I} {t:Nat} {b:Bool}:aGa P wr l t false s K (.bool b)=aFc b (Tg.mk (a:=K (aEv l (s.set t (.bool true))))) (Tg.mk (a:=aCa P wr l (s.set t (.bool false)) K)):=by unfold aGa aFc; exact propext And.comm
theorem bDb {P:Program} {wr:List Nat} {s:St} {K:St→Prop} {l:List I} {t:Nat} {w:Bool}:aGa P wr l t w s K (.tup [])=K (aEv l s):=by unfold aGa; rfl
theorem aZd {s:St}:aEv [] s=s:=rfl
theorem aUu {s:St} {i:I} {r:List I}:aEv (i::r) s=aEv r (s.setO i.dst (.tup [])):=rfl
theorem bCu {s:St} {K:St→Prop} {d a b t}:aLk d a b (.bool t) s K=aFc t (Tg.mk (a:=K (s.setO d a))) (Tg.mk (a:=K (s.setO d b))):=by unfold aLk aFc; cases t <;> simp
def aA5 (d:Option Nat) (op:BinOp) (x y:V) (s:St) (K:St→Prop):Prop:=aCu op x y fun v=>K (s.setO d v)
def aE6 (d:Option Nat) (op:BinOp) (x y:V) (s:St) (K:St→Prop):Prop:=vbin op x y fun v=>K (s.setO d v)
theorem aRl {d:Option Nat} {op:BinOp} {x x' y y':V} {s s':St} {K:St→Prop} (h:x=x') (h2:y=y') (h3:s=s'):aA5 d op x y s K=aA5 d op x' y' s' K:=by rw [h,h2,h3]
theorem aO9 {d:Option Nat} {op:BinOp} {x x' y y':V} {s s':St} {K:St→Prop} (h:x=x') (h2:y=y') (h3:s=s'):aE6 d op x y s K=aE6 d op x' y' s' K:=by rw [h,h2,h3]
attribute [congr] aRl aO9
theorem bMx {P:Program} {wr:List Nat} {s:St} {K:St→Prop} {d op x y}:aAg P wr (.bin d op x y) s K=bif wrD wr d then aE6 d op (s.ev x) (s.ev y) s K else aA5 d op (s.ev x) (s.ev y) s K:=by simp only [aAg,aAa,aA5,aE6]; cases wrD wr d <;> simp
theorem bHy {d:Option Nat}:wrD [] d=false:=by cases d <;> rfl
theorem bBv {d a:Nat} {r:List Nat}:wrD (a::r) (some d)=(decide (d=a)||wrD r (some d)):=by
 simp only [wrD,List.contains_cons]
 congr 1
theorem bN7 {s:St} {K:St→Prop} {d k a b}:aA5 d .add (.int k a) (.int k b) s K=(InR k (a+b)∧K (s.setO d (.int k (a+b)))):=by simp [aA5,aCu]
theorem bNb {s:St} {K:St→Prop} {d k a b}:aA5 d .sub (.int k a) (.int k b) s K=(InR k (a-b)∧K (s.setO d (.int k (a-b)))):=by simp [aA5,aCu]
theorem bNf {s:St} {K:St→Prop} {d k a b}:aA5 d .mul (.int k a) (.int k b) s K=(InR k (a*b)∧K (s.setO d (.int k (a*b)))):=by simp [aA5,aCu]
theorem bM8 {s:St} {K:St→Prop} {d k a b}:aA5 d .quo (.int k a) (.int k b) s K=(b≠0∧InR k (a.tdiv b)∧K (s.setO d (.int k (a.tdiv b)))):=by simp [aA5,aCu]
theorem bIq {s:St} {K:St→Prop} {d k a b}:aE6 d .add (.int k a) (.int k b) s K=K (s.setO d (.int k (k.wrap (a+b)))):=by simp [aE6,vbin,vint]
theorem bKj {s:St} {K:St→Prop} {d k a b}:aE6 d .sub (.int k a) (.int k b) s K=K (s.setO d (.int k (k.wrap (a-b)))):=by simp [aE6,vbin,vint]
theorem bLg {s:St} {K:St→Prop} {d k a b}:aE6 d .mul (.int k a) (.int k b) s K=K (s.setO d (.int k (k.wrap (a*b)))):=by simp [aE6,vbin,vint]
theorem bKb {s:St} {K:St→Prop} {d k a b}:aE6 d .quo (.int k a) (.int k b) s K=(b≠0∧K (s.setO d (.int k (k.wrap (a.tdiv b))))):=by simp [aE6,vbin,vint]
theorem bMo {s:St} {K:St→Prop} {d k a b}:aA5 d .rem (.int k a) (.int k b) s K=(b≠0∧K (s.setO d (.int k (a.tmod b)))):=by simp [aA5,aCu,vbin,vint]
theorem bMk {s:St} {K:St→Prop} {d k a b}:aA5 d .and (.int k a) (.int k b) s K=K (s.setO d (.int k (aGm .and k a b))):=by simp [aA5,aCu,vbin,vint]
theorem v_or {s:St} {K:St→Prop} {d k a b}:aA5 d .or (.int k a) (.int k b) s K=K (s.setO d (.int k (aGm .or k a b))):=by simp [aA5,aCu,vbin,vint]
theorem bPc {s:St} {K:St→Prop} {d k a b}:aA5 d .xor (.int k a) (.int k b) s K=K (s.setO d (.int k (aGm .xor k a b))):=by simp [aA5,aCu,vbin,vint]
theorem bBk {s:St} {K:St→Prop} {d k a b}:aA5 d .andNot (.int k a) (.int k b) s K=K (s.setO d (.int k (aGm .andNot k a b))):=by simp [aA5,aCu,vbin,vint]
theorem bMe {s:St} {K:St→Prop} {d k a b}:aA5 d .eql (.int k a) (.int k b) s K=K (s.setO d (.bool (decide (a=b)))):=by simp [aA5,aCu,vbin,vint]
theorem bM0 {s:St} {K:St→Prop} {d k a b}:aA5 d .neq (.int k a) (.int k b) s K=K (s.setO d (.bool (!decide (a=b)))):=by simp [aA5,aCu,vbin,vint]
theorem bO0 {s:St} {K:St→Prop} {d k a b}:aA5 d .lss (.int k a) (.int k b) s K=K (s.setO d (.bool (decide (a<b)))):=by simp [aA5,aCu,vbin,vint]
theorem bL2 {s:St} {K:St→Prop} {d k a b}:aA5 d .leq (.int k a) (.int k b) s K=K (s.setO d (.bool (decide (a≤b)))):=by simp [aA5,aCu,vbin,vint]
theorem bO7 {s:St} {K:St→Prop} {d k a b}:aA5 d .gtr (.int k a) (.int k b) s K=K (s.setO d (.bool (decide (b<a)))):=by simp [aA5,aCu,vbin,vint]
theorem bNu {s:St} {K:St→Prop} {d k a b}:aA5 d .geq (.int k a) (.int k b) s K=K (s.setO d (.bool (decide (b≤a)))):=by simp [aA5,aCu,vbin,vint]
theorem bOi {s:St} {K:St→Prop} {d k k' a b}:aA5 d .shr (.int k a) (.int k' b) s K=(0≤b∧K (s.setO d (.int k (vshr k a b)))):=by simp [aA5,aCu,vbin,vint]
theorem bLa {s:St} {K:St→Prop} {d a b}:aA5 d .add (.str a) (.str b) s K=(a.length+b.length<2^63∧K (s.setO d (.str (a++b)))):=by simp [aA5,aCu,vbin,vstr]
theorem bLc {s:St} {K:St→Prop} {d a b}:aA5 d .eql (.str a) (.str b) s K=K (s.setO d (.bool (decide (a=b)))):=by simp [aA5,aCu,vbin,vstr]
theorem bK0 {s:St} {K:St→Prop} {d a b}:aA5 d .neq (.str a) (.str b) s K=K (s.setO d (.bool (!decide (a=b)))):=by simp [aA5,aCu,vbin,vstr]
theorem bLn {s:St} {K:St→Prop} {d a b}:aA5 d .lss (.str a) (.str b) s K=K (s.setO d (.bool (Op.bytesLess a b))):=by simp [aA5,aCu,vbin,vstr]
theorem bKz {s:St} {K:St→Prop} {d a b}:aA5 d .leq (.str a) (.str b) s K=K (s.setO d (.bool (Op.bytesLess a b||decide (a=b)))):=by simp [aA5,aCu,vbin,vstr]
theorem bI3 {s:St} {K:St→Prop} {d a b}:aA5 d .gtr (.str a) (.str b) s K=K (s.setO d (.bool (!(Op.bytesLess a b||decide (a=b))))):=by simp [aA5,aCu,vbin,vstr]
theorem bIi {s:St} {K:St→Prop} {d a b}:aA5 d .geq (.str a) (.str b) s K=K (s.setO d (.bool (!Op.bytesLess a b))):=by simp [aA5,aCu,vbin,vstr]
def v_un (d:Option Nat) (op:UnOp) (x:V) (s:St) (K:St→Prop):Prop:=vunC op x fun v=>K (s.setO d v)
def aU7 (d:Option Nat) (op:UnOp) (x:V) (s:St) (K:St→Prop):Prop:=vun op x fun v=>K (s.setO d v)
theorem aUz {d:Option Nat} {op:UnOp} {x x':V} {s s':St} {K:St→Prop} (h:x=x') (h3:s=s'):v_un d op x s K=v_un d op x' s' K:=by rw [h,h3]
theorem aQ1 {d:Option Nat} {op:UnOp} {x x':V} {s s':St} {K:St→Prop} (h:x=x') (h3:s=s'):aU7 d op x s K=aU7 d op x' s' K:=by rw [h,h3]
attribute [congr] aUz aQ1
theorem x_un {P:Program} {wr:List Nat} {s:St} {K:St→Prop} {d op x}:aAg P wr (.un d op x) s K=bif wrD wr d then aU7 d op (s.ev x) s K else v_un d op (s.ev x) s K:=by simp only [aAg,aAa,v_un,aU7]; cases wrD wr d <;> simp
theorem bOa {s:St} {K:St→Prop} {d b}:v_un d .not (.bool b) s K=K (s.setO d (.bool !b)):=by simp [v_un,vunC,vun]
theorem bN5 {s:St} {K:St→Prop} {d k b}:v_un d .neg (.int k b) s K=(InR k (0-b)∧K (s.setO d (.int k (0-b)))):=by simp [v_un,vunC]
theorem bI5 {s:St} {K:St→Prop} {d k b}:aU7 d .neg (.int k b) s K=K (s.setO d (.int k (k.wrap (0-b)))):=by simp [aU7,vun]
def aVi (d:Option Nat) (k:IntKind) (x:V) (s:St) (K:St→Prop):Prop:=bDy k x fun v=>K (s.setO d v)
def aLa (d:Option Nat) (k:IntKind) (x:V) (s:St) (K:St→Prop):Prop:=match x with
 | .int _ n=>K (s.setO d (.int k (k.wrap n)))
 | _=>False
theorem aRm {d:Option Nat} {k:IntKind} {x x':V} {s s':St} {K:St→Prop} (h:x=x') (h3:s=s'):aVi d k x s K=aVi d k x' s' K:=by rw [h,h3]
theorem aOm {d:Option Nat} {k:IntKind} {x x':V} {s s':St} {K:St→Prop} (h:x=x') (h3:s=s'):aLa d k x s K=aLa d k x' s' K:=by rw [h,h3]
attribute [congr] aRm aOm
theorem bMc {P:Program} {wr:List Nat} {s:St} {K:St→Prop} {d k x}:aAg P wr (.cvt d k x) s K=bif wrD wr d then aLa d k (s.ev x) s K else aVi d k (s.ev x) s K:=by simp only [aAg,aAa,aVi,aLa]; cases wrD wr d <;> simp <;> rfl
theorem bG9 {s:St} {K:St→Prop} {d k q n}:aVi d k (.int q n) s K=(InR k n∧K (s.setO d (.int k n))):=by simp [aVi,bDy]
theorem bGa {s:St} {K:St→Prop} {d k q n}:aLa d k (.int q n) s K=K (s.setO d (.int k (k.wrap n))):=by simp [aLa]
def ceqK (ks:List Nat) (a b:List V) (K:Bool→Prop):Prop:=∃ t,aAo ks a b=some t∧K t
theorem aUw {ks:List Nat} {a a' b b':List V} {K:Bool→Prop} (h:a=a') (h2:b=b'):ceqK ks a b K=ceqK ks a' b' K:=by rw [h,h2]
attribute [congr] aUw
theorem bHi {s:St} {K:St→Prop} {d neg ks a b}:aVv d neg ks (.agg a) (.agg b) s K=ceqK ks a b fun t=>K (s.setO d (.bool (t != neg))):=by unfold aVv ceqK; rfl
theorem bBp {K:Bool→Prop}:ceqK [] [] [] K=K true:=by simp [ceqK,aAo]
theorem aMj {k:Nat} {ks:List Nat} {x y:V} {r q:List V} {K:Bool→Prop} {c:Bool} (h:aBf k x y=some c):ceqK (k::ks) (x::r) (y::q) K=ceqK ks r q fun t=>K (c&&t):=by
 simp only [ceqK,aAo,h]
 cases aAo ks r q <;> simp
theorem bCe {ks:List Nat} {k:IntKind} {a b:Int} {r q:List V} {K:Bool→Prop}:ceqK (0::ks) (.int k a::r) (.int k b::q) K=ceqK ks r q fun t=>K (decide (a=b)&&t):=aMj (by simp [aBf])
theorem bCm {ks:List Nat} {a b:List UInt8} {r q:List V} {K:Bool→Prop}:ceqK (1::ks) (.str a::r) (.str b::q) K=ceqK ks r q fun t=>K (decide (a=b)&&t):=aMj (by simp [aBf])
theorem aXb {ks:List Nat} {a b:Bool} {r q:List V} {K:Bool→Prop}:ceqK (2::ks) (.bool a::r) (.bool b::q) K=ceqK ks r q fun t=>K ((a==b)&&t):=aMj (by simp [aBf])
theorem aVa {d:Nat} {K:Nat→Prop}:aBb none d K=K d:=rfl
theorem aVr {d:Nat} {K:Nat→Prop} {k i}:aBb (some (.int k i)) d K=(0≤i∧K i.toNat):=rfl
theorem aQf {o o':Option V} {d d':Nat} {K:Nat→Prop} (h:o=o') (h2:d=d'):aBb o d K=aBb o' d' K:=by rw [h,h2]
attribute [congr] aQf
theorem bC2 {s:St} {K:St→Prop} {d lo hi t}:aK4 d lo hi (.str t) s K=(aBb lo 0 fun l=>aBb hi t.length fun h=>l≤h∧h≤t.length∧K (s.setO d (.str ((t.take h).drop l)))):=by unfold aK4; rfl
theorem bIe {s:St} {K:St→Prop} {d sz lo hi}:aKu d sz lo hi (.nils) s K=(aBb lo 0 fun l=>aBb hi 0 fun h=>l≤h∧h≤0∧K (s.setO d .nils)):=by unfold aKu; rfl
theorem bHb {s:St} {K:St→Prop} {d sz lo hi es}:aKu d sz lo hi (.lst sz es) s K=(aBb lo 0 fun l=>aBb hi es.length fun h=>l≤h∧h≤es.length∧K (s.setO d (.lst sz ((es.take h).drop l)))):=by unfold aKu; simp
theorem bHk {s:St} {K:St→Prop} {d sz lo hi id off n}:aKu d sz lo hi (.own id sz off n) s K=(aBb lo 0 fun l=>aBb hi n fun h=>l≤h∧h≤n∧K (s.setO d (.own id sz (off+l) (h-l)))):=by unfold aKu; simp
def elO (sz:Nat) (bl:Option Blk) (off len:Nat) (K:List V→Prop):Prop :=
 match bl with
 | some (.vec _ _ es)=>off+len≤es.length∧K ((es.drop off).take len)
 | _=>False
theorem aXr {sz:Nat} {bl bl':Option Blk} {off len:Nat} {K:List V→Prop} (h:bl=bl'):elO sz bl off len K=elO sz bl' off len K:=by rw [h]
attribute [congr] aXr
theorem bMl {sz ty sz':Nat} {es:List V} {off len:Nat} {K:List V→Prop}:elO sz (some (.vec ty sz' es)) off len K=(off+len≤es.length∧K ((es.drop off).take len)):=rfl
theorem aL9 {sz:Nat} {L L':Heap} {y y':V} {K:List V→Prop} (h:L=L') (h2:y=y'):aAp sz L y K=aAp sz L' y' K:=by rw [h,h2]
attribute [congr] aL9
theorem aWu {sz:Nat} {L:Heap} {K:List V→Prop}:aAp sz L .nils K=K []:=rfl
theorem aY1 {sz:Nat} {L:Heap} {es:List V} {K:List V→Prop}:aAp sz L (.lst sz es) K=K es:=by simp [aAp]
theorem aXe {L:Heap} {s:List UInt8} {K:List V→Prop}:aAp 1 L (.str s) K=K (aAr s):=by simp [aAp,aAr]
theorem aZw {sz:Nat} {L:Heap} {id off len:Nat} {K:List V→Prop}:aAp sz L (.own id sz off len) K=elO sz (L id) off len K:=by
 unfold aAp elO
 simp only
 cases L id with
 | none=>simp
 | some b=>cases b <;> simp
def appN (d ty sz:Nat) (ys:List V) (s:St) (K:St→Prop):Prop:=(ys=[]→K (s.set d .nils))∧(ys≠[]→ys.length≤2^32∧K ((s.add (s.nx+d) (.vec ty sz ys)).set d (.own (s.nx+d) sz 0 ys.length)))
theorem aUt {d ty sz:Nat} {ys ys':List V} {s s':St} {K:St→Prop} (h:ys=ys') (h2:s=s'):appN d ty sz ys s K=appN d ty sz ys' s' K:=by rw [h,h2]
attribute [congr] aUt
theorem bCx {d ty sz:Nat} {s:St} {K:St→Prop}:appN d ty sz [] s K=K (s.set d .nils):=by simp [appN]
theorem aWe {d ty sz:Nat} {y:V} {ys:List V} {s:St} {K:St→Prop}:appN d ty sz (y::ys) s K=((y::ys).length≤2^32∧K ((s.add (s.nx+d) (.vec ty sz (y::ys))).set d (.own (s.nx+d) sz 0 (y::ys).length))):=by simp [appN]
def appO (d ty sz id off n:Nat) (bl:Option Blk) (y:V) (s:St) (K:St→Prop):Prop :=
 match bl with
 | some (.vec ty' _ es)=>ty'=ty∧off+n≤es.length∧aAp sz s.L y fun ys=>n+ys.length≤2^32 ∧
  K (((s.drop id).add (s.nx+d) (.vec ty sz ((es.drop off).take n++ys))).set d (.own (s.nx+d) sz 0 (n+ys.length)))
 | _=>False
theorem aVj {d ty sz id off n:Nat} {bl bl':Option Blk} {y y':V} {s s':St} {K:St→Prop} (h:bl=bl') (h2:y=y') (h3:s=s'):appO d ty sz id off n bl y s K=appO d ty sz id off n bl' y' s' K:=by rw [h,h2,h3]
attribute [congr] aVj
theorem bLm {d ty sz id off n r0:Nat} {es:List V} {y:V} {s:St} {K:St→Prop}:appO d ty sz id off n (some (.vec ty r0 es)) y s K=(off+n≤es.length∧aAp sz s.L y fun ys=>n+ys.length≤2^32 ∧
 K (((s.drop id).add (s.nx+d) (.vec ty sz ((es.drop off).take n++ys))).set d (.own (s.nx+d) sz 0 (n+ys.length)))):=by simp [appO]
def aPv (d ty sz:Nat) (x y:V) (s:St) (K:St→Prop):Prop:=(x=.nils∧aAp sz s.L y (fun ys=>ys=[])∧K (s.set d .nils))∨aCb d ty sz x y s K
theorem aPy {d ty sz:Nat} {x x' y y':V} {s s':St} {K:St→Prop} (h:x=x') (h2:y=y') (h3:s=s'):aPv d ty sz x y s K=aPv d ty sz x' y' s' K:=by rw [h,h2,h3]
attribute [congr] aPy
theorem bNt {P:Program} {wr:List Nat} {s:St} {K:St→Prop} {d ty sz x y}:aAg P wr (.app d ty sz x y) s K=aPv d ty sz (s.ev x) (s.ev y) s K:=by unfold aAg aAa; rfl
theorem bH2 {d ty sz id off n:Nat} {y:V} {s:St} {K:St→Prop}:aPv d ty sz (.own id sz off n) y s K=appO d ty sz id off n (s.L id) y s K:=by
 unfold aPv aCb appO
 simp only [reduceCtorEq,false_and,false_or]
 cases s.L id with
 | none=>rfl
 | some b=>cases b <;> simp
theorem aI9 {d ty sz:Nat} {y:V} {s:St} {K:St→Prop} (h:aAp sz s.L y fun ys=>appN d ty sz ys s K):aPv d ty sz .nils y s K:=by
 unfold aPv aCb
 have mono:∀ {A B:List V→Prop},(∀ ys,A ys→B ys)→aAp sz s.L y A→aAp sz s.L y B:=by
  intro A B hab h
  unfold aAp at *
  split at h
  ·exact hab _ h
  ·exact ⟨h.1,hab _ h.2⟩
  ·split at h
   ·exact ⟨h.1,h.2.1,hab _ h.2.2⟩
   ·exact h.elim
  ·exact ⟨h.1,hab _ h.2⟩
  ·exact h.elim
 have ex:∀ {A:List V→Prop},aAp sz s.L y A→∃ ys,A ys∧∀ {B:List V→Prop},B ys→aAp sz s.L y B:=by
  intro A h
  unfold aAp at h
  split at h
  ·exact ⟨_,h,fun hb=>by simpa [aAp] using hb⟩
  ·exact ⟨_,h.2,fun hb=>by simpa [aAp,h.1] using hb⟩
  ·rename_i hy
   split at h
   ·rename_i hl; exact ⟨_,h.2.2,fun hb=>by unfold aAp; simp only [hl]; exact ⟨h.1,h.2.1,hb⟩⟩
   ·exact h.elim
  ·exact ⟨_,h.2,fun hb=>by unfold aAp; exact ⟨h.1,hb⟩⟩
  ·exact h.elim
 obtain ⟨ys,h1,h2⟩:=ex h
 by_cases hy:ys=[]
 ·exact .inl ⟨rfl,h2 hy,h1.1 hy⟩
 ·exact .inr (h2 (h1.2 hy))
theorem bBa {s:St} {K:List V→Prop}:resP [] s K=K []:=rfl
theorem aZ6 {t:Nat} {r:List RV} {s:St} {K:List V→Prop}:resP ((t,none)::r) s K=resP r s fun vs=>K (s.env t::vs):=rfl
def resB (sz:Nat) (ag:Bool) (o:Nat) (bl:Option Blk) (r:List RV) (s:St) (K:List V→Prop):Prop :=
 match bl with
 | some (.box _ cs)=>o+sz≤cs.length∧resP r s fun vs=>K (pack ag ((cs.drop o).take sz)::vs)
 | _=>False
theorem aVu {sz:Nat} {ag:Bool} {o:Nat} {bl bl':Option Blk} {r:List RV} {s s':St} {K:List V→Prop} (h:bl=bl') (h2:s=s'):resB sz ag o bl r s K=resB sz ag o bl' r s' K:=by rw [h,h2]
attribute [congr] aVu
theorem bI0 {sz:Nat} {ag:Bool} {o ty:Nat} {cs:List V} {r:List RV} {s:St} {K:List V→Prop}:resB sz ag o (some (.box ty cs)) r s K=(o+sz≤cs.length∧resP r s fun vs=>K (pack ag ((cs.drop o).take sz)::vs)):=rfl
def resV (sz:Nat) (ag:Bool) (v:V) (r:List RV) (s:St) (K:List V→Prop):Prop :=
 match v with
 | .ptr id o=>resB sz ag o (s.L id) r s K
 | _=>False
theorem aVn {sz:Nat} {ag:Bool} {v v':V} {r:List RV} {s s':St} {K:List V→Prop} (h:v=v') (h2:s=s'):resV sz ag v r s K=resV sz ag v' r s' K:=by rw [h,h2]
attribute [congr] aVn
theorem bIp {sz:Nat} {ag:Bool} {id o:Nat} {r:List RV} {s:St} {K:List V→Prop}:resV sz ag (.ptr id o) r s K=resB sz ag o (s.L id) r s K:=rfl
theorem aYt {t sz:Nat} {ag:Bool} {r:List RV} {s:St} {K:List V→Prop}:resP ((t,some (sz,ag))::r) s K=resV sz ag (s.env t) r s K:=by
 simp only [resP,resV]
 cases s.env t <;> rfl
theorem aX5 {rs:List RV} {post:V→Heap→Nat→Prop} {s:St}:endK rs post .norm s=resP rs s fun vs=>post (one vs) s.L s.nx:=rfl
theorem bDt {rs:List RV} {post:V→Heap→Nat→Prop} {s:St}:endK rs post .ret s=resP rs s fun vs=>post (one vs) s.L s.nx:=rfl
theorem bG0 {v:V}:one [v]=v:=rfl
theorem bGe:one []=.tup []:=rfl
theorem bId {a b:V} {r:List V}:one (a::b::r)=.tup (a::b::r):=rfl
theorem aYi {N:St→Prop} {K:X→St→Prop} {s:St}:seqK N K .norm s=N s:=rfl
theorem bAs {N:St→Prop} {K:X→St→Prop} {s:St} {i:Nat}:seqK N K (.exit i) s=K (.exit i) s:=rfl
theorem bD4 {N:St→Prop} {K:X→St→Prop} {s:St}:seqK N K .ret s=K .ret s:=rfl
theorem aYh {id:Nat} {K:X→St→Prop} {s:St}:blkK id K .norm s=K .norm s:=rfl
theorem bBn {id:Nat} {K:X→St→Prop} {s:St}:blkK id K .ret s=K .ret s:=rfl
theorem aWs {id:Nat} {K:X→St→Prop} {s:St} {i:Nat}:blkK id K (.exit i) s=if i=id then K .norm s else K (.exit i) s:=rfl
theorem aTt {N:St→Prop} {K:X→St→Prop} {x x':X} {s s':St} (h:x=x') (h2:s=s'):seqK N K x s=seqK N K x' s':=by rw [h,h2]
theorem aTh {id:Nat} {K:X→St→Prop} {x x':X} {s s':St} (h:x=x') (h2:s=s'):blkK id K x s=blkK id K x' s':=by rw [h,h2]
theorem aV1 {rs:List RV} {post:V→Heap→Nat→Prop} {x x':X} {s s':St} (h:x=x') (h2:s=s'):endK rs post x s=endK rs post x' s':=by rw [h,h2]
attribute [congr] aTt aTh aV1
theorem aY8 {cs:List V}:(V.agg cs).cells=cs:=rfl
theorem aX0 {k n}:(V.int k n).cells=[.int k n]:=rfl
theorem aWn {s}:(V.str s).cells=[.str s]:=rfl
theorem aUg {s}:(V.bool s).cells=[.bool s]:=rfl
theorem aUl:V.nils.cells=[.nils]:=rfl
theorem aVp:V.nilp.cells=[.nilp]:=rfl
theorem aYj {z es}:(V.lst z es).cells=[.lst z es]:=rfl
theorem aXg {a b c d}:(V.own a b c d).cells=[.own a b c d]:=rfl
theorem aOj {a b}:(V.ptr a b).cells=[.ptr a b]:=rfl
theorem aKv {cs:List V}:(V.agg cs).ncells=if cs.all V.one then some cs.length else none:=rfl
theorem aTw {k n}:(V.int k n).ncells=some 1:=rfl
theorem aUf {s}:(V.str s).ncells=some 1:=rfl
theorem aQj {s}:(V.bool s).ncells=some 1:=rfl
theorem aP0:V.nils.ncells=some 1:=rfl
theorem aP3:V.nilp.ncells=some 1:=rfl
theorem aU8 {z es}:(V.lst z es).ncells=some 1:=rfl
theorem aVt {a b c d}:(V.own a b c d).ncells=some 1:=rfl
theorem aVc {a b}:(V.ptr a b).ncells=some 1:=rfl
theorem bE9 {k n}:(V.int k n).one=true:=rfl
theorem bGg {s}:(V.str s).one=true:=rfl
theorem bDi {s}:(V.bool s).one=true:=rfl
theorem bCt:V.nils.one=true:=rfl
theorem bB9:V.nilp.one=true:=rfl
theorem bFl {z es}:(V.lst z es).one=true:=rfl
theorem bHw {a b c d}:(V.own a b c d).one=true:=rfl
theorem bH0 {a b}:(V.ptr a b).one=true:=rfl
theorem aLo {cs ds:List V}:(V.agg cs).recell ds=.agg ds:=rfl
theorem bKl {cs:List V}:pack true cs=.agg cs:=rfl
theorem bLt {cs:List V}:pack false cs=cs.headD .junk:=rfl
theorem ev_t {s:St} {n:Nat}:s.ev (.t n)=s.env n:=rfl
theorem ev_k {s:St} {v:V}:s.ev (.k v)=v:=rfl
theorem bHn {k n}:(V.int k n).imm=true:=rfl
theorem bF5 {s}:(V.str s).imm=true:=rfl
theorem bB5 {s}:(V.bool s).imm=true:=rfl
theorem bBj:V.nils.imm=true:=rfl
theorem aZ2 {z es}:(V.lst z es).imm=V.imms es:=by simp [V.imm]
theorem aQq {es}:(V.agg es).imm=V.imms es:=by simp [V.imm]
theorem bF1 {es}:(V.tup es).imm=V.imms es:=by simp [V.imm]
theorem bBw:V.imms []=true:=by simp [V.imms]
theorem bAi {x r}:V.imms (x::r)=(x.imm&&V.imms r):=by simp [V.imms]
theorem aVm {n:Nat}:((n:Nat):Int).toNat=n:=Int.toNat_natCast n
theorem aQt {n:Nat}:(0≤((n:Nat):Int))=True:=eq_true (Int.natCast_nonneg n)
theorem aP5 {α:Type} {a r:List α} {x:α}:decide (((a.length:Nat):Int)<(((a++x::r).length:Nat):Int))=true:=by simp; omega
theorem aUi {α:Type} {a:List α}:decide (((a.length:Nat):Int)<(((a++[]).length:Nat):Int))=false:=by simp
theorem bKe {a:Int}:decide (a<a)=false:=by simp
theorem aQw {α:Type} {a r:List α} {x:α}:(a.length<(a++x::r).length)=True:=by simp
theorem aVh (t:List UInt8):(t.map fun b=>V.int .u8 b.toNat)=aAr t:=rfl
theorem aTv:aAr []=[]:=rfl
theorem aI5 (c:UInt8) (t:List UInt8):aAr (c::t)=.int .u8 c.toNat::aAr t:=rfl
theorem aBh (bs:List UInt8):(aAr bs).length=bs.length:=by simp [aAr]
theorem bF4:aNe .nils=True:=rfl
theorem bFf {z:Nat} {es:List V}:aNe (.lst z es)=True:=rfl
theorem bHl {i z o n:Nat}:aNe (.own i z o n)=True:=rfl
theorem aWh {a b:Int}:mxI true a b=max a b:=by simp only [mxI,if_true]; omega
theorem aRw {a b:Int}:mxI false a b=min a b:=by simp only [mxI]; simp; omega
theorem updE (f:Nat→V) (i:Nat) (v:V) (j:Nat):upd f i v j=if j=i then v else f j:=rfl
theorem bAl (f:Nat→Option Blk) (i:Nat) (v:Option Blk):upd f i v i=v:=by simp [upd]
theorem bFw (f:Nat→Option Blk) (i j:Nat) (v:Option Blk) (h:j≠i):upd f i v j=f j:=by simp [upd,h]
theorem bB4 {x:Int} (h:-9223372036854775808≤x∧x≤9223372036854775807):IntKind.wrap .i64 x=x:=by
 obtain ⟨h1,h2⟩:=h
 unfold IntKind.wrap
 simp [IntKind.bits,IntKind.signed]
 omega
attribute [push_cast] bMm bJ4 bM1 bMs bBb bHg aTy aUj aU3 aT1 aVw aTj aUr aU5 aVo bM7 bBl bH7 bF9 aUh bL3 bCb bO5 bB3 bKk aXq bIj bM5 bPb bBt bA6 bAz bDl bLi aWv aZs aYk bLj aZl aXx bHo aTf aUm bLw aYl aWo bAv aZn bJm aYe aU9 aXa aUk aZq bHd aRa aUb aP8 aVg bOp bKm bLv bKr bJs bH9 bMa bN9 bOv bO2 bBs bH5 aUn bF8 aQ4 aU0 bCf aPj aRq bFe aTz aTe bJ3 aYn aVl aW7 bK3 aYm aZz bMw bCw bMd bKp bMb x_mx bIc bNd bD2 bJ6 bN1 bO9 bOs bFm bLb bM6 w_gh bMt aPr aOd aNf aMo aQe
attribute [push_cast] aVd aQy bKs bJg bKf bG2 bFg bCj aV9 bGq bI9 bK4 bIy bNr bCo bB1 bBo bCy bGf bCg aWq bLf bLe bGc bFi bB7 aQx bB0 bBm bDb aZd aUu bCu bMx bHy bBv bN7 bNb bNf bM8 bIq bKj bLg bKb bMo bMk v_or bPc bBk bMe bM0 bO0 bL2 bO7 bNu bOi bLa bLc bK0 bLn bKz bI3 bIi x_un bOa bN5 bI5 bMc bG9 bGa bHi bBp bCe bCm aXb aVa aVr bC2 bIe bHb bHk bMl aWu aY1 aXe aZw bCx aWe bLm bNt bH2 bBa aZ6 bI0 bIp aYt aX5 bDt bG0 bGe bId aYi bAs bD4 aYh bBn aWs aY8 aX0 aWn aUg aUl aVp aYj aXg aOj aKv aTw aUf aQj aP0 aP3 aU8 aVt aVc bE9 bGg bDi bCt bB9 bFl bHw bH0 aLo bKl bLt ev_t ev_k bHn bF5 bB5 bBj aZ2 aQq bF1 bBw bAi aVm aQt aP5 aUi bKe aQw aVh aTv aI5 aBh bF4 bFf bHl aWh aRw updE bAl bFw bB4 aW8
attribute [push_cast] decide_true decide_false aBl St.setO St.set St.past St.put St.add St.drop St.enter I.dst aBm List.getD_cons_zero List.getD_cons_succ List.take_succ_cons List.take_zero List.take_nil List.drop_zero List.drop_succ_cons List.drop_nil List.headD_cons List.nil_append List.cons_append List.append_nil List.map_cons List.map_nil List.length_cons List.length_nil List.all_cons List.all_nil List.forall_mem_cons List.foldl_cons List.foldl_nil Option.map_some Option.map_none Nat.zero_add Nat.add_zero if_true if_false Bool.not_true Bool.not_false Bool.and_true Bool.true_and true_and and_true true_implies false_implies Bool.true_eq_false Bool.false_eq_true or_true true_or Nat.le_refl Bool.not_not cond_true cond_false InR Bool.or_false Bool.false_or Bool.bne_true Bool.bne_false Option.isSome_some ne_eq not_false_eq_true Nat.zero_le Nat.add_assoc Nat.add_left_cancel_iff aWh aRw
theorem aRe {α:Type} {p:α→Prop}:(∀ x,x∈([]:List α)→p x)=True:=by simp
attribute [push_cast] aRe
end Go.Ab
namespace Go.Ab
mutual
def V.le:V→V→Prop
 | .nils,y=>y=.nils∨∃ sz,y=.lst sz []
 | .agg a,y=>∃ b,y=.agg b∧V.leL a b
 | .lst sz a,y=>∃ b,y=.lst sz b∧V.leL a b
 | .tup a,y=>∃ b,y=.tup b∧V.leL a b
 | .junk,y=>y=.junk
 | .bool b,y=>y=.bool b
 | .int k n,y=>y=.int k n
 | .str s,y=>y=.str s
 | .nilp,y=>y=.nilp
 | .ptr a b,y=>y=.ptr a b
 | .eptr a b c,y=>y=.eptr a b c
 | .cptr a,y=>y=.cptr a
 | .own a b c d,y=>y=.own a b c d
 | .fn f c,y=>y=.fn f c
 | .map i,y=>y=.map i
 | .nilm,y=>y=.nilm
 | .raw v,y=>y=.raw v
def V.leL:List V→List V→Prop
 | [],y=>y=[]
 | x::r,y=>∃ z q,y=z::q∧x.le z∧V.leL r q
end
mutual
theorem V.le_refl:∀ x:V,x.le x
 | .nils=>by simp [V.le]
 | .agg a=>by simp [V.le,V.leL_refl a]
 | .lst sz a=>by simp [V.le,V.leL_refl a]
 | .tup a=>by simp [V.le,V.leL_refl a]
 | .junk=>by simp [V.le]
 | .bool b=>by simp [V.le]
 | .int k n=>by simp [V.le]
 | .str s=>by simp [V.le]
 | .nilp=>by simp [V.le]
 | .ptr a b=>by simp [V.le]
 | .eptr a b c=>by simp [V.le]
 | .cptr a=>by simp [V.le]
 | .own a b c d=>by simp [V.le]
 | .fn f c=>by simp [V.le]
 | .map i=>by simp [V.le]
 | .nilm=>by simp [V.le]
 | .raw v=>by simp [V.le]
theorem V.leL_refl:∀ l:List V,V.leL l l
 | []=>by simp [V.leL]
 | x::r=>by simp only [V.leL]; exact ⟨x,r,rfl,V.le_refl x,V.leL_refl r⟩
end
theorem aEq {x y:V} {r q:List V}:V.leL (x::r) (y::q)=(x.le y∧V.leL r q):=by
 simp only [V.leL]
 exact propext ⟨fun ⟨z,q',h,h1,h2⟩=>by cases h; exact ⟨h1,h2⟩,fun ⟨h1,h2⟩=>⟨y,q,rfl,h1,h2⟩⟩
theorem aMm:V.leL [] []=True:=by simp [V.leL]
theorem bAk {a b:List V}:V.le (.agg a) (.agg b)=V.leL a b:=by simp [V.le]
theorem bLh {s:Nat} {a b:List V}:V.le (.lst s a) (.lst s b)=V.leL a b:=by simp [V.le]
theorem bHm {s:Nat}:V.le .nils (.lst s [])=True:=by simp [V.le]
theorem bHs {x:V}:V.le x x=True:=eq_true (V.le_refl x)
theorem bH3 {x:List V}:V.leL x x=True:=eq_true (V.leL_refl x)
attribute [push_cast] aEq aMm bAk bLh bHm bHs bH3
theorem aCe:∀ {a b:List V},V.leL a b→a.length=b.length
 | [],b,h=>by simp [V.leL] at h; simp [h]
 | x::r,b,h=>by obtain ⟨z,q,rfl,_,h2⟩:=h; simp [aCe h2]
theorem aEz:∀ {a b:List V} {i:Nat} {y:V},V.leL a b→b[i]?=some y→∃ x,a[i]?=some x∧x.le y
 | [],b,i,y,h,hy=>by simp [V.leL] at h; subst h; simp at hy
 | x::r,b,i,y,h,hy=>by
   obtain ⟨z,q,rfl,h1,h2⟩:=h
   cases i with
   | zero=>simp at hy; subst hy; exact ⟨x,rfl,h1⟩
   | succ i=>simpa using aEz h2 (by simpa using hy)
theorem bJe {x y:V} (h:x.le y) (h1:x.one=true):y.one=true:=by
 cases x <;> simp only [V.le] at h
 case nils=>rcases h with rfl | ⟨sz,rfl⟩ <;> rfl
 case agg=>simp [V.one] at h1
 case tup=>simp [V.one] at h1
 case lst=>obtain ⟨b,rfl,_⟩:=h; rfl
 all_goals (subst h; exact h1)
theorem aYc:∀ {a b:List V},V.leL a b→a.all V.one=true→b.all V.one=true
 | [],b,h,_=>by simp [V.leL] at h; simp [h]
 | x::r,b,h,h1=>by
   obtain ⟨z,q,rfl,h2,h3⟩:=h
   simp only [List.all_cons,Bool.and_eq_true] at h1 ⊢
   exact ⟨bJe h2 h1.1,aYc h3 h1.2⟩
theorem aZh {x y:V} {sz:Nat} (h:x.le y) (h1:x.ncells=some sz):y.ncells=some sz:=by
 cases x <;> simp only [V.le] at h
 case nils=>rcases h with rfl | ⟨sz,rfl⟩ <;> simpa [V.ncells,V.one] using h1
 case agg a =>
  obtain ⟨b,rfl,h2⟩:=h
  simp only [V.ncells] at h1 ⊢
  split at h1
  ·rename_i h3
   rw [if_pos (aYc h2 h3),← aCe h2]
   exact h1
  ·simp at h1
 case tup=>simp [V.ncells,V.one] at h1
 case lst=>obtain ⟨b,rfl,_⟩:=h; simpa [V.ncells,V.one] using h1
 all_goals (subst h; exact h1)
theorem bDw {x y:V} (h:x.le y) {sz:Nat} (h1:x.ncells=some sz):V.leL x.cells y.cells:=by
 cases x <;> simp only [V.le] at h
 case nils=>rcases h with rfl | ⟨sz,rfl⟩ <;> simp [V.cells,V.leL,V.le]
 case agg a=>obtain ⟨b,rfl,h2⟩:=h; exact h2
 case tup=>simp [V.ncells,V.one] at h1
 case lst=>obtain ⟨b,rfl,h2⟩:=h; simp [V.cells,V.leL,V.le,h2]
 all_goals (subst h; exact V.leL_refl _)
theorem Rep.le {G:Ghost} {D:Nat→Prop} {w:World} {x:V} {v:Value} (h:Rep G D w x v):∀ {y:V},x.le y→Rep G D w y v:=by
 induction h with
 | nils =>
   intro y hy
   simp only [V.le] at hy
   rcases hy with rfl | ⟨sz,rfl⟩
   ·exact .nils
   ·exact .lst sz [] none 0 0 0 (by simp) (by omega) (by simp) (by simp) (by simp) (by simp)
 | agg cs vs hn hr ih =>
   intro y hy
   obtain ⟨b,rfl,hb⟩:=hy
   refine .agg _ _ (by rw [← aCe hb]; exact hn) fun i c hc=>?_
   obtain ⟨x,hx,hle⟩:=aEz hb hc
   exact ih i x hx hle
 | tup cs vs hn hr ih =>
   intro y hy
   obtain ⟨b,rfl,hb⟩:=hy
   refine .tup _ _ (by rw [← aCe hb]; exact hn) fun i c hc=>?_
   obtain ⟨x,hx,hle⟩:=aEz hb hc
   exact ih i x hx hle
 | lst sz es a cap b o hc hl ha hz hs hr ih =>
   intro y hy
   obtain ⟨es',rfl,hb⟩:=hy
   have hlen:=aCe hb
   have key:∀ (i j:Nat) (c:V),(es'[i]?.bind fun e:V=>e.cells[j]?)=some c→∃ c':V,(es[i]?.bind fun e:V=>e.cells[j]?)=some c'∧c'.le c:=by
    intro i j c hx
    cases he:es'[i]? with
    | none=>simp [he] at hx
    | some e' =>
      obtain ⟨e,he2,hle⟩:=aEz hb he
      simp only [he,Option.bind_some] at hx
      obtain ⟨c',hc',hle'⟩:=aEz (bDw hle (hz e (mem_of_getElem? he2))) hx
      exact ⟨c',by simp [he2,hc'],hle'⟩
   rw [hlen]
   refine .lst sz es' a cap b o (by omega) hl (fun h0=>ha (by omega)) (fun e he=>?_) (fun i j c hx=>?_) (fun i j c hx=>?_)
   ·obtain ⟨i,hi,he⟩:=List.getElem_of_mem he
    obtain ⟨e2,he2,hle⟩:=aEz hb (show es'[i]?=some e by rw [← he]; exact List.getElem?_eq_getElem hi)
    exact aZh hle (hz e2 (mem_of_getElem? he2))
   ·obtain ⟨c',hc',_⟩:=key i j c hx
    exact hs i j c' hc'
   ·obtain ⟨c',hc',hle⟩:=key i j c hx
    exact ih i j c' hc' hle
 | junk v=>intro y hy; simp only [V.le] at hy; subst hy; exact .junk v
 | bool b=>intro y hy; simp only [V.le] at hy; subst hy; exact .bool b
 | int k n=>intro y hy; simp only [V.le] at hy; subst hy; exact .int k n
 | str s h=>intro y hy; simp only [V.le] at hy; subst hy; exact .str s h
 | nilp=>intro y hy; simp only [V.le] at hy; subst hy; exact .nilp
 | ptr id off g h=>intro y hy; simp only [V.le] at hy; subst hy; exact .ptr id off g h
 | eptr id i j g h=>intro y hy; simp only [V.le] at hy; subst hy; exact .eptr id i j g h
 | cptr cs b o hb hd hs hr ih=>intro y hy; simp only [V.le] at hy; subst hy; exact .cptr cs b o hb hd hs hr
 | own id sz off len g a cap h hz hc hg hl ha=>intro y hy; simp only [V.le] at hy; subst hy; exact .own id sz off len g a cap h hz hc hg hl ha
 | fn f cs vs hn hr ih=>intro y hy; simp only [V.le] at hy; subst hy; exact .fn f cs vs hn hr
 | map id g h=>intro y hy; simp only [V.le] at hy; subst hy; exact .map id g h
 | nilm=>intro y hy; simp only [V.le] at hy; subst hy; exact .nilm
 | raw v=>intro y hy; simp only [V.le] at hy; subst hy; exact .raw v
theorem PTr.le {P:Program} {f:FuncId} {args args':List V} {r:V} (h:PTr P f args' r) (hl:V.leL args args'):PTr P f args r:=by
 intro D w vs hD hgl hn hr
 refine h D w vs hD hgl (by rw [← aCe hl]; exact hn) fun i x hx=>?_
 obtain ⟨x',hx',hle⟩:=aEz hl hx
 exact (hr i x' hx').le hle
theorem ECall.le {P:Program} {f:FuncId} {args args':List V} {L:Heap} {nx:Nat} {post:V→Heap→Nat→Prop} (h:ECall P f args' L nx post) (hl:V.leL args args'):ECall P f args L nx post:=by
 refine ⟨h.1,fun D G w vs hp hn hr=>h.2 D G w vs hp (by rw [← aCe hl]; exact hn) fun i x hx=>?_⟩
 obtain ⟨x',hx',hle⟩:=aEz hl hx
 exact (hr i x' hx').le hle
theorem FzS.le {s s':St} (id ty:Nat) (cs cs':List V) (h:s.L id=some (.box ty cs)) (hl:V.leL cs cs') (hs:FzS ⟨s.env,upd s.L id (some (.box ty cs')),s.nx⟩ s'):FzS s s' :=
 .up id ty cs cs' h (aCe hl) (fun i x y hx hy G D w v hr=>by
  obtain ⟨y',hy',hle⟩:=aEz hl hy
  rw [hx] at hy'
  cases hy'
  exact hr.le hle) hs
end Go.Ab
