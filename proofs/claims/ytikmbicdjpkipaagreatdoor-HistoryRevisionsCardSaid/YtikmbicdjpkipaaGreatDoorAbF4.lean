import Derived.Test.YtikmbicdjpkipaaGreatDoorAbF2
import Derived.Sort.Grow
import Derived.Sort.EncStr
import Derived.Test.YtikmbicdjpkipaaGreatDoorAbG14
open List renaming length_map->zb,getD->zI,mem_iff_getElem->zX,mem_map->zQ,getElem?_eq_some_iff->zS,mem_mergeSort->wK,contains_iff_mem->yj,mem_cons_of_mem->ya,mem_cons->zD,mem_singleton->zp,mem_append->zP,length_append->yl,length_singleton->yU,take->zA,take_length->zu,all_eq_true->zx
open Nat renaming add_zero->xv,mul_one->xB,le_refl->zz
open Array renaming getD_eq_getD_getElem?->zo,getElem?_eq_getElem->ye,getElem?_modify->wv
open Bool renaming or_eq_true->yH,true_and->zy,false_and->zi
set_option linter.unusedSimpArgs false
set_option linter.unusedVariables false
namespace Go.Ab
variable {P:Program} {F T:Nat->Nat}
open Go.Proofs (encStr)
open Go.RowKit
def bL8(P:Program)(f:Nat):Prop:=∀(blk off cap:Nat) (ss:List Tx) (w:World),Go.Sort.Holds encStr w blk off ss.toArray->blk<w.heap.size->ss.length<4611686018427387904 ->
 Calls P f #[.slice (some ⟨blk,off,none⟩) ss.length cap] w λe w'=>e=.returned (.tuple #[])∧∃n os,w'=Go.Sort.grow (Go.Sort.putRow encStr (Go.Sort.ahead w n) blk off (ss.mergeSort λx y=>decide (x<=y)).toArray) os
def srtF(l:List Tx):List Tx:=l.mergeSort λx y=>decide (x<=y)
theorem aJf(l:List Tx):(srtF l).length=l.length:=List.length_mergeSort _
def bC8(P:Program)(F T:Nat->Nat):Prop:=∀(l:List Tx) (id nx:Nat) (L:Heap),L id=some (.vec (T 21) 1 (l.map .str))->0<l.length->l.length<=2^60 ->
 ECall P (F 226) [.own id 1 0 l.length] L nx λv L' nx'=>v=.tup []∧L'=upd L id (some (.vec (T 21) 1 ((srtF l).map .str)))∧nx'=nx
theorem Hp.good{D:Nat->Prop}{L:Heap}{nx:Nat}{G:Ghost}{w:World}(h:Hp P D 0 ⟨λ_=>.junk,L,nx⟩ G w):Good P D 0 ⟨λ_=>.junk,L,nx⟩ G ⟨#[],[]⟩ w:=
 ⟨rfl,rfl,λi=>.junk _,h⟩
theorem bJx(h:bL8 P (F 226)):bC8 P F T:=by
 intro l id nx L hL hpos h60;refine⟨⟨_,_,_,rfl,rfl,rfl⟩,λD G w vs hp hn hr=>?_⟩;obtain⟨g,hG,ok⟩:=hp.blk id _ hL;obtain⟨z1,z2,z3,z4,z5⟩:=ok;have hml:(l.map V.str).length=l.length:=zb ..;rw[hml]at z2;obtain⟨c,ty,fr,k1,⟨k2,rfl⟩,k3,k4⟩:=z5 (by omega);have r0:=hr 0 _ rfl;obtain⟨g',a,cap,e0,q1,q2,q3,q4,q5,q6⟩:=aDy r0;obtain rfl:g=g':=Option.some.inj (hG.symm.trans q1);have ha:=q6 (by omega);rw[Nat.zero_mul,xv]at ha;subst ha;have hvs:vs=#[.slice (some ⟨g.blk,g.off,none⟩) l.length cap]:=by
  have hz:vs.size=1:=by simpa using hn.symm
  refine Array.ext (by simp[hz]) λi h1 h2=>?_;have hi:i=0:=by omega
  subst hi;rw[zo,ye h1]at e0;simpa using e0
 subst hvs;have hlt:g.blk<w.heap.size:=(Array.getElem?_eq_some_iff.1 k1).1;have hcells:∀j,j<l.length->c.getD (g.off+j) undef=encStr (l.getD j []):=λj hj=>by
  have:=k4 j 0 (.str (l.getD j [])) (by simp[hj,zI,V.cells]);rw[xB,xv]at this;generalize c.getD (g.off+j) undef=v at this;cases this
  rfl
 have hstr:∀s,s∈l->s.length<2^63:=λs hs=>by
  obtain⟨j,hj,rfl⟩:=zX.1 hs;have:=k4 j 0 (.str l[j]) (by simp[hj,V.cells]);generalize c.getD (g.off+j*1+0) undef=v at this;cases this
  assumption
 have hH:Go.Sort.Holds encStr w g.blk g.off l.toArray:=λj hj=>by
  have hj':j<l.length:=by simpa using hj
  refine⟨?_,?_⟩
  .rw[aA9 k1];have hb:g.off+j<c.size:=by rw[xB]at k2;omega
   have:=hcells j hj';rw[zo,ye hb]at this;simp only[Option.getD_some]at this;simp[hb,this,hj',zI]
  .have:=k3 j (by omega);simp only[World.frozen?,k1];simpa using this
 have hl63:l.length<4611686018427387904:=by omega
 refine(h g.blk g.off cap l w hH hlt hl63).mono ?_;rintro e w' ⟨rfl,m,os,rfl⟩;have hsz:(srtF l).toArray.size=l.length:=by simp[aJf]
 obtain⟨w1,hw1⟩:∃w1,Go.Sort.putRow encStr (Go.Sort.ahead w m) g.blk g.off (srtF l).toArray=w1:=⟨_,rfl⟩;have hb1:w1.heap[g.blk]?=some (.cells (Go.Sort.putCells encStr g.off (srtF l).toArray c) (T 21) fr):=by rw[<-hw1];show(w.heap.modify g.blk _)[g.blk]?=_;rw[wv,if_pos rfl,k1];rfl
 have hb2:∀x,x≠g.blk->w1.heap[x]?=w.heap[x]?:=λx hx=>by rw[<-hw1];show(w.heap.modify g.blk _)[x]?=_;rw[wv,if_neg λe=>hx e.symm]
 have hb3:w1.heap.size=w.heap.size:=by rw[<-hw1];exact Array.size_modify ..
 have hb4:w1.os=w.os:=by rw[<-hw1];rfl
 have hb5:w1.tape=w.tape:=by rw[<-hw1];rfl
 have hb6:w1.output=w.output:=by rw[<-hw1];rfl
 obtain⟨g1,g2⟩:=hp.good.turnBlk (b':=.vec (T 21) 1 ((srtF l).map .str)) hL hG (λx=>Iff.rfl) (λx h=>h.2) hb2 ⟨by omega,rfl⟩ hb3 hb4 hb5 hb6 λG' D' hm=>by
  refine⟨z1,by rw[zb,aJf];exact z2,z3,λe he=>?_,λ_=>⟨_,_,fr,hb1,⟨?_,rfl⟩,⟨k3.op,λh=>absurd rfl h⟩,λi j x hx=>?_⟩⟩
  .obtain⟨s,_,rfl⟩:=zQ.1 he;rfl
  .simp only[Go.Sort.putCells,Array.size_mapIdx];exact k2
  .cases he:(List.map V.str (srtF l))[i]? with
   | none=>rw[he]at hx;simp at hx
   | some e =>
     rw[he,Option.bind_some]at hx;rw[List.getElem?_map,Option.map_eq_some_iff]at he;obtain⟨s,hs,rfl⟩:=he;have hi:i<l.length:=by rw[<-aJf l];exact(zS.1 hs).1
     have hj:j=0:=by simp only[V.cells]at hx;have:=(zS.1 hx).1;simpa using this
     subst hj;simp only[V.cells,List.getElem?_cons_zero,Option.some.injEq]at hx;subst hx;have hlen:s.length<2^63:=hstr s (wK.1 (List.mem_of_getElem? hs));have hb:g.off+i*1+0<c.size:=by rw[xB]at k2;omega
     have:(Go.Sort.putCells encStr g.off (srtF l).toArray c).getD (g.off+i*1+0) undef=.string ⟨s.toArray⟩:=by rw[xB,xv]at hb ⊢;simp only[Go.Sort.putCells,zo,Array.getElem?_mapIdx,ye hb,Option.map_some,Option.getD_some];rw[if_pos ⟨by omega,by rw[hsz];omega⟩,Nat.add_sub_cancel_left];obtain⟨hi2,hs2⟩:=zS.1 hs;simp[hi2,hs2]
     rw[this];exact .str s hlen
 have hbel:Below w1.heap.size w1 (Go.Sort.grow w1 os):=by
  refine⟨rfl,rfl,rfl,?_,λk hk=>?_⟩
  .show w1.heap.size<=(w1.heap++os).size;simp
  .show(w1.heap++os)[k]?=w1.heap[k]?;rw[Array.getElem?_append_left hk]
 have hw2:Go.Sort.grow (Go.Sort.putRow encStr (Go.Sort.ahead w m) g.blk g.off (l.mergeSort λx y=>decide (x<=y)).toArray) os=Go.Sort.grow w1 os:=by rw[<-hw1];rfl
 rw[hw2];exact⟨_,_,_,_,G,rfl,⟨rfl,rfl,rfl⟩,(g1.hp.grow hbel).congr rfl rfl,zz _,g2.trans (Nxt.grow hbel),.tup [] #[] rfl (by simp)⟩
end Go.Ab
namespace Go.Ab
theorem bBm{u:Tx}{l Z:List Tx}(h:∀x,x∈l->x∈Z){m:Tx}(hb:belM u l m=true):belM u Z m=true:=by
 unfold belM at hb ⊢;simp only[yH,Bool.and_eq_true,decide_eq_true_eq]at hb ⊢;rcases hb with hb|⟨hb,hc⟩
 .exact .inl hb
 .exact .inr ⟨hb,yj.2 (h _ (yj.1 hc))⟩
theorem aTp{u:Tx}{l Z:List Tx}(h:∀x,x∈l->x∈Z){g:Gro}(hb:belG u l g=true):belG u Z g=true:=by
 unfold belG at hb ⊢;rw[List.any_eq_true]at hb ⊢;obtain⟨m,h1,h2⟩:=hb;exact⟨m,h1,bBm h h2⟩
def clos(u:Tx)(gs:List Gro)(Z:List Tx):Prop:=∀g,g∈gs->belG u Z g=true->g.n∈Z
theorem aT0{u:Tx}{gs:List Gro}{Z:List Tx}(hc:clos u gs Z):∀(r:List Gro) (l:List Tx),(∀g,g∈r->g∈gs)->(∀x,x∈l->x∈Z)->∀x,x∈rndG u r l->x∈Z
 | [],l,_,h=>h
 | g::r,l,hr,h=>by
   unfold rndG;refine aT0 hc r _ (λq hq=>hr q (ya _ hq)) λx hx=>?_;split at hx
   .rename_i hb;rcases(aGj _ _ _).1 hx with rfl|hx
    .exact hc g (hr g (by simp)) (aTp h hb)
    .exact h x hx
   .exact h x hx
theorem bA0{u:Tx}{gs:List Gro}{Z:List Tx}(hc:clos u gs Z):∀(k:Nat) (l:List Tx),(∀x,x∈l->x∈Z)->∀x,x∈itF u gs k l->x∈Z
 | 0,l,h=>h
 | k+1,l,h=>by
   have:=aT0 hc gs l (λg h=>h) h;unfold itF;split
   .exact bA0 hc k _ this
   .exact this
theorem aTn{u:Tx}{gs:List Gro}:∀(k:Nat) (l:List Tx),srt l->(∀x,x∈l->isG gs x)->gs.length+3<=k+l.length->clos u gs (itF u gs k l)
 | 0,l,hs,hg,hk=>by have:=aNn hs hg;omega
 | k+1,l,hs,hg,hk=>by
   obtain⟨a1,a2,a3,a4,a5,a6⟩:=aHx u gs gs l (λg h=>h) hs hg;unfold itF;split
   .rename_i h;exact aTn k _ a1 a2 (by omega)
   .rename_i h;have hl:(rndG u gs l).length=l.length:=by omega
    rw[a6 hl];exact λg hg hb=>a5 hl g hg hb
theorem aZ2(u:Tx)(gs:List Gro):clos u gs (grpF u gs):=aTn _ _ (aH3 u) (aHp u gs) (by have:1<=(grp0 u).length:=by { unfold grp0;split<;>simp };omega)
theorem bDz{u:Tx}{gs:List Gro}{Z:List Tx}(hc:clos u gs Z)(h:∀x,x∈grp0 u->x∈Z):∀x,x∈grpF u gs->x∈Z:=bA0 hc _ _ h
def aLh(u:Tx)(out:List Tx)(g:Gro):List Tx:=if out.contains g.n then out else if belG u out g then out++[g.n]else out
def rndO(u:Tx):List Gro->List Tx->List Tx
 | [],l=>l
 | g::r,l=>rndO u r (aLh u l g)
theorem aKy(u:Tx):∀(a b:List Gro) (l:List Tx),rndO u (a++b) l=rndO u b (rndO u a l)
 | [],b,l=>rfl
 | g::a,b,l=>by simp only[List.cons_append,rndO];exact aKy u a b _
theorem aFz(u:Tx)(gs:List Gro):∀(r:List Gro) (l:List Tx),(∀g,g∈r->g∈gs)->l.Nodup->(∀x,x∈l->isG gs x) ->
 (rndO u r l).Nodup∧(∀x,x∈rndO u r l->isG gs x)∧(∀x,x∈l->x∈rndO u r l)∧l.length<=(rndO u r l).length∧((rndO u r l).length=l.length->∀g,g∈r->belG u l g=true->g.n∈l)∧((rndO u r l).length=l.length->rndO u r l=l)
 | [],l,hr,hs,hg=>⟨hs,hg,λx h=>h,zz _,λ_ g hg=>by simp at hg,λ_=>rfl⟩
 | g::r,l,hr,hs,hg=>by
   have hr':∀q,q∈r->q∈gs:=λq hq=>hr q (ya _ hq);unfold rndO aLh;by_cases hc:l.contains g.n=true
   .rw[if_pos hc];obtain⟨a1,a2,a3,a4,a5,a6⟩:=aFz u gs r l hr' hs hg;refine⟨a1,a2,a3,a4,λhl q hq hqb=>?_,a6⟩;rcases zD.1 hq with rfl|hq
    .exact yj.1 hc
    .exact a5 hl q hq hqb
   .rw[if_neg hc];have hm:g.n∉l:=λh=>hc (yj.2 h);by_cases hb:belG u l g=true
    .rw[if_pos hb];obtain⟨a1,a2,a3,a4,a5,a6⟩:=aFz u gs r (l++[g.n]) hr' (by
      rw[List.nodup_append];exact⟨hs,by simp,λx hx y hy=>by rw[zp.1 hy];exact λe=>hm (e▸hx)⟩) λx hx=>by
      rcases zP.1 hx with hx|hx
      .exact hg x hx
      .exact .inr (.inr ⟨g,hr g (by simp),(zp.1 hx).symm⟩)
     rw[yl,yU]at a4;exact⟨a1,a2,λx hx=>a3 x (List.mem_append_left _ hx),by omega,λhl=>by omega,λhl=>by omega⟩
    .rw[if_neg hb];obtain⟨a1,a2,a3,a4,a5,a6⟩:=aFz u gs r l hr' hs hg;refine⟨a1,a2,a3,a4,λhl q hq hqb=>?_,a6⟩;rcases zD.1 hq with rfl|hq
     .exact absurd hqb hb
     .exact a5 hl q hq hqb
theorem aSp{u:Tx}{gs:List Gro}{Z:List Tx}(hc:clos u gs Z):∀(r:List Gro) (l:List Tx),(∀g,g∈r->g∈gs)->(∀x,x∈l->x∈Z)->∀x,x∈rndO u r l->x∈Z
 | [],l,_,h=>h
 | g::r,l,hr,h=>by
   unfold rndO;refine aSp hc r _ (λq hq=>hr q (ya _ hq)) λx hx=>?_;unfold aLh at hx;split at hx
   .exact h x hx
   .split at hx
    .rename_i hb;rcases zP.1 hx with hx|hx
     .exact h x hx
     .rw[zp.1 hx];exact hc g (hr g (by simp)) (aTp h hb)
    .exact h x hx
def itO(u:Tx)(gs:List Gro):Nat->List Tx->List Tx
 | 0,l=>l
 | k+1,l=>if l.length<(rndO u gs l).length then itO u gs k (rndO u gs l)else rndO u gs l
def outF(u:Tx)(gs:List Gro):List Tx:=itO u gs (gs.length+4) (grp0 u)
theorem aZ4{gs:List Gro}{l:List Tx}(hs:l.Nodup)(hg:∀x,x∈l->isG gs x):l.length<=gs.length+2:=by
 have:l.length<=(aT::uT::gs.map Gro.n).length:=List.Nodup.length_le_of_subset hs λx hx=>by
  rcases hg x hx with rfl|rfl|⟨g,hgm,rfl⟩
  .simp
  .simp
  .simp only[zD,zQ];exact .inr (.inr ⟨g,hgm,rfl⟩)
 simpa using this
theorem aSn{u:Tx}{gs:List Gro}:∀(k:Nat) (l:List Tx),l.Nodup->(∀x,x∈l->isG gs x)->gs.length+3<=k+l.length ->
 clos u gs (itO u gs k l)∧(itO u gs k l).Nodup∧(∀x,x∈itO u gs k l->isG gs x)∧(∀x,x∈l->x∈itO u gs k l)
 | 0,l,hs,hg,hk=>by have:=aZ4 hs hg;omega
 | k+1,l,hs,hg,hk=>by
   obtain⟨a1,a2,a3,a4,a5,a6⟩:=aFz u gs gs l (λg h=>h) hs hg;unfold itO;split
   .rename_i h;obtain⟨b1,b2,b3,b4⟩:=aSn k _ a1 a2 (by omega);exact⟨b1,b2,b3,λx hx=>b4 x (a3 x hx)⟩
   .rename_i h;have hl:(rndO u gs l).length=l.length:=by omega
    rw[a6 hl];exact⟨λg hg hb=>a5 hl g hg hb,hs,hg,λx h=>h⟩
theorem bCa{u:Tx}{gs:List Gro}{Z:List Tx}(hc:clos u gs Z):∀(k:Nat) (l:List Tx),(∀x,x∈l->x∈Z)->∀x,x∈itO u gs k l->x∈Z
 | 0,l,h=>h
 | k+1,l,h=>by
   have:=aSp hc gs l (λg h=>h) h;unfold itO;split
   .exact bCa hc k _ this
   .exact this
theorem aP2(u:Tx)(gs:List Gro):clos u gs (outF u gs)∧(outF u gs).Nodup∧(∀x,x∈outF u gs->isG gs x)∧(∀x,x∈grp0 u->x∈outF u gs):=
 aSn _ _ (aHf _ (aH3 u)) (aHp u gs) (by have:1<=(grp0 u).length:=by { unfold grp0;split<;>simp };omega)
theorem bGc:∀(l:List Tx),l.Pairwise (λa b=>a<=b)->l.Nodup->srt l
 | [],_,_=>trivial
 | x::r,h,hn=>by
   rw[List.pairwise_cons]at h;rw[List.nodup_cons]at hn;refine⟨λy hy=>?_,bGc r h.2 hn.2⟩;cases hb:ltB x y with
   | true=>rfl
   | false=>have hxy:x≠y:=λe=>hn.1 (e▸hy);have h2:=aGx.1 (aR1 hb hxy);exact absurd (h.1 y hy) (List.not_le.2 h2)
theorem bDg{l:List Tx}(h:l.Nodup):srt (srtF l):=by
 refine bGc _ ?_ ((List.mergeSort_perm l _).nodup_iff.2 h);have:=List.pairwise_mergeSort (le:=λx y:Tx=>decide (x<=y)) (λa b c h1 h2=>by
  simp only[decide_eq_true_eq]at *;exact List.le_trans h1 h2) (λa b=>by
  simp only[yH,decide_eq_true_eq];exact List.le_total a b) l
 exact this.imp λh=>by simpa using h
theorem bPf(u:Tx)(gs:List Gro):srtF (outF u gs)=grpF u gs:=by
 obtain⟨a1,a2,a3,a4⟩:=aP2 u gs;obtain⟨b1,b2,b3⟩:=aLb u gs;refine aY1 _ _ (bDg a2) b1 λx=>?_;rw[srtF,wK];exact⟨λh=>bCa (aZ2 u gs) _ _ b3 x h,λh=>bDz a1 a4 x h⟩
variable {P:Program} {F T:Nat->Nat}
theorem t225(hf:bC4 P F T)(h220:aW0 P F T)(h222:aOw P F T)(u m:Tx)(out:List Tx)(ho:out.length<=1000)(L:Heap)(nx a b c id:Nat)(ha:L a=some (.box (T 15) [.bool (aCr u)]))(hb:L b=some (.box (T 21) [.str u]))(hc:L c=some (.box (T 26) [.own id 1 0 out.length]))(hid:L id=some (.vec (T 21) 1 (out.map .str))):
 ECall P (F 225) [.str m,.ptr a 0,.ptr b 0,.ptr c 0] L nx λv L' nx'=>v=.bool (belM u out m)∧nx<=nx'∧L'=L:=by
 refine aB0 [] hf (by simp) ?_;have hoi:=aAp out;have hvw:view L 3 (.own id 1 0 out.length)=.lst 1 (out.map .str):=aB7 hid hoi (by simp);have c1:=t220 h220 h222 out (m.drop 1) (by omega);simp only[c225,push_cast,seval,-Nat.reducePow,ha,hb,hc];cases hnb:aCr u with
 | true =>
   by_cases hmu:m=u
   .have e:belM u out m=true:=by unfold belM;simp[hnb,hmu]
    subst hmu;simp only[push_cast,seval,-Nat.reducePow,ha,hb,hc,e];omega
   .have hmu':decide (m=u)=false:=decide_eq_false hmu;have key:belM u out m=(decide (0<m.length)&&decide ((m.getD 0 0).toNat=64)&&out.contains (m.drop 1)):=by unfold belM;simp[hnb,hmu]
    by_cases b1:0<m.length
    .have b1':(0:Int)<((m.length:Nat):Int):=by omega
     have b1n:1<=m.length:=b1;have htl:zA m.length m=m:=zu;by_cases b2:(m.getD 0 0).toNat=64
     .have b2':(((m.getD 0 0).toNat:Nat):Int)=64:=by omega
      rw[decide_eq_true b1,decide_eq_true b2,zy,zy]at key;simp only[push_cast,seval,-Nat.reducePow,ha,hb,hc,hnb,hmu,b1,b1',b2',b1n,htl];refine aCa (r:=.bool (out.contains (m.drop 1))) ?_ ?_ rfl ?_
      .rw[hvw];simp only[view];exact c1
      .rw[hvw];simp only[view,V.imms,V.imm,hoi,zy]
      simp only[push_cast,seval,-Nat.reducePow];exact⟨by omega,by rw[key],by omega⟩
     .have b2':¬(((m.getD 0 0).toNat:Nat):Int)=64:=by omega
      rw[decide_eq_true b1,decide_eq_false b2,zy,zi]at key;simp only[push_cast,seval,-Nat.reducePow,ha,hb,hc,hnb,hmu,b1,b1',b2'];exact⟨by omega,by rw[key],by omega⟩
    .have b1':¬(0:Int)<((m.length:Nat):Int):=by omega
     rw[decide_eq_false b1,zi,zi]at key;simp only[push_cast,seval,-Nat.reducePow,ha,hb,hc,hnb,hmu,b1'];exact⟨by omega,by rw[key],by omega⟩
 | false =>
   have key:belM u out m=(decide (0<m.length)&&decide ((m.getD 0 0).toNat=64)&&out.contains (m.drop 1)):=by unfold belM;simp[hnb]
   by_cases b1:0<m.length
   .have b1':(0:Int)<((m.length:Nat):Int):=by omega
    have b1n:1<=m.length:=b1;have htl:zA m.length m=m:=zu;by_cases b2:(m.getD 0 0).toNat=64
    .have b2':(((m.getD 0 0).toNat:Nat):Int)=64:=by omega
     rw[decide_eq_true b1,decide_eq_true b2,zy,zy]at key;simp only[push_cast,seval,-Nat.reducePow,ha,hb,hc,hnb,b1,b1',b2',b1n,htl];refine aCa (r:=.bool (out.contains (m.drop 1))) ?_ ?_ rfl ?_
     .rw[hvw];simp only[view];exact c1
     .rw[hvw];simp only[view,V.imms,V.imm,hoi,zy]
     simp only[push_cast,seval,-Nat.reducePow];exact⟨by omega,by rw[key],by omega⟩
    .have b2':¬(((m.getD 0 0).toNat:Nat):Int)=64:=by omega
     rw[decide_eq_true b1,decide_eq_false b2,zy,zi]at key;simp only[push_cast,seval,-Nat.reducePow,ha,hb,hc,hnb,b1,b1',b2'];exact⟨by omega,by rw[key],by omega⟩
   .have b1':¬(0:Int)<((m.length:Nat):Int):=by omega
    rw[decide_eq_false b1,zi,zi]at key;simp only[push_cast,seval,-Nat.reducePow,ha,hb,hc,hnb,b1'];exact⟨by omega,by rw[key],by omega⟩
theorem t224(hf:aW6 P F T)(hb225:aBk P (F 225)=true)(g:Tx->Bool)(ms:List Tx)(hm:ms.length<=2^60)(cs:List V)(L:Heap)(nx:Nat)
 (hcl:∀m nx1,nx<=nx1->ECall P (F 225) (.str m::cs) L nx1 λv L' nx'=>v=.bool (g m)∧nx1<=nx'∧L'=L) :
 ECall P (F 224) [.lst 1 (ms.map .str),.fn (F 225) cs] L nx λv L' nx'=>(∃i:Int,v=.int .i64 i∧decide (0<=i)=ms.any g)∧nx<=nx'∧L'=L:=by
 refine aB0 [] hf (by simp) ?_;have hln:(ms.map V.str).length=ms.length:=zb ..;simp only[c224,push_cast,seval,-Nat.reducePow,hln];refine aAd (λm s=>∃i,i<=ms.length∧m=ms.length-i∧ms.any g=(ms.drop i).any g∧s.env 0=.lst 1 (ms.map .str)∧s.env 1=.fn (F 225) cs∧s.env 7=.int .i64 ms.length∧s.env 8=.int .i64 i∧s.L=L∧nx<=s.nx) ms.length ⟨0,?_⟩ λm s hJ=>?_
 .simp only[push_cast,seval,-Nat.reducePow];exact⟨rfl,by omega⟩
 .obtain⟨i,hi,rfl,hb,j0,j1,j7,j8,jL,jn⟩:=hJ;by_cases h:i<ms.length
  .have h':((i:Nat):Int)<((ms.length:Nat):Int):=by omega
   have hg:=aEe h;have hd:ms.drop i=ms.getD i []::ms.drop (i+1):=by rw[List.drop_eq_getElem_cons h];simp[zI,h]
   rw[hd,List.any_cons]at hb;simp only[push_cast,seval,-Nat.reducePow,j0,j1,j7,j8,jL,h',hln,hg];refine⟨h,hb225,aAg (hcl (ms.getD i []) _ (by omega)) ?_⟩;rintro v L1 n1 ⟨rfl,hn1,rfl⟩;cases e:g (ms.getD i [])with
   | true=>rw[e,Bool.true_or]at hb;simp only[push_cast,seval,-Nat.reducePow,j0,j1,j7,j8];exact⟨by omega,⟨i,rfl,by rw[hb];simp⟩,by omega⟩
   | false=>rw[e,Bool.false_or]at hb;simp only[push_cast,seval,-Nat.reducePow,j0,j1,j7,j8];exact⟨⟨by omega,by omega⟩,ms.length-(i+1),by omega,i+1,by omega,rfl,hb,by simp,by omega⟩
  .have h':¬((i:Nat):Int)<((ms.length:Nat):Int):=by omega
   obtain rfl:i=ms.length:=by omega
   rw[List.drop_length,List.any_nil]at hb;simp only[push_cast,seval,-Nat.reducePow,j0,j1,j7,j8,jL,h',hb];exact⟨by omega,⟨-1,rfl,by simp⟩,by omega⟩
theorem t191(hf:aZw P F T)(s:Tx):PTr P (F 191) [.str s] (.bool (aCr s)):=by
 refine ptrC [] hf (by simp) rfl ?_;rw[aKh];by_cases a1:s.length<1
 .have a1':((s.length:Nat):Int)<1:=by omega
  simp only[c191,push_cast,seval,-Nat.reducePow,a1,a1',view,zi]
 have a1':¬((s.length:Nat):Int)<1:=by omega
 by_cases a2:30<s.length
 .have a2':(30:Int)<((s.length:Nat):Int):=by omega
  simp only[c191,push_cast,seval,-Nat.reducePow,a1,a1',a2,a2',view,zi]
 have a2':¬(30:Int)<((s.length:Nat):Int):=by omega
 have a0:0<s.length:=by omega
 have hall:∀(i:Nat),i<s.length->okC (s.getD i 0)=false->s.all okC=false:=λi hi h=>by
  cases e:s.all okC with
  | false=>rfl
  | true=>have:=zx.1 e (s.getD i 0) (by simp[zI,hi]);rw[h]at this;cases this
 have hall2:(∀(i:Nat),i<s.length->okC (s.getD i 0)=true)->s.all okC=true:=λh=>zx.2 λx hx=>by obtain⟨i,hi,rfl⟩:=zX.1 hx;have:=h i hi;simpa[zI,hi]using this
 obtain⟨c0,hc0⟩:∃c,s.getD 0 0=c:=⟨_,rfl⟩;rw[hc0];by_cases a3:c0.toNat<97
 .have a3':((c0.toNat:Nat):Int)<97:=by omega
  simp only[c191,push_cast,seval,-Nat.reducePow,a1,a1',a2,a2',a0,hc0,a3,a3',view,zi]
 have a3':¬((c0.toNat:Nat):Int)<97:=by omega
 by_cases a4:122<c0.toNat
 .have a4':(122:Int)<((c0.toNat:Nat):Int):=by omega
  simp only[c191,push_cast,seval,-Nat.reducePow,a1,a1',a2,a2',a0,hc0,a3,a3',a4,a4',view,zi]
 have a4':¬(122:Int)<((c0.toNat:Nat):Int):=by omega
 simp only[c191,push_cast,seval,-Nat.reducePow,a1,a1',a2,a2',a0,hc0,a3,a3',a4,a4'];refine aAd (λm s1=>∃i,i<=s.length∧m=s.length-i∧(∀k,k<i->okC (s.getD k 0)=true)∧s1.env 0=.str s∧s1.env 24=.int .i64 s.length∧s1.env 25=.int .i64 i) s.length ⟨0,?_⟩ λm s1 hJ=>?_
 .simp only[push_cast,seval,-Nat.reducePow];exact⟨rfl,λk hk=>absurd hk (Nat.not_lt_zero _)⟩
 .obtain⟨i,hi,rfl,hn,j0,j24,j3⟩:=hJ;by_cases h:i<s.length
  .have h':((i:Nat):Int)<((s.length:Nat):Int):=by omega
   obtain⟨c,hc⟩:∃c,s.getD i 0=c:=⟨_,rfl⟩;have hok:=aPr c;have hbad:okC c=false->s.all okC=false:=λe=>hall i h (by rw[hc];exact e);have hgo:okC c=true->∀k,k<i+1->okC (s.getD k 0)=true:=λe k hk=>by
    by_cases hki:k=i
    .rw[hki,hc];exact e
    .exact hn k (by omega)
   have step:okC c=true->(True∧∃m',m'<s.length-i∧∃i_1,i_1<=s.length∧m'=s.length-i_1∧(∀k,k<i_1->okC (s.getD k 0)=true)∧((i:Int)+1)=i_1):=λe=>⟨trivial,s.length-(i+1),by omega,i+1,by omega,rfl,hgo e,by simp⟩;simp only[push_cast,seval,-Nat.reducePow,j0,j24,j3,h'];refine aAx (λs1=>s1.env 0=.str s∧s1.env 4=.int .u8 c.toNat∧s1.env 24=.int .i64 s.length∧s1.env 25=.int .i64 i) ?_ ?_
   .simp only[push_cast,seval,-Nat.reducePow,j0,j24,j3,hc];exact h
   rintro s2 ⟨i0,i4,i24,i25⟩;by_cases b1:c.toNat<97
   .have b1':((c.toNat:Nat):Int)<97:=by omega
    by_cases b3:c.toNat<48
    .have b3':((c.toNat:Nat):Int)<48:=by omega
     by_cases b5:c.toNat=45
     .have b5':((c.toNat:Nat):Int)=45:=by omega
      have e:okC c=true:=hok.2 (by omega);simp only[push_cast,seval,-Nat.reducePow,i0,i4,i24,i25,b1',b3',b5'];exact⟨⟨by omega,by omega⟩,s.length-(i+1),by omega,i+1,by omega,rfl,hgo e,by simp⟩
     .have b5':¬((c.toNat:Nat):Int)=45:=by omega
      have b6':¬((c.toNat:Nat):Int)=95:=by omega
      have e:okC c=false:=by cases q:okC c with|false=>rfl|true=>exact absurd (hok.1 q) (by omega)
      simp only[push_cast,seval,-Nat.reducePow,i0,i4,i24,i25,b1',b3',b5',b6',view,hbad e]
    .have b3':¬((c.toNat:Nat):Int)<48:=by omega
     by_cases b4:57<c.toNat
     .have b4':(57:Int)<((c.toNat:Nat):Int):=by omega
      have b5':¬((c.toNat:Nat):Int)=45:=by omega
      by_cases b6:c.toNat=95
      .have b6':((c.toNat:Nat):Int)=95:=by omega
       have e:okC c=true:=hok.2 (by omega);simp only[push_cast,seval,-Nat.reducePow,i0,i4,i24,i25,b1',b3',b4',b5',b6'];exact⟨⟨by omega,by omega⟩,s.length-(i+1),by omega,i+1,by omega,rfl,hgo e,by simp⟩
      .have b6':¬((c.toNat:Nat):Int)=95:=by omega
       have e:okC c=false:=by cases q:okC c with|false=>rfl|true=>exact absurd (hok.1 q) (by omega)
       simp only[push_cast,seval,-Nat.reducePow,i0,i4,i24,i25,b1',b3',b4',b5',b6',view,hbad e]
     .have b4':¬(57:Int)<((c.toNat:Nat):Int):=by omega
      have e:okC c=true:=hok.2 (by omega);simp only[push_cast,seval,-Nat.reducePow,i0,i4,i24,i25,b1',b3',b4'];exact⟨⟨by omega,by omega⟩,s.length-(i+1),by omega,i+1,by omega,rfl,hgo e,by simp⟩
   .have b1':¬((c.toNat:Nat):Int)<97:=by omega
    by_cases b2:122<c.toNat
    .have b2':(122:Int)<((c.toNat:Nat):Int):=by omega
     have b3':¬((c.toNat:Nat):Int)<48:=by omega
     have b4':(57:Int)<((c.toNat:Nat):Int):=by omega
     have b5':¬((c.toNat:Nat):Int)=45:=by omega
     have b6':¬((c.toNat:Nat):Int)=95:=by omega
     have e:okC c=false:=by cases q:okC c with|false=>rfl|true=>exact absurd (hok.1 q) (by omega)
     simp only[push_cast,seval,-Nat.reducePow,i0,i4,i24,i25,b1',b2',b3',b4',b5',b6',view,hbad e]
    .have b2':¬(122:Int)<((c.toNat:Nat):Int):=by omega
     have e:okC c=true:=hok.2 (by omega);simp only[push_cast,seval,-Nat.reducePow,i0,i4,i24,i25,b1',b2'];exact⟨⟨by omega,by omega⟩,s.length-(i+1),by omega,i+1,by omega,rfl,hgo e,by simp⟩
  .have h':¬((i:Nat):Int)<((s.length:Nat):Int):=by omega
   have e:=hall2 λk hk=>hn k (by omega);simp only[push_cast,seval,-Nat.reducePow,j0,j24,j3,h',e,view]
theorem t223(hf:bEi P F T)(h224:aW6 P F T)(hb225:aBk P (F 225)=true)(g:Tx->Bool)(ms:List Tx)(hm:ms.length<=2^60)(cs:List V)(L:Heap)(nx:Nat)
 (hcl:∀m nx1,nx<=nx1->ECall P (F 225) (.str m::cs) L nx1 λv L' nx'=>v=.bool (g m)∧nx1<=nx'∧L'=L) :
 ECall P (F 223) [.lst 1 (ms.map .str),.fn (F 225) cs] L nx λv L' nx'=>v=.bool (ms.any g)∧nx<=nx'∧L'=L:=by
 refine aB0 [] hf (by simp) ?_;simp only[c223,push_cast,seval,-Nat.reducePow];refine aAg (t224 h224 hb225 g ms hm cs L _ λm nx1 h=>hcl m nx1 (by omega)) ?_;rintro v L1 n1 ⟨⟨i,rfl,hi⟩,hn1,rfl⟩;simp only[push_cast,seval,-Nat.reducePow,hi];omega
theorem t180(hf:bK7 P F T)(h191:aZw P F T)(h220:aW0 P F T)(h222:aOw P F T)(h223:bEi P F T)(h224:aW6 P F T)(h225:bC4 P F T)(hb225:aBk P (F 225)=true)(hS:bC8 P F T)(gs:List Gro)(rv dv:List V)(hrv:V.imms rv=true)(hdv:V.imms dv=true)(u:Tx)(hgl:gs.length<=100)(hm:∀g,g∈gs->g.m.length<=2^60):
 PTr P (F 180) [.agg [.lst 2 (grV gs),.lst 6 rv,.lst 5 dv],.str u] (.lst 1 ((grpF u gs).map .str)):=by
 refine ptrC [] hf (by simp) (by simp[V.imm,aAp]) ?_;have hgi:=aA6 gs;have hgn:=aCx gs;have g0n:=aHf _ (aH3 u);have g0g:=aHp u gs;simp only[c180,push_cast,seval,-Nat.reducePow,hgi,hrv,hdv];refine aAa (t191 h191 u) (by simp only[push_cast,seval,-Nat.reducePow]) (by simp only[push_cast,seval,-Nat.reducePow]) ?_;simp only[push_cast,seval,-Nat.reducePow];refine aAx (λs=>∃id:Nat,s.env 2=.ptr 2 0∧s.env 3=.ptr 3 0∧s.env 5=.ptr 47 0∧s.env 6=.ptr 90 0∧s.L 2=some (.box (T 16) [.lst 2 (grV gs),.lst 6 rv,.lst 5 dv])∧s.L 3=some (.box (T 21) [.str u])∧s.L 47=some (.box (T 26) [.own id 1 0 (grp0 u).length])∧s.L 90=some (.box (T 15) [.bool (aCr u)])∧s.L id=some (.vec (T 21) 1 ((grp0 u).map .str))∧id≠2∧id≠3∧id≠47∧id≠90∧id<s.nx∧126<=s.nx) ?_ ?_
 .cases hn:aCr u with
  | true =>
    have e:grp0 u=[aT,uT]:=by unfold grp0;rw[hn];rfl
    rw[e];simp only[push_cast,seval,-Nat.reducePow,aT,uT];exact⟨by omega,184,rfl,by simp[upd],by omega,by omega,by omega,by omega,by omega⟩
  | false =>
    have e:grp0 u=[aT]:=by unfold grp0;rw[hn];rfl
    rw[e];simp only[push_cast,seval,-Nat.reducePow,aT];exact⟨52,rfl,by simp[upd],by omega,by omega,by omega,by omega,by omega⟩
 .rintro s0 ⟨id,k2,k3,k5,k6,kP,kU,kO,kN,kV,d2,d3,d47,d90,dl,dn⟩;simp only[push_cast,seval,-Nat.reducePow,k2,k3,k5,k6,kP,kU,kO,kN,kV];refine aAd (λm s=>∃(out:List Tx) (id:Nat) (ag:Bool),m=2*(gs.length+3-out.length)+(if ag then 1 else 0)∧out.Nodup∧(∀x,x∈out->isG gs x)∧((ag=true∧∃k,gs.length+3<=k+out.length∧outF u gs=itO u gs k out)∨(ag=false∧outF u gs=out)) ∧
   s.env 7=.bool ag∧s.env 2=.ptr 2 0∧s.env 3=.ptr 3 0∧s.env 5=.ptr 47 0∧s.env 6=.ptr 90 0∧s.L 2=some (.box (T 16) [.lst 2 (grV gs),.lst 6 rv,.lst 5 dv])∧s.L 3=some (.box (T 21) [.str u])∧s.L 47=some (.box (T 26) [.own id 1 0 out.length])∧s.L 90=some (.box (T 15) [.bool (aCr u)])∧s.L id=some (.vec (T 21) 1 (out.map .str))∧id≠2∧id≠3∧id≠47∧id≠90∧id<s.nx∧126<=s.nx) (2*(gs.length+3-(grp0 u).length)+1) ⟨grp0 u,id,true,?_⟩ λm s hJ=>?_
  .simp only[push_cast,seval,-Nat.reducePow,k2,k3,k5,k6,kP,kU,kO,kN,kV];exact⟨g0n,g0g,.inl ⟨gs.length+4,by omega,rfl⟩,d2,d3,d47,d90,by omega,by omega⟩
  .obtain⟨out,id,ag,rfl,hs,hg,hcase,j7,j2,j3,j5,j6,jP,jU,jO,jN,jV,d2,d3,d47,d90,dl,dn⟩:=hJ;have hll:=aZ4 hs hg;rcases hcase with⟨rfl,k,hk,hgr⟩|⟨rfl,hgr⟩
   .simp only[push_cast,seval,-Nat.reducePow,j7,j2,j3,j5,j6,jP,jU,jO,jN,jV,hgn];refine aAd (λm s=>∃(i id:Nat),i<=gs.length∧m=gs.length-i∧s.env 7=.bool (decide (out.length<(rndO u (gs.take i) out).length))∧s.env 19=.lst 2 (grV gs)∧s.env 20=.int .i64 gs.length∧s.env 21=.int .i64 i∧s.env 2=.ptr 2 0∧s.env 3=.ptr 3 0∧s.env 5=.ptr 47 0∧s.env 6=.ptr 90 0∧s.L 2=some (.box (T 16) [.lst 2 (grV gs),.lst 6 rv,.lst 5 dv])∧s.L 3=some (.box (T 21) [.str u])∧s.L 47=some (.box (T 26) [.own id 1 0 (rndO u (gs.take i) out).length])∧s.L 90=some (.box (T 15) [.bool (aCr u)])∧s.L id=some (.vec (T 21) 1 ((rndO u (gs.take i) out).map .str))∧id≠2∧id≠3∧id≠47∧id≠90∧id<s.nx∧126<=s.nx) gs.length ⟨0,id,?_⟩ λm s hJ=>?_
    .simp only[push_cast,seval,-Nat.reducePow,j7,j2,j3,j5,j6,jP,jU,jO,jN,jV];exact⟨rfl,by simp[rndO],rfl,rfl,d2,d3,d47,d90,by omega⟩
    .obtain⟨i,id,hi,rfl,i7,i19,i20,i21,i2,i3,i5,i6,iP,iU,iO,iN,iV,d2,d3,d47,d90,dl,dn⟩:=hJ;have hsub:∀g,g∈gs.take i->g∈gs:=λg h=>List.mem_of_mem_take h;obtain⟨a1,a2,a3,a4,a5,a6⟩:=aFz u gs (gs.take i) out hsub hs hg;have hrl:=aZ4 a1 a2;obtain⟨R,hR⟩:∃R,rndO u (gs.take i) out=R:=⟨_,rfl⟩;rw[hR]at i7 iO iV a1 a2 hrl a4;have hRi:=aAp R;by_cases h:i<gs.length
     .have h':((i:Nat):Int)<((gs.length:Nat):Int):=by omega
      obtain⟨q,hq,hqv,hqm⟩:=bM0 h;have ht:gs.take (i+1)=gs.take i++[q]:=by rw[List.take_add_one,hq];rfl
      have hR2:rndO u (gs.take (i+1)) out=aLh u R q:=by rw[ht,aKy,hR];rfl
      have hqi:=aAp q.m;have z2:∀(z:Nat) (x:Option Blk) (M:Heap),upd M (s.nx+z) x 2=M 2:=λz x M=>aAc _ _ _ _ (by omega);have z3:∀(z:Nat) (x:Option Blk) (M:Heap),upd M (s.nx+z) x 3=M 3:=λz x M=>aAc _ _ _ _ (by omega);have z47:∀(z:Nat) (x:Option Blk) (M:Heap),upd M (s.nx+z) x 47=M 47:=λz x M=>aAc _ _ _ _ (by omega);have z90:∀(z:Nat) (x:Option Blk) (M:Heap),upd M (s.nx+z) x 90=M 90:=λz x M=>aAc _ _ _ _ (by omega);have zid:∀(z:Nat) (x:Option Blk) (M:Heap),upd M (s.nx+z) x id=M id:=λz x M=>aAc _ _ _ _ (by omega);simp only[push_cast,seval,-Nat.reducePow,i7,i19,i20,i21,i2,i3,i5,i6,iP,iU,iO,iN,iV,h',hgn,hqv,z2,z3,z47,z90,zid];have hvw:∀(M:Heap),M id=s.L id->view M 3 (.own id 1 0 R.length)=.lst 1 (R.map .str):=λM hM=>aB7 (by rw[hM];exact iV) hRi (by simp);refine⟨h,aCa (r:=.bool (R.contains q.n)) ?_ ?_ rfl ?_⟩
      .rw[hvw _ (by rw[zid,zid])];simp only[view];exact t220 h220 h222 R q.n (by omega)
      .rw[hvw _ (by rw[zid,zid])];simp only[view,V.imms,V.imm,hRi,zy]
      cases hc:R.contains q.n with
      | true =>
        have hR3:aLh u R q=R:=by unfold aLh;rw[if_pos hc]
        rw[hR3]at hR2;simp only[push_cast,seval,-Nat.reducePow,i7,i19,i20,i21,i2,i3,i5,i6,iP,iU,iO,iN,iV,z2,z3,z47,z90,zid];exact⟨⟨by omega,by omega⟩,gs.length-(i+1),by omega,i+1,id,by omega,rfl,by rw[hR2],by simp,by rw[hR2],by rw[zid,zid,hR2];exact iV,d2,d3,d47,d90,by omega⟩
      | false =>
        simp only[push_cast,seval,-Nat.reducePow,i7,i19,i20,i21,i2,i3,i5,i6,iP,iU,iO,iN,iV,z2,z3,z47,z90,zid];refine aAg (t223 h223 h224 hb225 (belM u R) q.m (hm q hqm) [.ptr 90 0,.ptr 3 0,.ptr 47 0] _ _ λm nx1 h1=>t225 h225 h220 h222 u m R (by omega) _ nx1 90 3 47 id (by simp only[z90,iN]) (by simp only[z3,iU]) (by simp only[z47,iO]) (by simp only[zid,iV])) ?_;rintro v L1 n1 ⟨rfl,hn1,rfl⟩;have hbl:q.m.any (belM u R)=belG u R q:=rfl;rw[hbl];cases hb:belG u R q with
        | true =>
          have hR3:aLh u R q=R++[q.n]:=by unfold aLh;rw[if_neg (by rw[hc];simp),if_pos hb]
          rw[hR3]at hR2;simp only[push_cast,seval,-Nat.reducePow,i7,i19,i20,i21,i2,i3,i5,i6,iP,iU,iO,iN,iV,z2,z3,z47,z90,zid];have w2:∀(x:Option Blk) (M:Heap),upd M id x 2=M 2:=λx M=>aAc _ _ _ _ (λe=>d2 e.symm);have w3:∀(x:Option Blk) (M:Heap),upd M id x 3=M 3:=λx M=>aAc _ _ _ _ (λe=>d3 e.symm);have w47:∀(x:Option Blk) (M:Heap),upd M id x 47=M 47:=λx M=>aAc _ _ _ _ (λe=>d47 e.symm);have w90:∀(x:Option Blk) (M:Heap),upd M id x 90=M 90:=λx M=>aAc _ _ _ _ (λe=>d90 e.symm);have x2:∀(z:Nat) (x:Option Blk) (M:Heap),upd M (n1+z) x 2=M 2:=λz x M=>aAc _ _ _ _ (by omega);have x3:∀(z:Nat) (x:Option Blk) (M:Heap),upd M (n1+z) x 3=M 3:=λz x M=>aAc _ _ _ _ (by omega);have x47:∀(z:Nat) (x:Option Blk) (M:Heap),upd M (n1+z) x 47=M 47:=λz x M=>aAc _ _ _ _ (by omega);have x90:∀(z:Nat) (x:Option Blk) (M:Heap),upd M (n1+z) x 90=M 90:=λz x M=>aAc _ _ _ _ (by omega);have htk:zA R.length (R.map V.str)=R.map V.str:=List.take_of_length_le (by simp);have hml:(R.map V.str).length=R.length:=zb ..;simp only[push_cast,seval,-Nat.reducePow,i7,i19,i20,i21,i2,i3,i5,i6,iP,iU,iO,iN,iV,z2,z3,z47,z90,zid,w2,w3,w47,w90,x2,x3,x47,x90,htk,hml];have hg1:out.length<(rndO u (gs.take (i+1)) out).length:=by rw[hR2,yl,yU];omega
          exact⟨by omega,⟨by omega,by omega⟩,gs.length-(i+1),by omega,i+1,n1+79,by omega,rfl,by rw[decide_eq_true hg1],by simp,by rw[hR2,yl,yU],by rw[hR2,List.map_append,aAc _ _ _ _ (by omega)];exact aAe _ _ _,by omega,by omega,by omega,by omega,by omega⟩
        | false =>
          have hR3:aLh u R q=R:=by unfold aLh;rw[if_neg (by rw[hc];simp),if_neg (by rw[hb];simp)]
          rw[hR3]at hR2;simp only[push_cast,seval,-Nat.reducePow,i7,i19,i20,i21,i2,i3,i5,i6,iP,iU,iO,iN,iV,z2,z3,z47,z90,zid];exact⟨⟨by omega,by omega⟩,gs.length-(i+1),by omega,i+1,id,by omega,rfl,by rw[hR2],by simp,by rw[hR2],by rw[zid,zid,hR2];exact iV,d2,d3,d47,d90,by omega,by omega⟩
     .have h':¬((i:Nat):Int)<((gs.length:Nat):Int):=by omega
      obtain rfl:i=gs.length:=by omega
      rw[zu]at hR a3 a5 a6;rw[hR]at a3 a5 a6;obtain⟨k,rfl⟩:∃k',k=k'+1:=⟨k-1,by omega⟩;rw[itO,hR]at hgr;simp only[push_cast,seval,-Nat.reducePow,i7,i19,i20,i21,i2,i3,i5,i6,iP,iU,iO,iN,iV,h',hgn];by_cases hgrow:out.length<R.length
      .rw[if_pos hgrow]at hgr;exact⟨2*(gs.length+3-R.length)+1,by omega,R,id,true,by simp,a1,a2,.inl ⟨rfl,k,by omega,hgr⟩,by simp[hgrow],rfl,iV,d2,d3,d47,d90,by omega,by omega⟩
      .rw[if_neg hgrow]at hgr;exact⟨2*(gs.length+3-R.length)+0,by omega,R,id,false,by simp,a1,a2,.inr ⟨rfl,hgr⟩,by simp[hgrow],rfl,iV,d2,d3,d47,d90,by omega,by omega⟩
   .have ha:aT∈out:=by rw[<-hgr];exact(aP2 u gs).2.2.2 aT (by unfold grp0;split<;>simp)
    have hpos:0<out.length:=List.length_pos_of_mem ha;simp only[push_cast,seval,-Nat.reducePow,j7,j2,j3,j5,j6,jP,jU,jO,jN,jV];refine aAg (hS out id _ _ jV hpos (by omega)) ?_;rintro v L1 n1 ⟨rfl,rfl,rfl⟩;have w47:∀(x:Option Blk) (M:Heap),upd M id x 47=M 47:=λx M=>aAc _ _ _ _ (λe=>d47 e.symm);simp only[push_cast,seval,-Nat.reducePow,j5,w47,jO];rw[<-bPf,hgr];exact aB7 (aAe _ _ _) (aAp _) (by simp[aJf])
structure GrpC(P:Program)(F T:Nat->Nat):Prop where
 h180:bK7 P F T
 h191:aZw P F T
 h220:aW0 P F T
 h222:aOw P F T
 h223:bEi P F T
 h224:aW6 P F T
 h225:bC4 P F T
 hb225:aBk P (F 225)=true
 hS:bC8 P F T
theorem bPx(G:GrpC P F T)(gs:List Gro)(rs:List Rul)(ds:List Grd)(u:Tx)(hgl:gs.length<=100)(hm:∀g,g∈gs->g.m.length<=2^60):
 PTr P (F 180) [.agg [.lst 2 (grV gs),.lst 6 (ruV rs),.lst 5 (gdV ds)],.str u] (.lst 1 ((grpF u gs).map .str)):=
 t180 G.h180 G.h191 G.h220 G.h222 G.h223 G.h224 G.h225 G.hb225 G.hS gs _ _ (aBv rs) (aBy ds) u hgl hm
theorem bH4(R:RGrC P F T)(gs:List Gro)(rs:List Rul)(ds:List Grd)(u:Tx)(hgl:gs.length<=100)(hm:∀g,g∈gs->g.m.length<=2^60):
 PTr P (F 209) [.agg [.lst 2 (grV gs),.lst 6 (ruV rs),.lst 5 (gdV ds)],.str u] (.lst 1 ((grpF u gs).map .str)):=
 t209 R.h209 R.h217 R.h193 R.h218 R.h219 gs _ _ (aBv rs) (aBy ds) u hgl hm
end Go.Ab
