/- Several texts of one kind, merged. No condition. -/
import Derived.Test.YtcmnepgnkcoiiaaGreatDoorAbF2
import Derived.Sort.Grow
import Derived.Sort.EncStr
import Derived.Test.YtcmnepgnkcoiiaaGreatDoorAbG14
set_option linter.unusedSimpArgs false
set_option linter.unusedVariables false
namespace Go.Ab
variable {P:Program} {F T:Nat→Nat}
open Go.Proofs (encStr)
open Go.RowKit
def RawSort (P:Program) (f:Nat):Prop:=∀ (blk off cap:Nat) (ss:List Tx) (w:World),Go.Sort.Holds encStr w blk off ss.toArray→blk<w.heap.size→ss.length<4611686018427387904 →
 Calls P f #[.slice (some ⟨blk,off,none⟩) ss.length cap] w fun e w'=>e=.returned (.tuple #[])∧∃ n os,w'=Go.Sort.grow (Go.Sort.putRow encStr (Go.Sort.ahead w n) blk off (ss.mergeSort fun x y=>decide (x≤y)).toArray) os
def srtF (l:List Tx):List Tx:=l.mergeSort fun x y=>decide (x≤y)
theorem srtF_len (l:List Tx):(srtF l).length=l.length:=List.length_mergeSort _
def SortC (P:Program) (F T:Nat→Nat):Prop:=∀ (l:List Tx) (id nx:Nat) (L:Heap),L id=some (.vec (T 21) 1 (l.map .str))→0<l.length→l.length≤2^60 →
 ECall P (F 226) [.own id 1 0 l.length] L nx fun v L' nx'=>v=.tup []∧L'=upd L id (some (.vec (T 21) 1 ((srtF l).map .str)))∧nx'=nx
theorem Hp.good {D:Nat→Prop} {L:Heap} {nx:Nat} {G:Ghost} {w:World} (h:Hp P D 0 ⟨fun _=>.junk,L,nx⟩ G w):Good P D 0 ⟨fun _=>.junk,L,nx⟩ G ⟨#[],[]⟩ w :=
 ⟨rfl,rfl,fun i=>.junk _,h⟩
theorem sort_of (h:RawSort P (F 226)):SortC P F T:=by
 intro l id nx L hL hpos h60
 refine ⟨⟨_,_,_,rfl,rfl,rfl⟩,fun D G w vs hp hn hr=>?_⟩
 obtain ⟨g,hG,ok⟩:=hp.blk id _ hL
 obtain ⟨z1,z2,z3,z4,z5⟩:=ok
 have hml:(l.map V.str).length=l.length:=List.length_map ..
 rw [hml] at z2
 obtain ⟨c,ty,fr,k1,⟨k2,rfl⟩,k3,k4⟩:=z5 (by omega)
 have r0:=hr 0 _ rfl
 obtain ⟨g',a,cap,e0,q1,q2,q3,q4,q5,q6⟩:=rep_own r0
 obtain rfl:g=g':=Option.some.inj (hG.symm.trans q1)
 have ha:=q6 (by omega)
 rw [Nat.zero_mul,Nat.add_zero] at ha
 subst ha
 have hvs:vs=#[.slice (some ⟨g.blk,g.off,none⟩) l.length cap]:=by
  have hz:vs.size=1:=by simpa using hn.symm
  refine Array.ext (by simp [hz]) fun i h1 h2=>?_
  have hi:i=0:=by omega
  subst hi
  rw [Array.getD_eq_getD_getElem?,Array.getElem?_eq_getElem h1] at e0
  simpa using e0
 subst hvs
 have hlt:g.blk<w.heap.size:=(Array.getElem?_eq_some_iff.1 k1).1
 have hcells:∀ j,j<l.length→c.getD (g.off+j) undef=encStr (l.getD j []):=fun j hj=>by
  have:=k4 j 0 (.str (l.getD j [])) (by simp [hj,List.getD,V.cells])
  rw [Nat.mul_one,Nat.add_zero] at this
  generalize c.getD (g.off+j) undef=v at this
  cases this
  rfl
 have hstr:∀ s,s∈l→s.length<2^63:=fun s hs=>by
  obtain ⟨j,hj,rfl⟩:=List.mem_iff_getElem.1 hs
  have:=k4 j 0 (.str l[j]) (by simp [hj,V.cells])
  generalize c.getD (g.off+j*1+0) undef=v at this
  cases this
  assumption
 have hH:Go.Sort.Holds encStr w g.blk g.off l.toArray:=fun j hj=>by
  have hj':j<l.length:=by simpa using hj
  refine ⟨?_,?_⟩
  ·rw [cell_of_blk k1]
   have hb:g.off+j<c.size:=by rw [Nat.mul_one] at k2; omega
   have:=hcells j hj'
   rw [Array.getD_eq_getD_getElem?,Array.getElem?_eq_getElem hb] at this
   simp only [Option.getD_some] at this
   simp [hb,this,hj',List.getD]
  ·have:=k3 j (by omega)
   simp only [World.frozen?,k1]
   simpa using this
 have hl63:l.length<4611686018427387904:=by omega
 refine (h g.blk g.off cap l w hH hlt hl63).mono ?_
 rintro e w' ⟨rfl,m,os,rfl⟩
 have hsz:(srtF l).toArray.size=l.length:=by simp [srtF_len]
 obtain ⟨w1,hw1⟩:∃ w1,Go.Sort.putRow encStr (Go.Sort.ahead w m) g.blk g.off (srtF l).toArray=w1:=⟨_,rfl⟩
 have hb1:w1.heap[g.blk]?=some (.cells (Go.Sort.putCells encStr g.off (srtF l).toArray c) (T 21) fr):=by
  rw [← hw1]
  show (w.heap.modify g.blk _)[g.blk]?=_
  rw [Array.getElem?_modify,if_pos rfl,k1]
  rfl
 have hb2:∀ x,x≠g.blk→w1.heap[x]?=w.heap[x]?:=fun x hx=>by
  rw [← hw1]
  show (w.heap.modify g.blk _)[x]?=_
  rw [Array.getElem?_modify,if_neg fun e=>hx e.symm]
 have hb3:w1.heap.size=w.heap.size:=by rw [← hw1]; exact Array.size_modify ..
 have hb4:w1.os=w.os:=by rw [← hw1]; rfl
 have hb5:w1.tape=w.tape:=by rw [← hw1]; rfl
 have hb6:w1.output=w.output:=by rw [← hw1]; rfl
 obtain ⟨g1,g2⟩:=hp.good.turnBlk (b':=.vec (T 21) 1 ((srtF l).map .str)) hL hG (fun x=>Iff.rfl) (fun x h=>h.2) hb2 ⟨by omega,rfl⟩ hb3 hb4 hb5 hb6 fun G' D' hm=>by
  refine ⟨z1,by rw [List.length_map,srtF_len]; exact z2,z3,fun e he=>?_,fun _=>⟨_,_,fr,hb1,⟨?_,rfl⟩,k3,fun i j x hx=>?_⟩⟩
  ·obtain ⟨s,_,rfl⟩:=List.mem_map.1 he
   rfl
  ·simp only [Go.Sort.putCells,Array.size_mapIdx]; exact k2
  ·cases he:(List.map V.str (srtF l))[i]? with
   | none=>rw [he] at hx; simp at hx
   | some e =>
     rw [he,Option.bind_some] at hx
     rw [List.getElem?_map,Option.map_eq_some_iff] at he
     obtain ⟨s,hs,rfl⟩:=he
     have hi:i<l.length:=by rw [← srtF_len l]; exact (List.getElem?_eq_some_iff.1 hs).1
     have hj:j=0:=by
      simp only [V.cells] at hx
      have:=(List.getElem?_eq_some_iff.1 hx).1
      simpa using this
     subst hj
     simp only [V.cells,List.getElem?_cons_zero,Option.some.injEq] at hx
     subst hx
     have hlen:s.length<2^63:=hstr s (List.mem_mergeSort.1 (List.mem_of_getElem? hs))
     have hb:g.off+i*1+0<c.size:=by rw [Nat.mul_one] at k2; omega
     have:(Go.Sort.putCells encStr g.off (srtF l).toArray c).getD (g.off+i*1+0) undef=.string ⟨s.toArray⟩:=by
      rw [Nat.mul_one,Nat.add_zero] at hb ⊢
      simp only [Go.Sort.putCells,Array.getD_eq_getD_getElem?,Array.getElem?_mapIdx,Array.getElem?_eq_getElem hb,Option.map_some,Option.getD_some]
      rw [if_pos ⟨by omega,by rw [hsz]; omega⟩,Nat.add_sub_cancel_left]
      obtain ⟨hi2,hs2⟩:=List.getElem?_eq_some_iff.1 hs
      simp [hi2,hs2]
     rw [this]
     exact .str s hlen
 have hbel:Below w1.heap.size w1 (Go.Sort.grow w1 os):=by
  refine ⟨rfl,rfl,rfl,?_,fun k hk=>?_⟩
  ·show w1.heap.size≤(w1.heap++os).size
   simp
  ·show (w1.heap++os)[k]?=w1.heap[k]?
   rw [Array.getElem?_append_left hk]
 have hw2:Go.Sort.grow (Go.Sort.putRow encStr (Go.Sort.ahead w m) g.blk g.off (l.mergeSort fun x y=>decide (x≤y)).toArray) os=Go.Sort.grow w1 os:=by rw [← hw1]; rfl
 rw [hw2]
 exact ⟨_,_,_,_,G,rfl,⟨rfl,rfl,rfl⟩,(g1.hp.grow hbel).congr rfl rfl,Nat.le_refl _,g2.trans (Nxt.grow hbel),.tup [] #[] rfl (by simp)⟩
end Go.Ab
namespace Go.Ab
theorem belM_mono {u:Tx} {l Z:List Tx} (h:∀ x,x∈l→x∈Z) {m:Tx} (hb:belM u l m=true):belM u Z m=true:=by
 unfold belM at hb ⊢
 simp only [Bool.or_eq_true,Bool.and_eq_true,decide_eq_true_eq] at hb ⊢
 rcases hb with hb | ⟨hb,hc⟩
 ·exact .inl hb
 ·exact .inr ⟨hb,List.contains_iff_mem.2 (h _ (List.contains_iff_mem.1 hc))⟩
theorem bel_mono {u:Tx} {l Z:List Tx} (h:∀ x,x∈l→x∈Z) {g:Gro} (hb:belG u l g=true):belG u Z g=true:=by
 unfold belG at hb ⊢
 rw [List.any_eq_true] at hb ⊢
 obtain ⟨m,h1,h2⟩:=hb
 exact ⟨m,h1,belM_mono h h2⟩
def clos (u:Tx) (gs:List Gro) (Z:List Tx):Prop:=∀ g,g∈gs→belG u Z g=true→g.n∈Z
theorem rndF_min {u:Tx} {gs:List Gro} {Z:List Tx} (hc:clos u gs Z):∀ (r:List Gro) (l:List Tx),(∀ g,g∈r→g∈gs)→(∀ x,x∈l→x∈Z)→∀ x,x∈rndF u r l→x∈Z
 | [],l,_,h=>h
 | g::r,l,hr,h=>by
   unfold rndF
   refine rndF_min hc r _ (fun q hq=>hr q (List.mem_cons_of_mem _ hq)) fun x hx=>?_
   split at hx
   ·rename_i hb
    rcases (putF_mem _ _ _).1 hx with rfl | hx
    ·exact hc g (hr g (by simp)) (bel_mono h hb)
    ·exact h x hx
   ·exact h x hx
theorem itF_min {u:Tx} {gs:List Gro} {Z:List Tx} (hc:clos u gs Z):∀ (k:Nat) (l:List Tx),(∀ x,x∈l→x∈Z)→∀ x,x∈itF u gs k l→x∈Z
 | 0,l,h=>h
 | k+1,l,h=>by
   have:=rndF_min hc gs l (fun g h=>h) h
   unfold itF
   split
   ·exact itF_min hc k _ this
   ·exact this
theorem itF_clos {u:Tx} {gs:List Gro}:∀ (k:Nat) (l:List Tx),srt l→(∀ x,x∈l→isG gs x)→gs.length+3≤k+l.length→clos u gs (itF u gs k l)
 | 0,l,hs,hg,hk=>by have:=isG_len hs hg; omega
 | k+1,l,hs,hg,hk=>by
   obtain ⟨a1,a2,a3,a4,a5,a6⟩:=rnd_spec u gs gs l (fun g h=>h) hs hg
   unfold itF
   split
   ·rename_i h
    exact itF_clos k _ a1 a2 (by omega)
   ·rename_i h
    have hl:(rndF u gs l).length=l.length:=by omega
    rw [a6 hl]
    exact fun g hg hb=>a5 hl g hg hb
theorem grpF_clos (u:Tx) (gs:List Gro):clos u gs (grpF u gs):=itF_clos _ _ (grp0_srt u) (grp0_isG u gs) (by have:1≤(grp0 u).length:=by { unfold grp0; split <;> simp }; omega)
theorem grpF_min {u:Tx} {gs:List Gro} {Z:List Tx} (hc:clos u gs Z) (h:∀ x,x∈grp0 u→x∈Z):∀ x,x∈grpF u gs→x∈Z:=itF_min hc _ _ h
def stepO (u:Tx) (out:List Tx) (g:Gro):List Tx:=if out.contains g.n then out else if belG u out g then out++[g.n] else out
def rndO (u:Tx):List Gro→List Tx→List Tx
 | [],l=>l
 | g::r,l=>rndO u r (stepO u l g)
theorem rndO_append (u:Tx):∀ (a b:List Gro) (l:List Tx),rndO u (a++b) l=rndO u b (rndO u a l)
 | [],b,l=>rfl
 | g::a,b,l=>by simp only [List.cons_append,rndO]; exact rndO_append u a b _
theorem rndO_spec (u:Tx) (gs:List Gro):∀ (r:List Gro) (l:List Tx),(∀ g,g∈r→g∈gs)→l.Nodup→(∀ x,x∈l→isG gs x) →
 (rndO u r l).Nodup∧(∀ x,x∈rndO u r l→isG gs x)∧(∀ x,x∈l→x∈rndO u r l)∧l.length≤(rndO u r l).length∧((rndO u r l).length=l.length→∀ g,g∈r→belG u l g=true→g.n∈l)∧((rndO u r l).length=l.length→rndO u r l=l)
 | [],l,hr,hs,hg=>⟨hs,hg,fun x h=>h,Nat.le_refl _,fun _ g hg=>by simp at hg,fun _=>rfl⟩
 | g::r,l,hr,hs,hg=>by
   have hr':∀ q,q∈r→q∈gs:=fun q hq=>hr q (List.mem_cons_of_mem _ hq)
   unfold rndO stepO
   by_cases hc:l.contains g.n=true
   ·rw [if_pos hc]
    obtain ⟨a1,a2,a3,a4,a5,a6⟩:=rndO_spec u gs r l hr' hs hg
    refine ⟨a1,a2,a3,a4,fun hl q hq hqb=>?_,a6⟩
    rcases List.mem_cons.1 hq with rfl | hq
    ·exact List.contains_iff_mem.1 hc
    ·exact a5 hl q hq hqb
   ·rw [if_neg hc]
    have hm:g.n∉l:=fun h=>hc (List.contains_iff_mem.2 h)
    by_cases hb:belG u l g=true
    ·rw [if_pos hb]
     obtain ⟨a1,a2,a3,a4,a5,a6⟩:=rndO_spec u gs r (l++[g.n]) hr' (by
      rw [List.nodup_append]
      exact ⟨hs,by simp,fun x hx y hy=>by rw [List.mem_singleton.1 hy]; exact fun e=>hm (e ▸ hx)⟩) fun x hx=>by
      rcases List.mem_append.1 hx with hx | hx
      ·exact hg x hx
      ·exact .inr (.inr ⟨g,hr g (by simp),(List.mem_singleton.1 hx).symm⟩)
     rw [List.length_append,List.length_singleton] at a4
     exact ⟨a1,a2,fun x hx=>a3 x (List.mem_append_left _ hx),by omega,fun hl=>by omega,fun hl=>by omega⟩
    ·rw [if_neg hb]
     obtain ⟨a1,a2,a3,a4,a5,a6⟩:=rndO_spec u gs r l hr' hs hg
     refine ⟨a1,a2,a3,a4,fun hl q hq hqb=>?_,a6⟩
     rcases List.mem_cons.1 hq with rfl | hq
     ·exact absurd hqb hb
     ·exact a5 hl q hq hqb
theorem rndO_min {u:Tx} {gs:List Gro} {Z:List Tx} (hc:clos u gs Z):∀ (r:List Gro) (l:List Tx),(∀ g,g∈r→g∈gs)→(∀ x,x∈l→x∈Z)→∀ x,x∈rndO u r l→x∈Z
 | [],l,_,h=>h
 | g::r,l,hr,h=>by
   unfold rndO
   refine rndO_min hc r _ (fun q hq=>hr q (List.mem_cons_of_mem _ hq)) fun x hx=>?_
   unfold stepO at hx
   split at hx
   ·exact h x hx
   ·split at hx
    ·rename_i hb
     rcases List.mem_append.1 hx with hx | hx
     ·exact h x hx
     ·rw [List.mem_singleton.1 hx]; exact hc g (hr g (by simp)) (bel_mono h hb)
    ·exact h x hx
def itO (u:Tx) (gs:List Gro):Nat→List Tx→List Tx
 | 0,l=>l
 | k+1,l=>if l.length<(rndO u gs l).length then itO u gs k (rndO u gs l) else rndO u gs l
def outF (u:Tx) (gs:List Gro):List Tx:=itO u gs (gs.length+4) (grp0 u)
theorem nd_len {gs:List Gro} {l:List Tx} (hs:l.Nodup) (hg:∀ x,x∈l→isG gs x):l.length≤gs.length+2:=by
 have:l.length≤(aT::uT::gs.map Gro.n).length:=List.Nodup.length_le_of_subset hs fun x hx=>by
  rcases hg x hx with rfl | rfl | ⟨g,hgm,rfl⟩
  ·simp
  ·simp
  ·simp only [List.mem_cons,List.mem_map]; exact .inr (.inr ⟨g,hgm,rfl⟩)
 simpa using this
theorem itO_spec {u:Tx} {gs:List Gro}:∀ (k:Nat) (l:List Tx),l.Nodup→(∀ x,x∈l→isG gs x)→gs.length+3≤k+l.length →
 clos u gs (itO u gs k l)∧(itO u gs k l).Nodup∧(∀ x,x∈itO u gs k l→isG gs x)∧(∀ x,x∈l→x∈itO u gs k l)
 | 0,l,hs,hg,hk=>by have:=nd_len hs hg; omega
 | k+1,l,hs,hg,hk=>by
   obtain ⟨a1,a2,a3,a4,a5,a6⟩:=rndO_spec u gs gs l (fun g h=>h) hs hg
   unfold itO
   split
   ·rename_i h
    obtain ⟨b1,b2,b3,b4⟩:=itO_spec k _ a1 a2 (by omega)
    exact ⟨b1,b2,b3,fun x hx=>b4 x (a3 x hx)⟩
   ·rename_i h
    have hl:(rndO u gs l).length=l.length:=by omega
    rw [a6 hl]
    exact ⟨fun g hg hb=>a5 hl g hg hb,hs,hg,fun x h=>h⟩
theorem itO_min {u:Tx} {gs:List Gro} {Z:List Tx} (hc:clos u gs Z):∀ (k:Nat) (l:List Tx),(∀ x,x∈l→x∈Z)→∀ x,x∈itO u gs k l→x∈Z
 | 0,l,h=>h
 | k+1,l,h=>by
   have:=rndO_min hc gs l (fun g h=>h) h
   unfold itO
   split
   ·exact itO_min hc k _ this
   ·exact this
theorem outF_spec (u:Tx) (gs:List Gro):clos u gs (outF u gs)∧(outF u gs).Nodup∧(∀ x,x∈outF u gs→isG gs x)∧(∀ x,x∈grp0 u→x∈outF u gs) :=
 itO_spec _ _ (srt_nodup _ (grp0_srt u)) (grp0_isG u gs) (by have:1≤(grp0 u).length:=by { unfold grp0; split <;> simp }; omega)
theorem srt_of:∀ (l:List Tx),l.Pairwise (fun a b=>a≤b)→l.Nodup→srt l
 | [],_,_=>trivial
 | x::r,h,hn=>by
   rw [List.pairwise_cons] at h
   rw [List.nodup_cons] at hn
   refine ⟨fun y hy=>?_,srt_of r h.2 hn.2⟩
   cases hb:ltB x y with
   | true=>rfl
   | false =>
     have hxy:x≠y:=fun e=>hn.1 (e ▸ hy)
     have h2:=ltB_iff.1 (ltB_tot hb hxy)
     exact absurd (h.1 y hy) (List.not_le.2 h2)
theorem srtF_srt {l:List Tx} (h:l.Nodup):srt (srtF l):=by
 refine srt_of _ ?_ ((List.mergeSort_perm l _).nodup_iff.2 h)
 have:=List.pairwise_mergeSort (le:=fun x y:Tx=>decide (x≤y)) (fun a b c h1 h2=>by
  simp only [decide_eq_true_eq] at *
  exact List.le_trans h1 h2) (fun a b=>by
  simp only [Bool.or_eq_true,decide_eq_true_eq]
  exact List.le_total a b) l
 exact this.imp fun h=>by simpa using h
theorem out_eq (u:Tx) (gs:List Gro):srtF (outF u gs)=grpF u gs:=by
 obtain ⟨a1,a2,a3,a4⟩:=outF_spec u gs
 obtain ⟨b1,b2,b3⟩:=grpF_spec u gs
 refine srt_eq _ _ (srtF_srt a2) b1 fun x=>?_
 rw [srtF,List.mem_mergeSort]
 exact ⟨fun h=>itO_min (grpF_clos u gs) _ _ b3 x h,fun h=>grpF_min a1 a4 x h⟩
end Go.Ab
namespace Go.Ab
variable {P:Program} {F T:Nat→Nat}
theorem t225 (hf:Is225 P F T) (h220:Is220 P F T) (h222:Is222 P F T) (u m:Tx) (out:List Tx) (ho:out.length≤1000) (L:Heap) (nx a b c id:Nat) (ha:L a=some (.box (T 15) [.bool (nameB u)])) (hb:L b=some (.box (T 21) [.str u])) (hc:L c=some (.box (T 26) [.own id 1 0 out.length])) (hid:L id=some (.vec (T 21) 1 (out.map .str))) :
 ECall P (F 225) [.str m,.ptr a 0,.ptr b 0,.ptr c 0] L nx fun v L' nx'=>v=.bool (belM u out m)∧nx≤nx'∧L'=L:=by
 refine ecallC [] hf (by simp) ?_
 have hoi:=imms_str out
 have hvw:view L 3 (.own id 1 0 out.length)=.lst 1 (out.map .str):=view_own1 hid hoi (by simp)
 have c1:=t220 h220 h222 out (m.drop 1) (by omega)
 simp only [c225,push_cast,seval,-Nat.reducePow,ha,hb,hc]
 cases hnb:nameB u with
 | true =>
   by_cases hmu:m=u
   ·have e:belM u out m=true:=by unfold belM; simp [hnb,hmu]
    subst hmu
    simp only [push_cast,seval,-Nat.reducePow,ha,hb,hc,e]
    omega
   ·have hmu':decide (m=u)=false:=decide_eq_false hmu
    have key:belM u out m=(decide (0<m.length)&&decide ((m.getD 0 0).toNat=64)&&out.contains (m.drop 1)):=by unfold belM; simp [hnb,hmu]
    by_cases b1:0<m.length
    ·have b1':(0:Int)<((m.length:Nat):Int):=by omega
     have b1n:1≤m.length:=b1
     have htl:List.take m.length m=m:=List.take_length
     by_cases b2:(m.getD 0 0).toNat=64
     ·have b2':(((m.getD 0 0).toNat:Nat):Int)=64:=by omega
      rw [decide_eq_true b1,decide_eq_true b2,Bool.true_and,Bool.true_and] at key
      simp only [push_cast,seval,-Nat.reducePow,ha,hb,hc,hnb,hmu,b1,b1',b2',b1n,htl]
      refine vcallK_intro (r:=.bool (out.contains (m.drop 1))) ?_ ?_ rfl ?_
      ·rw [hvw]; simp only [view]; exact c1
      ·rw [hvw]; simp only [view,V.imms,V.imm,hoi,Bool.true_and]
      simp only [push_cast,seval,-Nat.reducePow]
      exact ⟨by omega,by rw [key],by omega⟩
     ·have b2':¬ (((m.getD 0 0).toNat:Nat):Int)=64:=by omega
      rw [decide_eq_true b1,decide_eq_false b2,Bool.true_and,Bool.false_and] at key
      simp only [push_cast,seval,-Nat.reducePow,ha,hb,hc,hnb,hmu,b1,b1',b2']
      exact ⟨by omega,by rw [key],by omega⟩
    ·have b1':¬ (0:Int)<((m.length:Nat):Int):=by omega
     rw [decide_eq_false b1,Bool.false_and,Bool.false_and] at key
     simp only [push_cast,seval,-Nat.reducePow,ha,hb,hc,hnb,hmu,b1']
     exact ⟨by omega,by rw [key],by omega⟩
 | false =>
   have key:belM u out m=(decide (0<m.length)&&decide ((m.getD 0 0).toNat=64)&&out.contains (m.drop 1)):=by unfold belM; simp [hnb]
   by_cases b1:0<m.length
   ·have b1':(0:Int)<((m.length:Nat):Int):=by omega
    have b1n:1≤m.length:=b1
    have htl:List.take m.length m=m:=List.take_length
    by_cases b2:(m.getD 0 0).toNat=64
    ·have b2':(((m.getD 0 0).toNat:Nat):Int)=64:=by omega
     rw [decide_eq_true b1,decide_eq_true b2,Bool.true_and,Bool.true_and] at key
     simp only [push_cast,seval,-Nat.reducePow,ha,hb,hc,hnb,b1,b1',b2',b1n,htl]
     refine vcallK_intro (r:=.bool (out.contains (m.drop 1))) ?_ ?_ rfl ?_
     ·rw [hvw]; simp only [view]; exact c1
     ·rw [hvw]; simp only [view,V.imms,V.imm,hoi,Bool.true_and]
     simp only [push_cast,seval,-Nat.reducePow]
     exact ⟨by omega,by rw [key],by omega⟩
    ·have b2':¬ (((m.getD 0 0).toNat:Nat):Int)=64:=by omega
     rw [decide_eq_true b1,decide_eq_false b2,Bool.true_and,Bool.false_and] at key
     simp only [push_cast,seval,-Nat.reducePow,ha,hb,hc,hnb,b1,b1',b2']
     exact ⟨by omega,by rw [key],by omega⟩
   ·have b1':¬ (0:Int)<((m.length:Nat):Int):=by omega
    rw [decide_eq_false b1,Bool.false_and,Bool.false_and] at key
    simp only [push_cast,seval,-Nat.reducePow,ha,hb,hc,hnb,b1']
    exact ⟨by omega,by rw [key],by omega⟩
theorem t224 (hf:Is224 P F T) (hb225:bodied P (F 225)=true) (g:Tx→Bool) (ms:List Tx) (hm:ms.length≤2^60) (cs:List V) (L:Heap) (nx:Nat)
 (hcl:∀ m nx1,nx≤nx1→ECall P (F 225) (.str m::cs) L nx1 fun v L' nx'=>v=.bool (g m)∧nx1≤nx'∧L'=L) :
 ECall P (F 224) [.lst 1 (ms.map .str),.fn (F 225) cs] L nx fun v L' nx'=>(∃ i:Int,v=.int .i64 i∧decide (0≤i)=ms.any g)∧nx≤nx'∧L'=L:=by
 refine ecallC [] hf (by simp) ?_
 have hln:(ms.map V.str).length=ms.length:=List.length_map ..
 simp only [c224,push_cast,seval,-Nat.reducePow,hln]
 refine loopK_intro (fun m s=>∃ i,i≤ms.length∧m=ms.length-i∧ms.any g=(ms.drop i).any g∧s.env 0=.lst 1 (ms.map .str)∧s.env 1=.fn (F 225) cs∧s.env 7=.int .i64 ms.length∧s.env 8=.int .i64 i∧s.L=L∧nx≤s.nx) ms.length ⟨0,?_⟩ fun m s hJ=>?_
 ·simp only [push_cast,seval,-Nat.reducePow]
  exact ⟨rfl,by omega⟩
 ·obtain ⟨i,hi,rfl,hb,j0,j1,j7,j8,jL,jn⟩:=hJ
  by_cases h:i<ms.length
  ·have h':((i:Nat):Int)<((ms.length:Nat):Int):=by omega
   have hg:=getD_str h
   have hd:ms.drop i=ms.getD i []::ms.drop (i+1):=by rw [List.drop_eq_getElem_cons h]; simp [List.getD,h]
   rw [hd,List.any_cons] at hb
   simp only [push_cast,seval,-Nat.reducePow,j0,j1,j7,j8,jL,h',hln,hg]
   refine ⟨h,hb225,ecallK_intro (hcl (ms.getD i []) _ (by omega)) ?_⟩
   rintro v L1 n1 ⟨rfl,hn1,rfl⟩
   cases e:g (ms.getD i []) with
   | true =>
     rw [e,Bool.true_or] at hb
     simp only [push_cast,seval,-Nat.reducePow,j0,j1,j7,j8]
     exact ⟨by omega,⟨i,rfl,by rw [hb]; simp⟩,by omega⟩
   | false =>
     rw [e,Bool.false_or] at hb
     simp only [push_cast,seval,-Nat.reducePow,j0,j1,j7,j8]
     exact ⟨⟨by omega,by omega⟩,ms.length-(i+1),by omega,i+1,by omega,rfl,hb,by simp,by omega⟩
  ·have h':¬ ((i:Nat):Int)<((ms.length:Nat):Int):=by omega
   obtain rfl:i=ms.length:=by omega
   rw [List.drop_length,List.any_nil] at hb
   simp only [push_cast,seval,-Nat.reducePow,j0,j1,j7,j8,jL,h',hb]
   exact ⟨by omega,⟨-1,rfl,by simp⟩,by omega⟩
theorem t191 (hf:Is191 P F T) (s:Tx):PTr P (F 191) [.str s] (.bool (nameB s)):=by
 refine ptrC [] hf (by simp) rfl ?_
 rw [nameB_split]
 by_cases a1:s.length<1
 ·have a1':((s.length:Nat):Int)<1:=by omega
  simp only [c191,push_cast,seval,-Nat.reducePow,a1,a1',view,Bool.false_and]
 have a1':¬ ((s.length:Nat):Int)<1:=by omega
 by_cases a2:30<s.length
 ·have a2':(30:Int)<((s.length:Nat):Int):=by omega
  simp only [c191,push_cast,seval,-Nat.reducePow,a1,a1',a2,a2',view,Bool.false_and]
 have a2':¬ (30:Int)<((s.length:Nat):Int):=by omega
 have a0:0<s.length:=by omega
 have hall:∀ (i:Nat),i<s.length→okC (s.getD i 0)=false→s.all okC=false:=fun i hi h=>by
  cases e:s.all okC with
  | false=>rfl
  | true=>have:=List.all_eq_true.1 e (s.getD i 0) (by simp [List.getD,hi]); rw [h] at this; cases this
 have hall2:(∀ (i:Nat),i<s.length→okC (s.getD i 0)=true)→s.all okC=true:=fun h=>List.all_eq_true.2 fun x hx=>by
  obtain ⟨i,hi,rfl⟩:=List.mem_iff_getElem.1 hx
  have:=h i hi
  simpa [List.getD,hi] using this
 obtain ⟨c0,hc0⟩:∃ c,s.getD 0 0=c:=⟨_,rfl⟩
 rw [hc0]
 by_cases a3:c0.toNat<97
 ·have a3':((c0.toNat:Nat):Int)<97:=by omega
  simp only [c191,push_cast,seval,-Nat.reducePow,a1,a1',a2,a2',a0,hc0,a3,a3',view,Bool.false_and]
 have a3':¬ ((c0.toNat:Nat):Int)<97:=by omega
 by_cases a4:122<c0.toNat
 ·have a4':(122:Int)<((c0.toNat:Nat):Int):=by omega
  simp only [c191,push_cast,seval,-Nat.reducePow,a1,a1',a2,a2',a0,hc0,a3,a3',a4,a4',view,Bool.false_and]
 have a4':¬ (122:Int)<((c0.toNat:Nat):Int):=by omega
 simp only [c191,push_cast,seval,-Nat.reducePow,a1,a1',a2,a2',a0,hc0,a3,a3',a4,a4']
 refine loopK_intro (fun m s1=>∃ i,i≤s.length∧m=s.length-i∧(∀ k,k<i→okC (s.getD k 0)=true)∧s1.env 0=.str s∧s1.env 24=.int .i64 s.length∧s1.env 25=.int .i64 i) s.length ⟨0,?_⟩ fun m s1 hJ=>?_
 ·simp only [push_cast,seval,-Nat.reducePow]
  exact ⟨rfl,fun k hk=>absurd hk (Nat.not_lt_zero _)⟩
 ·obtain ⟨i,hi,rfl,hn,j0,j24,j3⟩:=hJ
  by_cases h:i<s.length
  ·have h':((i:Nat):Int)<((s.length:Nat):Int):=by omega
   obtain ⟨c,hc⟩:∃ c,s.getD i 0=c:=⟨_,rfl⟩
   have hok:=okC_cases c
   have hbad:okC c=false→s.all okC=false:=fun e=>hall i h (by rw [hc]; exact e)
   have hgo:okC c=true→∀ k,k<i+1→okC (s.getD k 0)=true:=fun e k hk=>by
    by_cases hki:k=i
    ·rw [hki,hc]; exact e
    ·exact hn k (by omega)
   have step:okC c=true→(True∧∃ m',m'<s.length-i∧∃ i_1,i_1≤s.length∧m'=s.length-i_1∧(∀ k,k<i_1→okC (s.getD k 0)=true)∧((i:Int)+1)=i_1):=fun e=>⟨trivial,s.length-(i+1),by omega,i+1,by omega,rfl,hgo e,by simp⟩
   simp only [push_cast,seval,-Nat.reducePow,j0,j24,j3,h']
   refine cutK_intro (fun s1=>s1.env 0=.str s∧s1.env 4=.int .u8 c.toNat∧s1.env 24=.int .i64 s.length∧s1.env 25=.int .i64 i) ?_ ?_
   ·simp only [push_cast,seval,-Nat.reducePow,j0,j24,j3,hc]
    exact h
   rintro s2 ⟨i0,i4,i24,i25⟩
   by_cases b1:c.toNat<97
   ·have b1':((c.toNat:Nat):Int)<97:=by omega
    by_cases b3:c.toNat<48
    ·have b3':((c.toNat:Nat):Int)<48:=by omega
     by_cases b5:c.toNat=45
     ·have b5':((c.toNat:Nat):Int)=45:=by omega
      have e:okC c=true:=hok.2 (by omega)
      simp only [push_cast,seval,-Nat.reducePow,i0,i4,i24,i25,b1',b3',b5']
      exact ⟨⟨by omega,by omega⟩,s.length-(i+1),by omega,i+1,by omega,rfl,hgo e,by simp⟩
     ·have b5':¬ ((c.toNat:Nat):Int)=45:=by omega
      have b6':¬ ((c.toNat:Nat):Int)=95:=by omega
      have e:okC c=false:=by cases q:okC c with | false=>rfl | true=>exact absurd (hok.1 q) (by omega)
      simp only [push_cast,seval,-Nat.reducePow,i0,i4,i24,i25,b1',b3',b5',b6',view,hbad e]
    ·have b3':¬ ((c.toNat:Nat):Int)<48:=by omega
     by_cases b4:57<c.toNat
     ·have b4':(57:Int)<((c.toNat:Nat):Int):=by omega
      have b5':¬ ((c.toNat:Nat):Int)=45:=by omega
      by_cases b6:c.toNat=95
      ·have b6':((c.toNat:Nat):Int)=95:=by omega
       have e:okC c=true:=hok.2 (by omega)
       simp only [push_cast,seval,-Nat.reducePow,i0,i4,i24,i25,b1',b3',b4',b5',b6']
       exact ⟨⟨by omega,by omega⟩,s.length-(i+1),by omega,i+1,by omega,rfl,hgo e,by simp⟩
      ·have b6':¬ ((c.toNat:Nat):Int)=95:=by omega
       have e:okC c=false:=by cases q:okC c with | false=>rfl | true=>exact absurd (hok.1 q) (by omega)
       simp only [push_cast,seval,-Nat.reducePow,i0,i4,i24,i25,b1',b3',b4',b5',b6',view,hbad e]
     ·have b4':¬ (57:Int)<((c.toNat:Nat):Int):=by omega
      have e:okC c=true:=hok.2 (by omega)
      simp only [push_cast,seval,-Nat.reducePow,i0,i4,i24,i25,b1',b3',b4']
      exact ⟨⟨by omega,by omega⟩,s.length-(i+1),by omega,i+1,by omega,rfl,hgo e,by simp⟩
   ·have b1':¬ ((c.toNat:Nat):Int)<97:=by omega
    by_cases b2:122<c.toNat
    ·have b2':(122:Int)<((c.toNat:Nat):Int):=by omega
     have b3':¬ ((c.toNat:Nat):Int)<48:=by omega
     have b4':(57:Int)<((c.toNat:Nat):Int):=by omega
     have b5':¬ ((c.toNat:Nat):Int)=45:=by omega
     have b6':¬ ((c.toNat:Nat):Int)=95:=by omega
     have e:okC c=false:=by cases q:okC c with | false=>rfl | true=>exact absurd (hok.1 q) (by omega)
     simp only [push_cast,seval,-Nat.reducePow,i0,i4,i24,i25,b1',b2',b3',b4',b5',b6',view,hbad e]
    ·have b2':¬ (122:Int)<((c.toNat:Nat):Int):=by omega
     have e:okC c=true:=hok.2 (by omega)
     simp only [push_cast,seval,-Nat.reducePow,i0,i4,i24,i25,b1',b2']
     exact ⟨⟨by omega,by omega⟩,s.length-(i+1),by omega,i+1,by omega,rfl,hgo e,by simp⟩
  ·have h':¬ ((i:Nat):Int)<((s.length:Nat):Int):=by omega
   have e:=hall2 fun k hk=>hn k (by omega)
   simp only [push_cast,seval,-Nat.reducePow,j0,j24,j3,h',e,view]
theorem t223 (hf:Is223 P F T) (h224:Is224 P F T) (hb225:bodied P (F 225)=true) (g:Tx→Bool) (ms:List Tx) (hm:ms.length≤2^60) (cs:List V) (L:Heap) (nx:Nat)
 (hcl:∀ m nx1,nx≤nx1→ECall P (F 225) (.str m::cs) L nx1 fun v L' nx'=>v=.bool (g m)∧nx1≤nx'∧L'=L) :
 ECall P (F 223) [.lst 1 (ms.map .str),.fn (F 225) cs] L nx fun v L' nx'=>v=.bool (ms.any g)∧nx≤nx'∧L'=L:=by
 refine ecallC [] hf (by simp) ?_
 simp only [c223,push_cast,seval,-Nat.reducePow]
 refine ecallK_intro (t224 h224 hb225 g ms hm cs L _ fun m nx1 h=>hcl m nx1 (by omega)) ?_
 rintro v L1 n1 ⟨⟨i,rfl,hi⟩,hn1,rfl⟩
 simp only [push_cast,seval,-Nat.reducePow,hi]
 omega
theorem t180 (hf:Is180 P F T) (h191:Is191 P F T) (h220:Is220 P F T) (h222:Is222 P F T) (h223:Is223 P F T) (h224:Is224 P F T) (h225:Is225 P F T) (hb225:bodied P (F 225)=true) (hS:SortC P F T) (gs:List Gro) (rv dv:List V) (hrv:V.imms rv=true) (hdv:V.imms dv=true) (u:Tx) (hgl:gs.length≤100) (hm:∀ g,g∈gs→g.m.length≤2^60) :
 PTr P (F 180) [.agg [.lst 2 (grV gs),.lst 6 rv,.lst 5 dv],.str u] (.lst 1 ((grpF u gs).map .str)):=by
 refine ptrC [] hf (by simp) (by simp [V.imm,imms_str]) ?_
 have hgi:=grV_imm gs
 have hgn:=grV_len gs
 have g0n:=srt_nodup _ (grp0_srt u)
 have g0g:=grp0_isG u gs
 simp only [c180,push_cast,seval,-Nat.reducePow,hgi,hrv,hdv]
 refine callK_intro (t191 h191 u) (by simp only [push_cast,seval,-Nat.reducePow]) (by simp only [push_cast,seval,-Nat.reducePow]) ?_
 simp only [push_cast,seval,-Nat.reducePow]
 refine cutK_intro (fun s=>∃ id:Nat,s.env 2=.ptr 2 0∧s.env 3=.ptr 3 0∧s.env 5=.ptr 47 0∧s.env 6=.ptr 90 0∧s.L 2=some (.box (T 16) [.lst 2 (grV gs),.lst 6 rv,.lst 5 dv])∧s.L 3=some (.box (T 21) [.str u])∧s.L 47=some (.box (T 26) [.own id 1 0 (grp0 u).length])∧s.L 90=some (.box (T 15) [.bool (nameB u)])∧s.L id=some (.vec (T 21) 1 ((grp0 u).map .str))∧id≠2∧id≠3∧id≠47∧id≠90∧id<s.nx∧126≤s.nx) ?_ ?_
 ·cases hn:nameB u with
  | true =>
    have e:grp0 u=[aT,uT]:=by unfold grp0; rw [hn]; rfl
    rw [e]
    simp only [push_cast,seval,-Nat.reducePow,aT,uT]
    exact ⟨by omega,184,rfl,by simp [upd],by omega,by omega,by omega,by omega,by omega⟩
  | false =>
    have e:grp0 u=[aT]:=by unfold grp0; rw [hn]; rfl
    rw [e]
    simp only [push_cast,seval,-Nat.reducePow,aT]
    exact ⟨52,rfl,by simp [upd],by omega,by omega,by omega,by omega,by omega⟩
 ·rintro s0 ⟨id,k2,k3,k5,k6,kP,kU,kO,kN,kV,d2,d3,d47,d90,dl,dn⟩
  simp only [push_cast,seval,-Nat.reducePow,k2,k3,k5,k6,kP,kU,kO,kN,kV]
  refine loopK_intro (fun m s=>∃ (out:List Tx) (id:Nat) (ag:Bool),m=2*(gs.length+3-out.length)+(if ag then 1 else 0)∧out.Nodup∧(∀ x,x∈out→isG gs x)∧((ag=true∧∃ k,gs.length+3≤k+out.length∧outF u gs=itO u gs k out)∨(ag=false∧outF u gs=out)) ∧
   s.env 7=.bool ag∧s.env 2=.ptr 2 0∧s.env 3=.ptr 3 0∧s.env 5=.ptr 47 0∧s.env 6=.ptr 90 0∧s.L 2=some (.box (T 16) [.lst 2 (grV gs),.lst 6 rv,.lst 5 dv])∧s.L 3=some (.box (T 21) [.str u])∧s.L 47=some (.box (T 26) [.own id 1 0 out.length])∧s.L 90=some (.box (T 15) [.bool (nameB u)])∧s.L id=some (.vec (T 21) 1 (out.map .str))∧id≠2∧id≠3∧id≠47∧id≠90∧id<s.nx∧126≤s.nx) (2*(gs.length+3-(grp0 u).length)+1) ⟨grp0 u,id,true,?_⟩ fun m s hJ=>?_
  ·simp only [push_cast,seval,-Nat.reducePow,k2,k3,k5,k6,kP,kU,kO,kN,kV]
   exact ⟨g0n,g0g,.inl ⟨gs.length+4,by omega,rfl⟩,d2,d3,d47,d90,by omega,by omega⟩
  ·obtain ⟨out,id,ag,rfl,hs,hg,hcase,j7,j2,j3,j5,j6,jP,jU,jO,jN,jV,d2,d3,d47,d90,dl,dn⟩:=hJ
   have hll:=nd_len hs hg
   rcases hcase with ⟨rfl,k,hk,hgr⟩ | ⟨rfl,hgr⟩
   ·simp only [push_cast,seval,-Nat.reducePow,j7,j2,j3,j5,j6,jP,jU,jO,jN,jV,hgn]
    refine loopK_intro (fun m s=>∃ (i id:Nat),i≤gs.length∧m=gs.length-i∧s.env 7=.bool (decide (out.length<(rndO u (gs.take i) out).length))∧s.env 19=.lst 2 (grV gs)∧s.env 20=.int .i64 gs.length∧s.env 21=.int .i64 i∧s.env 2=.ptr 2 0∧s.env 3=.ptr 3 0∧s.env 5=.ptr 47 0∧s.env 6=.ptr 90 0∧s.L 2=some (.box (T 16) [.lst 2 (grV gs),.lst 6 rv,.lst 5 dv])∧s.L 3=some (.box (T 21) [.str u])∧s.L 47=some (.box (T 26) [.own id 1 0 (rndO u (gs.take i) out).length])∧s.L 90=some (.box (T 15) [.bool (nameB u)])∧s.L id=some (.vec (T 21) 1 ((rndO u (gs.take i) out).map .str))∧id≠2∧id≠3∧id≠47∧id≠90∧id<s.nx∧126≤s.nx) gs.length ⟨0,id,?_⟩ fun m s hJ=>?_
    ·simp only [push_cast,seval,-Nat.reducePow,j7,j2,j3,j5,j6,jP,jU,jO,jN,jV]
     exact ⟨rfl,by simp [rndO],rfl,rfl,d2,d3,d47,d90,by omega⟩
    ·obtain ⟨i,id,hi,rfl,i7,i19,i20,i21,i2,i3,i5,i6,iP,iU,iO,iN,iV,d2,d3,d47,d90,dl,dn⟩:=hJ
     have hsub:∀ g,g∈gs.take i→g∈gs:=fun g h=>List.mem_of_mem_take h
     obtain ⟨a1,a2,a3,a4,a5,a6⟩:=rndO_spec u gs (gs.take i) out hsub hs hg
     have hrl:=nd_len a1 a2
     obtain ⟨R,hR⟩:∃ R,rndO u (gs.take i) out=R:=⟨_,rfl⟩
     rw [hR] at i7 iO iV a1 a2 hrl a4
     have hRi:=imms_str R
     by_cases h:i<gs.length
     ·have h':((i:Nat):Int)<((gs.length:Nat):Int):=by omega
      obtain ⟨q,hq,hqv,hqm⟩:=gn_at h
      have ht:gs.take (i+1)=gs.take i++[q]:=by rw [List.take_add_one,hq]; rfl
      have hR2:rndO u (gs.take (i+1)) out=stepO u R q:=by rw [ht,rndO_append,hR]; rfl
      have hqi:=imms_str q.m
      have z2:∀ (z:Nat) (x:Option Blk) (M:Heap),upd M (s.nx+z) x 2=M 2:=fun z x M=>upd_ne _ _ _ _ (by omega)
      have z3:∀ (z:Nat) (x:Option Blk) (M:Heap),upd M (s.nx+z) x 3=M 3:=fun z x M=>upd_ne _ _ _ _ (by omega)
      have z47:∀ (z:Nat) (x:Option Blk) (M:Heap),upd M (s.nx+z) x 47=M 47:=fun z x M=>upd_ne _ _ _ _ (by omega)
      have z90:∀ (z:Nat) (x:Option Blk) (M:Heap),upd M (s.nx+z) x 90=M 90:=fun z x M=>upd_ne _ _ _ _ (by omega)
      have zid:∀ (z:Nat) (x:Option Blk) (M:Heap),upd M (s.nx+z) x id=M id:=fun z x M=>upd_ne _ _ _ _ (by omega)
      simp only [push_cast,seval,-Nat.reducePow,i7,i19,i20,i21,i2,i3,i5,i6,iP,iU,iO,iN,iV,h',hgn,hqv,z2,z3,z47,z90,zid]
      have hvw:∀ (M:Heap),M id=s.L id→view M 3 (.own id 1 0 R.length)=.lst 1 (R.map .str):=fun M hM=>view_own1 (by rw [hM]; exact iV) hRi (by simp)
      refine ⟨h,vcallK_intro (r:=.bool (R.contains q.n)) ?_ ?_ rfl ?_⟩
      ·rw [hvw _ (by rw [zid,zid])]; simp only [view]; exact t220 h220 h222 R q.n (by omega)
      ·rw [hvw _ (by rw [zid,zid])]; simp only [view,V.imms,V.imm,hRi,Bool.true_and]
      cases hc:R.contains q.n with
      | true =>
        have hR3:stepO u R q=R:=by unfold stepO; rw [if_pos hc]
        rw [hR3] at hR2
        simp only [push_cast,seval,-Nat.reducePow,i7,i19,i20,i21,i2,i3,i5,i6,iP,iU,iO,iN,iV,z2,z3,z47,z90,zid]
        exact ⟨⟨by omega,by omega⟩,gs.length-(i+1),by omega,i+1,id,by omega,rfl,by rw [hR2],by simp,by rw [hR2],by rw [zid,zid,hR2]; exact iV,d2,d3,d47,d90,by omega⟩
      | false =>
        simp only [push_cast,seval,-Nat.reducePow,i7,i19,i20,i21,i2,i3,i5,i6,iP,iU,iO,iN,iV,z2,z3,z47,z90,zid]
        refine ecallK_intro (t223 h223 h224 hb225 (belM u R) q.m (hm q hqm) [.ptr 90 0,.ptr 3 0,.ptr 47 0] _ _ fun m nx1 h1=>t225 h225 h220 h222 u m R (by omega) _ nx1 90 3 47 id (by simp only [z90,iN]) (by simp only [z3,iU]) (by simp only [z47,iO]) (by simp only [zid,iV])) ?_
        rintro v L1 n1 ⟨rfl,hn1,rfl⟩
        have hbl:q.m.any (belM u R)=belG u R q:=rfl
        rw [hbl]
        cases hb:belG u R q with
        | true =>
          have hR3:stepO u R q=R++[q.n]:=by unfold stepO; rw [if_neg (by rw [hc]; simp),if_pos hb]
          rw [hR3] at hR2
          simp only [push_cast,seval,-Nat.reducePow,i7,i19,i20,i21,i2,i3,i5,i6,iP,iU,iO,iN,iV,z2,z3,z47,z90,zid]
          have w2:∀ (x:Option Blk) (M:Heap),upd M id x 2=M 2:=fun x M=>upd_ne _ _ _ _ (fun e=>d2 e.symm)
          have w3:∀ (x:Option Blk) (M:Heap),upd M id x 3=M 3:=fun x M=>upd_ne _ _ _ _ (fun e=>d3 e.symm)
          have w47:∀ (x:Option Blk) (M:Heap),upd M id x 47=M 47:=fun x M=>upd_ne _ _ _ _ (fun e=>d47 e.symm)
          have w90:∀ (x:Option Blk) (M:Heap),upd M id x 90=M 90:=fun x M=>upd_ne _ _ _ _ (fun e=>d90 e.symm)
          have x2:∀ (z:Nat) (x:Option Blk) (M:Heap),upd M (n1+z) x 2=M 2:=fun z x M=>upd_ne _ _ _ _ (by omega)
          have x3:∀ (z:Nat) (x:Option Blk) (M:Heap),upd M (n1+z) x 3=M 3:=fun z x M=>upd_ne _ _ _ _ (by omega)
          have x47:∀ (z:Nat) (x:Option Blk) (M:Heap),upd M (n1+z) x 47=M 47:=fun z x M=>upd_ne _ _ _ _ (by omega)
          have x90:∀ (z:Nat) (x:Option Blk) (M:Heap),upd M (n1+z) x 90=M 90:=fun z x M=>upd_ne _ _ _ _ (by omega)
          have htk:List.take R.length (R.map V.str)=R.map V.str:=List.take_of_length_le (by simp)
          have hml:(R.map V.str).length=R.length:=List.length_map ..
          simp only [push_cast,seval,-Nat.reducePow,i7,i19,i20,i21,i2,i3,i5,i6,iP,iU,iO,iN,iV,z2,z3,z47,z90,zid,w2,w3,w47,w90,x2,x3,x47,x90,htk,hml]
          have hg1:out.length<(rndO u (gs.take (i+1)) out).length:=by rw [hR2,List.length_append,List.length_singleton]; omega
          exact ⟨by omega,⟨by omega,by omega⟩,gs.length-(i+1),by omega,i+1,n1+79,by omega,rfl,by rw [decide_eq_true hg1],by simp,by rw [hR2,List.length_append,List.length_singleton],by rw [hR2,List.map_append,upd_ne _ _ _ _ (by omega)]; exact upd_same _ _ _,by omega,by omega,by omega,by omega,by omega⟩
        | false =>
          have hR3:stepO u R q=R:=by unfold stepO; rw [if_neg (by rw [hc]; simp),if_neg (by rw [hb]; simp)]
          rw [hR3] at hR2
          simp only [push_cast,seval,-Nat.reducePow,i7,i19,i20,i21,i2,i3,i5,i6,iP,iU,iO,iN,iV,z2,z3,z47,z90,zid]
          exact ⟨⟨by omega,by omega⟩,gs.length-(i+1),by omega,i+1,id,by omega,rfl,by rw [hR2],by simp,by rw [hR2],by rw [zid,zid,hR2]; exact iV,d2,d3,d47,d90,by omega,by omega⟩
     ·have h':¬ ((i:Nat):Int)<((gs.length:Nat):Int):=by omega
      obtain rfl:i=gs.length:=by omega
      rw [List.take_length] at hR a3 a5 a6
      rw [hR] at a3 a5 a6
      obtain ⟨k,rfl⟩:∃ k',k=k'+1:=⟨k-1,by omega⟩
      rw [itO,hR] at hgr
      simp only [push_cast,seval,-Nat.reducePow,i7,i19,i20,i21,i2,i3,i5,i6,iP,iU,iO,iN,iV,h',hgn]
      by_cases hgrow:out.length<R.length
      ·rw [if_pos hgrow] at hgr
       exact ⟨2*(gs.length+3-R.length)+1,by omega,R,id,true,by simp,a1,a2,.inl ⟨rfl,k,by omega,hgr⟩,by simp [hgrow],rfl,iV,d2,d3,d47,d90,by omega,by omega⟩
      ·rw [if_neg hgrow] at hgr
       exact ⟨2*(gs.length+3-R.length)+0,by omega,R,id,false,by simp,a1,a2,.inr ⟨rfl,hgr⟩,by simp [hgrow],rfl,iV,d2,d3,d47,d90,by omega,by omega⟩
   ·have ha:aT∈out:=by rw [← hgr]; exact (outF_spec u gs).2.2.2 aT (by unfold grp0; split <;> simp)
    have hpos:0<out.length:=List.length_pos_of_mem ha
    simp only [push_cast,seval,-Nat.reducePow,j7,j2,j3,j5,j6,jP,jU,jO,jN,jV]
    refine ecallK_intro (hS out id _ _ jV hpos (by omega)) ?_
    rintro v L1 n1 ⟨rfl,rfl,rfl⟩
    have w47:∀ (x:Option Blk) (M:Heap),upd M id x 47=M 47:=fun x M=>upd_ne _ _ _ _ (fun e=>d47 e.symm)
    simp only [push_cast,seval,-Nat.reducePow,j5,w47,jO]
    rw [← out_eq,hgr]
    exact view_own1 (upd_same _ _ _) (imms_str _) (by simp [srtF_len])
end Go.Ab
namespace Go.Ab
variable {u:Tx} {gs:List Gro} {Z:List Tx}
theorem rndF_sup:∀ (r:List Gro) (l:List Tx) (x:Tx),x∈l→x∈rndF u r l
 | [],l,x,h=>h
 | g::r,l,x,h=>by
   unfold rndF
   refine rndF_sup r _ x ?_
   split
   ·exact (putF_mem _ _ _).2 (.inr h)
   ·exact h
theorem itF_sup:∀ (k:Nat) (l:List Tx) (x:Tx),x∈l→x∈itF u gs k l
 | 0,l,x,h=>h
 | k+1,l,x,h=>by
   unfold itF
   split
   ·exact itF_sup k _ x (rndF_sup _ _ _ h)
   ·exact rndF_sup _ _ _ h
def src (u:Tx) (gs:List Gro) (Z:List Tx) (x:Tx):Prop:=x∈grp0 u∨∃ g,g∈gs∧g.n=x∧belG u Z g=true
theorem rndF_src:∀ (r:List Gro) (l:List Tx),(∀ g,g∈r→g∈gs)→(∀ x,x∈rndF u r l→x∈Z)→(∀ x,x∈l→src u gs Z x)→∀ x,x∈rndF u r l→src u gs Z x
 | [],l,_,_,h=>h
 | g::r,l,hr,hz,h=>by
   have hl:∀ x,x∈l→x∈Z:=fun x hx=>hz x (rndF_sup (g::r) l x hx)
   unfold rndF at hz ⊢
   refine rndF_src r _ (fun q hq=>hr q (List.mem_cons_of_mem _ hq)) hz fun x hx=>?_
   split at hx
   ·rename_i hb
    rcases (putF_mem _ _ _).1 hx with rfl | hx
    ·exact .inr ⟨g,hr g (by simp),rfl,bel_mono hl hb⟩
    ·exact h x hx
   ·exact h x hx
theorem itF_src:∀ (k:Nat) (l:List Tx),(∀ x,x∈itF u gs k l→x∈Z)→(∀ x,x∈l→src u gs Z x)→∀ x,x∈itF u gs k l→src u gs Z x
 | 0,l,_,h=>h
 | k+1,l,hz,h=>by
   unfold itF at hz ⊢
   split at hz
   ·rename_i hlt
    rw [if_pos hlt]
    exact itF_src k _ hz (rndF_src gs l (fun g h=>h) (fun x hx=>hz x (itF_sup k _ x hx)) h)
   ·rename_i hlt
    rw [if_neg hlt]
    exact rndF_src gs l (fun g h=>h) hz h
theorem grpF_src (u:Tx) (gs:List Gro):∀ x,x∈grpF u gs→src u gs (grpF u gs) x:=itF_src _ _ (fun x h=>h) fun x h=>.inl h
theorem gN_inj {i j:Nat} (hi:i<3) (hj:j<3) (h:gNames.getD i []=gNames.getD j []):i=j:=by
 have a:i=0∨i=1∨i=2:=by omega
 have b:j=0∨j=1∨j=2:=by omega
 rcases a with rfl | rfl | rfl <;> rcases b with rfl | rfl | rfl <;> first | rfl | (exfalso; revert h; decide)
theorem gN_not {i:Nat} (hi:i<3):gNames.getD i []≠aT∧gNames.getD i []≠uT:=by
 have a:i=0∨i=1∨i=2:=by omega
 rcases a with rfl | rfl | rfl <;> decide
variable {rs:List Rul} {ds:List Grd}
theorem pg_n (hG:PolG gs rs ds) {i:Nat} (h:i<gs.length):gs[i].n=gNames.getD i []:=by
 have e:=hG.gn
 have h1:(gs.map Gro.n)[i]?=some gs[i].n:=by simp [h]
 rw [e,List.getElem?_take_of_lt h] at h1
 simp [List.getD,h1]
theorem us_name {u:Tx} (h:u∈usNames):nameB u=!decide (u=[]):=by
 simp only [usNames,List.mem_cons,List.not_mem_nil,or_false] at h
 rcases h with rfl | rfl | rfl | rfl <;> rfl
theorem pg_bel (hG:PolG gs rs ds) (u:Tx) {g:Gro} (hg:g∈gs):belG u (grpF u gs) g=(grpF u gs).contains g.n:=by
 have hl:=hG.gl
 have key:g.n∈grpF u gs→belG u (grpF u gs) g=true:=fun h=>by
  obtain ⟨i,hi,rfl⟩:=List.mem_iff_getElem.1 hg
  have hni:=pg_n hG hi
  rcases grpF_src u gs _ h with h | ⟨g',hg',hn,hb⟩
  ·exfalso
   obtain ⟨n1,n2⟩:=gN_not (show i<3 by omega)
   rw [hni] at h
   unfold grp0 at h
   split at h
   ·rcases List.mem_cons.1 h with h | h
    ·exact n1 h
    ·exact n2 (List.mem_singleton.1 h)
   ·exact n1 (List.mem_singleton.1 h)
  ·obtain ⟨j,hj,rfl⟩:=List.mem_iff_getElem.1 hg'
   rw [pg_n hG hj,hni] at hn
   have:=gN_inj (by omega) (by omega) hn
   subst this
   exact hb
 cases hb:belG u (grpF u gs) g with
 | true=>exact (List.contains_iff_mem.2 (grpF_clos u gs g hg hb)).symm
 | false =>
   cases hc:(grpF u gs).contains g.n with
   | false=>rfl
   | true=>rw [key (List.contains_iff_mem.1 hc)] at hb; cases hb
theorem pg_all (u:Tx) (gs:List Gro):(grpF u gs).contains aT=true:=List.contains_iff_mem.2 ((grpF_spec u gs).2.2 aT (by unfold grp0; split <;> simp))
theorem pg_users (hG:PolG gs rs ds) (u:Tx):(grpF u gs).contains uT=nameB u:=by
 have hl:=hG.gl
 cases hn:nameB u with
 | true=>exact List.contains_iff_mem.2 ((grpF_spec u gs).2.2 uT (by unfold grp0; rw [hn]; simp))
 | false =>
   cases hc:(grpF u gs).contains uT with
   | false=>rfl
   | true =>
     exfalso
     rcases grpF_src u gs _ (List.contains_iff_mem.1 hc) with h | ⟨g',hg',h,hb⟩
     ·unfold grp0 at h
      rw [hn] at h
      simp only [Bool.false_eq_true,if_false,List.mem_singleton] at h
      revert h; decide
     ·obtain ⟨j,hj,rfl⟩:=List.mem_iff_getElem.1 hg'
      rw [pg_n hG hj] at h
      exact (gN_not (show j<3 by omega)).2 h
end Go.Ab
namespace Go.Ab
variable {P:Program} {F T:Nat→Nat}
structure GrpC (P:Program) (F T:Nat→Nat):Prop where
 h180:Is180 P F T
 h191:Is191 P F T
 h220:Is220 P F T
 h222:Is222 P F T
 h223:Is223 P F T
 h224:Is224 P F T
 h225:Is225 P F T
 hb225:bodied P (F 225)=true
 hS:SortC P F T
theorem grp_ok (G:GrpC P F T) (gs:List Gro) (rs:List Rul) (ds:List Grd) (u:Tx) (hgl:gs.length≤100) (hm:∀ g,g∈gs→g.m.length≤2^60) :
 PTr P (F 180) [.agg [.lst 2 (grV gs),.lst 6 (ruV rs),.lst 5 (gdV ds)],.str u] (.lst 1 ((grpF u gs).map .str)) :=
 t180 G.h180 G.h191 G.h220 G.h222 G.h223 G.h224 G.h225 G.hb225 G.hS gs _ _ (ruV_imm rs) (gdV_imm ds) u hgl hm
theorem rgr_any (R:RGrC P F T) (gs:List Gro) (rs:List Rul) (ds:List Grd) (u:Tx) (hgl:gs.length≤100) (hm:∀ g,g∈gs→g.m.length≤2^60) :
 PTr P (F 209) [.agg [.lst 2 (grV gs),.lst 6 (ruV rs),.lst 5 (gdV ds)],.str u] (.lst 1 ((grpF u gs).map .str)) :=
 t209 R.h209 R.h217 R.h193 R.h218 R.h219 gs _ _ (ruV_imm rs) (gdV_imm ds) u hgl hm
theorem ptr_lenN {f:Nat} {args:List V} (i:Nat) {sz:Nat} {es:List V} {r:V} (hi:args[i]?=some (.lst sz es)) (h:es.length<2^63→PTr P f args r):PTr P f args r:=by
 intro D w vs hD hg hn hr
 have h0:=hr i (.lst sz es) hi
 have hl:es.length<2^63:=by
  revert h0
  generalize vs.getD i undef=v
  intro h0
  cases h0
  omega
 exact h hl D w vs hD hg hn hr
theorem t210 (hf:Is210 P F T) (l:List Tx) (hl:l.length≤2^60):PTr P (F 210) [.lst 1 (l.map .str),.lst 1 (l.map .str)] (.bool true):=by
 refine ptrC [] hf (by simp) rfl ?_
 have hln:(l.map V.str).length=l.length:=List.length_map ..
 have hli:=imms_str l
 simp only [c210,push_cast,seval,-Nat.reducePow,hln]
 refine loopK_intro (fun m s=>∃ i,i≤l.length∧m=l.length-i∧s.env 0=.lst 1 (l.map .str)∧s.env 1=.lst 1 (l.map .str)∧s.env 5=.int .i64 i) l.length ⟨0,?_⟩ fun m s hJ=>?_
 ·simp only [push_cast,seval,-Nat.reducePow]
  rfl
 ·obtain ⟨i,hi,rfl,j0,j1,j5⟩:=hJ
  by_cases h:i<l.length
  ·have h':((i:Nat):Int)<((l.length:Nat):Int):=by omega
   have hg:=getD_str h
   simp only [push_cast,seval,-Nat.reducePow,j0,j1,j5,h',hln,hg]
   exact ⟨h,h,⟨by omega,by omega⟩,l.length-(i+1),by omega,i+1,by omega,rfl,by simp⟩
  ·have h':¬ ((i:Nat):Int)<((l.length:Nat):Int):=by omega
   simp only [push_cast,seval,-Nat.reducePow,j0,j1,j5,h',hln,view]
theorem law206 (hf:Is206 P F T) (h177:Is177 P F T) (K:TC3 P F T) (h39:Is39 P F T) (G:GrpC P F T) (R:RGrC P F T) (h210:Is210 P F T) (kn:PTr P (F 176) [] (.bool true)) (gs:List Gro) (rs:List Rul) (ds:List Grd) (user:Tx) (es:List V) (hi:V.imms es=true) (hes:∀ e,e∈es→∃ m,e=.int .i64 m) :
 PTr P (F 206) [polV (grV gs) rs (gdV ds),.str user,.lst 1 es] (.bool true):=by
 refine ptr_lenN 2 rfl fun hl=>?_
 refine ptrC [] hf (by simp) rfl ?_
 have hgi:=grV_imm gs
 have hri:=ruV_imm rs
 have hdi:=gdV_imm ds
 have hlb:=t177 h177 gs rs (gdV ds) hdi
 simp only [polV] at hlb ⊢
 simp only [c206,push_cast,seval,-Nat.reducePow,hgi,hri,hdi]
 refine callK_intro hlb (by simp only [push_cast,seval,-Nat.reducePow,hgi,hri,hdi]) (by simp only [push_cast,seval,-Nat.reducePow]) ?_
 cases hb:largeB gs rs (gdV ds) with
 | true =>
   simp only [push_cast,seval,-Nat.reducePow]
   refine callK_intro kn (by simp only [push_cast,seval,-Nat.reducePow]) (by simp only [push_cast,seval,-Nat.reducePow]) ?_
   simp only [push_cast,seval,-Nat.reducePow,view]
 | false =>
   by_cases a1:100<user.length
   ·have a1':(100:Int)<((user.length:Nat):Int):=by omega
    simp only [push_cast,seval,-Nat.reducePow,a1']
    refine callK_intro kn (by simp only [push_cast,seval,-Nat.reducePow]) (by simp only [push_cast,seval,-Nat.reducePow]) ?_
    simp only [push_cast,seval,-Nat.reducePow,view]
   have a1':¬ (100:Int)<((user.length:Nat):Int):=by omega
   have hg12:gs.length≤12:=by
    by_cases e:12<gs.length
    ·simp [largeB,e] at hb
    ·omega
   have hm12:∀ g,g∈gs→g.m.length≤2^60:=fun g hg=>by
    by_cases e:12<g.m.length
    ·exfalso
     have:(gs.any fun g=>decide (12<g.m.length))=true:=List.any_eq_true.2 ⟨g,hg,decide_eq_true e⟩
     unfold largeB at hb
     rw [this,Bool.or_true] at hb
     cases hb
    ·omega
   simp only [push_cast,seval,-Nat.reducePow,a1']
   refine ecallK_intro (n39f h39 es hi hes hl) ?_
   rintro v L0 n0 ⟨p,rfl,hp,hn,hT,hfr⟩
   have hb0:=hfr 3 (by omega)
   simp only [push_cast,seval,-Nat.reducePow] at hb0
   refine ecallK_intro (n207 K hT (by omega)) ?_
   rintro v L1 n1 ⟨gs2,rs2,ds2,hG,rfl,hn1,hT1,hfr1⟩
   have hb1:=hfr1 3 _ _ (by omega) (by omega) hb0 (by simp [V.imms,V.imm,hgi,hri,hdi])
   refine ecallK_intro (n208 K.toTC K.h208 hT1 (by omega)) ?_
   rintro v L2 n2 ⟨u,hu,rfl,hT2⟩
   have le2:=hT2.le
   have hb2:=(hT2.fr 3 (by omega) (by omega)).trans hb1
   have hgi2:=grV_imm gs2
   have hri2:=ruV_imm rs2
   have hdi2:=gdV_imm ds2
   have hl1:=grpF_len user gs
   have hl2:=grpF_len u gs2
   have hg3:=hG.gl
   have hm2:∀ g,g∈gs2→g.m.length≤2^60:=fun g hg=>by have:=(hG.gm g hg).1; omega
   have s1:=imms_str (grpF user gs)
   have s2:=imms_str (grpF u gs2)
   have z3:∀ (z:Nat) (x:Option Blk) (M:Heap),upd M (n2+z) x 3=M 3:=fun z x M=>upd_ne _ _ _ _ (by omega)
   simp only [push_cast,seval,-Nat.reducePow,polV,hgi2,hri2,hdi2,hb2,z3]
   refine callK_intro (grp_ok G gs rs ds user (by omega) hm12) (by simp only [push_cast,seval,-Nat.reducePow,hgi,hri,hdi]) (by simp only [V.imm]; exact s1) ?_
   try simp only [push_cast,seval,-Nat.reducePow,hb2,z3]
   refine callK_intro (rgr_any R gs rs ds user (by omega) hm12) (by simp only [push_cast,seval,-Nat.reducePow,hgi,hri,hdi]) (by simp only [V.imm]; exact s1) ?_
   try simp only [push_cast,seval,-Nat.reducePow,hb2,z3]
   refine callK_intro (t210 h210 (grpF user gs) (by omega)) (by simp only [push_cast,seval,-Nat.reducePow,s1]) (by simp only [push_cast,seval,-Nat.reducePow]) ?_
   try simp only [push_cast,seval,-Nat.reducePow,hb2,z3]
   refine callK_intro (grp_ok G gs2 rs2 ds2 u (by omega) hm2) (by simp only [push_cast,seval,-Nat.reducePow,hgi2,hri2,hdi2]) (by simp only [V.imm]; exact s2) ?_
   try simp only [push_cast,seval,-Nat.reducePow,hb2,z3]
   refine callK_intro (rgr_any R gs2 rs2 ds2 u (by omega) hm2) (by simp only [push_cast,seval,-Nat.reducePow,hgi2,hri2,hdi2]) (by simp only [V.imm]; exact s2) ?_
   try simp only [push_cast,seval,-Nat.reducePow,hb2,z3]
   refine callK_intro (t210 h210 (grpF u gs2) (by omega)) (by simp only [push_cast,seval,-Nat.reducePow,s2]) (by simp only [push_cast,seval,-Nat.reducePow]) ?_
   simp only [push_cast,seval,-Nat.reducePow]
   refine callK_intro kn (by simp only [push_cast,seval,-Nat.reducePow]) (by simp only [push_cast,seval,-Nat.reducePow]) ?_
   simp only [push_cast,seval,-Nat.reducePow,view]
end Go.Ab
namespace Go.Ab
variable {P:Program} {F T:Nat→Nat}
def memL (u:Tx) (l:List Tx) (m:Tx):Bool:=(!decide (u=[])&&decide (m=u))||(decide ((m.getD 0 0).toNat=64)&&l.contains (m.drop 1))
theorem memL_bel {u m:Tx} (l:List Tx) (h:u∈usNames) (hm:m≠[]):memL u l m=belM u l m:=by
 have:0<m.length:=List.length_pos_iff.2 hm
 unfold memL belM
 rw [us_name h,decide_eq_true this,Bool.true_and]
theorem any_memL {u:Tx} (l:List Tx) (h:u∈usNames):∀ (ms:List Tx),(∀ m,m∈ms→m≠[])→ms.any (memL u l)=ms.any (belM u l)
 | [],_=>rfl
 | m::r,hm=>by
   simp only [List.any_cons]
   rw [memL_bel l h (hm m (by simp)),any_memL l h r fun x hx=>hm x (List.mem_cons_of_mem _ hx)]
theorem law211 (hf:Is211 P F T) (K:TC3 P F T) (h39:Is39 P F T) (G:GrpC P F T) (h193:Is193 P F T) (kn:PTr P (F 176) [] (.bool true)) (es:List V) (hi:V.imms es=true) (hes:∀ e,e∈es→∃ m,e=.int .i64 m) :
 PTr P (F 211) [.lst 1 es] (.bool true):=by
 refine ptr_len fun hl=>?_
 refine ptrC [] hf (by simp [hi]) rfl ?_
 simp only [c211,push_cast,seval,-Nat.reducePow]
 refine ecallK_intro (n39f h39 es hi hes hl) ?_
 rintro v L0 n0 ⟨p,rfl,hp,hn,hT,hfr⟩
 refine ecallK_intro (n207 K hT (by omega)) ?_
 rintro v L1 n1 ⟨gs,rs,ds,hG,rfl,hn1,hT1,hfr1⟩
 refine ecallK_intro (n208 K.toTC K.h208 hT1 (by omega)) ?_
 rintro v L2 n2 ⟨u,hu,rfl,hT2⟩
 have le2:=hT2.le
 have hgi:=grV_imm gs
 have hri:=ruV_imm rs
 have hdi:=gdV_imm ds
 have hgn:=grV_len gs
 have hgl:=hG.gl
 have hm:∀ g,g∈gs→g.m.length≤2^60:=fun g hg=>by have:=(hG.gm g hg).1; omega
 have hglen:=grpF_len u gs
 have hsi:=imms_str (grpF u gs)
 simp only [push_cast,seval,-Nat.reducePow,polV,hgi,hri,hdi]
 refine callK_intro (grp_ok G gs rs ds u (by omega) hm) (by simp only [push_cast,seval,-Nat.reducePow,hgi,hri,hdi]) (by simp only [V.imm]; exact hsi) ?_
 simp only [push_cast,seval,-Nat.reducePow]
 refine loopK_intro (fun m s=>∃ i,i≤gs.length∧m=gs.length-i∧s.env 4=.ptr (n2+4) 0∧s.env 5=.str u∧s.env 6=.lst 1 ((grpF u gs).map .str)∧s.env 7=.int .i64 i∧s.L (n2+4)=some (.box (T 16) [.lst 2 (grV gs),.lst 6 (ruV rs),.lst 5 (gdV ds)])∧n2+90≤s.nx) gs.length ⟨0,?_⟩ fun m s hJ=>?_
 ·simp only [push_cast,seval,-Nat.reducePow]
  exact ⟨rfl,by omega⟩
 ·obtain ⟨i,hi,rfl,j4,j5,j6,j7,jP,jn⟩:=hJ
  by_cases h:i<gs.length
  ·have h':((i:Nat):Int)<((gs.length:Nat):Int):=by omega
   obtain ⟨q,hq,hqv,hqm⟩:=gn_at h
   have hq2:=(hG.gm q hqm)
   have hq21:q.m.length≤2:=hq2.1
   have hml:(q.m.map V.str).length=q.m.length:=List.length_map ..
   simp only [push_cast,seval,-Nat.reducePow,j4,j5,j6,j7,jP,h',hgn,hqv]
   refine loopK_intro (fun m s=>∃ k,k≤q.m.length∧m=q.m.length-k∧s.env 8=.bool ((q.m.take k).any (memL u (grpF u gs)))∧s.env 9=.int .i64 k∧s.env 4=.ptr (n2+4) 0∧s.env 5=.str u∧s.env 6=.lst 1 ((grpF u gs).map .str)∧s.env 7=.int .i64 i∧s.L (n2+4)=some (.box (T 16) [.lst 2 (grV gs),.lst 6 (ruV rs),.lst 5 (gdV ds)])∧n2+90≤s.nx) q.m.length ⟨0,?_⟩ fun m s hJ=>?_
   ·simp only [push_cast,seval,-Nat.reducePow,j4,j5,j6,j7,jP]
    exact ⟨rfl,by simp,by omega⟩
   ·obtain ⟨k,hk,rfl,i8,i9,i4,i5,i6,i7,iP,in_⟩:=hJ
    by_cases hk2:k<q.m.length
    ·have hk2':((k:Nat):Int)<((q.m.length:Nat):Int):=by omega
     have hgm:=getD_str hk2
     obtain ⟨m,hme⟩:∃ m,q.m.getD k []=m:=⟨_,rfl⟩
     have hmm:m∈q.m:=by rw [← hme]; simp [List.getD,hk2]
     have hm0:=(hq2.2 m hmm).1
     have hmp:0<m.length:=List.length_pos_iff.2 hm0
     have ht:(q.m.take (k+1)).any (memL u (grpF u gs))=((q.m.take k).any (memL u (grpF u gs))||memL u (grpF u gs) m):=by
      rw [take_succ_getD _ _ hk2,hme]; simp
     rw [hme] at hgm
     have c2:=t193 h193 (grpF u gs) (m.drop 1) (by omega)
     have b1n:1≤m.length:=hmp
     have htl:List.take m.length m=m:=List.take_length
     obtain ⟨d,hd⟩:∃ d,(q.m.take k).any (memL u (grpF u gs))=d:=⟨_,rfl⟩
     rw [hd] at ht i8
     cases d with
     | true =>
       rw [Bool.true_or] at ht
       simp only [push_cast,seval,-Nat.reducePow,i4,i5,i6,i7,i8,i9,iP,h,h',hgn,hqv,hk2',hml,hgm]
       exact ⟨hk2,⟨by omega,by omega⟩,q.m.length-(k+1),by omega,k+1,by omega,rfl,by rw [ht],by simp,by omega⟩
     | false =>
       rw [Bool.false_or] at ht
       simp only [push_cast,seval,-Nat.reducePow,i4,i5,i6,i7,i8,i9,iP,h,h',hgn,hqv,hk2',hml,hgm]
       refine ⟨hk2,?_⟩
       by_cases hu0:u=[]
       ·have hu0d:decide (u=[])=true:=decide_eq_true hu0
        have key:memL u (grpF u gs) m=(decide ((m.getD 0 0).toNat=64)&&(grpF u gs).contains (m.drop 1)):=by unfold memL; simp [hu0]
        rw [key] at ht
        by_cases b2:(m.getD 0 0).toNat=64
        ·have b2':(((m.getD 0 0).toNat:Nat):Int)=64:=by omega
         rw [decide_eq_true b2,Bool.true_and] at ht
         simp only [push_cast,seval,-Nat.reducePow,i4,i5,i6,i7,i8,i9,iP,hu0d,hmp,b2',b1n,htl]
         refine callK_intro c2 (by simp only [push_cast,seval,-Nat.reducePow,hsi]) (by simp only [push_cast,seval,-Nat.reducePow]) ?_
         simp only [push_cast,seval,-Nat.reducePow,i4,i5,i6,i7,i8,i9,iP]
         exact ⟨⟨by omega,by omega⟩,q.m.length-(k+1),by omega,k+1,by omega,rfl,by rw [ht],by simp,by omega⟩
        ·have b2':¬ (((m.getD 0 0).toNat:Nat):Int)=64:=by omega
         rw [decide_eq_false b2,Bool.false_and] at ht
         simp only [push_cast,seval,-Nat.reducePow,i4,i5,i6,i7,i8,i9,iP,hu0d,hmp,b2']
         exact ⟨⟨by omega,by omega⟩,q.m.length-(k+1),by omega,k+1,by omega,rfl,by rw [ht],by simp,by omega⟩
       ·have hu0d:decide (u=[])=false:=decide_eq_false hu0
        by_cases hmu:m=u
        ·have key:memL u (grpF u gs) m=true:=by unfold memL; simp [hu0,hmu]
         rw [key] at ht
         simp only [push_cast,seval,-Nat.reducePow,i4,i5,i6,i7,i8,i9,iP,hu0d,hmu]
         exact ⟨⟨by omega,by omega⟩,q.m.length-(k+1),by omega,k+1,by omega,rfl,by rw [ht],by simp,by omega⟩
        ·have key:memL u (grpF u gs) m=(decide ((m.getD 0 0).toNat=64)&&(grpF u gs).contains (m.drop 1)):=by unfold memL; simp [hu0,hmu]
         rw [key] at ht
         by_cases b2:(m.getD 0 0).toNat=64
         ·have b2':(((m.getD 0 0).toNat:Nat):Int)=64:=by omega
          rw [decide_eq_true b2,Bool.true_and] at ht
          simp only [push_cast,seval,-Nat.reducePow,i4,i5,i6,i7,i8,i9,iP,hu0d,hmu,hmp,b2',b1n,htl]
          refine callK_intro c2 (by simp only [push_cast,seval,-Nat.reducePow,hsi]) (by simp only [push_cast,seval,-Nat.reducePow]) ?_
          simp only [push_cast,seval,-Nat.reducePow,i4,i5,i6,i7,i8,i9,iP]
          exact ⟨⟨by omega,by omega⟩,q.m.length-(k+1),by omega,k+1,by omega,rfl,by rw [ht],by simp,by omega⟩
         ·have b2':¬ (((m.getD 0 0).toNat:Nat):Int)=64:=by omega
          rw [decide_eq_false b2,Bool.false_and] at ht
          simp only [push_cast,seval,-Nat.reducePow,i4,i5,i6,i7,i8,i9,iP,hu0d,hmu,hmp,b2']
          exact ⟨⟨by omega,by omega⟩,q.m.length-(k+1),by omega,k+1,by omega,rfl,by rw [ht],by simp,by omega⟩
    ·have hk2':¬ ((k:Nat):Int)<((q.m.length:Nat):Int):=by omega
     obtain rfl:k=q.m.length:=by omega
     have hbl:=pg_bel hG u hqm
     rw [List.take_length,any_memL _ hu _ fun m hm=>(hq2.2 m hm).1] at i8
     have i8':s.env 8=.bool ((grpF u gs).contains q.n):=by rw [← hbl]; exact i8
     simp only [push_cast,seval,-Nat.reducePow,i4,i5,i6,i7,i8',i9,iP,h,h',hgn,hqv,hk2',hml]
     refine callK_intro (t193 h193 (grpF u gs) q.n (by omega)) (by simp only [push_cast,seval,-Nat.reducePow,hsi]) (by simp only [push_cast,seval,-Nat.reducePow]) ?_
     simp only [push_cast,seval,-Nat.reducePow,i4,i5,i6,i7,iP,beq_self_eq_true]
     exact ⟨⟨by omega,by omega⟩,gs.length-(i+1),by omega,i+1,by omega,rfl,by simp,by omega⟩
  ·have h':¬ ((i:Nat):Int)<((gs.length:Nat):Int):=by omega
   simp only [push_cast,seval,-Nat.reducePow,j4,j5,j6,j7,jP,h',hgn]
   have c1:=t193 h193 (grpF u gs) aT (by omega)
   have c2:=t193 h193 (grpF u gs) uT (by omega)
   rw [pg_all] at c1
   rw [pg_users hG,us_name hu] at c2
   simp only [aT,uT] at c1 c2
   refine callK_intro c1 (by simp only [push_cast,seval,-Nat.reducePow,hsi]) (by simp only [push_cast,seval,-Nat.reducePow]) ?_
   simp only [push_cast,seval,-Nat.reducePow,j4,j5,j6]
   refine callK_intro c2 (by simp only [push_cast,seval,-Nat.reducePow,hsi]) (by simp only [push_cast,seval,-Nat.reducePow]) ?_
   simp only [push_cast,seval,-Nat.reducePow,j5,beq_self_eq_true]
   refine callK_intro kn (by simp only [push_cast,seval,-Nat.reducePow]) (by simp only [push_cast,seval,-Nat.reducePow]) ?_
   simp only [push_cast,seval,-Nat.reducePow,view]
end Go.Ab
