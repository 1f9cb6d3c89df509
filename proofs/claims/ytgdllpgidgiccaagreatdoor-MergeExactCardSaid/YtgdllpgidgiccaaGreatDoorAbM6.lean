/- Several texts of one kind, merged. No condition. -/
import Derived.Test.YtgdllpgidgiccaaGreatDoorAbM5
import Derived.Lib.IndexMore
import Derived.Lib.SplitLaws
import Derived.Lib.CountLaws
import Derived.Lib.Split
import Derived.Lib.Join
import Derived.Lib.IndexBytes
import Derived.Test.YtgdllpgidgiccaaGreatDoorAbP4
import Derived.Deep.Draws
set_option linter.unusedSimpArgs false
set_option linter.unusedVariables false
namespace Go.Ab
variable {P:Program} {F T:Nat→Nat}
open Go.Lib
def lnF:List UInt8→List (List UInt8)
 | []=>[[]]
 | x::r=>if x=10 then []::lnF r else (x::(lnF r).headD [])::(lnF r).tail
theorem aOm (s:List UInt8):∃ p q,lnF s=p::q:=by
 cases s with
 | nil=>exact ⟨[],[],rfl⟩
 | cons x r=>rw [lnF]; split <;> exact ⟨_,_,rfl⟩
theorem bFz:∀ {s:List UInt8},(∀ b,b∈s→b≠10)→lnF s=[s]
 | [],_=>rfl
 | x::r,h=>by
   have ih:=bFz (s:=r) (fun b hb=>h b (by simp [hb]))
   have hx:=h x (by simp)
   simp [lnF,hx,ih]
theorem bFp:∀ {u v:List UInt8},(∀ b,b∈u→b≠10)→lnF (u++10::v)=u::lnF v
 | [],v,_=>by simp [lnF]
 | x::r,v,h=>by
   have ih:=bFp (u:=r) (v:=v) (fun b hb=>h b (by simp [hb]))
   have hx:=h x (by simp)
   simp [lnF,hx,ih]
theorem aUe:∀ (s:List UInt8) (q:List UInt8),q∈lnF s→∀ b,b∈q→b≠10
 | [],q,h,b,hb=>by simp [lnF] at h; subst h; cases hb
 | x::r,q,h,b,hb=>by
   obtain ⟨p,t,e⟩:=aOm r
   have ih:=aUe r
   rw [lnF] at h
   split at h
   ·rcases List.mem_cons.1 h with rfl | h
    ·cases hb
    ·exact ih q h b hb
   ·rename_i hx
    rw [e] at h ih
    simp only [List.headD_cons,List.tail_cons] at h
    rcases List.mem_cons.1 h with rfl | h
    ·rcases List.mem_cons.1 hb with rfl | hb
     ·exact hx
     ·exact ih p (by simp) b hb
    ·exact ih q (by simp [h]) b hb
theorem aOa:∀ s:List UInt8,(lnF s).length=s.count 10+1
 | []=>rfl
 | x::r=>by
   obtain ⟨p,t,e⟩:=aOm r
   have ih:=aOa r
   rw [lnF]
   split
   ·rename_i h
    subst h
    simp [ih]
   ·rename_i h
    rw [e] at ih ⊢
    rw [List.count_cons_of_ne h]
    simpa using ih
theorem aR3:∀ s:List UInt8,((lnF s).map List.length).sum≤s.length
 | []=>by simp [lnF]
 | x::r=>by
   obtain ⟨p,t,e⟩:=aOm r
   have ih:=aR3 r
   rw [lnF]
   split
   ·simp; omega
   ·rw [e] at ih ⊢
    simp only [List.headD_cons,List.tail_cons,List.map_cons,List.sum_cons,List.length_cons] at ih ⊢
    omega
theorem aPi (c:UInt8):∀ s:List UInt8,indexByte s c=match s.findIdx? (·==c) with | none=>-1 | some i=>(i:Int)
 | []=>rfl
 | x::r=>by
   have ih:=aPi c r
   by_cases hx:x=c
   ·subst hx; simp [indexByte,List.findIdx?_cons]
   ·have hx':(x==c)=false:=by simpa using hx
    simp only [indexByte,hx',List.findIdx?_cons,Bool.false_eq_true,if_false]
    rw [ih]
    cases h:r.findIdx? (·==c) with
    | none=>rfl
    | some i =>
      have:(((i:Nat):Int)==-1)=false:=by rw [beq_eq_false_iff_ne]; omega
      simp [this]
theorem aTc {c:UInt8} {s:List UInt8} {i:Nat} (h:s.findIdx? (·==c)=some i):s=s.take i++c::s.drop (i+1)∧(∀ b,b∈s.take i→b≠c)∧i<s.length:=by
 rw [List.findIdx?_eq_some_iff_getElem] at h
 obtain ⟨hi,h1,h2⟩:=h
 have hc:s[i]=c:=by simpa using h1
 refine ⟨?_,fun b hb=>?_,hi⟩
 ·conv=>lhs; rw [← List.take_append_drop i s,List.drop_eq_getElem_cons hi,hc]
 ·obtain ⟨j,hj,rfl⟩:=List.mem_iff_getElem.1 hb
  rw [List.length_take] at hj
  rw [List.getElem_take]
  have:=h2 j (by omega)
  simpa using this
theorem aVh {c:UInt8} {s:List UInt8} (h:s.findIdx? (·==c)=none):∀ b,b∈s→b≠c:=by
 intro b hb
 rw [List.findIdx?_eq_none_iff] at h
 have:=h b hb
 simpa using this
theorem bC5:∀ (n:Nat) (s:List UInt8),s.length≤n→split s [10]=lnF s:=by
 intro n
 induction n with
 | zero =>
   intro s hs
   have:s=[]:=List.length_eq_zero_iff.1 (by omega)
   subst this; rfl
 | succ n ih =>
   intro s hs
   have hix:index s [10]=indexByte s 10:=index_one s 10
   rw [aPi] at hix
   cases hf:s.findIdx? (·==10) with
   | none =>
     rw [hf] at hix
     rw [split,count_miss hix,splitK,bFz (aVh hf)]
   | some i =>
     rw [hf] at hix
     simp only at hix
     obtain ⟨h1,h2,h3⟩:=aTc hf
     have hm:¬ (index s [10]==-1)=true:=fun e=>by have:=beq_iff_eq.1 e; omega
     have ht:(index s [10]).toNat=i:=by omega
     have ih':=ih (s.drop (i+1)) (by rw [List.length_drop]; omega)
     rw [split,count_hit (by simp) hix,Nat.add_comm,splitK,if_neg hm,ht,Nat.add_zero]
     rw [split] at ih'
     simp only [List.length_singleton]
     rw [ih']
     conv=>rhs; rw [h1,bFp h2]
theorem aSv (x:List UInt8) (r:List (List UInt8)):join (x::r) [10]=x++joinTail [10] r:=join_cons x r [10]
theorem aZn:∀ l:List (List UInt8),(join l [10]).length≤(l.map List.length).sum+l.length
 | []=>by simp [join_nil]
 | x::r=>by
   have:=join_length x r [10]
   have h:lens (x::r)=((x::r).map List.length).sum:=rfl
   rw [this,h]
   have h1:([10]:List UInt8).length*r.length=r.length:=by simp
   have h2:(x::r).length=r.length+1:=rfl
   omega
theorem aKk:∀ r:List (List UInt8),(∀ q,q∈r→∀ b,b∈q→b≠10)→(joinTail [10] r).count 10=r.length
 | [],_=>rfl
 | q::r,h=>by
   have ih:=aKk r fun p hp=>h p (by simp [hp])
   have hq:q.count 10=0:=List.count_eq_zero.2 fun hm=>h q (by simp) 10 hm rfl
   have e:joinTail [10] (q::r)=[10]++q++joinTail [10] r:=by simp [joinTail]
   rw [e,List.count_append,List.count_append,ih,hq]
   simp
   omega
theorem aYt (l:List (List UInt8)) (h:∀ q,q∈l→∀ b,b∈q→b≠10):(join l [10]).count 10≤l.length:=by
 cases l with
 | nil=>simp [join_nil]
 | cons x r =>
   have hx:x.count 10=0:=List.count_eq_zero.2 fun hm=>h x (by simp) 10 hm rfl
   rw [aSv,List.count_append,hx,aKk r fun p hp=>h p (by simp [hp])]
   simp
end Go.Ab
namespace Go.Ab
variable {P:Program} {F T:Nat→Nat}
open Go.Lib
open Go.RowKit
def SplL (P:Program) (F T:Nat→Nat):Prop:=∀ (s:List UInt8),s.length≤100000→∀ (L:Heap) (nx:Nat),
 ECall P (F 171) [.str s,.str [10]] L nx fun v L' nx'=>v=.own nx 1 0 (lnF s).length∧L'=upd L nx (some (.vec (T 21) 1 ((lnF s).map .str)))∧nx'=nx+1
theorem Hp.goodN {D:Nat→Prop} {L:Heap} {nx:Nat} {G:Ghost} {w:World} (h:Hp P D 0 ⟨fun _=>.junk,L,nx⟩ G w):Good P D 1 ⟨fun _=>.junk,L,nx⟩ G ⟨#[.bool false],[]⟩ w :=
 ⟨rfl,rfl,fun i=>.junk _,⟨fun id hid=>h.fin id (by simp only at hid ⊢; omega),h.blk,h.apart,h.away,h.dlt,h.gl⟩⟩
theorem aTt:∀ {l:List (List UInt8)} {q:List UInt8},q∈l→q.length≤(l.map List.length).sum
 | y::r,q,h=>by
   rcases List.mem_cons.1 h with rfl | h
   ·simp
   ·have:=aTt h
    simp only [List.map_cons,List.sum_cons]; omega
theorem bKb {x:Nat} (g:gint P x)
 (h1:∀ (s sep:ByteArray) (m:Int) (w:World),s.size<4294967281→w.cell? ⟨x,0,none⟩=some (.int .i64 m)→1≤sep.size →
  Calls P (F 171) #[.string s,.string sep] w fun e w'=>e=.returned (.slice (some ⟨w.heap.size,0,none⟩) (countB s sep+1) (countB s sep+1))∧w'=w.alloc (.cells ((splitB sep 0 (countB s sep) s).map Value.string).toArray (T 21))):SplL P F T:=by
 intro s hs L nx
 refine ⟨⟨_,_,_,rfl,rfl,rfl⟩,fun D G w vs hp hn hr=>?_⟩
 obtain ⟨u,v,rfl,hu,hv⟩:=vs2 hn fun i x hx=>(hr i x hx).free (aB3 (l:=[V.str s,V.str [10]]) rfl (List.mem_of_getElem? hx)) _
 cases hu; cases hv
 obtain ⟨m,hm⟩:=hp.gl.out x g
 refine (h1 ⟨s.toArray⟩ ⟨([10]:List UInt8).toArray⟩ m w (by simp [ByteArray.size]; omega) hm (by simp [ByteArray.size])).mono ?_
 rintro e w' ⟨rfl,rfl⟩
 have hd:=splitB_data ⟨([10]:List UInt8).toArray⟩ 0 (countB ⟨s.toArray⟩ ⟨([10]:List UInt8).toArray⟩) ⟨s.toArray⟩
 have hsp:=bC5 s.length s (Nat.le_refl _)
 have hall:=splitB_all ⟨([10]:List UInt8).toArray⟩ (by simp [ByteArray.size]) 0 _ ⟨s.toArray⟩ rfl
 have hd2:(splitB ⟨([10]:List UInt8).toArray⟩ 0 (countB ⟨s.toArray⟩ ⟨([10]:List UInt8).toArray⟩) ⟨s.toArray⟩).map (·.data.toList)=lnF s:=by rw [hd]; exact hsp
 generalize splitB ⟨([10]:List UInt8).toArray⟩ 0 (countB ⟨s.toArray⟩ ⟨([10]:List UInt8).toArray⟩) ⟨s.toArray⟩=l at *
 have hl2:l.length=(lnF s).length:=by rw [← hd2,List.length_map]
 have hmap:l.map Value.string=(lnF s).map fun q=>Value.string ⟨q.toArray⟩:=by
  rw [← hd2,List.map_map]
  exact List.map_congr_left fun b _=>rfl
 rw [hmap]
 obtain ⟨n,hn2⟩:∃ n,n=countB ⟨s.toArray⟩ ⟨([10]:List UInt8).toArray⟩+1:=⟨_,rfl⟩
 rw [← hn2] at hall ⊢
 have hnl:n=(lnF s).length:=by omega
 have hqs:∀ q,q∈lnF s→q.length<2^63:=fun q hq=>by
  have h2:=aR3 s
  have:=aTt hq
  omega
 have hc63:(lnF s).length<2^63:=by
  have:=aOa s
  have:=List.count_le_length (a:=(10:UInt8)) (l:=s)
  omega
 have hpos:0<(lnF s).length:=by rw [aOa]; omega
 obtain ⟨g1,g2⟩:=hp.goodN.newBlk (w':=w.alloc (.cells (((lnF s).map fun q=>Value.string ⟨q.toArray⟩).toArray) (T 21))) (aCz w _) (id:=nx) (hp.fin nx (by simp)) (by simp) (.vec (T 21) 1 ((lnF s).map .str)) ⟨w.heap.size,0,n,1,0⟩
  (fun x hx=>by
   obtain ⟨_,rfl⟩:=hx
   exact ⟨Nat.le_refl _,by rw [aB9]; exact Nat.lt_succ_self _⟩)
  (fun G' D' hk=>by
   refine ⟨rfl,by simp; omega,by simp only; omega,fun e he=>?_,fun _=>⟨_,_,_,aAz ..,⟨by simp; omega,rfl⟩,⟨fun i hi=>by simp,fun h=>absurd rfl h⟩,fun i j c hc=>?_⟩⟩
   ·obtain ⟨q,_,rfl⟩:=List.mem_map.1 he; rfl
   ·cases hq:(lnF s)[i]? with
    | none=>simp [hq] at hc
    | some q =>
      simp only [List.getElem?_map,hq,Option.map_some,Option.bind_some,V.cells] at hc
      match j,hc with
      | 0,hc =>
        simp at hc
        subst hc
        have hi:=(List.getElem?_eq_some_iff.1 hq).1
        have hv:=(List.getElem?_eq_some_iff.1 hq).2
        simp [Array.getD_eq_getD_getElem?,hi,hv]
        exact .str q (hqs q (List.mem_of_getElem? hq)))
 refine ⟨_,_,_,_,_,rfl,⟨rfl,rfl,rfl⟩,⟨fun id hid=>?_,g1.hp.blk,g1.hp.apart,g1.hp.away,g1.hp.dlt,g1.hp.gl⟩,Nat.le_succ _,g2,?_⟩
 ·have:=g1.hp.fin id
  exact this hid
 ·rw [hnl]
  exact .own nx 1 0 _ ⟨w.heap.size,0,(lnF s).length,1,0⟩ _ _ (aAd _ _ _) rfl (Nat.le_refl _) (by simp) (by simp only; omega) (fun _=>by simp)
def JnL (P:Program) (F:Nat→Nat):Prop:=∀ l:List (List UInt8),l≠[]→l.length≤100000→(join l [10]).length≤100000→PTr P (F 289) [.lst 1 (l.map .str),.str [10]] (.str (join l [10]))
theorem bJe (h:∀ (bk o c:Nat) (xs:List ByteArray) (sep:ByteArray) (w:World),(∀ (j:Nat) x,xs[j]?=some x→w.cell? ⟨bk,o+j,none⟩=some (.string x))→bk<w.heap.size→xs.length≤140737488355328→xs.length≤c→(join (xs.map (·.data.toList)) sep.data.toList).length≤140737488355328 →
 Calls P (F 289) #[.slice (some ⟨bk,o,none⟩) xs.length c,.string sep] w fun e w'=>e=.returned (.string ⟨(join (xs.map (·.data.toList)) sep.data.toList).toArray⟩)∧Below w.heap.size w w'):JnL P F:=by
 intro l hne hl hj D w vs hD hg hn hr
 obtain ⟨u,v,rfl,hu,hv⟩:=vs2 hn hr
 cases hv
 obtain ⟨a,cap,b,q,rfl,hc,h63,ha,hz,hs,hrp⟩:=aGi hu
 have hlen:(l.map V.str).length=l.length:=List.length_map ..
 rw [hlen] at hc ha ⊢
 have hpos:0<l.length:=List.length_pos_iff.2 hne
 obtain ⟨rfl,hb,_⟩:=ha hpos
 have e1:(l.map fun s=>(⟨s.toArray⟩:ByteArray)).map (·.data.toList)=l:=by
  rw [List.map_map]
  exact List.map_id' l
 have h1:=h b q cap (l.map fun s=>⟨s.toArray⟩) ⟨([10]:List UInt8).toArray⟩ w (fun j x hx=>by
  rw [List.getElem?_map,Option.map_eq_some_iff] at hx
  obtain ⟨s,hs1,rfl⟩:=hx
  have hb1:(((l.map V.str)[j]?).bind fun e=>e.cells[0]?)=some (.str s):=by simp [hs1,V.cells]
  have k1:=hs j 0 _ hb1
  have k2:=hrp j 0 _ hb1
  rw [show q+j*1+0=q+j by omega] at k1 k2
  obtain ⟨c,hc⟩:=Option.isSome_iff_exists.1 k1
  rw [aEq,hc] at k2
  simp only [Option.getD_some] at k2
  cases k2
  exact hc) hb (by rw [List.length_map]; omega) (by rw [List.length_map]; exact hc) (by rw [e1]; exact Nat.le_trans hj (by decide))
 rw [e1,List.length_map] at h1
 refine h1.mono ?_
 rintro e w' ⟨rfl,hbel⟩
 exact ⟨_,rfl,hbel,.str _ (by omega)⟩
end Go.Ab
namespace Go.Ab
variable {P:Program} {F T:Nat→Nat}
open Go.Lib
theorem n47L (K:TC P F T) {L:Heap} {nx p:Nat} (h:TB T L p) (hp:p<nx) (qs:List (List UInt8)) (h2:1≤qs.length) (h3:qs.length≤100) :
 ECall P (F 47) [.ptr p 0,.lst 1 (qs.map .str)] L nx fun v L' nx'=>∃ q,v=.str q∧q∈qs∧TD T L nx p L' nx':=by
 have hl:(qs.map V.str).length=qs.length:=List.length_map ..
 refine aA2 [] K.h47 (by simp [aG0]) ?_
 simp only [c47,push_cast,seval,-Nat.reducePow,hl]
 refine aAa (n46 K h (nx:=nx+24) (by omega) qs.length h2 h3) ?_
 rintro v L1 n1 ⟨r,rfl,hr,hT⟩
 have hq:(qs.map V.str).getD r .junk=.str (qs.getD r []):=by simp [List.getD,hr]
 have hm:qs.getD r []∈qs:=by simp [List.getD,hr]
 have z:=hT.dn (nx:=nx) (by omega)
 simp only [push_cast,seval,-Nat.reducePow,hq,hl]
 exact ⟨hr,by have:=z.le; omega,_,rfl,hm,z.up (by omega)⟩
theorem n284 (hf:bHa P F T) (K:TC P F T) {L:Heap} {nx p:Nat} (h:TB T L p) (hp:p<nx) :
 ECall P (F 284) [.ptr p 0,.int .i64 14] L nx fun v L' nx'=>∃ q,v=.str q∧q.length≤150∧q.count 10≤13∧TD T L nx p L' nx':=by
 refine aA2 [] hf (by simp) ?_
 simp only [c284,push_cast,seval,-Nat.reducePow]
 refine aAe (fun m s=>∃ (j:Nat) (q:List UInt8),j≤13∧m=14-j∧s.env 0=.ptr p 0∧s.env 1=.int .i64 14∧s.env 5=.str q∧q.length≤10*j∧q.count 10≤j∧s.env 6=.int .i64 j∧TD T L nx p s.L s.nx) 14 ⟨0,[],?_⟩ fun m s hJ=>?_
 ·simp only [push_cast,seval,-Nat.reducePow]
  exact ⟨by decide,h,by omega,fun b _ _=>rfl⟩
 ·obtain ⟨j,q,hj,rfl,j0,j1,j5,hq,hc,j6,z⟩:=hJ
  have hle:=z.le
  simp only [push_cast,seval,-Nat.reducePow,j0,j1,j5,j6]
  refine aAa (n46 K z.tb (by omega) 14 (by omega) (by omega)) ?_
  rintro v L1 n1 ⟨r,rfl,hr,hT1⟩
  have z1:=z.trans (hT1.dn (by omega))
  have hle1:=z1.le
  by_cases hjr:j<r
  ·have hjr':((j:Nat):Int)<(r:Nat):=by omega
   simp only [push_cast,seval,-Nat.reducePow,j0,j1,j5,j6,hjr']
   refine aAa (n47L K z1.tb (by omega) [[97],[98],[99],[97],[],[61,61,32,115,32,61,61],[61,61,32,116,32,61,61],[61,61,61,32,115,32,61,61,61],[61,61,32,115,32,61,61]] (by decide) (by decide)) ?_
   rintro v L2 n2 ⟨q2,rfl,hq2,hT2⟩
   have z2:=z1.trans (hT2.dn (by omega))
   have hb:q2.length≤9∧q2.count 10=0:=by
    have:([[97],[98],[99],[97],[],[61,61,32,115,32,61,61],[61,61,32,116,32,61,61],[61,61,61,32,115,32,61,61,61],[61,61,32,115,32,61,61]]:List (List UInt8)).all (fun q=>decide (q.length≤9)&&decide (q.count 10=0))=true:=by decide
    have:=List.all_eq_true.1 this q2 hq2
    simpa using this
   simp only [push_cast,seval,-Nat.reducePow,j0,j1,j5,j6]
   exact ⟨by omega,by simp; omega,by omega,14-(j+1),by omega,j+1,q++q2++[10],by omega,rfl,rfl,by simp; omega,by simp [List.count_append,hb.2]; omega,by simp,z2.up (by omega)⟩
  ·have hjr':¬ ((j:Nat):Int)<(r:Nat):=by omega
   simp only [push_cast,seval,-Nat.reducePow,j0,j1,j5,j6,hjr']
   refine aAa (n46 K z1.tb (by omega) 4 (by omega) (by omega)) ?_
   rintro v L2 n2 ⟨r2,rfl,hr2,hT2⟩
   have z2:=z1.trans (hT2.dn (by omega))
   have hle2:=z2.le
   by_cases h0:r2=0
   ·have h0':((r2:Nat):Int)=0:=by omega
    simp only [push_cast,seval,-Nat.reducePow,j0,j1,j5,j6,h0']
    exact ⟨by omega,by omega,q++[101,110,100],rfl,by simp; omega,by simp [List.count_append]; omega,z2.up (by omega)⟩
   ·have h0':¬ ((r2:Nat):Int)=0:=by omega
    simp only [push_cast,seval,-Nat.reducePow,j0,j1,j5,j6,h0']
    exact ⟨by omega,q,rfl,by omega,by omega,z2.up (by omega)⟩
theorem aZ3 (x:List UInt8):∀ (ps:List (List UInt8)) (n:Nat),((ps.set n x).map List.length).sum≤(ps.map List.length).sum+x.length
 | [],n=>by simp
 | q::r,0=>by simp; omega
 | q::r,n+1=>by
   have:=aZ3 x r n
   simp only [List.set_cons_succ,List.map_cons,List.sum_cons]
   omega
theorem bA5 (x:List UInt8):∀ (ps:List (List UInt8)) (n:Nat),((ps.take n++x::ps.drop n).map List.length).sum≤(ps.map List.length).sum+x.length
 | [],n=>by simp
 | q::r,0=>by simp; omega
 | q::r,n+1=>by
   have:=bA5 x r n
   simp only [List.take_succ_cons,List.drop_succ_cons,List.cons_append,List.map_cons,List.sum_cons]
   omega
theorem aRs:∀ (ps:List (List UInt8)) (n:Nat),((ps.take n++ps.drop (n+1)).map List.length).sum≤(ps.map List.length).sum
 | [],n=>by simp
 | q::r,0=>by simp
 | q::r,n+1=>by
   have:=aRs r n
   simp only [List.take_succ_cons,List.drop_succ_cons,List.cons_append,List.map_cons,List.sum_cons]
   omega
theorem TD.put {T:Nat→Nat} {L L':Heap} {nx n' p id:Nat} {b:Option Blk} (h:TD T L nx p L' n') (hp:p<nx) (hid:nx≤id) (m:Nat) (hm:n'≤m):TD T L nx p (upd L' id b) m:=by
 obtain ⟨es,a,h1,h2,h3,h4⟩:=h.tb
 exact ⟨⟨es,a,by rw [aAc _ _ _ _ (by omega)]; exact h1,h2,h3,h4⟩,Nat.le_trans h.le hm,fun b hb hbp=>by rw [aAc _ _ _ _ (by omega)]; exact h.fr b hb hbp⟩
theorem n285 (hf:bGh P F T) (K:TC P F T) (S:SplL P F T) (J:JnL P F) {L:Heap} {nx p:Nat} (h:TB T L p) (hp:p<nx) (s:List UInt8) (hs:s.length≤150) (hc:s.count 10≤13) :
 ECall P (F 285) [.ptr p 0,.str s] L nx fun v L' nx'=>∃ q,v=.str q∧q.length≤250∧q.count 10≤17∧TD T L nx p L' nx':=by
 have hll:=aOa s
 have hls:=aR3 s
 have hno:=aUe s
 obtain ⟨es0,a0,hL0,hes0,ha0,hl0⟩:=h
 refine aA2 [] hf (by simp) ?_
 simp only [c285,push_cast,seval,-Nat.reducePow]
 refine aAa (S s (by omega) _ _) ?_
 rintro v L1 n1 ⟨rfl,rfl,rfl⟩
 simp only [push_cast,seval,-Nat.reducePow]
 refine aAe (fun m s1=>∃ (j:Nat) (ps:List (List UInt8)) (id:Nat),j≤3∧m=4-j∧s1.env 0=.ptr p 0∧s1.env 5=.own id 1 0 ps.length∧s1.L id=some (.vec (T 21) 1 (ps.map .str))∧s1.env 6=.int .i64 j∧1≤ps.length∧ps.length≤14+j∧(ps.map List.length).sum≤150+9*j∧(∀ q,q∈ps→∀ b,b∈q→b≠10)∧nx≤id∧id<s1.nx∧TD T L nx p s1.L s1.nx) 4 ⟨0,lnF s,nx+120,?_⟩ fun m s1 hJ=>?_
 ·simp only [push_cast,seval,-Nat.reducePow]
  exact ⟨by omega,by omega,by omega,hno,by omega,by omega,⟨es0,a0,by rw [aAc _ _ _ _ (by omega)]; exact hL0,hes0,ha0,hl0⟩,by omega,fun b hb _=>aAc _ _ _ _ (by omega)⟩
 ·obtain ⟨j,ps,id,hj,rfl,j0,j5,jL,j6,h1,h14,hsum,hn10,hid,hidn,z⟩:=hJ
  have hle:=z.le
  have hps:(ps.map V.str).length=ps.length:=List.length_map ..
  simp only [push_cast,seval,-Nat.reducePow,j0,j5,j6]
  refine aAa (n46 K z.tb (by omega) 3 (by omega) (by omega)) ?_
  rintro v L2 n2 ⟨r,rfl,hr,hT1⟩
  have y1:=hT1.fr id (by omega) (by omega)
  have m1:=hT1.le
  have z1:=z.trans (hT1.dn (by omega))
  have hle1:=z1.le
  by_cases hjr:(j:Int)<1+(r:Int)
  ·simp only [push_cast,seval,-Nat.reducePow,j0,j5,j6,hjr]
   refine ⟨by omega,?_⟩
   refine aAa (n46 K z1.tb (by omega) ps.length (by omega) (by omega)) ?_
   rintro v L3 n3 ⟨n,rfl,hn,hT2⟩
   have y2:=hT2.fr id (by omega) (by omega)
   have m2:=hT2.le
   have z2:=z1.trans (hT2.dn (by omega))
   have hle2:=z2.le
   simp only [push_cast,seval,-Nat.reducePow,j0,j5,j6]
   refine aAa (n47L K z2.tb (by omega) [[120],[121],[61,61,32,115,32,61,61],[61,61,32,110,101,119,32,61,61],[]] (by decide) (by decide)) ?_
   rintro v L4 n4 ⟨x,rfl,hx,hT3⟩
   have y3:=hT3.fr id (by omega) (by omega)
   have m3:=hT3.le
   have z3:=z2.trans (hT3.dn (by omega))
   have hle3:=z3.le
   have hb:x.length≤9∧∀ b,b∈x→b≠10:=by
    have:([[120],[121],[61,61,32,115,32,61,61],[61,61,32,110,101,119,32,61,61],[]]:List (List UInt8)).all (fun q=>decide (q.length≤9)&&q.all fun b=>decide (b≠10))=true:=by decide
    have:=List.all_eq_true.1 this x hx
    simp only [Bool.and_eq_true,decide_eq_true_eq] at this
    exact ⟨this.1,fun b hb=>by simpa using List.all_eq_true.1 this.2 b hb⟩
   simp only [push_cast,seval,-Nat.reducePow,j0,j5,j6]
   refine aAa (n46 K z3.tb (by omega) 3 (by omega) (by omega)) ?_
   rintro v L5 n5 ⟨c,rfl,hc3,hT4⟩
   have y4:=hT4.fr id (by omega) (by omega)
   have m4:=hT4.le
   have z4:=z3.trans (hT4.dn (by omega))
   have hle4:=z4.le
   have hL5:L5 id=some (.vec (T 21) 1 (ps.map .str)):=by rw [y4,y3,y2,y1]; exact jL
   have hc:c=0∨c=1∨c=2:=by omega
   rcases hc with rfl | rfl | rfl
   ·simp only [push_cast,seval,-Nat.reducePow,j0,j5,j6,hL5,hps]
    have hset:((ps.map V.str).set n (((ps.map V.str).getD n .junk).recell (.str x::List.drop 1 ((ps.map V.str).getD n .junk).cells)))=(ps.set n x).map .str:=by
     have e:(ps.map V.str).getD n .junk=.str (ps.getD n []):=by simp [List.getD,hn]
     rw [e,List.map_set]
     rfl
    rw [hset]
    have hs2:((ps.set n x).map List.length).sum≤(ps.map List.length).sum+x.length:=aZ3 x ps n
    refine ⟨hn,hn,by omega,4-(j+1),by omega,j+1,ps.set n x,id,by omega,rfl,by simp,aAd _ _ _,by simp,by simp; omega,by simp; omega,by omega,fun q hq=>?_,hid,by omega,?_⟩
    ·rcases List.mem_or_eq_of_mem_set hq with hq | rfl
     ·exact hn10 q hq
     ·exact hb.2
    ·exact z4.put hp hid _ (by omega)
   ·simp only [push_cast,seval,-Nat.reducePow,j0,j5,j6,hL5,hps]
    have f1:id≠n5+230:=by omega
    have f2:id≠n5+233:=by omega
    have htk:(ps.map V.str).take n=(ps.take n).map V.str:=(List.map_take ..).symm
    have hlm:((ps.take n).map V.str).length=n:=by simp; omega
    have hA1:((ps.take n).map V.str).take n=(ps.take n).map V.str:=List.take_of_length_le (by rw [hlm]; exact Nat.le_refl _)
    have hA2:((ps.map V.str).drop n).take (ps.length-n)=(ps.drop n).map V.str:=by rw [List.take_of_length_le (by simp),List.map_drop]
    have hdl:((ps.drop n).map V.str).length=ps.length-n:=by simp
    by_cases hn0:n=0
    ·subst hn0
     refine ⟨by omega,aBw ?_⟩
     simp only [push_cast,seval,-Nat.reducePow,appN,j0,j5,j6,hL5,hps,Nat.sub_zero]
     refine ⟨aBw ?_,fun h=>absurd trivial h⟩
     simp only [push_cast,seval,-Nat.reducePow,appN,j0,j5,j6,hL5,hps,Nat.sub_zero,f1,f2]
     rw [show (ps.map V.str).take ps.length=ps.map V.str from List.take_of_length_le (by rw [hps]; exact Nat.le_refl _),hps]
     refine ⟨by omega,by omega,by omega,4-(j+1),by omega,j+1,x::ps,n5+237,by omega,rfl,by simp; omega,by rw [aAd]; rfl,by simp,by simp,by simp; omega,by simp; omega,fun q hq=>?_,by omega,by omega,?_⟩
     ·rcases List.mem_cons.1 hq with rfl | hq
      ·exact hb.2
      ·exact hn10 q hq
     ·exact ((z4.put hp (by omega) _ (Nat.le_refl _)).put hp (by omega) _ (Nat.le_refl _)).put hp (by omega) _ (by omega)
    ·have hne:¬ (ps.take n).map V.str=[]:=fun e=>by have:=congrArg List.length e; rw [hlm,List.length_nil] at this; omega
     refine ⟨by omega,aBw ?_⟩
     simp only [push_cast,seval,-Nat.reducePow,appN,j0,j5,j6,hL5,hps,Nat.sub_zero,hne,f1,f2,htk,hlm,hA1,hA2]
     have hsp:=bA5 x ps n
     refine ⟨by omega,by omega,by omega,by omega,by simp; omega,by omega,by simp; omega,by omega,4-(j+1),by omega,j+1,ps.take n++x::ps.drop n,n5+237,by omega,rfl,by simp; omega,?_,by simp,by simp; omega,by simp; omega,by omega,fun q hq=>?_,by omega,by omega,?_⟩
     ·rw [aAd,List.take_of_length_le (by simp; omega)]
      simp
     ·rcases List.mem_append.1 hq with hq | hq
      ·exact hn10 q (List.mem_of_mem_take hq)
      ·rcases List.mem_cons.1 hq with rfl | hq
       ·exact hb.2
       ·exact hn10 q (List.mem_of_mem_drop hq)
     ·exact ((((z4.put hp (by omega) _ (Nat.le_refl _)).put hp (by omega) _ (Nat.le_refl _)).put hp (by omega) _ (Nat.le_refl _)).put hp (by omega) _ (Nat.le_refl _)).put hp (by omega) _ (by omega)
   ·have f1:id≠n5+273:=by omega
    have e1:((n:Nat):Int)+1=((n+1:Nat):Int):=by omega
    have e2:(((n:Nat):Int)+1).toNat=n+1:=by omega
    have htk:(ps.map V.str).take n=(ps.take n).map V.str:=(List.map_take ..).symm
    have hlm:((ps.take n).map V.str).length=n:=by simp; omega
    have hA1:((ps.take n).map V.str).take n=(ps.take n).map V.str:=List.take_of_length_le (by rw [hlm]; exact Nat.le_refl _)
    have hA2:((ps.map V.str).drop (n+1)).take (ps.length-(n+1))=(ps.drop (n+1)).map V.str:=by rw [List.take_of_length_le (by simp),List.map_drop]
    by_cases h2:1<ps.length
    ·have h2':(1:Int)<(ps.length:Nat):=by omega
     by_cases hn0:n=0
     ·subst hn0
      simp only [push_cast,seval,-Nat.reducePow,j0,j5,j6,hL5,hps,h2']
      refine aBw ?_
      simp only [push_cast,seval,-Nat.reducePow,appN,j0,j5,j6,hL5,hps,Nat.sub_zero]
      refine ⟨⟨by omega,aBw ?_⟩,fun h=>absurd trivial h⟩
      have hA3:((ps.map V.str).drop 1).take (ps.length-1)=(ps.drop 1).map V.str:=by rw [List.take_of_length_le (by simp),List.map_drop]
      have hne:¬ (ps.drop 1).map V.str=[]:=fun e=>by have:=congrArg List.length e; rw [List.length_map,List.length_drop,List.length_nil] at this; omega
      simp only [push_cast,seval,-Nat.reducePow,appN,j0,j5,j6,hL5,hps,hA3,hne]
      have hsp:((ps.drop 1).map List.length).sum≤(ps.map List.length).sum:=by have:=aRs ps 0; rwa [List.take_zero,List.nil_append] at this
      exact ⟨by omega,by simp; omega,by omega,4-(j+1),by omega,j+1,ps.drop 1,n5+278,by omega,rfl,by simp,aAd _ _ _,by simp,by rw [List.length_drop]; omega,by rw [List.length_drop]; omega,by omega,fun q hq=>hn10 q (List.mem_of_mem_drop hq),by omega,by omega,z4.put hp (by omega) _ (by omega)⟩
     ·have hne:¬ (ps.take n).map V.str=[]:=fun e=>by have:=congrArg List.length e; rw [hlm,List.length_nil] at this; omega
      simp only [push_cast,seval,-Nat.reducePow,j0,j5,j6,hL5,hps,h2']
      refine ⟨by omega,aBw ?_⟩
      simp only [push_cast,seval,-Nat.reducePow,appN,j0,j5,j6,hL5,hps,Nat.sub_zero,hne,f1,htk,hlm,hA1,e2,hA2]
      have hsp:=aRs ps n
      refine ⟨by omega,by omega,by omega,by omega,by omega,by omega,by simp; omega,by omega,4-(j+1),by omega,j+1,ps.take n++ps.drop (n+1),n5+278,by omega,rfl,by simp; omega,?_,by simp,by simp; omega,by simp; omega,by omega,fun q hq=>?_,by omega,by omega,?_⟩
      ·rw [aAd,List.map_append]
      ·rcases List.mem_append.1 hq with hq | hq
       ·exact hn10 q (List.mem_of_mem_take hq)
       ·exact hn10 q (List.mem_of_mem_drop hq)
      ·exact ((z4.put hp (by omega) _ (Nat.le_refl _)).put hp (by omega) _ (Nat.le_refl _)).put hp (by omega) _ (by omega)
    ·have h2':¬ (1:Int)<(ps.length:Nat):=by omega
     simp only [push_cast,seval,-Nat.reducePow,j0,j5,j6,hL5,hps,h2']
     exact ⟨by omega,4-(j+1),by omega,j+1,ps,id,by omega,rfl,rfl,hL5,by simp,h1,by omega,by omega,hn10,hid,by omega,z4.up (by omega)⟩
  ·simp only [push_cast,seval,-Nat.reducePow,j0,j5,j6,hjr]
   have hjl:=aZn ps
   have hjc:=aYt ps hn10
   have hL2:L2 id=some (.vec (T 21) 1 (ps.map .str)):=by rw [y1]; exact jL
   have hv:view L2 3 (.own id 1 0 ps.length)=.lst 1 (ps.map .str):=by
    have:=aDa (n:=2) (sz:=1) hL2 (aG0 ps)
    rwa [hps] at this
   have hv2:view L2 3 (.str [10])=.str [10]:=rfl
   refine ⟨by omega,?_⟩
   rw [hv,hv2]
   refine aFj (J ps (fun e=>by rw [e] at h1; simp at h1) (by omega) (by omega)) (by simp only [push_cast,seval,-Nat.reducePow,aG0]) rfl ?_
   simp only [push_cast,seval,-Nat.reducePow]
   exact ⟨by omega,join ps [10],rfl,by omega,by omega,z1.up (by omega)⟩
structure ThreeC (P:Program) (F T:Nat→Nat):Prop where
 tc:TC P F T
 h39:Is39 P F T
 h277:bJy P F T
 h284:bHa P F T
 h285:bGh P F T
 spl:SplL P F T
 jnl:JnL P F
def bH3 (q:List UInt8):Prop:=q.length≤250∧q.count 10≤17
theorem n277 (C:ThreeC P F T) {L:Heap} {nx:Nat} (es:List V) (hi:V.imms es=true) (hes:∀ e,e∈es→∃ m,e=.int .i64 m) (hl:es.length<2^63) :
 ECall P (F 277) [.lst 1 es] L nx fun v L' nx'=>∃ b x y,v=.tup [.str b,.str x,.str y]∧bH3 b∧bH3 x∧bH3 y∧nx≤nx':=by
 refine aA2 [] C.h277 (by simp [hi]) ?_
 simp only [c277,push_cast,seval,-Nat.reducePow]
 refine aAa (n39 C.h39 es hi hes hl) ?_
 rintro v L0 n0 ⟨p,rfl,hp,hn,hT⟩
 refine aAa (n284 C.h284 C.tc hT (by omega)) ?_
 rintro v L1 n1 ⟨b,rfl,hb1,hb2,hT1⟩
 have le1:=hT1.le
 refine aAa (n285 C.h285 C.tc C.spl C.jnl hT1.tb (by omega) b hb1 hb2) ?_
 rintro v L2 n2 ⟨x,rfl,hx1,hx2,hT2⟩
 have le2:=hT2.le
 refine aAa (n285 C.h285 C.tc C.spl C.jnl hT2.tb (by omega) b hb1 hb2) ?_
 rintro v L3 n3 ⟨y,rfl,hy1,hy2,hT3⟩
 have le3:=hT3.le
 exact ⟨by omega,b,x,y,rfl,⟨by omega,by omega⟩,⟨hx1,hx2⟩,⟨hy1,hy2⟩,by omega⟩
end Go.Ab
