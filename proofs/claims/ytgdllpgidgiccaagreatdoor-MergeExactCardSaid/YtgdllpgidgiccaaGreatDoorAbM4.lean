/- Several texts of one kind, merged. No condition. -/
import Derived.Test.YtgdllpgidgiccaaGreatDoorAbM3
import Derived.Test.YtgdllpgidgiccaaGreatDoorAbM2
import Derived.Test.YtgdllpgidgiccaaGreatDoorAbM1
import Derived.Test.YtgdllpgidgiccaaGreatDoorAbR7
import Derived.Test.YtgdllpgidgiccaaGreatDoorAbK4
set_option linter.unusedSimpArgs false
set_option linter.unusedVariables false
namespace Go.Ab
variable {P:Program} {F T:Nat→Nat}
open Go.Lib
theorem aWk (u:Un) (l:List Un) (k:List UInt8×Int):aIg (u::l) k=match aIg l k with | some s=>some s | none=>if k=(u.title,(u.nth:Int)) then some u.text else none:=by
 unfold aIg
 rw [List.reverse_cons,List.find?_append]
 cases (l.reverse.find? fun u=>decide (k=(u.title,(u.nth:Int)))) with
 | some x=>simp
 | none=>simp only [Option.none_or,List.find?_cons,List.find?_nil,Option.map_none]; by_cases h:k=(u.title,(u.nth:Int)) <;> simp [h]
theorem aV3 {l:List Un} {k:List UInt8×Int} (h:∀ u,u∈l→k≠(u.title,(u.nth:Int))):aIg l k=none:=by
 unfold aIg
 rw [Option.map_eq_none_iff,List.find?_eq_none]
 intro u hu
 simp only [decide_eq_true_eq]
 exact h u (List.mem_reverse.1 hu)
theorem aQn:∀ {l:List Un},l.Pairwise (fun u v=>u.nm≠v.nm)→∀ n:List UInt8×Nat,aIg l (n.1,(n.2:Int))=txtU l n
 | [],_,n=>rfl
 | u::l,h,n=>by
   rw [List.pairwise_cons] at h
   have ih:=aQn h.2 n
   have hk:∀ v:Un,((n.1,(n.2:Int))=(v.title,(v.nth:Int)))↔v.nm=n:=fun v=>by
    obtain ⟨a,b⟩:=n
    simp only [Un.nm,Prod.mk.injEq]
    exact ⟨fun e=>⟨e.1.symm,by omega⟩,fun e=>⟨e.1.symm,by omega⟩⟩
   rw [aWk,aId]
   by_cases e:u.nm=n
   ·have:aIg l (n.1,(n.2:Int))=none:=aV3 fun v hv hh=>h.1 v hv (e.trans ((hk v).1 hh).symm)
    rw [this,if_pos e]
    simp only [(hk u).2 e,if_true]
   ·rw [if_neg e,← ih]
    cases aIg l (n.1,(n.2:Int)) with
    | some s=>rfl
    | none=>simp only [show ¬ (n.1,(n.2:Int))=(u.title,(u.nth:Int)) from fun hh=>e ((hk u).1 hh),if_false]
def bKx (P:Program) (F:Nat→Nat):Prop:=∀ l:List U3,l.length≤2^30→(∀ u,u∈l→u.2.2.length≤100000)→(l.map fun u=>u.2.2.length).sum≤2^30→PTr P (F 255) [.lst 3 (l.map u3V)] (.str (jT (l.map fun u=>u.2.2)))
structure MrgFns (P:Program) (F T:Nat→Nat):Prop extends OrdFns P F T where
 h257:bKe P F T
 h258:bGq P F T
 h259:bIe P F T
 h262:bIb P F T
 sect:aNw P (F 124)
 h131:bDa P F T
 jn:bKx P F
def aGr (cs:List (List UInt8)):V:=ln 1 (cs.map .str)
theorem aIh (cs:List (List UInt8)):(aGr cs).imm=true:=by
 cases cs with
 | nil=>rfl
 | cons c r=>exact aG0 (c::r)
def mrgV (m:List UInt8×List (List UInt8)):V:=.tup [.agg [.str m.1,aGr m.2],.int .i64 0]
def OwnS (T:Nat→Nat) (s:St) (N uid:Nat) (v:V) (cs:List (List UInt8)):Prop:=(cs=[]∧v=.nils)∨(cs≠[]∧∃ id,v=.own id 1 0 cs.length∧s.L id=some (.vec (T 21) 1 (cs.map .str))∧N≤id∧id<s.nx∧id≠uid)
theorem OwnS.mono {T:Nat→Nat} {s s':St} {N uid uid':Nat} {v:V} {cs:List (List UInt8)} (h:OwnS T s N uid v cs) (hL:∀ k,N≤k→k≠uid→k<s.nx→s'.L k=s.L k) (hn:s.nx≤s'.nx) (hu:uid'=uid∨s.nx≤uid'):OwnS T s' N uid' v cs:=by
 rcases h with h | ⟨h1,id,h2,h3,h4,h5,h6⟩
 ·exact .inl h
 ·refine .inr ⟨h1,id,h2,by rw [hL id h4 h6 h5]; exact h3,h4,by omega,?_⟩
  rcases hu with rfl | hu
  ·exact h6
  ·omega
theorem aT7:∀ {l:List Un} {u:Un},u∈l→u.text.length≤sumT l
 | v::r,u,h=>by
   have e:sumT (v::r)=v.text.length+sumT r:=by simp [sumT]
   rcases List.mem_cons.1 h with rfl | h
   ·omega
   ·have:=aT7 h
    omega
theorem OwnS.one {T:Nat→Nat} {s:St} {N uid:Nat} {v:V} {cs:List (List UInt8)} (h:OwnS T s N uid v cs):v.one=true:=by
 rcases h with ⟨_,rfl⟩ | ⟨_,id,rfl,_⟩ <;> rfl
theorem OwnS.view {T:Nat→Nat} {s:St} {N uid:Nat} {v:V} {cs:List (List UInt8)} (h:OwnS T s N uid v cs) (L':Heap) (hL:∀ k,N≤k→L' k=s.L k) (n:Nat):Go.Ab.view L' (n+1) v=aGr cs:=by
 rcases h with ⟨rfl,rfl⟩ | ⟨h1,id,rfl,h3,h4,h5,h6⟩
 ·rfl
 ·have:=aDa (n:=n) (sz:=1) ((hL id h4).trans h3) (aG0 cs)
  rw [List.length_map] at this
  rw [this]
  cases cs with
  | nil=>exact absurd rfl h1
  | cons c r=>rfl
theorem t257 (K:MrgFns P F T) (b x y:List UInt8) (hb:b.length≤8192) (hx:x.length≤8192) (hy:y.length≤8192) (hlen:b.length+2*x.length+2*y.length+2≤8192)
 (hI:¬ (x=b∨x=y∨y=b)→(InsC P F T∨∀ u,u∈aAf y→hasU (aAf x) u.nm=true)):PTr P (F 257) [.str b,.str x,.str y] (mrgV (aEw b x y)):=by
 have c0:=t258 K.h258 K.sect K.h131 b hb
 have c1:=t258 K.h258 K.sect K.h131 x hx
 have c2:=t258 K.h258 K.sect K.h131 y hy
 have hml:=aPt b x y
 refine ptrC [] K.h257 (by simp) (by simp [mrgV,V.imm,V.imms,aIh]) ?_
 simp only [c257,push_cast,seval,-Nat.reducePow]
 obtain ⟨q0,hq0⟩:∃ q,q=V.lst 3 ((aAf b).map Un.v):=⟨_,rfl⟩
 obtain ⟨q1,hq1⟩:∃ q,q=V.lst 3 ((aAf x).map Un.v):=⟨_,rfl⟩
 obtain ⟨q2,hq2⟩:∃ q,q=V.lst 3 ((aAf y).map Un.v):=⟨_,rfl⟩
 rw [← hq0] at c0
 rw [← hq1] at c1
 rw [← hq2] at c2
 have i0:q0.imm=true:=by rw [hq0]; exact aBt _
 have i1:q1.imm=true:=by rw [hq1]; exact aBt _
 have i2:q2.imm=true:=by rw [hq2]; exact aBt _
 refine aAe (fun m s=>∃ i,i≤3∧m=3-i∧s.env 0=.str b∧s.env 1=.str x∧s.env 2=.str y∧s.env 26=.lst 1 [.str b,.str x,.str y]∧s.env 27=.int .i64 3∧s.env 28=.int .i64 i∧s.env 6=.ptr 6 0∧s.env 8=.ptr 130 0∧s.L 6=some (.box (T 27) [.str [],.nils])∧s.L 130=some (.box (T 29) [if 0<i then q0 else .nils,if 1<i then q1 else .nils,if 2<i then q2 else .nils])∧130<s.nx) 3 ⟨0,?_⟩ fun m s hJ=>?_
 ·simp only [push_cast,seval,-Nat.reducePow]
 ·obtain ⟨i,hi,rfl,j0,j1,j2,j26,j27,j28,j6,j8,jL6,jL8,hnx⟩:=hJ
  have hi4:i=0∨i=1∨i=2∨i=3:=by omega
  rcases hi4 with rfl | rfl | rfl | rfl
  ·simp only [push_cast,seval,-Nat.reducePow,j0,j1,j2,j26,j27,j28,j6,j8]
   refine aAb c0 (by simp only [push_cast,seval,-Nat.reducePow]) (by simp only [push_cast,seval,-Nat.reducePow,i0]) ?_
   simp only [push_cast,seval,-Nat.reducePow,j0,j1,j2,j26,j27,j28,j6,j8,jL8,jL6]
   exact ⟨by rw [hq0]; rfl,2,by omega,1,by omega,by omega,rfl,by rw [hq0]; rfl,by omega⟩
  ·simp only [push_cast,seval,-Nat.reducePow,j0,j1,j2,j26,j27,j28,j6,j8]
   refine aAb c1 (by simp only [push_cast,seval,-Nat.reducePow]) (by simp only [push_cast,seval,-Nat.reducePow,i1]) ?_
   simp only [push_cast,seval,-Nat.reducePow,j0,j1,j2,j26,j27,j28,j6,j8,jL8,jL6]
   exact ⟨by rw [hq1]; rfl,1,by omega,2,by omega,by omega,rfl,by rw [hq1]; rfl,by omega⟩
  ·simp only [push_cast,seval,-Nat.reducePow,j0,j1,j2,j26,j27,j28,j6,j8]
   refine aAb c2 (by simp only [push_cast,seval,-Nat.reducePow]) (by simp only [push_cast,seval,-Nat.reducePow,i2]) ?_
   simp only [push_cast,seval,-Nat.reducePow,j0,j1,j2,j26,j27,j28,j6,j8,jL8,jL6]
   exact ⟨by rw [hq2]; rfl,0,by omega,3,by omega,by omega,rfl,by rw [hq2]; rfl,by omega⟩
  ·unfold aEw
   by_cases e1:x=b
   ·subst e1
    simp only [push_cast,seval,-Nat.reducePow,j0,j1,j2,j26,j27,j28,j6,j8,jL6]
    simp [view,mrgV,aGr,ln]
   by_cases e2:x=y
   ·subst e2
    simp only [push_cast,seval,-Nat.reducePow,j0,j1,j2,j26,j27,j28,j6,j8,jL6,e1]
    simp [view,mrgV,aGr,ln]
   by_cases e3:y=b
   ·subst e3
    simp only [push_cast,seval,-Nat.reducePow,j0,j1,j2,j26,j27,j28,j6,j8,jL6,e1,e2]
    simp [view,mrgV,aGr,ln,e1]
   simp only [push_cast,seval,-Nat.reducePow,j0,j1,j2,j26,j27,j28,j6,j8,jL6,e1,e2,e3]
   have jL8':s.L 130=some (.box (T 29) [q0,q1,q2]):=jL8
   subst hq0 hq1 hq2
   have ulb:=aBr b
   have ulx:=aBr x
   have uly:=aBr y
   simp only [push_cast,seval,-Nat.reducePow,jL8',aBt]
   refine aAa (t259 K.h259 K.h261 (aAf b) (by omega) _ _) ?_
   rintro v L1 n1 ⟨cb,mlb,y1,rfl,y2,y3,y4,y5⟩
   simp only [push_cast,seval,-Nat.reducePow,aBt]
   refine aAa (t259 K.h259 K.h261 (aAf x) (by omega) _ _) ?_
   rintro v L2 n2 ⟨cx,mlx,z1,rfl,z2,z3,z4,z5⟩
   simp only [push_cast,seval,-Nat.reducePow,aBt]
   refine aAa (t259 K.h259 K.h261 (aAf y) (by omega) _ _) ?_
   rintro v L3 n3 ⟨cy,mly,w1,rfl,w2,w3,w4,w5⟩
   have ord:=t260 K.toOrdFns (aAf x) (aAf y) (hI (by simp [e1,e2,e3])) (by simp [aAf]) (by omega) (by omega) (fun u r hu=>by
    rw [aAf] at hu
    injection hu with hu _
    rw [← hu]
    exact aLo x)
   simp only [push_cast,seval,-Nat.reducePow,j0,j1,j2,j26,j27,j28,j6,j8]
   refine aAb ord (by simp only [push_cast,seval,-Nat.reducePow,aBt]) (by simp only [push_cast,seval,-Nat.reducePow,aBt]) ?_
   obtain ⟨l,hl⟩:∃ l,l=aCf (aAf x) (aAf y):=⟨_,rfl⟩
   rw [← hl]
   have hll:=aC3 l
   have g6:L3 6=some (.box (T 27) [.str [],.nils]):=by
    rw [w5 6 (by omega),z5 6 (by omega),y5 6 (by omega),aAc _ _ _ _ (by omega)]; exact jL6
   have g1:L3 (s.nx+515)=some (.map cb (mE pnV tvS mlb)):=by rw [w5 _ (by omega),z5 _ (by omega)]; exact y3
   have g2:L3 (n1+149)=some (.map cx (mE pnV tvS mlx)):=by rw [w5 _ (by omega)]; exact z3
   have g3:L3 (n2+149)=some (.map cy (mE pnV tvS mly)):=w3
   simp only [push_cast,seval,-Nat.reducePow,j6,hll]
   obtain ⟨m1,hm1⟩:∃ m,m=s.nx+515:=⟨_,rfl⟩
   obtain ⟨m2,hm2⟩:∃ m,m=n1+149:=⟨_,rfl⟩
   obtain ⟨m3,hm3⟩:∃ m,m=n2+149:=⟨_,rfl⟩
   obtain ⟨q,hq⟩:∃ m,m=n3+138:=⟨_,rfl⟩
   rw [← hm1] at g1 ⊢
   rw [← hm2] at g2 ⊢
   rw [← hm3] at g3 ⊢
   rw [← hq]
   have o1:6<q∧m1<q∧m2<q∧m3<q:=by omega
   have z6:(6:Nat)≠q∧m1≠q∧m2≠q∧m3≠q:=by omega
   refine aAe (fun m s=>∃ d r uid cv,l=d++r∧m=r.length∧s.env 6=.ptr 6 0∧s.env 13=.map m1∧s.env 14=.map m2∧s.env 15=.map m3∧s.env 16=.ptr q 0∧s.env 17=.own uid 3 0 (aGj (aAf b) (aAf x) (aAf y) d).length∧s.env 74=.lst 3 (l.map Un.v)∧s.env 75=.int .i64 l.length∧s.env 76=.int .i64 d.length ∧
    s.L q=some (.box (T 27) [.str [],cv])∧OwnS T s (q+1) uid cv (aDy (aAf b) (aAf x) (aAf y) d)∧s.L uid=some (.vec (T 28) 3 ((aGj (aAf b) (aAf x) (aAf y) d).map Un.v))∧q<uid∧uid<s.nx∧q<s.nx∧(∀ k,k<q→s.L k=L3 k)) l.length ⟨[],l,n3+366,.nils,?_⟩ fun m s2 hJ=>?_
   ·simp only [push_cast,seval,-Nat.reducePow]
    exact ⟨j6,rfl,by rw [aAc _ _ _ _ (by omega),aAd],.inl ⟨rfl,rfl⟩,rfl,by omega,by omega,by omega,fun k hk=>by rw [aAc _ _ _ _ (by omega),aAc _ _ _ _ (by omega)]⟩
   ·obtain ⟨d,r,uid,cv,rfl,rfl,i6,i13,i14,i15,i16,i17,i74,i75,i76,iq,hcv,iu,hqu,hun,hqn,hold⟩:=hJ
    cases r with
    | nil =>
      have h':¬ ((d.length:Nat):Int)<((d++[]).length:Nat):=by simp
      simp only [push_cast,seval,-Nat.reducePow,i6,i13,i14,i15,i16,i17,i74,i75,i76,h']
      rw [List.append_nil] at hl
      subst hl
      have hmf:aEw b x y=(aEs (aGj (aAf b) (aAf x) (aAf y) (aCf (aAf x) (aAf y))),aDy (aAf b) (aAf x) (aAf y) (aCf (aAf x) (aAf y))):=by
       unfold aEw
       rw [if_neg (by simp [e1,e2]),if_neg e3]
      rw [hmf] at hml
      obtain ⟨ru,hru⟩:∃ ru,ru=aGj (aAf b) (aAf x) (aAf y) (aCf (aAf x) (aAf y)):=⟨_,rfl⟩
      obtain ⟨cu,hcu⟩:∃ cu,cu=aDy (aAf b) (aAf x) (aAf y) (aCf (aAf x) (aAf y)):=⟨_,rfl⟩
      have hrl:ru.length≤(aCf (aAf x) (aAf y)).length:=by
       rw [hru,aI8]
       have:=(aFw (aAf b) (aAf x) (aAf y) ((aCf (aAf x) (aAf y)).map Un.nm)).2
       rwa [List.length_map] at this
      have hodl:(aCf (aAf x) (aAf y)).length≤20000:=by
       have:=(aEa (aAf y) (aAf x) ([],0) (List.pairwise_map.2 (aDe x))).2
       unfold aCf
       omega
      rw [← hru] at iu hml ⊢
      rw [← hcu] at hcv
      have hsum:=(aG8 ru).1
      have hone:∀ v,v∈ru→v.text.length≤sumT ru:=fun v hv=>by
       exact aT7 hv
      have jn:=K.jn (ru.map Un.u3) (by rw [List.length_map]; omega) (fun v hv=>by
       obtain ⟨w,hw,rfl⟩:=List.mem_map.1 hv
       have:=hone w hw
       simp only at hml
       show w.text.length≤_
       omega) (by
       rw [List.map_map]
       show sumT ru≤_
       simp only at hml
       omega)
      rw [← un_v,List.map_map,show (ru.map ((fun u:U3=>u.2.2) ∘ Un.u3))=ru.map Un.text from rfl,← aK7] at jn
      have hvw:view s2.L 3 (.own uid 3 0 ru.length)=.lst 3 (ru.map Un.v):=by
       have:=aDa (n:=2) (sz:=3) iu (aBt ru)
       rwa [aC3] at this
      rw [hvw]
      refine aFj jn (by simp only [push_cast,seval,-Nat.reducePow,aBt]) rfl ?_
      simp only at hml
      have hml':¬ (8192:Int)<((aEs ru).length:Nat):=by omega
      have h6:=hold 6 (by omega)
      rw [g6] at h6
      simp only [push_cast,seval,-Nat.reducePow,i16,iq,hml',i6,h6,z6.1]
      refine ⟨by rw [hcv.one]; rfl,?_⟩
      have hvc:=hcv.view (upd (upd s2.L q (some (Blk.box (T 27) [V.str (aEs ru),cv]))) 6 (some (Blk.box (T 27) [V.str (aEs ru),cv]))) (fun k hk=>by rw [aAc _ _ _ _ (by omega),aAc _ _ _ _ (by omega)]) 0
      rw [hcu] at hvc
      rw [if_neg (by simp)]
      simp only [view,List.map_cons,List.map_nil] at hvc ⊢
      rw [hvc]
      rfl
    | cons u r =>
      have h':((d.length:Nat):Int)<((d++u::r).length:Nat):=by simp; omega
      have hg:((d++u::r).map Un.v).getD d.length .junk=.agg [.str u.title,.int .i64 u.nth,.str u.text]:=by simp [List.getD,Un.v]
      have hdl:(d++u::r).length=d.length+(r.length+1):=by simp
      simp only [push_cast,seval,-Nat.reducePow,i6,i13,i14,i15,i16,i17,i74,i75,i76,h',hll,hg]
      refine aAb (t261 K.h261 u.title u.nth u.text) (by simp only [push_cast,seval,-Nat.reducePow]) (by simp only [push_cast,seval,-Nat.reducePow]) ?_
      simp only [push_cast,seval,-Nat.reducePow,i13,i14,i15,i16,i17]
      have hz0:V.agg [.bool false,.str []]=tvV none:=rfl
      have hfd:∀ ml:List ((List UInt8×Int)×List UInt8×Nat),aD8 true [1,0] (.agg [.str u.title,.int .i64 u.nth]) (mE pnV tvS ml)=some (ixK ml (u.title,(u.nth:Int))):=fun ml=>aKu (ks:=[1,0]) (ag:=true) (enc:=pnV) (ev:=tvS) bF8 (fun _=>rfl) (u.title,(u.nth:Int)) ml
      have hmr:∀ (s0:List UInt8) (ml:List ((List UInt8×Int)×List UInt8×Nat)),(∀ k,getK ml k=aIg (aAf s0) k)→mres false (.agg [.bool false,.str []]) (mE pnV tvS ml) (ixK ml (u.title,(u.nth:Int)))=tvV (txtU (aAf s0) u.nm):=fun s0 ml hk=>by
       rw [bAr,hk,aQn (aDe s0) u.nm]
       cases txtU (aAf s0) u.nm <;> rfl
      have hrb:=hmr b mlb y4
      have hrx:=hmr x mlx z4
      have hry:=hmr y mly w4
      have hko:aFs true [1,0] (.agg [.str u.title,.int .i64 u.nth])=true:=by simp [aFs,V.isA,V.cells,aAp,aCu,V.imm,V.imms]
      have hm1':=hold m1 o1.2.1
      have hm2':=hold m2 o1.2.2.1
      have hm3':=hold m3 o1.2.2.2
      rw [g1] at hm1'
      rw [g2] at hm2'
      rw [g3] at hm3'
      refine aDf (cl:=cb) (by rw [aAc _ _ _ _ (by omega),aAc _ _ _ _ (by omega),aAc _ _ _ _ (by omega),aAc _ _ _ _ (by omega)]; exact hm1') hko (hfd mlb) (by rw [hrb]; exact aFc _) ?_
      simp only [push_cast,seval,-Nat.reducePow,i13,i14,i15,i16,i17,hrb]
      refine aDf (cl:=cx) (by rw [aAc _ _ _ _ (by omega),aAc _ _ _ _ (by omega),aAc _ _ _ _ (by omega),aAc _ _ _ _ (by omega)]; exact hm2') hko (hfd mlx) (by rw [hrx]; exact aFc _) ?_
      simp only [push_cast,seval,-Nat.reducePow,i13,i14,i15,i16,i17,hrb,hrx]
      refine aDf (cl:=cy) (by rw [aAc _ _ _ _ (by omega),aAc _ _ _ _ (by omega),aAc _ _ _ _ (by omega),aAc _ _ _ _ (by omega)]; exact hm3') hko (hfd mly) (by rw [hry]; exact aFc _) ?_
      simp only [push_cast,seval,-Nat.reducePow,i13,i14,i15,i16,i17,hrb,hrx,hry]
      refine aAb (t262 K.h262 _ _ _) (by simp only [push_cast,seval,-Nat.reducePow,aFc]) (by simp only [push_cast,seval,-Nat.reducePow,aFc]) ?_
      obtain ⟨co,hco⟩:∃ co,co=aDg (txtU (aAf b) u.nm) (txtU (aAf x) u.nm) (txtU (aAf y) u.nm):=⟨_,rfl⟩
      rw [← hco]
      obtain ⟨c,f⟩:=co
      have hR:aGj (aAf b) (aAf x) (aAf y) (d++[u])=aGj (aAf b) (aAf x) (aAf y) d++(c.map fun s=>(⟨u.title,u.nth,s⟩:Un)).toList:=by
       unfold aGj
       rw [List.filterMap_append,List.filterMap_cons,List.filterMap_nil,← hco]
       cases c <;> rfl
      have hC:aDy (aAf b) (aAf x) (aAf y) (d++[u])=aDy (aAf b) (aAf x) (aAf y) d++(if f then [u.title] else []):=by
       unfold aDy
       rw [List.filter_append,List.map_append,List.filter_cons,List.filter_nil,← hco]
       cases f <;> rfl
      obtain ⟨ru,hru⟩:∃ ru,ru=aGj (aAf b) (aAf x) (aAf y) d:=⟨_,rfl⟩
      obtain ⟨cu,hcu⟩:∃ cu,cu=aDy (aAf b) (aAf x) (aAf y) d:=⟨_,rfl⟩
      rw [← hru] at hR iu
      rw [← hcu] at hC hcv
      have hdle:d.length+(r.length+1)≤20000:=by
       have h2:=(aEa (aAf y) (aAf x) ([],0) (List.pairwise_map.2 (aDe x))).2
       have h3:(aCf (aAf x) (aAf y)).length≤(aAf x).length+(aAf y).length:=h2
       rw [← hl] at h3
       omega
      have hrl:ru.length≤20000:=by
       have h1:ru.length≤d.length:=by
        rw [hru,aI8]
        have:=(aFw (aAf b) (aAf x) (aAf y) (d.map Un.nm)).2
        rwa [List.length_map] at this
       omega
      have hcl:cu.length≤20000:=by
       have h1:cu.length≤d.length:=by
        rw [hcu]
        unfold aDy
        rw [List.length_map]
        exact List.length_filter_le _ _
       omega
      have hlru:=aC3 ru
      cases f with
      | false =>
        cases c with
        | none =>
          simp only [push_cast,seval,-Nat.reducePow,tvV,i6,i13,i14,i15,i16,i17,i74,i75,i76,← hru]
          refine ⟨by omega,r.length,by omega,d++[u],r,uid,cv,by simp,rfl,by rw [hR]; simp,by simp,?_,?_,?_,by omega,by omega,by omega,?_⟩
          ·repeat rw [aAc _ _ _ _ (by omega)]
           exact iq
          ·rw [hC]
           simp only [Bool.false_eq_true,if_false,List.append_nil]
           exact hcv.mono (fun k h1 h2 h3=>by simp only; repeat rw [aAc _ _ _ _ (by omega)]) (by simp only; omega) (.inl rfl)
          ·rw [hR]
           repeat rw [aAc _ _ _ _ (by omega)]
           simpa using iu
          ·intro k hk
           repeat rw [aAc _ _ _ _ (by omega)]
           exact hold k hk
        | some z =>
          have u1:uid≠s2.nx+141:=by omega
          have u2:uid≠s2.nx+264:=by omega
          have u3:uid≠s2.nx+387:=by omega
          simp only [push_cast,seval,-Nat.reducePow,tvV,i6,i13,i14,i15,i16,i17,i74,i75,i76,← hru,u1,u2,u3,iu,hlru]
          refine ⟨by omega,by omega,r.length,by omega,d++[u],r,s2.nx+965,cv,by simp,rfl,by rw [hR]; simp,by simp,?_,?_,?_,by omega,by omega,by omega,?_⟩
          ·repeat rw [aAc _ _ _ _ (by omega)]
           exact iq
          ·rw [hC]
           simp only [Bool.false_eq_true,if_false,List.append_nil]
           exact hcv.mono (fun k h1 h2 h3=>by simp only; repeat rw [aAc _ _ _ _ (by omega)]) (by simp only; omega) (.inr (by omega))
          ·rw [hR,aAd,List.map_append,List.take_of_length_le (by rw [hlru]; exact Nat.le_refl _)]
           rfl
          ·intro k hk
           repeat rw [aAc _ _ _ _ (by omega)]
           exact hold k hk
      | true =>
        have u1:uid≠s2.nx+141:=by omega
        have u2:uid≠s2.nx+264:=by omega
        have u3:uid≠s2.nx+387:=by omega
        have q1:q≠s2.nx+141:=by omega
        have q2:q≠s2.nx+264:=by omega
        have q3:q≠s2.nx+387:=by omega
        have q4:q≠s2.nx+711:=by omega
        have u4:uid≠s2.nx+711:=by omega
        have r1:s2.nx+141≠q:=by omega
        have r2:s2.nx+387≠q:=by omega
        have r3:s2.nx+141≠uid:=by omega
        have r4:s2.nx+387≠uid:=by omega
        have r5:s2.nx+711≠q:=by omega
        have r6:s2.nx+711≠uid:=by omega
        have u5:uid≠q:=by omega
        rcases hcv with ⟨hc0,rfl⟩ | ⟨hc0,id,rfl,c1',c2',c3',c4'⟩
        ·cases c with
         | none =>
           simp only [push_cast,seval,-Nat.reducePow,tvV,i6,i13,i14,i15,i16,i17,i74,i75,i76,← hru,u1,u2,u3,q1,q2,q3,iq,iu,hlru]
           refine aBw ?_
           simp only [push_cast,seval,-Nat.reducePow,appN,i6,i13,i14,i15,i16,i17,i74,i75,i76,u1,u2,u3,u4,u5,q1,q2,q3,q4,r1,r2,r3,r4,r5,r6,iq,iu,hlru,← hru]
           refine ⟨by omega,by omega,r.length,by omega,d++[u],r,uid,.own (s2.nx+711) 1 0 (cu.length+1),by simp,rfl,by rw [hR]; simp,by simp,?_,?_,?_,by omega,by omega,by omega,?_⟩
           ·first | rfl | (rw [hc0]; rfl) | ((repeat (rw [aAc _ _ _ _ (by omega)])); rw [aAd]; try (first | rfl | (rw [hc0]; rfl)))
           ·rw [hC]
            refine .inr ⟨by simp,s2.nx+711,by simp,?_,by omega,by simp only; omega,by omega⟩
            simp only
            repeat rw [aAc _ _ _ _ (by omega)]
            rw [aAd]
            first | (simp [hc0]; done) | (simp [List.take_of_length_le]; done)
           ·rw [hR]
            repeat rw [aAc _ _ _ _ (by omega)]
            simpa using iu
           ·intro k hk
            repeat rw [aAc _ _ _ _ (by omega)]
            exact hold k hk
         | some z =>
           simp only [push_cast,seval,-Nat.reducePow,tvV,i6,i13,i14,i15,i16,i17,i74,i75,i76,← hru,u1,u2,u3,q1,q2,q3,iq,iu,hlru]
           refine aBw ?_
           simp only [push_cast,seval,-Nat.reducePow,appN,i6,i13,i14,i15,i16,i17,i74,i75,i76,u1,u2,u3,u4,u5,q1,q2,q3,q4,r1,r2,r3,r4,r5,r6,iq,iu,hlru,← hru]
           refine ⟨by omega,by omega,by omega,r.length,by omega,d++[u],r,s2.nx+1087,.own (s2.nx+711) 1 0 (cu.length+1),by simp,rfl,by rw [hR]; simp,by simp,?_,?_,?_,by omega,by omega,by omega,?_⟩
           ·first | rfl | (rw [hc0]; rfl) | ((repeat (rw [aAc _ _ _ _ (by omega)])); rw [aAd]; try (first | rfl | (rw [hc0]; rfl)))
           ·rw [hC]
            refine .inr ⟨by simp,s2.nx+711,by simp,?_,by omega,by simp only; omega,by omega⟩
            simp only
            repeat rw [aAc _ _ _ _ (by omega)]
            rw [aAd]
            first | (simp [hc0]; done) | (simp [List.take_of_length_le]; done)
           ·rw [hR]
            rw [aAd,List.map_append,List.take_of_length_le (by rw [hlru]; exact Nat.le_refl _)]
            rfl
           ·intro k hk
            repeat rw [aAc _ _ _ _ (by omega)]
            exact hold k hk
        ·have v1:id≠s2.nx+141:=by omega
         have t1:s2.nx+141≠id:=by omega
         have t2:s2.nx+387≠id:=by omega
         have t3:s2.nx+711≠id:=by omega
         have v2:id≠s2.nx+264:=by omega
         have v3:id≠s2.nx+387:=by omega
         have v4:uid≠id:=fun e=>c4' e.symm
         have v5:q≠id:=by omega
         have hcln:(cu.map V.str).length=cu.length:=List.length_map ..
         cases c with
         | none =>
           simp only [push_cast,seval,-Nat.reducePow,tvV,i6,i13,i14,i15,i16,i17,i74,i75,i76,← hru,u1,u2,u3,q1,q2,q3,q4,u4,u5,r1,r2,r3,r4,r5,r6,t1,t2,t3,v1,v2,v3,v4,v5,c4',c1',iq,iu,hlru,hcln]
           refine ⟨by omega,by omega,r.length,by omega,d++[u],r,uid,.own (s2.nx+711) 1 0 (cu.length+1),by simp,rfl,by rw [hR]; simp,by simp,?_,?_,?_,by omega,by omega,by omega,?_⟩
           ·first | rfl | (rw [hc0]; rfl) | ((repeat (rw [aAc _ _ _ _ (by omega)])); rw [aAd]; try (first | rfl | (rw [hc0]; rfl)))
           ·rw [hC]
            refine .inr ⟨by simp,s2.nx+711,by simp,?_,by omega,by simp only; omega,by omega⟩
            simp only
            repeat rw [aAc _ _ _ _ (by omega)]
            rw [aAd]
            first | (simp [hc0]; done) | (simp [List.take_of_length_le]; done)
           ·rw [hR]
            repeat rw [aAc _ _ _ _ (by omega)]
            simpa using iu
           ·intro k hk
            repeat rw [aAc _ _ _ _ (by omega)]
            exact hold k hk
         | some z =>
           simp only [push_cast,seval,-Nat.reducePow,tvV,i6,i13,i14,i15,i16,i17,i74,i75,i76,← hru,u1,u2,u3,q1,q2,q3,q4,u4,u5,r1,r2,r3,r4,r5,r6,t1,t2,t3,v1,v2,v3,v4,v5,c4',c1',iq,iu,hlru,hcln]
           refine ⟨by omega,by omega,by omega,r.length,by omega,d++[u],r,s2.nx+1087,.own (s2.nx+711) 1 0 (cu.length+1),by simp,rfl,by rw [hR]; simp,by simp,?_,?_,?_,by omega,by omega,by omega,?_⟩
           ·first | rfl | (rw [hc0]; rfl) | ((repeat (rw [aAc _ _ _ _ (by omega)])); rw [aAd]; try (first | rfl | (rw [hc0]; rfl)))
           ·rw [hC]
            refine .inr ⟨by simp,s2.nx+711,by simp,?_,by omega,by simp only; omega,by omega⟩
            simp only
            repeat rw [aAc _ _ _ _ (by omega)]
            rw [aAd]
            first | (simp [hc0]; done) | (simp [List.take_of_length_le]; done)
           ·rw [hR]
            rw [aAd,List.map_append,List.take_of_length_le (by rw [hlru]; exact Nat.le_refl _)]
            rfl
           ·intro k hk
            repeat rw [aAc _ _ _ _ (by omega)]
            exact hold k hk
end Go.Ab
namespace Go.Ab
variable {P:Program} {F T:Nat→Nat}
open Go.Lib
theorem aZi:((aAf knM2).all fun u=>hasU (aAf knM1) u.nm)=true:=by kernel_rfl
theorem t254 (hf:bL3 P F T) (K:MrgFns P F T):PTr P (F 254) [] (.bool true):=by
 have h1:=t257 K knM0 knM1 knM2 (by decide) (by decide) (by decide) (by decide) (fun _=>.inr fun u hu=>List.all_eq_true.1 aZi u hu)
 rw [knM] at h1
 refine ptrC [] hf (by simp) rfl ?_
 simp only [c254,push_cast,seval,-Nat.reducePow]
 refine aAb h1 (by simp only [push_cast,seval,-Nat.reducePow,knM0,knM1,knM2]) (by simp only [push_cast,seval,-Nat.reducePow,mrgV,aGr,ln,List.map_nil]) ?_
 simp only [push_cast,seval,-Nat.reducePow,mrgV,aGr,ln,List.map_nil,knM3,view]
end Go.Ab
