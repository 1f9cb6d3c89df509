/- Several texts of one kind, merged. No condition. -/
import Derived.Test.YtjakkhalapaofaaGreatDoorAbP1
set_option linter.unusedSimpArgs false
set_option linter.unusedVariables false
namespace Go.Ab
variable {P:Program} {F T:Nat→Nat}
def Rpt (P:Program) (F:Nat→Nat):Prop:=∀ (c:UInt8) (n:Nat),n≤2^30→PTr P (F 42) [.str [c],.int .i64 n] (.str (List.replicate n c))
theorem aZq (l:List Arg):aAq (l.flatMap Arg.pieces)≤aBb l+4*l.length:=by
 induction l with
 | nil=>simp [aAq]
 | cons a r ih =>
   obtain ⟨b,n,v⟩:=a
   simp only [List.flatMap_cons,aAs,aBb,Arg.bulk,List.length_cons]
   cases b <;> simp [Arg.pieces,aAq,aAs,tx,Node.bulk,aBb] <;> omega
theorem bCc {t:Nat}:(aAt t).length≤11:=by
 unfold aAt; split <;> (try split) <;> (try split) <;> simp
theorem Stk.lt {z:Bool} {L:Heap} {nx:Nat} {f:List Nat} {p:Nat} {els:List El} (h:Stk T z L nx f p els):∀ i,i∈f→i<nx:=by obtain ⟨sid,jk,hs,hp⟩:=h; exact hp.lt
theorem aTd (e:El):e.head.length≤13+e.count:=by
 have:=bCc (t:=e.tag)
 unfold El.head; split <;> (try split) <;> (try split) <;> simp [tagO] <;> omega
theorem aJs (e:El):aAq e.pieces≤e.pot:=by
 have h1:=aZq e.args
 have h2:=aTd e
 simp only [El.pieces,aAq,aAs,El.pot,tx,Node.bulk,aBb]; omega
theorem Stk.ne {z:Bool} {L:Heap} {nx:Nat} {f:List Nat} {p:Nat} {els:List El} (h:Stk T z L nx f p els):True:=trivial
theorem t58 (hf:Is58 P F T) (h78:Is78 P F T) (h80:Is80 P F T) (h79:Is79 P F T) (h69:Is69 P F T) (h70:Is70 P F T) (h59:Is59 P F T) (h106:aHb P F T) (hR:Rpt P F) {L:Heap} {nx:Nat} {f:List Nat} {p:Nat} {e:El} {els:List El}
 (hs:Stk T false L nx f p (e::els)) (hb:pot (e::els)≤2^29) (hne:els≠[]) :
 ECall P (F 58) [.ptr p 0] L nx (Did T L nx f p (flat1 (e::els))):=by
 have hok:=hs.ok e (by simp)
 have hpb:=aJs e
 simp only [pot] at hb
 refine aB7 [] hf (by simp) ?_
 simp only [c58,push_cast,seval,-Nat.reducePow]
 refine aAa (t78 h78 h59 (hs.grow (by omega) fun _ _=>rfl) (by simp only [pot]; omega)) ?_
 rintro _ L1 n1 ⟨f1,id,rfl,hid,hif,hbx,hst,hsp⟩
 have hsp1:=hsp.le
 have hsp0:Stp L nx f L1 n1 f1:=(Stp.grow (by omega) fun _ _=>rfl).trans hsp
 simp only [push_cast,seval,-Nat.reducePow]
 refine aE2 (fun s=>s.env 0=.ptr p 0∧s.env 2=.ptr id 0∧∃ f',id<s.nx∧id∉f'∧s.L id=some (.box (T 5) [.int .i64 e.kind,.int .i64 e.tag,.int .i64 e.count,ln 5 (vns e.list),ln 3 (vas e.args)])∧Stk T false s.L s.nx f' p (addS (tx e.head) els)∧Stp L nx f s.L s.nx f') ?_ ?_
 ·have himm:V.imms [.int .i64 e.kind,.int .i64 e.tag,.int .i64 e.count,ln 5 (vns e.list),ln 3 (vas e.args)]=true:=by simp [V.imms,V.imm,aD2,aA5,aC2]
  have hhl:e.head.length+1≤30+2*e.count:=by have:=aTd e; omega
  have hpe:pot els+30+2*e.count≤2^29:=by simp only [El.pot] at hb; omega
  have go:∀ (m:Nat) (h:List UInt8),h=e.head→n1≤m→ECall P (F 69) [.ptr p 0,.str h] L1 m fun _ L' nx'=>∃ f',id<nx'∧id∉f'∧L' id=some (.box (T 5) [.int .i64 e.kind,.int .i64 e.tag,.int .i64 e.count,ln 5 (vns e.list),ln 3 (vas e.args)])∧Stk T false L' nx' f' p (addS (tx e.head) els)∧Stp L nx f L' nx' f':=by
   rintro m h rfl hm
   refine (t69 h69 h59 h106 (hst.grow hm fun _ _=>rfl) e.head (by omega) hne).mono ?_
   rintro r L' nx' ⟨f2,k1,k2⟩
   have hle:=k2.le
   refine ⟨f2,by omega,fun hc=>(k2.sub id hc).elim hif fun h=>by omega,k2.fr id _ _ (by omega) hif hbx himm,k1,hsp0.trans ((Stp.grow hm fun _ _=>rfl).trans k2)⟩
  simp only [push_cast,seval,-Nat.reducePow,hbx]
  refine aAd (fun hk=>?_) (fun hk=>?_)
  ·have hk':e.kind=1:=by omega
   simp only [push_cast,seval,-Nat.reducePow]
   refine aAa (go _ [91,91] (by simp [El.head,hk']) (by omega)) ?_
   rintro _ L' nx' ⟨f2,k1,k2,k3,k4,k5⟩
   simp only [push_cast,seval,-Nat.reducePow]
   exact ⟨f2,by omega,k2,k3,k4.grow (by omega) fun _ _=>rfl,k5.trans (Stp.grow (by omega) fun _ _=>rfl)⟩
  ·simp only [push_cast,seval,-Nat.reducePow]
   refine aAd (fun hk2=>?_) (fun hk2=>?_)
   ·have hk':e.kind=2:=by omega
    simp only [push_cast,seval,-Nat.reducePow,hbx]
    refine aAc (t79 h79 e.tag (hok.tag hk')) (by simp only [push_cast,seval,-Nat.reducePow]) (by simp only [push_cast,seval,-Nat.reducePow]) ?_
    simp only [push_cast,seval,-Nat.reducePow]
    refine aAa (go _ (tagO e.tag) (by simp [El.head,hk']) (by omega)) ?_
    rintro _ L' nx' ⟨f2,k1,k2,k3,k4,k5⟩
    simp only [push_cast,seval,-Nat.reducePow]
    exact ⟨f2,by omega,k2,k3,k4.grow (by omega) fun _ _=>rfl,k5.trans (Stp.grow (by omega) fun _ _=>rfl)⟩
   ·simp only [push_cast,seval,-Nat.reducePow]
    refine aAd (fun hk3=>?_) (fun hk3=>?_)
    ·have hk':e.kind=3:=by omega
     simp only [push_cast,seval,-Nat.reducePow,hbx]
     refine aAc (hR 123 e.count (by omega)) (by simp only [push_cast,seval,-Nat.reducePow]) (by simp only [push_cast,seval,-Nat.reducePow]) ?_
     simp only [push_cast,seval,-Nat.reducePow]
     refine aAa (go _ (List.replicate e.count 123) (by simp [El.head,hk']) (by omega)) ?_
     rintro _ L' nx' ⟨f2,k1,k2,k3,k4,k5⟩
     simp only [push_cast,seval,-Nat.reducePow]
     exact ⟨f2,by omega,k2,k3,k4.grow (by omega) fun _ _=>rfl,k5.trans (Stp.grow (by omega) fun _ _=>rfl)⟩
    ·simp only [push_cast,seval,-Nat.reducePow]
     have he:e.head=[]:=by
      have h1:e.kind≠1:=by omega
      have h2:e.kind≠2:=by omega
      have h3:e.kind≠3:=by omega
      simp [El.head,h1,h2,h3]
     rw [he,aSs]
     exact ⟨f1,by omega,hif,hbx,hst.grow (by omega) fun _ _=>rfl,hsp0.trans (Stp.grow (by omega) fun _ _=>rfl)⟩
 ·rintro s ⟨h0,h2,f2,g1,g2,g3,g4,g5⟩
  have hp1:=aBs (tx e.head) els
  have himm:V.imms [.int .i64 e.kind,.int .i64 e.tag,.int .i64 e.count,ln 5 (vns e.list),ln 3 (vas e.args)]=true:=by simp [V.imms,V.imm,aD2,aA5,aC2]
  have hbp:aAq e.pieces=(tx e.head).bulk+(aAq e.list+aAq (e.args.flatMap Arg.pieces)):=by simp only [El.pieces,aAq,aAs]
  simp only [push_cast,seval,-Nat.reducePow,h0,h2,g3]
  refine aAa (t80 h80 h69 h70 h59 h106 (g4.grow (by omega) fun _ _=>rfl) e.list (by omega) (aEd hne)) ?_
  rintro _ L3 n3 ⟨f3,k1,k2⟩
  have hle:=k2.le
  have hbx3:=k2.fr id _ _ (by omega) g2 g3 himm
  have g53:=g5.trans ((Stp.grow (by omega) fun _ _=>rfl).trans k2)
  simp only [push_cast,seval,-Nat.reducePow,h0,h2,hbx3]
  refine aAk (fun m s=>∃ a r f',e.args=a++r∧m=r.length∧s.env 0=.ptr p 0∧s.env 42=ln 3 (vas (a++r))∧s.env 43=.int .i64 (a++r).length∧s.env 44=.int .i64 a.length∧Stk T false s.L s.nx f' p (aC5 (tx e.head::(e.list++a.flatMap Arg.pieces)) els)∧Stp L nx f s.L s.nx f') e.args.length ⟨[],e.args,f3,?_⟩ fun m s hJ=>?_
  ·simp only [push_cast,seval,-Nat.reducePow,List.flatMap_nil,aCh]
   exact ⟨h0,k1.grow (by omega) fun _ _=>rfl,g53.trans (Stp.grow (by omega) fun _ _=>rfl)⟩
  ·obtain ⟨a,r,f4,ha,rfl,j0,j42,j43,j44,hst4,hsp4⟩:=hJ
   have hp2:=aEy (tx e.head::(e.list++a.flatMap Arg.pieces)) els
   simp only [aAq,aAs] at hp2
   have hle4:=hsp4.le
   have hba:aAq (e.args.flatMap Arg.pieces)=aAq (a.flatMap Arg.pieces)+aAq (r.flatMap Arg.pieces):=by rw [ha,List.flatMap_append,aAs]
   have hal:a.length<2^32:=by
    have:e.args.length=a.length+r.length:=by rw [ha,List.length_append]
    simp only [El.pot] at hb; omega
   cases r with
   | nil =>
     simp only [push_cast,seval,-Nat.reducePow,j0,j42,j43,j44]
     refine ⟨by omega,f4,?_,hsp4.trans (Stp.grow (by omega) fun _ _=>rfl)⟩
     simp only [List.append_nil] at ha
     simp only [flat1,El.pieces,ha]
     exact hst4.grow (by omega) fun _ _=>rfl
   | cons x r =>
     obtain ⟨xb,xn,xv⟩:=x
     have hne4:=aJm (l:=tx e.head::(e.list++a.flatMap Arg.pieces)) hne
     simp only [List.flatMap_cons,aAs] at hba
     simp only [push_cast,seval,-Nat.reducePow,j0,j42,j43,j44,Arg.vs]
     have hf4:s.nx+67∉f4:=fun h=>by have:=hst4.lt _ h; omega
     have ibx:V.imms [.bool xb,ln 5 (vns xn),ln 5 (vns xv)]=true:=by simp [V.imms,V.imm,aD2,aA5]
     have hsp5:∀ (M:Heap) (m:Nat),s.nx≤m→(∀ i,i<s.nx→M i=s.L i)→Stp L nx f M m f4:=fun M m h1 h2=>hsp4.trans (Stp.grow h1 h2)
     have hxb:aAq (Arg.mk xb xn xv).pieces=2+((if xb then aAq xn+2 else 0)+aAq xv):=by cases xb <;> simp [Arg.pieces,aAq,aAs,tx,Node.bulk,aBb] <;> omega
     refine aAa (t69 h69 h59 h106 (hst4.grow (by omega) fun i hi=>by rw [fr1 hi,fr1 hi]) [124] (by simp; omega) hne4) ?_
     rintro _ L5 n5 ⟨f5,k1,k2⟩
     have q1:=k2.le
     have a5:=(hsp5 _ _ (by omega) (fun i hi=>by rw [fr1 hi,fr1 hi])).trans k2
     have b5:=k2.fr (s.nx+67) (T 1) _ (by omega) hf4 (by simp only [aBe,if_true]) ibx
     have hf5:s.nx+67∉f5:=fun h=>(k2.sub _ h).elim hf4 fun h=>by omega
     have hp5:=aBs (tx [124]) (aC5 (tx e.head::(e.list++a.flatMap Arg.pieces)) els)
     have ht:(tx [124]).bulk=2:=rfl
     have ht2:(tx [61]).bulk=2:=rfl
     have hn5:=aEd (n:=tx [124]) hne4
     simp only [push_cast,seval,-Nat.reducePow,j0,b5]
     refine aCg (fun hxb'=>?_) (fun hxb'=>?_)
     ·subst hxb'
      simp only [if_true] at hxb
      simp only [push_cast,seval,-Nat.reducePow,j0,b5]
      refine aAa (t80 h80 h69 h70 h59 h106 (k1.grow (by omega) fun _ _=>rfl) xn (by omega) hn5) ?_
      rintro _ L6 n6 ⟨f6,k3,k4⟩
      have q2:=k4.le
      have a6:=a5.trans ((Stp.grow (by omega) fun _ _=>rfl).trans k4)
      have b6:=k4.fr (s.nx+67) (T 1) _ (by omega) hf5 b5 ibx
      have hf6:s.nx+67∉f6:=fun h=>(k4.sub _ h).elim hf5 fun h=>by omega
      have hp6:=aEy xn (addS (tx [124]) (aC5 (tx e.head::(e.list++a.flatMap Arg.pieces)) els))
      have hn6:=aJm (l:=xn) hn5
      simp only [push_cast,seval,-Nat.reducePow,j0]
      refine aAa (t69 h69 h59 h106 (k3.grow (by omega) fun _ _=>rfl) [61] (by simp; omega) hn6) ?_
      rintro _ L7 n7 ⟨f7,k5,k6⟩
      have q3:=k6.le
      have a7:=a6.trans ((Stp.grow (by omega) fun _ _=>rfl).trans k6)
      have b7:=k6.fr (s.nx+67) (T 1) _ (by omega) hf6 b6 ibx
      have hf7:s.nx+67∉f7:=fun h=>(k6.sub _ h).elim hf6 fun h=>by omega
      have hp7:=aBs (tx [61]) (aC5 xn (addS (tx [124]) (aC5 (tx e.head::(e.list++a.flatMap Arg.pieces)) els)))
      have hn7:=aEd (n:=tx [61]) hn6
      simp only [push_cast,seval,-Nat.reducePow,j0,b7]
      refine aAa (t80 h80 h69 h70 h59 h106 (k5.grow (by omega) fun _ _=>rfl) xv (by omega) hn7) ?_
      rintro _ L8 n8 ⟨f8,k7,k8⟩
      have q4:=k8.le
      have a8:=a7.trans ((Stp.grow (by omega) fun _ _=>rfl).trans k8)
      simp only [push_cast,seval,-Nat.reducePow,j0,j42,j43,j44]
      refine ⟨by omega,r.length,by omega,a++[.mk true xn xv],r,f8,by rw [ha]; simp,rfl,by simp,by simp,by simp,?_,a8.trans (Stp.grow (by omega) fun _ _=>rfl)⟩
      have e1:tx e.head::(e.list++(a++[Arg.mk true xn xv]).flatMap Arg.pieces)=tx e.head::(e.list++a.flatMap Arg.pieces)++([tx [124]]++xn++[tx [61]]++xv):=by
       simp [List.flatMap_append,Arg.pieces]
      rw [e1,aCa,aCa,aCa,aCa]
      exact k7.grow (by omega) fun _ _=>rfl
     ·subst hxb'
      simp only [Bool.false_eq_true,if_false] at hxb
      simp only [push_cast,seval,-Nat.reducePow,j0,b5]
      refine aAa (t80 h80 h69 h70 h59 h106 (k1.grow (by omega) fun _ _=>rfl) xv (by omega) hn5) ?_
      rintro _ L8 n8 ⟨f8,k7,k8⟩
      have q4:=k8.le
      have a8:=a5.trans ((Stp.grow (by omega) fun _ _=>rfl).trans k8)
      simp only [push_cast,seval,-Nat.reducePow,j0,j42,j43,j44]
      refine ⟨by omega,r.length,by omega,a++[.mk false xn xv],r,f8,by rw [ha]; simp,rfl,by simp,by simp,by simp,?_,a8.trans (Stp.grow (by omega) fun _ _=>rfl)⟩
      have e1:tx e.head::(e.list++(a++[Arg.mk false xn xv]).flatMap Arg.pieces)=tx e.head::(e.list++a.flatMap Arg.pieces)++([tx [124]]++xv):=by
       simp [List.flatMap_append,Arg.pieces]
      rw [e1,aCa,aCa]
      exact k7.grow (by omega) fun _ _=>rfl
end Go.Ab
namespace Go.Ab
variable {P:Program} {F T:Nat→Nat}
theorem Stk.split {z:Bool} {L:Heap} {nx:Nat} {f:List Nat} {p:Nat} {els:List El} (h:Stk T z L nx f p els) (hne:els≠[]):∃ sid jk h t,Stx T z L nx f p els sid jk (h::t)∧els=h.e::t.map EH.e:=by
 obtain ⟨sid,jk,hs,hp⟩:=h
 cases hs with
 | nil=>exact absurd hp.map.symm hne
 | cons h t=>exact ⟨sid,jk,h,t,hp,by rw [← hp.map]; rfl⟩
theorem Stx.fpnd {z:Bool} {L:Heap} {nx:Nat} {f:List Nat} {p:Nat} {els:List El} {sid:Nat} {jk:List V} {h:EH} {t:List EH} (hp:Stx T z L nx f p els sid jk (h::t)):h.fp.Nodup∧∀ i,i∈h.fp→i<nx:=by
 have hF:=hp.foot
 have hn:=hp.nodup
 rw [hF] at hn
 simp only [List.flatMap_cons,List.nodup_cons,List.nodup_append] at hn
 exact ⟨hn.2.2.1,fun i hi=>hp.lt i (by rw [hF]; simp [hi])⟩
theorem t73 (hf:Is73 P F T) (h69:Is69 P F T) (h59:Is59 P F T) (h106:aHb P F T) {L:Heap} {nx:Nat} {f:List Nat} {p:Nat} {els:List El} (hs:Stk T false L nx f p els) (hb:pot els+2≤2^29) (hne:els≠[]) :
 ECall P (F 73) [.ptr p 0] L nx (Did T L nx f p (barF els)):=by
 obtain ⟨sid,jk,h,t,hp,r9⟩:=hs.split hne
 have hlen:=aDg els
 have hel:els.length=t.length+1:=by rw [r9]; simp
 have hpe:h.e.pot≤pot els:=by rw [r9]; simp [pot]
 simp only [El.pot] at hpe
 refine aB7 [] hf (by simp) ?_
 simp only [c73,push_cast,seval,-Nat.reducePow]
 refine aAa (t59 h59 (hp.grow (by omega)) (by omega)) ?_
 rintro _ _ n1 ⟨rfl,rfl,hn1⟩
 have hat:=hp.at_ h (by simp)
 have hlv:h.live:=hp.live h (by simp)
 have hok:h.e.ok:=hp.ok _ (by rw [r9]; simp)
 have hbx:=hat.box
 simp only [EH.cells] at hbx
 simp only [push_cast,seval,-Nat.reducePow,hbx]
 refine aAd (fun hk=>?_) (fun hk=>?_)
 ·have hk':h.e.kind=3:=by omega
  simp only [push_cast,seval,-Nat.reducePow]
  have hp1:=hp.grow (nx':=n1+22+22) (by omega)
  rename_i L1
  refine Exists.elim (frzV (s:=⟨_,L1,n1+22+22⟩) hp1) fun s' hh=>Exists.elim hh fun F' fz=>⟨s',fz.fz,?_⟩
  have e0:=fz.env 0 rfl
  have e2:=fz.env 2 rfl
  obtain ⟨jk',hp'⟩:=fz.st
  have hnx:=fz.nx
  have hst:=fz.stp
  simp only [push_cast,seval,-Nat.reducePow] at e0 e2 hnx hp' hst
  have a1:=hp'.at_ _ (List.mem_cons_self)
  have b1:=a1.box
  simp only [EH.cells] at b1
  obtain ⟨fnd,flt⟩:=hp'.fpnd
  have tid:h.id<n1+44:=flt h.id (by simp [EH.fp])
  have ebar:barF els={ h.e with args:=h.e.args++[.mk false [] []] }::t.map EH.e:=by rw [r9,barF,if_pos hk']
  rw [ebar]
  have fin:∀ (L':Heap) (nx' j:Nat),n1+44≤j→j<nx'→(∀ i,i<n1+44→i≠h.id→h.ai≠some i→L' i=s'.L i)→L' h.id=some (.box (T 5) [.int .i64 h.e.kind,.int .i64 h.e.tag,.int .i64 h.e.count,h.lv,.own j 3 0 (h.e.args.length+1)]) →
   L' j=some (.vec (T 1) 3 (vas h.e.args++[.agg [.bool false,.nils,.nils]]))→n1+44≤nx'→Did T L1 nx f p ({ h.e with args:=h.e.args++[.mk false [] []] }::t.map EH.e) (.tup []) L' nx':=by
   intro L' nx' j g1 g2 g3 g4 g5 g6
   have hst2:Stp L1 nx f s'.L (n1+44) F':=(Stp.grow (by omega) fun _ _=>rfl).trans hst
   refine Did.step hst2 ?_
   simp only [EH.fp,Option.toList_none,List.append_nil,List.nodup_cons,List.mem_append,not_or,List.nodup_append] at fnd
   obtain ⟨⟨m1,m2⟩,m3,m4,m5⟩:=fnd
   refine hp'.top (z':=false) (h':=⟨{ h.e with args:=h.e.args++[.mk false [] []] },h.id,h.li,some j,none⟩) (fun i gi gn=>g3 i gi (fun e=>gn (by simp [EH.fp,e])) fun e=>gn (by simp [EH.fp,e])) ⟨?_,?_,?_,fun i hi=>by simp at hi⟩ (fun _=>⟨hlv.li,fun e=>by simp at e,fun _=>by simp [aAw,Arg.val]⟩) rfl ?_ ?_ ?_ g6 ?_
   ·rw [g4]; simp [EH.cells,EH.lv,EH.av,lvO]
   ·intro i hi
    rw [g3 i (flt i (by simp [EH.fp,show h.li=some i from hi])) (fun e=>m1 (by rw [← e]; simp [show h.li=some i from hi])) fun e=>m5 i (by simp [show h.li=some i from hi]) i (by simp [e]) rfl]
    exact a1.li i hi
   ·intro i hi
    simp only [Option.some.injEq] at hi
    subst hi
    refine ⟨?_,by simp⟩
    rw [g5,aDx]
    simp [EH.vv,lvO,aAw,Arg.val,Arg.named,Arg.nm,vns,ln]
   ·simp only [EH.fp,Option.toList_none,Option.toList_some,List.append_nil,List.nodup_cons,List.mem_append,List.mem_singleton,not_or,List.nodup_append,List.nodup_nil,List.not_mem_nil,not_false_eq_true,and_true,true_and]
    refine ⟨⟨m1,by omega⟩,m3,fun a ha b hb=>?_⟩
    subst hb
    have:=flt a (by simp only [EH.fp,List.mem_cons,List.mem_append]; exact .inr (.inl (.inl ha)))
    omega
   ·intro i hi
    simp only [EH.fp,Option.toList_none,Option.toList_some,List.append_nil,List.mem_cons,List.mem_append,List.not_mem_nil,or_false] at hi ⊢
    rcases hi with hi | hi | hi
    ·exact .inl (.inl hi)
    ·exact .inl (.inr (.inl hi))
    ·exact .inr (by omega)
   ·intro i hi
    simp only [EH.fp,Option.toList_none,Option.toList_some,List.append_nil,List.mem_cons,List.mem_append,List.not_mem_nil,or_false] at hi
    rcases hi with hi | hi | hi
    ·omega
    ·have:=flt i (by simp only [EH.fp,List.mem_cons,List.mem_append]; exact .inr (.inl (.inl hi))); omega
    ·omega
   ·refine ⟨hok.tag,hok.list,fun a ha=>?_⟩
    rcases List.mem_append.1 ha with ha | ha
    ·exact hok.args a ha
    ·simp only [List.mem_singleton] at ha
     subst ha
     exact ⟨fun n hn=>by simp [Arg.nm] at hn,fun n hn=>by simp [Arg.val] at hn⟩
  have elv:({ h with vi:=none }:EH).lv=h.lv:=rfl
  have eav:({ h with vi:=none }:EH).av=h.av:=rfl
  rw [elv,eav] at b1
  rcases aB2 h.ai with hv | ⟨i,hv⟩
  ·have h0:=hlv.ai hv
   have eav2:h.av=.nils:=by simp [EH.av,hv,lvO,h0,vas,ln]
   rw [eav2] at b1
   simp only [push_cast,seval,-Nat.reducePow,e0,e2,hnx,b1]
   refine aKq ?_
   have x1:h.id≠n1+61:=by omega
   have x1':n1+61≠h.id:=by omega
   simp only [push_cast,seval,-Nat.reducePow,e0,e2,hnx,b1,x1,x1']
   refine ⟨by omega,by omega,?_⟩
   refine fin _ _ (n1+61) (by omega) (by omega) (fun i g1 g2 g3=>?_) ?_ ?_ (by omega)
   ·simp only [aBe,g2,show i≠n1+61 by omega,if_false]
   ·simp only [aBe,if_true,h0]; rfl
   ·simp only [aBe,x1',if_false,if_true,h0]; rfl
  ·have a2:=a1.ai i hv
   have eav2:h.av=.own i 3 0 h.e.args.length:=by simp [EH.av,hv,lvO]
   rw [eav2] at b1
   have evv:({ h with vi:=none }:EH).vv=ln 5 (vns (aCi h.e.args)):=rfl
   rw [evv,aG3] at a2
   simp only [EH.fp,Option.toList_none,List.append_nil,List.nodup_cons,List.mem_append,not_or,List.nodup_append] at fnd
   have nai:h.id≠i:=fun e=>fnd.1.2 (by simp [hv,e])
   have tai:i<n1+44:=flt i (by simp [EH.fp,hv])
   have e6:List.take h.e.args.length (vas h.e.args)=vas h.e.args:=List.take_of_length_le (by simp [aBk])
   have x1:h.id≠n1+61:=by omega
   have x1':n1+61≠h.id:=by omega
   have x2:∀ (x:Option Blk) (M:Heap),upd M (n1+61) x h.id=M h.id:=fun x M=>aAi _ _ _ _ x1
   have x3:∀ (x:Option Blk) (M:Heap),upd M i x h.id=M h.id:=fun x M=>aAi _ _ _ _ nai
   simp only [push_cast,seval,-Nat.reducePow,e0,e2,hnx,b1,a2.1,e6,x1,x1',x2,x3]
   refine ⟨by omega,by omega,?_⟩
   refine fin _ _ (n1+61) (by omega) (by omega) (fun x g1 g2 g3=>?_) ?_ ?_ (by omega)
   ·have:x≠i:=fun e=>g3 (by rw [hv,e])
    simp only [aBe,g2,this,show x≠n1+61 by omega,if_false]
   ·simp only [aBe,if_true]
   ·simp only [aBe,x1',if_false,if_true]
 ·simp only [push_cast,seval,-Nat.reducePow]
  refine aAa (t69 h69 h59 h106 (Stk.grow ⟨_,_,_,hp⟩ (by omega) fun _ _=>rfl) [124] (by simp; omega) hne) ?_
  rintro _ L' nx' ⟨f2,k1,k2⟩
  have:=k2.le
  refine ⟨by omega,f2,?_,(Stp.grow (by omega) fun _ _=>rfl).trans (k2.trans (Stp.grow (by omega) fun _ _=>rfl))⟩
  have:barF els=addS (tx [124]) els:=by rw [r9,barF,if_neg (by omega)]
  rw [this]
  exact k1.grow (by omega) fun _ _=>rfl
theorem t74 (hf:Is74 P F T) (h69:Is69 P F T) (h59:Is59 P F T) (h106:aHb P F T) {L:Heap} {nx:Nat} {f:List Nat} {p:Nat} {els:List El} (hs:Stk T false L nx f p els) (hb:pot els+2≤2^29) (hne:els≠[]) :
 ECall P (F 74) [.ptr p 0] L nx (Did T L nx f p (eqF els)):=by
 obtain ⟨sid,jk,h,t,hp,r9⟩:=hs.split hne
 have hlen:=aDg els
 have hel:els.length=t.length+1:=by rw [r9]; simp
 have hpe:h.e.pot≤pot els:=by rw [r9]; simp [pot]
 simp only [El.pot] at hpe
 refine aB7 [] hf (by simp) ?_
 simp only [c74,push_cast,seval,-Nat.reducePow]
 refine aAa (t59 h59 (hp.grow (by omega)) (by omega)) ?_
 rintro _ _ n1 ⟨rfl,rfl,hn1⟩
 have hat:=hp.at_ h (by simp)
 have hlv:h.live:=hp.live h (by simp)
 have hok:h.e.ok:=hp.ok _ (by rw [r9]; simp)
 have hbx:=hat.box
 simp only [EH.cells] at hbx
 rename_i L1
 have els_eq:eqF els=addS (tx [61]) els→∀ m,n1≤m→ECall P (F 69) [.ptr p 0,.str [61]] L1 m fun _ L' nx'=>∃ f',nx≤nx'∧Stk T false L' nx' f' p (eqF els)∧Stp L1 nx f L' nx' f':=fun he m hm=>by
  refine (t69 h69 h59 h106 (Stk.grow ⟨_,_,_,hp⟩ (by omega) fun _ _=>rfl) [61] (by simp; omega) hne).mono ?_
  rintro _ L' nx' ⟨f2,k1,k2⟩
  have:=k2.le
  exact ⟨f2,by omega,by rw [he]; exact k1,(Stp.grow (by omega) fun _ _=>rfl).trans k2⟩
 rcases aB2 h.ai with hv | ⟨ia,hv⟩
 ·have h0:=hlv.ai hv
  have eav2:h.av=.nils:=by simp [EH.av,hv,lvO,h0,vas,ln]
  rw [eav2] at hbx
  have he:eqF els=addS (tx [61]) els:=by rw [r9,eqF,if_neg (by simp [h0,aEz])]
  simp only [push_cast,seval,-Nat.reducePow,hbx]
  refine aAd (fun hk=>?_) (fun hk=>?_)
  all_goals
   simp only [push_cast,seval,-Nat.reducePow]
   refine aAa (els_eq he _ (by omega)) ?_
   rintro _ L' nx' ⟨f2,k0,k1,k2⟩
   exact ⟨by omega,f2,k1.grow (by omega) fun _ _=>rfl,k2.trans (Stp.grow (by omega) fun _ _=>rfl)⟩
 ·obtain ⟨a2,a3⟩:=hat.ai ia hv
  obtain ⟨i,a,ha⟩:∃ i a,h.e.args=i++[a]:=by
   rcases List.eq_nil_or_concat h.e.args with h0 | ⟨i,a,h0⟩
   ·exact absurd h0 a3
   ·exact ⟨i,a,by rw [h0,List.concat_eq_append]⟩
  have eav2:h.av=.own ia 3 0 (i.length+1):=by simp [EH.av,hv,lvO,ha]
  rw [ha,aDx] at a2
  have hok':=hok.args a (by rw [ha]; simp)
  obtain ⟨an,nm,vl⟩:=a
  dsimp only [Arg.named,Arg.nm,Arg.val] at a2 hok'
  rw [eav2] at hbx
  have e1:((i.length:Nat):Int)+1-1=(i.length:Nat):=by omega
  have e2:∀ Z,(vas i++Z::[]).getD i.length .junk=Z:=fun Z=>aD3 (by simp [aBk])
  have e3:∀ Z,i.length<(vas i++[Z]).length:=fun Z=>by simp [aBk]
  have e4:(0:Int)<((i.length:Nat):Int)+1:=by omega
  have hil:i.length+1≤2^29:=by
   have:h.e.args.length=i.length+1:=by rw [ha]; simp
   omega
  simp only [push_cast,seval,-Nat.reducePow,hbx]
  refine aAd (fun hk=>?_) (fun hk=>?_)
  ·have hk':h.e.kind=3:=by omega
   simp only [push_cast,seval,-Nat.reducePow,hbx,a2,e1,e2,e3,e4]
   refine ⟨by omega,by omega,?_⟩
   refine aCg (fun hnm=>?_) (fun hnm=>?_)
   ·subst hnm
    have he:eqF els=addS (tx [61]) els:=by rw [r9,eqF,if_neg (by rw [ha,aEv]; simp [Arg.named])]
    simp only [push_cast,seval,-Nat.reducePow]
    refine aAa (els_eq he _ (by omega)) ?_
    rintro _ L' nx' ⟨f2,k0,k1,k2⟩
    exact ⟨by omega,f2,k1.grow (by omega) fun _ _=>rfl,k2.trans (Stp.grow (by omega) fun _ _=>rfl)⟩
   ·subst hnm
    have he:eqF els={ h.e with args:=i++[.mk true vl []] }::t.map EH.e:=by
     rw [r9,eqF,if_pos ⟨hk',by rw [ha,aEv]; rfl⟩,ha,aBo]; rfl
    rw [he]
    simp only [push_cast,seval,-Nat.reducePow]
    have hp1:=hp.grow (nx':=n1+153) (by omega)
    refine Exists.elim (frzV (s:=⟨_,L1,n1+153⟩) hp1) fun s' hh=>Exists.elim hh fun F' fz=>⟨s',fz.fz,?_⟩
    have y0:=fz.env 0 rfl
    have y2:=fz.env 2 rfl
    have y3:=fz.env 3 rfl
    obtain ⟨jk',hp'⟩:=fz.st
    have hnx:=fz.nx
    have hst:=fz.stp
    simp only [push_cast,seval,-Nat.reducePow] at y0 y2 y3 hnx hp' hst
    have a1:=hp'.at_ _ (List.mem_cons_self)
    have b1:=a1.box
    simp only [EH.cells] at b1
    obtain ⟨fnd,flt⟩:=hp'.fpnd
    have tid:h.id<n1+153:=flt h.id (by simp [EH.fp])
    have elv:({ h with vi:=none }:EH).lv=h.lv:=rfl
    have eav:({ h with vi:=none }:EH).av=h.av:=rfl
    rw [elv,eav,eav2] at b1
    have c2:=(a1.ai ia hv).1
    have evv:({ h with vi:=none }:EH).vv=ln 5 (vns (aCi h.e.args)):=rfl
    rw [evv,aG3,ha,aIe] at c2
    have e5:vas [Arg.mk false nm vl]=[V.agg [.bool false,ln 5 (vns nm),ln 5 (vns vl)]]:=rfl
    rw [e5] at c2
    simp only [EH.fp,Option.toList_none,List.append_nil,List.nodup_cons,List.mem_append,not_or,List.nodup_append] at fnd
    have nai:h.id≠ia:=fun e=>fnd.1.2 (by simp [hv,e])
    have tai:ia<n1+153:=flt ia (by simp [EH.fp,hv])
    have e9:∀ Z y,(vas i++Z::[]).set i.length y=vas i++y::[]:=fun Z y=>aKl (by simp [aBk])
    simp only [push_cast,seval,-Nat.reducePow,y0,y2,y3,hnx,b1,c2,e1,e2,e3,e4,e9]
    refine ⟨by omega,by omega,by omega,by omega,by omega,?_⟩
    have hst2:Stp L1 nx f s'.L (n1+153) F':=(Stp.grow (by omega) fun _ _=>rfl).trans hst
    refine Did.step hst2 ?_
    refine hp'.top (z':=false) (h':=⟨{ h.e with args:=i++[.mk true vl []] },h.id,h.li,some ia,none⟩) (fun x gi gn=>?_) ⟨?_,?_,?_,fun x hx=>by simp at hx⟩ (fun _=>⟨hlv.li,fun e=>by simp at e,fun _=>by simp [aAw,Arg.val]⟩) rfl ?_ ?_ ?_ (by omega) ?_
    ·have:x≠ia:=fun e=>gn (by simp [EH.fp,hv,e])
     simp only [aBe,this,if_false]
    ·simp only [aBe,nai,if_false,b1]
     simp [EH.cells,EH.lv,EH.av,lvO]
    ·intro x hx
     have hx':h.li=some x:=hx
     have:x≠ia:=fnd.2.2.2 x (by simp [hx']) ia (by simp [hv])
     simp only [aBe,this,if_false]
     exact a1.li x hx
    ·intro x hx
     simp only [Option.some.injEq] at hx
     subst hx
     refine ⟨?_,by simp⟩
     simp only [aBe,if_true,aDx]
     simp [EH.vv,lvO,aAw,Arg.val,Arg.named,Arg.nm,vns,ln]
    ·simp only [EH.fp,Option.toList_none,Option.toList_some,List.append_nil,List.nodup_cons,List.mem_append,List.mem_singleton,not_or,List.nodup_append,List.nodup_nil,List.not_mem_nil,not_false_eq_true,and_true,true_and]
     refine ⟨⟨fnd.1.1,nai⟩,fnd.2.1,fun a ha b hb=>?_⟩
     subst hb
     exact fnd.2.2.2 a ha b (by simp [hv])
    ·intro x hx
     simp only [EH.fp,Option.toList_none,Option.toList_some,List.append_nil,List.mem_cons,List.mem_append,List.not_mem_nil,or_false] at hx ⊢
     rcases hx with hx | hx | hx
     ·exact .inl (.inl hx)
     ·exact .inl (.inr (.inl hx))
     ·exact .inl (.inr (.inr (by simp [hv,hx])))
    ·intro x hx
     simp only [EH.fp,Option.toList_none,Option.toList_some,List.append_nil,List.mem_cons,List.mem_append,List.not_mem_nil,or_false] at hx
     rcases hx with hx | hx | hx
     ·omega
     ·have:=flt x (by simp only [EH.fp,List.mem_cons,List.mem_append]; exact .inr (.inl (.inl hx))); omega
     ·omega
    ·refine ⟨hok.tag,hok.list,fun a hm=>?_⟩
     rcases List.mem_append.1 hm with hm | hm
     ·exact hok.args a (by rw [ha]; exact List.mem_append_left _ hm)
     ·simp only [List.mem_singleton] at hm
      subst hm
      exact ⟨hok'.2,fun n hn=>by simp [Arg.val] at hn⟩
  ·have he:eqF els=addS (tx [61]) els:=by rw [r9,eqF,if_neg (by omega)]
   simp only [push_cast,seval,-Nat.reducePow]
   refine aAa (els_eq he _ (by omega)) ?_
   rintro _ L' nx' ⟨f2,k0,k1,k2⟩
   exact ⟨by omega,f2,k1.grow (by omega) fun _ _=>rfl,k2.trans (Stp.grow (by omega) fun _ _=>rfl)⟩
theorem t75 (hf:Is75 P F T) (h78:Is78 P F T) (h80:Is80 P F T) (h69:Is69 P F T) (h70:Is70 P F T) (h59:Is59 P F T) (h106:aHb P F T) {L:Heap} {nx:Nat} {f:List Nat} {p:Nat} {e:El} {els:List El} (hs:Stk T false L nx f p (e::els)) (hb:pot (e::els)+3≤2^29)
 (hne:e.kind=1→els≠[]):ECall P (F 75) [.ptr p 0] L nx (Did T L nx f p (aPf (e::els))):=by
 obtain ⟨sid,jk,h,t,hp,r9⟩:=hs.split (by simp)
 have hlen:=aDg (e::els)
 have hel:(e::els).length=t.length+1:=by rw [r9]; simp
 have he:e=h.e:=(List.cons.inj r9).1
 simp only [pot] at hb hlen
 refine aB7 [] hf (by simp) ?_
 simp only [c75,push_cast,seval,-Nat.reducePow]
 refine aAa (t59 h59 (hp.grow (by omega)) (by omega)) ?_
 rintro _ _ n1 ⟨rfl,rfl,hn1⟩
 have hbx:=(hp.at_ h (by simp)).box
 simp only [EH.cells,← he] at hbx
 simp only [push_cast,seval,-Nat.reducePow,hbx]
 refine aAd (fun hk=>?_) (fun hk=>?_)
 ·have hk':e.kind=1:=by omega
  simp only [push_cast,seval,-Nat.reducePow]
  rename_i L1
  have hpp:e.pot=30+2*e.count+aAq e.list+aBb e.args+5*e.args.length:=rfl
  refine aAa (t78 h78 h59 (hs.grow (by omega) fun _ _=>rfl) (by simp only [pot]; omega)) ?_
  rintro _ L2 n2 ⟨f2,id,rfl,hid,hif,hbx2,hst,hsp⟩
  have q1:=hsp.le
  have hne':=hne hk'
  have himm:V.imms [.int .i64 e.kind,.int .i64 e.tag,.int .i64 e.count,ln 5 (vns e.list),ln 3 (vas e.args)]=true:=by simp [V.imms,V.imm,aD2,aA5,aC2]
  have a2:Stp L1 nx f L2 n2 f2:=(Stp.grow (by omega) fun _ _=>rfl).trans hsp
  simp only [push_cast,seval,-Nat.reducePow]
  refine aAa (t69 h69 h59 h106 (hst.grow (by omega) fun _ _=>rfl) [91,91] (by simp; omega) hne') ?_
  rintro _ L3 n3 ⟨f3,k1,k2⟩
  have q2:=k2.le
  have a3:=a2.trans ((Stp.grow (by omega) fun _ _=>rfl).trans k2)
  have b3:=k2.fr id _ _ (by omega) hif hbx2 himm
  have p3:=aBs (tx [91,91]) els
  have tb:∀ a b:UInt8,(tx [a,b]).bulk=3:=fun _ _=>rfl
  simp only [tb] at p3
  simp only [push_cast,seval,-Nat.reducePow,b3]
  refine aAa (t80 h80 h69 h70 h59 h106 (k1.grow (by omega) fun _ _=>rfl) e.list (by omega) (aEd hne')) ?_
  rintro _ L4 n4 ⟨f4,k3,k4⟩
  have q3:=k4.le
  have a4:=a3.trans ((Stp.grow (by omega) fun _ _=>rfl).trans k4)
  have p4:=aEy e.list (addS (tx [91,91]) els)
  simp only [push_cast,seval,-Nat.reducePow]
  refine aAa (t69 h69 h59 h106 (k3.grow (by omega) fun _ _=>rfl) [93,93] (by simp; omega) (aJm (aEd hne'))) ?_
  rintro _ L5 n5 ⟨f5,k5,k6⟩
  have q4:=k6.le
  have a5:=a4.trans ((Stp.grow (by omega) fun _ _=>rfl).trans k6)
  refine ⟨by omega,f5,?_,a5.trans (Stp.grow (by omega) fun _ _=>rfl)⟩
  rw [aPf,if_pos hk',aCh,aIb]
  exact k5.grow (by omega) fun _ _=>rfl
 ·have hk':e.kind≠1:=by omega
  simp only [push_cast,seval,-Nat.reducePow]
  refine aAa (t69 h69 h59 h106 (hs.grow (by omega) fun _ _=>rfl) [93,93] (by simp only [pot]; simp; omega) (by simp)) ?_
  rintro _ L' nx' ⟨f2,k1,k2⟩
  have:=k2.le
  refine ⟨by omega,f2,?_,(Stp.grow (by omega) fun _ _=>rfl).trans (k2.trans (Stp.grow (by omega) fun _ _=>rfl))⟩
  rw [aPf,if_neg hk']
  exact k1.grow (by omega) fun _ _=>rfl
def aDn:List El→Nat
 | []=>0
 | [_]=>0
 | e::b::r=>if e.kind=2 then 0 else if e.kind=3 then r.length+1 else aDn (b::r)
def aFw (k:Nat):List El→Nat
 | []=>0
 | [_]=>0
 | e::b::r=>if e.kind=2∧e.tag=k then r.length+1 else aFw k (b::r)
theorem aHo:∀ els:List El,(aAv els=none∧aDn els=0)∨∃ k,aAv els=some k∧aDn els+k+1=els.length∧0<aDn els
 | []=>.inl ⟨rfl,rfl⟩
 | [_]=>.inl ⟨rfl,rfl⟩
 | e::b::r=>by
   by_cases h2:e.kind=2
   ·exact .inl ⟨by simp [aAv,h2],by simp [aDn,h2]⟩
   ·by_cases h3:e.kind=3
    ·exact .inr ⟨0,by simp [aAv,h3],by simp [aDn,h3],by simp [aDn,h3]⟩
    ·rcases aHo (b::r) with ⟨g1,g2⟩ | ⟨k,g1,g2,g3⟩
     ·exact .inl ⟨by simp [aAv,h2,h3,g1],by simp [aDn,h2,h3,g2]⟩
     ·refine .inr ⟨k+1,by simp [aAv,h2,h3,g1],?_,?_⟩
      ·simp only [aDn,h2,h3,if_false,List.length_cons] at g2 ⊢; omega
      ·simp only [aDn,h2,h3,if_false]; exact g3
theorem aHu (t:Nat):∀ els:List El,(aDo t els=none∧aFw t els=0)∨∃ k,aDo t els=some k∧aFw t els+k+1=els.length∧0<aFw t els
 | []=>.inl ⟨rfl,rfl⟩
 | [_]=>.inl ⟨rfl,rfl⟩
 | e::b::r=>by
   by_cases h2:e.kind=2∧e.tag=t
   ·exact .inr ⟨0,by simp [aDo,h2],by simp [aFw,h2],by simp [aFw,h2]⟩
   ·rcases aHu t (b::r) with ⟨g1,g2⟩ | ⟨k,g1,g2,g3⟩
    ·exact .inl ⟨by simp only [aDo,if_neg h2,g1]; rfl,by simp only [aFw,if_neg h2,g2]⟩
    ·refine .inr ⟨k+1,by simp only [aDo,if_neg h2,g1]; rfl,?_,?_⟩
     ·simp only [aFw,if_neg h2,List.length_cons] at g2 ⊢; omega
     ·simp only [aFw,if_neg h2]; exact g3
theorem Stx.stkAt {z:Bool} {L:Heap} {nx:Nat} {f:List Nat} {p:Nat} {els:List El} {sid:Nat} {jk:List V} {a r:List EH} {h:EH} (hp:Stx T z L nx f p els sid jk (a++h::r)) :
 ∃ es,L sid=some (.vec (T 6) 1 es)∧es.getD r.length .junk=.ptr h.id 0∧a.length+r.length+1≤es.length:=by
 refine ⟨_,hp.stk,?_,by simp; omega⟩
 simp only [List.reverse_append,List.reverse_cons,List.map_append,List.map_cons,List.map_nil,List.append_assoc,List.singleton_append,List.cons_append]
 exact aD3 (by simp)
theorem t108 (hf:bBf P F T) {z:Bool} {L:Heap} {nx:Nat} {f:List Nat} {p:Nat} {els:List El} (hs:Stk T z L nx f p els) (hb:pot els≤2^30) (hne:els≠[]) :
 ECall P (F 108) [.ptr p 0] L nx fun r L' nx'=>r=.int .i64 (aDn els)∧L'=L∧nx≤nx':=by
 obtain ⟨sid,jk,h,t,hp,r9⟩:=hs.split hne
 have hlen:=aDg els
 have hel:els.length=t.length+1:=by rw [r9]; simp
 have hbx:=hp.box
 simp only [List.length_cons] at hbx
 have e1:((t.length:Nat):Int)+1-1=(t.length:Nat):=by omega
 refine aB7 [] hf (by simp) ?_
 simp only [c108,push_cast,seval,-Nat.reducePow,hbx,e1]
 refine ⟨by omega,?_⟩
 refine aAk (fun m s=>∃ a x r,h::t=a++x::r∧m=r.length∧s.env 0=.ptr p 0∧s.env 3=.int .i64 r.length∧aDn els=aDn ((x::r).map EH.e)∧s.L=L∧nx≤s.nx) t.length ⟨[],h,t,?_⟩ fun m s hJ=>?_
 ·simp only [push_cast,seval,-Nat.reducePow,r9]
  omega
 ·obtain ⟨a,x,r,hsp,rfl,j0,j3,hl,hL,hnx⟩:=hJ
  have hlt:r.length≤t.length:=by
   have:=congrArg List.length hsp
   simp at this; omega
  obtain ⟨es,s1,s2,s3⟩:=(hsp ▸ hp).stkAt
  have hx:=((hsp ▸ hp).at_ x (by simp)).box
  simp only [EH.cells] at hx
  cases r with
  | nil =>
    simp only [push_cast,seval,-Nat.reducePow,j0,j3,hL]
    exact ⟨by omega,by rw [hl]; rfl,by omega⟩
  | cons y r =>
    have hsl:a.length+r.length+1=t.length:=by
     have:=congrArg List.length hsp
     simp at this; omega
    simp only [List.length_cons] at s2 s3 hlt
    have e4:(0:Int)<((r.length:Nat):Int)+1:=by omega
    have e7:(((r.length:Nat):Int)+1).toNat=r.length+1:=by omega
    simp only [push_cast,seval,-Nat.reducePow,j0,j3,hL,hbx,s1,s2,hx,e4,e7]
    refine ⟨by omega,by omega,by omega,?_⟩
    refine aAd (fun hk=>?_) (fun hk=>?_)
    ·have hk':x.e.kind=2:=by omega
     simp only [push_cast,seval,-Nat.reducePow,j0,j3]
     exact ⟨by omega,by rw [hl]; simp [aDn,hk'],by omega⟩
    ·have hk':x.e.kind≠2:=by omega
     simp only [push_cast,seval,-Nat.reducePow,j0,j3,hL,hbx,s1,s2,hx,e4,e7]
     refine ⟨by omega,by omega,by omega,?_⟩
     refine aAd (fun hk3=>?_) (fun hk3=>?_)
     ·have hk3':x.e.kind=3:=by omega
      simp only [push_cast,seval,-Nat.reducePow,j0,j3]
      exact ⟨by omega,by rw [hl]; simp [aDn,hk3'],by omega⟩
     ·have hk3':x.e.kind≠3:=by omega
      have e8:((r.length:Nat):Int)+1-1=(r.length:Nat):=by omega
      simp only [push_cast,seval,-Nat.reducePow,j0,j3,e8]
      refine ⟨by omega,r.length,by omega,a++[x],y,r,by rw [hsp]; simp,rfl,rfl,?_,by omega⟩
      rw [hl]
      simp only [List.map_cons,aDn,hk',hk3',if_false]
end Go.Ab
namespace Go.Ab
variable {P:Program} {F T:Nat→Nat}
theorem aR7 {n:Node} {els:List El}:(addS n els).length=els.length:=by cases els <;> rfl
theorem aOl {l:List Node}:∀ {els:List El},(aC5 l els).length=els.length:=by
 induction l with
 | nil=>intro els; rfl
 | cons n r ih=>intro els; rw [aCh,ih,aR7]
theorem aDt {els:List El}:(flat1 els).length=els.length-1:=by cases els with | nil=>rfl | cons e r=>simp [flat1,aOl]
theorem aHz (els:List El):pot (flat1 els)≤pot els:=by
 cases els with
 | nil=>simp [flat1]
 | cons e r=>have h1:=aEy e.pieces r; have h2:=aJs e; simp only [flat1,pot]; omega
theorem aI1:∀ (k:Nat) {els:List El},(flatN k els).length=els.length-k
 | 0,els=>by simp [flatN]
 | k+1,els=>by rw [flatN,aI1 k,aDt]; omega
theorem aHl:∀ (k:Nat) (els:List El),pot (flatN k els)≤pot els
 | 0,els=>by simp [flatN]
 | k+1,els=>by rw [flatN]; exact Nat.le_trans (aHl k _) (aHz els)
theorem aH6 (h58:Is58 P F T) (h78:Is78 P F T) (h80:Is80 P F T) (h79:Is79 P F T) (h69:Is69 P F T) (h70:Is70 P F T) (h59:Is59 P F T) (h106:aHb P F T) (hR:Rpt P F) {L:Heap} {nx:Nat} {f:List Nat} {p:Nat} {els:List El}
 (hs:Stk T false L nx f p els) (hb:pot els≤2^29) (hl:2≤els.length):ECall P (F 58) [.ptr p 0] L nx (Did T L nx f p (flat1 els)):=by
 match els,hl with
 | e::b::r,_=>exact t58 h58 h78 h80 h79 h69 h70 h59 h106 hR hs hb (by simp)
theorem t76 (hf:Is76 P F T) (h58:Is58 P F T) (h78:Is78 P F T) (h80:Is80 P F T) (h79:Is79 P F T) (h69:Is69 P F T) (h70:Is70 P F T) (h59:Is59 P F T) (h106:aHb P F T) (hR:Rpt P F) {L:Heap} {nx:Nat} {f:List Nat} {p:Nat} {els:List El}
 (hs:Stk T false L nx f p els) (k:Nat) (s0:List UInt8) (hb:pot els+s0.length+1≤2^29) (hne:els≠[]) :
 ECall P (F 76) [.ptr p 0,.int .i64 k,.str s0] L nx (Did T L nx f p (tagF k s0 els)):=by
 obtain ⟨sid,jk,h,t,hp,r9⟩:=hs.split hne
 have hlen:=aDg els
 have hel:els.length=t.length+1:=by rw [r9]; simp
 have hbx:=hp.box
 simp only [List.length_cons] at hbx
 have e1:((t.length:Nat):Int)+1-1=(t.length:Nat):=by omega
 refine aB7 [] hf (by simp) ?_
 simp only [c76,push_cast,seval,-Nat.reducePow,hbx,e1]
 refine ⟨by omega,?_⟩
 refine aAk (fun m s=>∃ a x r,h::t=a++x::r∧m=r.length∧s.env 0=.ptr p 0∧s.env 1=.int .i64 k∧s.env 2=.str s0∧s.env 6=.int .i64 r.length∧aFw k els=aFw k ((x::r).map EH.e)∧s.L=L∧nx≤s.nx) t.length ⟨[],h,t,?_⟩ fun m s hJ=>?_
 ·simp only [push_cast,seval,-Nat.reducePow,r9]
  omega
 ·obtain ⟨a,x,r,hsp,rfl,j0,j1,j2,j6,hl,hL,hnx⟩:=hJ
  have hlt:r.length≤t.length:=by
   have:=congrArg List.length hsp
   simp at this; omega
  obtain ⟨es,s1,s2,s3⟩:=(hsp ▸ hp).stkAt
  have hx:=((hsp ▸ hp).at_ x (by simp)).box
  simp only [EH.cells] at hx
  -- the rest,once the place is known
  have rest:∀ n:Nat,n=aFw k els→0<n→∀ s':St,s'.env 0=.ptr p 0→s'.env 1=.int .i64 k→s'.env 6=.int .i64 n→s'.L=L→nx≤s'.nx→True:=fun _ _ _ _ _ _ _ _ _=>trivial
  cases r with
  | nil =>
    have h0:aDo k els=none:=by
     rcases aHu k els with ⟨g,_⟩ | ⟨j,g1,g2,g3⟩
     ·exact g
     ·rw [hl] at g3; simp [aFw] at g3
    simp only [push_cast,seval,-Nat.reducePow,j0,j1,j2,j6,hL]
    refine aAa (t69 h69 h59 h106 (hs.grow (by omega) fun _ _=>rfl) s0 (by omega) hne) ?_
    rintro _ L' nx' ⟨f2,k1,k2⟩
    have:=k2.le
    refine ⟨by omega,f2,?_,(Stp.grow (by omega) fun _ _=>rfl).trans (k2.trans (Stp.grow (by omega) fun _ _=>rfl))⟩
    rw [tagF,h0]
    exact k1.grow (by omega) fun _ _=>rfl
  | cons y r =>
    have hsl:a.length+r.length+1=t.length:=by
     have:=congrArg List.length hsp
     simp at this; omega
    simp only [List.length_cons] at s2 s3 hlt
    have e4:(0:Int)<((r.length:Nat):Int)+1:=by omega
    have e7:(((r.length:Nat):Int)+1).toNat=r.length+1:=by omega
    have e8:((r.length:Nat):Int)+1-1=(r.length:Nat):=by omega
    have next:¬ (x.e.kind=2∧x.e.tag=k)→aFw k els=aFw k ((y::r).map EH.e):=fun hn=>by
     rw [hl]; simp only [List.map_cons,aFw,if_neg hn]
    simp only [push_cast,seval,-Nat.reducePow,j0,j1,j6,hL,hbx,s1,s2,hx,e4,e7]
    refine ⟨by omega,by omega,by omega,?_⟩
    refine aAd (fun hk=>?_) (fun hk=>?_)
    ·have hk':x.e.kind=2:=by omega
     simp only [push_cast,seval,-Nat.reducePow,j0,j1,j6,hL,hbx,s1,s2,hx,e4,e7]
     refine ⟨by omega,by omega,by omega,?_⟩
     refine aAd (fun hk3=>?_) (fun hk3=>?_)
     ·have hk3':x.e.tag=k:=by omega
      obtain ⟨jx,g1,g2⟩:∃ jx,aDo k els=some jx∧r.length+1+jx+1=els.length:=by
       have hlt:aFw k els=r.length+1:=by rw [hl]; simp [aFw,hk',hk3']
       rcases aHu k els with ⟨_,g⟩ | ⟨j,g1,g2,g3⟩
       ·omega
       ·exact ⟨j,g1,by omega⟩
      simp only [push_cast,seval,-Nat.reducePow,j0,j1,j2,j6,hL]
      refine aAd (fun hz=>by omega) (fun hz=>?_)
      simp only [push_cast,seval,-Nat.reducePow,j0,j1,j2,j6,hL]
      refine aAk (fun m s=>∃ f' els',m=els'.length∧r.length+2≤els'.length∧flatN (els'.length-(r.length+2)) els'=flatN jx els∧pot els'≤pot els∧s.env 0=.ptr p 0∧s.env 1=.int .i64 k∧s.env 6=.int .i64 ((r.length:Int)+1)∧Stk T false s.L s.nx f' p els'∧Stp L nx f s.L s.nx f') els.length ⟨f,els,?_⟩ fun m s2 hJ=>?_
      ·simp only [push_cast,seval,-Nat.reducePow,j0,j1,j6,hL]
       refine ⟨by omega,by rw [show els.length-(r.length+2)=jx by omega],hs.grow (by omega) fun _ _=>rfl,Stp.grow (by omega) fun _ _=>rfl⟩
      ·obtain ⟨f2,els2,rfl,u1,u2,u3,i0,i1,i6,st2,sp2⟩:=hJ
       have hle2:=sp2.le
       have hne2:els2≠[]:=by intro e; rw [e] at u1; simp at u1
       obtain ⟨sid2,jk2,h2,t2,hp2,r92⟩:=st2.split hne2
       have hel2:els2.length=t2.length+1:=by rw [r92]; simp
       have hbx2:=hp2.box
       simp only [List.length_cons] at hbx2
       have hlen2:=aDg els2
       simp only [push_cast,seval,-Nat.reducePow,i0,i1,i6,hbx2]
       refine ⟨by omega,?_⟩
       refine aAd (fun hc=>?_) (fun hc=>?_)
       ·simp only [push_cast,seval,-Nat.reducePow,i0,i1,i6]
        refine aAa (aH6 h58 h78 h80 h79 h69 h70 h59 h106 hR (st2.grow (by omega) fun _ _=>rfl) (by omega) (by omega)) ?_
        rintro _ L3 n3 ⟨f3,k1,k2⟩
        have q:=k2.le
        simp only [push_cast,seval,-Nat.reducePow,i0,i1,i6]
        have fl:(flat1 els2).length=els2.length-1:=aDt
        refine ⟨(flat1 els2).length,by omega,f3,flat1 els2,rfl,by omega,?_,Nat.le_trans (aHz _) u3,k1.grow (by omega) fun _ _=>rfl,sp2.trans ((Stp.grow (by omega) fun _ _=>rfl).trans (k2.trans (Stp.grow (by omega) fun _ _=>rfl)))⟩
        rw [← u2,show els2.length-(r.length+2)=(flat1 els2).length-(r.length+2)+1 by omega]
        rfl
       ·have h0:els2.length-(r.length+2)=0:=by omega
        rw [h0,flatN] at u2
        obtain ⟨e2,b2,q2,hq⟩:∃ e2 b2 q2,els2=e2::b2::q2:=by
         match els2,u1 with
         | a::b::c,_=>exact ⟨a,b,c,rfl⟩
        subst hq
        simp only [push_cast,seval,-Nat.reducePow,i0,i1,i6]
        refine aAa (t78 h78 h59 (st2.grow (by omega) fun _ _=>rfl) (by omega)) ?_
        rintro _ L3 n3 ⟨f3,id,rfl,hid,hif,hbx3,hst3,hsp3⟩
        have q:=hsp3.le
        simp only [push_cast,seval,-Nat.reducePow,i0,i1,i6,hbx3]
        refine aAa (t70 h70 h59 h106 (hst3.grow (by omega) fun _ _=>rfl) (.mk 6 k [] e2.list []) (by simp [Node.kind]) (by simp only [pot] at u3 ⊢; omega) (by simp)) ?_
        rintro _ L4 n4 ⟨f4,k1,k2⟩
        have q4:=k2.le
        refine ⟨by omega,f4,?_,sp2.trans ((Stp.grow (by omega) fun _ _=>rfl).trans (hsp3.trans ((Stp.grow (by omega) fun _ _=>rfl).trans (k2.trans (Stp.grow (by omega) fun _ _=>rfl)))))⟩
        rw [tagF,g1]
        simp only [← u2]
        exact k1.grow (by omega) fun _ _=>rfl
     ·simp only [push_cast,seval,-Nat.reducePow,j0,j1,j2,j6,e8,hL]
      refine ⟨by omega,r.length,by omega,a++[x],y,r,by rw [hsp]; simp,rfl,rfl,?_,by omega⟩
      exact next fun hh=>hk3 (by have:=hh.2; omega)
    ·simp only [push_cast,seval,-Nat.reducePow,j0,j1,j2,j6,e8,hL]
     refine ⟨by omega,r.length,by omega,a++[x],y,r,by rw [hsp]; simp,rfl,rfl,?_,by omega⟩
     exact next fun hh=>hk (by have:=hh.1; omega)
def kc (els:List El):List (Nat×Nat):=els.map fun e=>(e.kind,e.count)
def Cn (els:List El):Prop:=∀ q,q∈kc els→q.1=3→2≤q.2
theorem aFu {n:Node} {els:List El}:kc (addS n els)=kc els:=by
 cases els with
 | nil=>rfl
 | cons e r=>simp only [addS,El.add_cur,kc,List.map_cons,El.setCur]; split <;> rfl
theorem aQo {l:List Node}:∀ {els:List El},kc (aC5 l els)=kc els:=by
 induction l with
 | nil=>intro els; rfl
 | cons n r ih=>intro els; rw [aCh,ih,aFu]
theorem bBq {els:List El}:kc (flat1 els)=(kc els).drop 1:=by
 cases els with
 | nil=>rfl
 | cons e r=>have:=aQo (l:=e.pieces) (els:=r); simpa [flat1,kc] using this
theorem aMf:∀ (k:Nat) {els:List El},kc (flatN k els)=(kc els).drop k
 | 0,els=>by simp [flatN]
 | k+1,els=>by rw [flatN,aMf k,bBq,List.drop_drop,Nat.add_comm]
theorem Cn.drop {els els':List El} {k:Nat} (h:Cn els) (he:kc els'=(kc els).drop k):Cn els':=fun q hq=>h q (List.mem_of_mem_drop (he ▸ hq))
theorem aHe:∀ {els:List El} {k:Nat},aAv els=some k→∃ c,(kc els)[k]?=some (3,c)
 | [],k,h=>by simp [aAv] at h
 | [_],k,h=>by simp [aAv] at h
 | e::b::r,k,h=>by
   by_cases h2:e.kind=2
   ·simp [aAv,h2] at h
   ·by_cases h3:e.kind=3
    ·simp [aAv,h3] at h; subst h; exact ⟨e.count,by simp [kc,h3]⟩
    ·simp only [aAv,h2,h3,if_false,Option.map_eq_some_iff] at h
     obtain ⟨j,hj,rfl⟩:=h
     obtain ⟨c,hc⟩:=aHe hj
     exact ⟨c,by simpa [kc] using hc⟩
theorem aRt {n c:Nat} {st:List El} (h:c<2∨aAv st=none):aB9 n c st=addS (tx (List.replicate c 125)) st:=by
 cases n with
 | zero=>rfl
 | succ n =>
   rw [aB9]
   split
   ·rcases h with h | h
    ·omega
    ·rw [h]
   ·rfl
theorem t77 (hf:Is77 P F T) (h108:bBf P F T) (h58:Is58 P F T) (h78:Is78 P F T) (h80:Is80 P F T) (h79:Is79 P F T) (h69:Is69 P F T) (h70:Is70 P F T) (h59:Is59 P F T) (h106:aHb P F T) (hR:Rpt P F) {L:Heap} {nx:Nat} {f:List Nat} {p:Nat} {els:List El}
 (hs:Stk T false L nx f p els) (c:Nat) (hb:pot els+c+1≤2^28) (hne:els≠[]) (hcn:Cn els) :
 ECall P (F 77) [.ptr p 0,.int .i64 c] L nx (Did T L nx f p (aB9 c c els)):=by
 refine aB7 [] hf (by simp) ?_
 simp only [c77,push_cast,seval,-Nat.reducePow]
 refine aAk (fun m s=>∃ f' els' n,n≤c∧m≤n∧aB9 n m els'=aB9 c c els∧pot els'≤pot els∧els'≠[]∧Cn els'∧s.env 0=.ptr p 0∧s.env 1=.int .i64 m∧Stk T false s.L s.nx f' p els'∧Stp L nx f s.L s.nx f') c ⟨f,els,c,?_⟩ fun m s hJ=>?_
 ·simp only [push_cast,seval,-Nat.reducePow]
  exact ⟨hne,hcn,hs,Stp.refl _ _ _⟩
 ·obtain ⟨f1,els1,n,hn,hm,hcl,hp1,hne1,hcn1,j0,j1,st1,sp1⟩:=hJ
  have hle1:=sp1.le
  -- how it ends
  have ends:(m<2∨aAv els1=none)→∀ k,s.nx≤k→ECall P (F 69) [.ptr p 0,.str (List.replicate m 125)] s.L k fun _ L' nx'=>∃ f',nx≤nx'∧Stk T false L' nx' f' p (aB9 c c els)∧Stp L nx f L' nx' f':=fun he k hk=>by
   refine (t69 h69 h59 h106 (st1.grow hk fun _ _=>rfl) (List.replicate m 125) (by simp; omega) hne1).mono ?_
   rintro _ L' nx' ⟨f2,k1,k2⟩
   have:=k2.le
   exact ⟨f2,by omega,by rw [← hcl,aRt he]; exact k1,sp1.trans ((Stp.grow hk fun _ _=>rfl).trans k2)⟩
  simp only [push_cast,seval,-Nat.reducePow,j0,j1]
  refine aAd (fun hc=>?_) (fun hc=>?_)
  ·simp only [push_cast,seval,-Nat.reducePow,j0,j1]
   refine aAa (t108 h108 (st1.grow (by omega) fun _ _=>rfl) (by omega) hne1) ?_
   rintro _ L1 n1 ⟨rfl,hL1,hn1⟩
   simp only [push_cast,seval,-Nat.reducePow,j0,j1]
   refine aAd (fun hz=>?_) (fun hz=>?_)
   ·have hz':aDn els1=0:=by omega
    have hbi:aAv els1=none:=by
     rcases aHo els1 with ⟨g,_⟩ | ⟨k,g1,g2,g3⟩
     ·exact g
     ·omega
    simp only [push_cast,seval,-Nat.reducePow,j0,j1]
    refine aAc (hR 125 m (by omega)) (by simp only [push_cast,seval,-Nat.reducePow]) (by simp only [push_cast,seval,-Nat.reducePow]) ?_
    simp only [push_cast,seval,-Nat.reducePow,j0,j1]
    rw [hL1]
    refine aAa (ends (.inr hbi) _ (by omega)) ?_
    rintro _ L' nx' ⟨f2,k0,k1,k2⟩
    exact ⟨by omega,f2,k1.grow (by omega) fun _ _=>rfl,k2.trans (Stp.grow (by omega) fun _ _=>rfl)⟩
   ·obtain ⟨kx,g1,g2,g3⟩:∃ k,aAv els1=some k∧aDn els1+k+1=els1.length∧0<aDn els1:=by
     rcases aHo els1 with ⟨_,g⟩ | h
     ·omega
     ·exact h
    simp only [push_cast,seval,-Nat.reducePow,j0,j1]
    refine aAk (fun x s=>∃ f' els',x=els'.length∧aDn els1+1≤els'.length∧flatN (els'.length-(aDn els1+1)) els'=flatN kx els1∧pot els'≤pot els1∧s.env 0=.ptr p 0∧s.env 1=.int .i64 m∧s.env 4=.int .i64 (aDn els1)∧Stk T false s.L s.nx f' p els'∧Stp L nx f s.L s.nx f') els1.length ⟨f1,els1,?_⟩ fun x s2 hJ=>?_
    ·simp only [push_cast,seval,-Nat.reducePow,j0,j1,hL1]
     refine ⟨by omega,by rw [show els1.length-(aDn els1+1)=kx by omega],st1.grow (by omega) fun _ _=>rfl,sp1.trans (Stp.grow (by omega) fun _ _=>rfl)⟩
    ·obtain ⟨f2,els2,rfl,u1,u2,u3,i0,i1,i4,st2,sp2⟩:=hJ
     have hle2:=sp2.le
     have hne2:els2≠[]:=by intro e; rw [e] at u1; simp at u1
     obtain ⟨sid2,jk2,h2,t2,hp2,r92⟩:=st2.split hne2
     have hel2:els2.length=t2.length+1:=by rw [r92]; simp
     have hbx2:=hp2.box
     simp only [List.length_cons] at hbx2
     have hlen2:=aDg els2
     have hlen1:=aDg els1
     simp only [push_cast,seval,-Nat.reducePow,i0,i1,i4,hbx2]
     refine ⟨by omega,?_⟩
     refine aAd (fun hc2=>?_) (fun hc2=>?_)
     ·simp only [push_cast,seval,-Nat.reducePow,i0,i1,i4]
      refine aAa (aH6 h58 h78 h80 h79 h69 h70 h59 h106 hR (st2.grow (by omega) fun _ _=>rfl) (by omega) (by omega)) ?_
      rintro _ L3 n3 ⟨f3,k1,k2⟩
      have q:=k2.le
      simp only [push_cast,seval,-Nat.reducePow,i0,i1,i4]
      have fl:(flat1 els2).length=els2.length-1:=aDt
      refine ⟨(flat1 els2).length,by omega,f3,flat1 els2,rfl,by omega,?_,Nat.le_trans (aHz _) u3,k1.grow (by omega) fun _ _=>rfl,sp2.trans ((Stp.grow (by omega) fun _ _=>rfl).trans (k2.trans (Stp.grow (by omega) fun _ _=>rfl)))⟩
      rw [← u2,show els2.length-(aDn els1+1)=(flat1 els2).length-(aDn els1+1)+1 by omega]
      rfl
     ·have h0:els2.length-(aDn els1+1)=0:=by omega
      rw [h0,flatN] at u2
      have hkc:=aMf kx (els:=els1)
      rw [← u2] at hkc
      have hcn2:Cn els2:=hcn1.drop hkc
      have hk3:h2.e.kind=3:=by
       obtain ⟨cc,hcc⟩:=aHe g1
       have:(kc els2)[0]?=some (3,cc):=by rw [hkc,List.getElem?_drop]; simpa using hcc
       rw [r92] at this
       simp only [kc,List.map_cons,List.getElem?_cons_zero,Option.some.injEq,Prod.mk.injEq] at this
       exact this.1
      have hct:2≤h2.e.count:=hcn2 (h2.e.kind,h2.e.count) (by rw [r92]; simp [kc]) hk3
      have htl:t2≠[]:=by intro e; rw [e] at hel2; simp at hel2; omega
      simp only [push_cast,seval,-Nat.reducePow,i0,i1,i4]
      refine aAa (t59 h59 (hp2.grow (by omega)) (by omega)) ?_
      rintro _ L3 n3 ⟨rfl,hL3,hn3⟩
      have hbe:=(hp2.at_ h2 (by simp)).box
      simp only [EH.cells] at hbe
      rw [← hL3] at hbe hp2 st2 sp2
      simp only [push_cast,seval,-Nat.reducePow,i0,i1,i4]
      refine aE2 (fun s=>s.env 0=.ptr p 0∧s.env 1=.int .i64 m∧s.env 5=.ptr h2.id 0∧s.env 6=.int .i64 (useK m h2.e.count)∧s.env 7=.int .i64 ((if useK m h2.e.count=3 then 5 else 4:Nat))∧s.L=L3∧n3≤s.nx) ?_ ?_
      ·simp only [push_cast,seval,-Nat.reducePow,i0,i1,hbe]
       refine aAd (fun hm3=>?_) (fun hm3=>?_)
       ·simp only [push_cast,seval,-Nat.reducePow,i0,i1,hbe]
        refine aAd (fun hm4=>?_) (fun hm4=>?_)
        ·have:useK m h2.e.count=3:=by unfold useK; rw [if_pos (by omega)]
         simp only [push_cast,seval,-Nat.reducePow,i0,i1,hbe,this]
         omega
        ·have:useK m h2.e.count=2:=by unfold useK; rw [if_neg (by omega)]
         simp only [push_cast,seval,-Nat.reducePow,i0,i1,hbe,this]
         omega
       ·have:useK m h2.e.count=2:=by unfold useK; rw [if_neg (by omega)]
        simp only [push_cast,seval,-Nat.reducePow,i0,i1,hbe,this]
        omega
      ·rintro s3 ⟨v0,v1,v5,v6,v7,vL,vn⟩
       obtain ⟨qk,hqk⟩:∃ q,useK m h2.e.count=q:=⟨_,rfl⟩
       have hq1:2≤qk∧qk≤3∧qk≤m∧qk≤h2.e.count:=by
        rw [← hqk]; unfold useK; split <;> omega
       rw [hqk] at v6 v7
       have hp3:Stx T false s3.L s3.nx f2 p els2 sid2 jk2 (h2::t2):=by rw [vL]; exact hp2.grow (by omega)
       simp only [push_cast,seval,-Nat.reducePow]
       refine Exists.elim (frzT (s:=s3) hp3) fun s' hh=>Exists.elim hh fun F' fz=>⟨s',fz.fz,?_⟩
       have y0:=(fz.env 0 (by rw [v0]; rfl)).trans v0
       have y1:=(fz.env 1 (by rw [v1]; rfl)).trans v1
       have y5:=(fz.env 5 (by rw [v5]; rfl)).trans v5
       have y6:=(fz.env 6 (by rw [v6]; rfl)).trans v6
       have y7:=(fz.env 7 (by rw [v7]; rfl)).trans v7
       obtain ⟨jk',hp'⟩:=fz.st
       have hnx:=fz.nx
       have hst:=fz.stp
       have a1:=hp'.at_ _ (List.mem_cons_self)
       have b1:=a1.box
       simp only [EH.cells,EH.lv,EH.av,lvO] at b1
       obtain ⟨fnd,flt⟩:=hp'.fpnd
       have tid:h2.id<s3.nx:=flt h2.id (by simp [EH.fp])
       have x1:h2.id≠s3.nx+8:=by omega
       have x1':s3.nx+8≠h2.id:=by omega
       have em:(m:Int)-(qk:Nat)=((m-qk:Nat):Nat):=by omega
       have ec:(h2.e.count:Int)-(qk:Nat)=((h2.e.count-qk:Nat):Nat):=by omega
       have hnode:(useN m h2.e).vs=[.int .i64 ((if qk=3 then 5 else 4:Nat)),.int .i64 0,.str [],ln 5 (vns h2.e.list),ln 3 (vas h2.e.args)]:=by
        simp only [useN,hqk,Node.vs]; split <;> rfl
       have hni:V.imms (useN m h2.e).vs=true:=aMg _
       simp only [push_cast,seval,-Nat.reducePow,y0,y1,y5,y6,y7,hnx,b1,x1,x1',em,ec]
       have hpt2:pot els2=h2.e.pot+pot (t2.map EH.e):=by rw [r92]; rfl
       have hpe2:h2.e.pot=30+2*h2.e.count+aAq h2.e.list+aBb h2.e.args+5*h2.e.args.length:=rfl
       have hun:(useN m h2.e).bulk=aAq h2.e.list+aBb h2.e.args+1:=by simp [useN,Node.bulk]
       have hukd:(useN m h2.e).kind≠1:=by simp only [useN,Node.kind]; split <;> simp
       obtain ⟨n',rfl⟩:∃ n',n=n'+1:=⟨n-1,by omega⟩
       have hcl2:aB9 (n'+1) m els1=if 2≤h2.e.count-qk then aB9 n' (m-qk) ({ h2.e with count:=h2.e.count-qk,list:=[useN m h2.e],args:=[] }::t2.map EH.e)
        else aB9 n' (m-qk) (addS (useN m h2.e) (if h2.e.count-qk=1 then addS (tx [123]) (t2.map EH.e) else t2.map EH.e)):=by
        rw [aB9,if_pos (by omega),g1]
        simp only [← u2,r92,hqk]
       have sp3:Stp L nx f s'.L s3.nx F':=by
        refine sp2.trans ?_
        have e3:Stp L3 s2.nx f2 s3.L s3.nx f2:=Stp.grow (by omega) fun _ _=>by rw [vL]
        exact e3.trans hst
       have hok2:h2.e.ok:=hp2.ok _ (by rw [r92]; simp)
       refine ⟨by omega,by omega,?_⟩
       refine aAd (fun hcc=>?_) (fun hcc=>?_)
       ·have x2:h2.id≠s3.nx+409:=by omega
        have x2':s3.nx+409≠h2.id:=by omega
        rw [if_pos (by omega)] at hcl2
        simp only [push_cast,seval,-Nat.reducePow,y0,y1,y5,y6,y7,hnx,b1,x1,x1',x2,x2',em,ec]
        have aux:∀ M:Heap,M h2.id=some (.box (T 5) [.int .i64 h2.e.kind,.int .i64 h2.e.tag,.int .i64 ((h2.e.count-qk:Nat)),.own (s3.nx+409) 5 0 1,.nils])→M (s3.nx+409)=some (.vec (T 0) 5 [.agg (useN m h2.e).vs])→(∀ i,i<s3.nx→i≠h2.id→M i=s'.L i) →
         ∃ f' els' n,n≤c∧m-qk≤n∧aB9 n (m-qk) els'=aB9 c c els∧pot els'≤pot els∧¬ els'=[]∧Cn els'∧V.int .i64 ((m-qk:Nat):Int)=V.int .i64 ((m-qk:Nat):Int)∧Stk T false M (s3.nx+430) f' p els'∧Stp L nx f M (s3.nx+430) f':=by
         intro M M1 M2 M3
         have key:∃ f4,Stk T false M (s3.nx+430) f4 p ({ h2.e with count:=h2.e.count-qk,list:=[useN m h2.e],args:=[] }::t2.map EH.e)∧Stp s'.L s3.nx F' M (s3.nx+430) f4:=by
          refine hp'.top (z':=false) (h':=⟨{ h2.e with count:=h2.e.count-qk,list:=[useN m h2.e],args:=[] },h2.id,some (s3.nx+409),none,none⟩) (fun i g1 g2=>M3 i g1 fun e=>g2 (by simp [EH.fp,e])) ⟨M1,?_,fun i hi=>by simp at hi,fun i hi=>by simp at hi⟩ (fun _=>⟨fun e=>by simp at e,fun _=>rfl,fun _=>rfl⟩) rfl ?_ ?_ ?_ (by omega) ?_
          ·intro i hi
           simp only [Option.some.injEq] at hi
           subst hi
           exact ⟨M2,by simp⟩
          ·simp only [EH.fp,Option.toList_some,Option.toList_none,List.append_nil,List.nodup_cons,List.mem_singleton,List.not_mem_nil,not_false_eq_true,List.nodup_nil,and_true]
           omega
          ·intro i hi
           simp only [EH.fp,Option.toList_none,Option.toList_some,List.append_nil,List.mem_cons,List.not_mem_nil,or_false] at hi ⊢
           rcases hi with hi | hi
           ·exact .inl hi
           ·exact .inr (by omega)
          ·intro i hi
           simp only [EH.fp,Option.toList_none,Option.toList_some,List.append_nil,List.mem_cons,List.not_mem_nil,or_false] at hi
           omega
          ·refine ⟨hok2.tag,fun x hx=>?_,fun a ha=>by simp at ha⟩
           simp only [List.mem_singleton] at hx
           subst hx
           simp only [useN,Node.tn]
           split <;> (intro e; simp at e)
         obtain ⟨f4,k1,k2⟩:=key
         refine ⟨f4,_,n',by omega,by omega,?_,?_,?_,?_,rfl,k1,sp3.trans k2⟩
         ·rw [← hcl2]; exact hcl
         ·simp only [pot,El.pot,aAq,aBb,hun,List.length_nil]
          omega
         ·simp
         ·intro q hq hq3
          simp only [kc,List.map_cons,List.mem_cons] at hq
          rcases hq with rfl | hq
          ·show 2≤h2.e.count-qk
           omega
          ·exact hcn2 q (by rw [r92]; simp only [kc,List.map_cons,List.mem_cons]; exact .inr hq) hq3
        refine ⟨m-qk,by omega,aux _ ?_ ?_ ?_⟩
        ·simp only [aBe,if_true]
        ·rw [hnode]; simp only [aBe,x2',if_false,if_true]
        ·intro i g1 g2
         simp only [aBe,g2,show i≠s3.nx+8 by omega,show i≠s3.nx+409 by omega,if_false]
       ·rw [if_neg (by omega)] at hcl2
        simp only [push_cast,seval,-Nat.reducePow,y0,y1,y5,y6,y7,hnx,b1,x1,x1',em,ec]
        have x8:∀ i,i∈F'→i<s3.nx:=hp'.lt
        have aux:∀ M:Heap,M (s3.nx+8)=some (Blk.box (T 0) (useN m h2.e).vs)→M h2.id=some (Blk.box (T 5) [.int .i64 h2.e.kind,.int .i64 h2.e.tag,.int .i64 ((h2.e.count-qk:Nat)),ln 5 (vns h2.e.list),ln 3 (vas h2.e.args)])→(∀ i,i<s3.nx→i≠h2.id→M i=s'.L i) →
         ECall P (F 78) [.ptr p 0] M (s3.nx+430) fun r L5 n5=>∃ f5,s3.nx+430≤n5∧Stk T false L5 n5 f5 p (t2.map EH.e)∧Stp L nx f L5 n5 f5∧L5 (s3.nx+8)=some (Blk.box (T 0) (useN m h2.e).vs)∧s3.nx+8∉f5 ∧
          L5 h2.id=some (.box (T 5) [.int .i64 h2.e.kind,.int .i64 h2.e.tag,.int .i64 ((h2.e.count-qk:Nat)),ln 5 (vns h2.e.list),ln 3 (vas h2.e.args)]):=by
         intro M M1 M2 M3
         obtain ⟨f4,k1,k2⟩:=hp'.topx (z':=true) (h':=⟨{ h2.e with count:=h2.e.count-qk },h2.id,none,none,none⟩) (L':=M) (nx':=s3.nx+430) (fun i g1 g2=>M3 i g1 fun e=>g2 (by simp [EH.fp,e])) ⟨M2,fun i hi=>by simp at hi,fun i hi=>by simp at hi,fun i hi=>by simp at hi⟩ (fun e=>by simp at e) rfl (by simp [EH.fp]) (fun i hi=>.inl hi) (fun i hi=>by have:=flt i hi; omega) (by omega) ⟨hok2.tag,hok2.list,hok2.args⟩
         have hff:f4=F':=by rw [k1.foot,hp'.foot]; rfl
         subst hff
         have sp4:=sp3.trans k2
         refine (t78x h78 h59 k1 (by simp only [pot,El.pot]; omega)).mono ?_
         rintro _ L5 n5 ⟨f5,rfl,h5a,h5b,h5c,st5,sp5⟩
         have q5:=sp5.le
         exact ⟨f5,by omega,st5,sp4.trans sp5,sp5.fr (s3.nx+8) (T 0) _ (by omega) (fun h=>by have:=x8 _ h; omega) M1 hni,fun h=>(sp5.sub _ h).elim (fun h=>by have:=x8 _ h; omega) fun h=>by omega,h5c⟩
        refine aAa (aux _ ?_ ?_ ?_) ?_
        ·rw [hnode]; simp only [aBe,x1',if_false,if_true]
        ·simp only [aBe,if_true]
        ·intro i g1 g2
         simp only [aBe,g2,show i≠s3.nx+8 by omega,if_false]
        rintro _ L5 n5 ⟨f5,q5,st5,sp05,b5,hf5,h5c⟩
        have hne5:t2.map EH.e≠[]:=by simpa using htl
        have hcl3:=hcl.symm.trans hcl2
        have hkc5:kc (t2.map EH.e)=(kc els2).drop 1:=by rw [r92]; rfl
        have hcn5:Cn (t2.map EH.e):=hcn2.drop hkc5
        simp only [push_cast,seval,-Nat.reducePow,y0,y1,y5,y6,y7,hnx,h5c,em,ec]
        refine aAd (fun hc1=>?_) (fun hc1=>?_)
        ·have hc1':h2.e.count-qk=1:=by omega
         rw [if_pos hc1'] at hcl3
         simp only [push_cast,seval,-Nat.reducePow,y0,y1,y5,y6,y7,hnx]
         refine aAa (t69 h69 h59 h106 (st5.grow (by omega) fun _ _=>rfl) [123] (by simp; omega) hne5) ?_
         rintro _ L6 n6 ⟨f6,k3,k4⟩
         have q6:=k4.le
         have sp06:=sp05.trans ((Stp.grow (by omega) fun _ _=>rfl).trans k4)
         have b6:=k4.fr (s3.nx+8) (T 0) _ (by omega) hf5 b5 hni
         have p6:=aBs (tx [123]) (t2.map EH.e)
         have tb:(tx [123]).bulk=2:=rfl
         rw [hnode] at b6
         simp only [push_cast,seval,-Nat.reducePow,y0,y1,y5,y6,y7,hnx,b6]
         rw [← hnode]
         refine aAa (t70 h70 h59 h106 (k3.grow (by omega) fun _ _=>rfl) (useN m h2.e) hukd (by omega) (aEd hne5)) ?_
         rintro _ L7 n7 ⟨f7,k5,k6⟩
         have q7:=k6.le
         have sp07:=sp06.trans ((Stp.grow (by omega) fun _ _=>rfl).trans k6)
         have p7:=aBs (useN m h2.e) (addS (tx [123]) (t2.map EH.e))
         simp only [push_cast,seval,-Nat.reducePow,y0,y1]
         refine ⟨m-qk,by omega,f7,_,n',by omega,by omega,hcl3.symm,by omega,aEd (aEd hne5),?_,rfl,k5.grow (by omega) fun _ _=>rfl,sp07.trans (Stp.grow (by omega) fun _ _=>rfl)⟩
         intro q hq
         rw [aFu,aFu] at hq
         exact hcn5 q hq
        ·have hc1':¬ h2.e.count-qk=1:=by omega
         rw [if_neg hc1'] at hcl3
         rw [hnode] at b5
         simp only [push_cast,seval,-Nat.reducePow,y0,y1,y5,y6,y7,hnx,b5]
         rw [← hnode]
         refine aAa (t70 h70 h59 h106 (st5.grow (by omega) fun _ _=>rfl) (useN m h2.e) hukd (by omega) hne5) ?_
         rintro _ L7 n7 ⟨f7,k5,k6⟩
         have q7:=k6.le
         have sp07:=sp05.trans ((Stp.grow (by omega) fun _ _=>rfl).trans k6)
         have p7:=aBs (useN m h2.e) (t2.map EH.e)
         simp only [push_cast,seval,-Nat.reducePow,y0,y1]
         refine ⟨m-qk,by omega,f7,_,n',by omega,by omega,hcl3.symm,by omega,aEd hne5,?_,rfl,k5.grow (by omega) fun _ _=>rfl,sp07.trans (Stp.grow (by omega) fun _ _=>rfl)⟩
         intro q hq
         rw [aFu] at hq
         exact hcn5 q hq
  ·simp only [push_cast,seval,-Nat.reducePow,j0,j1]
   refine aAc (hR 125 m (by omega)) (by simp only [push_cast,seval,-Nat.reducePow]) (by simp only [push_cast,seval,-Nat.reducePow]) ?_
   simp only [push_cast,seval,-Nat.reducePow,j0,j1]
   refine aAa (ends (.inl (by omega)) _ (by omega)) ?_
   rintro _ L' nx' ⟨f2,k0,k1,k2⟩
   exact ⟨by omega,f2,k1.grow (by omega) fun _ _=>rfl,k2.trans (Stp.grow (by omega) fun _ _=>rfl)⟩
end Go.Ab
namespace Go.Ab
variable {P:Program} {F T:Nat→Nat}
def Tok.vs (t:Tok):List V:=[.int .i64 t.kind,.int .i64 t.fr,.int .i64 t.to]
structure TokFns (P:Program) (F:Nat→Nat):Prop where
 text:∀ (s:List UInt8) (t:Tok),t.fr≤t.to→t.to≤s.length→s.length≤8192→PTr P (F 68) [.str s,.agg t.vs] (.str (t.text s))
 tag:∀ (s:List UInt8) (t:Tok),t.fr≤t.to→t.to≤s.length→s.length≤8192→(t.kind=11→∃ k,1≤k∧k≤3∧t.text s=tagO k)→(t.kind=12→∃ k,1≤k∧k≤3∧t.text s=tagC k)→PTr P (F 72) [.str s,.agg t.vs] (.int .i64 (t.tag s))
structure Tok.wf (s:List UInt8) (t:Tok):Prop where
 kind:1≤t.kind∧t.kind≤12
 lt:t.fr<t.to
 le:t.to≤s.length
 wiki:t.kind=10→17≤(t.text s).length
 tag:t.kind=11→1≤t.tag s∧t.tag s≤3
 open_:t.kind=3→2≤(t.text s).length
 tagO:t.kind=11→∃ k,1≤k∧k≤3∧t.text s=Go.Ab.tagO k
 tagC:t.kind=12→∃ k,1≤k∧k≤3∧t.text s=Go.Ab.tagC k
theorem Tok.text_length {s:List UInt8} {t:Tok} (h:t.to≤s.length):(t.text s).length=t.to-t.fr:=by simp [Tok.text]; omega
structure ParFns (P:Program) (F T:Nat→Nat):Prop where
 h57:Is57 P F T
 h58:Is58 P F T
 h59:Is59 P F T
 h69:Is69 P F T
 h70:Is70 P F T
 h71:Is71 P F T
 h73:Is73 P F T
 h74:Is74 P F T
 h75:Is75 P F T
 h76:Is76 P F T
 h77:Is77 P F T
 h78:Is78 P F T
 h79:Is79 P F T
 h80:Is80 P F T
 h106:aHb P F T
 h108:bBf P F T
 rep:Rpt P F
structure SInv (els:List El):Prop where
 cn:Cn els
 root:∃ a,kc els=a++[(0,0)]
theorem SInv.ne {els:List El} (h:SInv els):els≠[]:=by
 obtain ⟨a,ha⟩:=h.root
 intro e; subst e; simp [kc] at ha
theorem SInv.kind1 {e:El} {els:List El} (h:SInv (e::els)) (hk:e.kind=1):els≠[]:=by
 obtain ⟨a,ha⟩:=h.root
 intro e2; subst e2
 cases a with
 | nil=>simp [kc] at ha; omega
 | cons x y=>simp [kc] at ha
theorem t57 (H:ParFns P F T) (K:TokFns P F) {L:Heap} {nx:Nat} {f:List Nat} {p:Nat} {els:List El} (hs:Stk T false L nx f p els) (s:List UInt8) (t:Tok) (hsl:s.length≤8192) (hw:t.wf s) (hb:pot els≤2^27) (hi:SInv els) :
 ECall P (F 57) [.ptr p 0,.str s,.agg t.vs] L nx (Did T L nx f p (aBr s t els)):=by
 have hne:=hi.ne
 have htl:=Tok.text_length hw.le
 have hlt:=hw.lt
 have hle:=hw.le
 refine aB7 [] H.h57 (by simp) ?_
 simp only [c57,push_cast,seval,-Nat.reducePow,Tok.vs]
 refine aAc (K.text s t (by omega) hw.le hsl) (by simp only [push_cast,seval,-Nat.reducePow,Tok.vs]) (by simp only [push_cast,seval,-Nat.reducePow]) ?_
 generalize hx:t.text s=x at *
 have st2:∀ (M:Heap) (m:Nat),nx≤m→(∀ i,i<nx→M i=L i)→Stk T false M m f p els:=fun M m h1 h2=>hs.grow h1 h2
 simp only [push_cast,seval,-Nat.reducePow]
 have fin:∀ (M:Heap) (m:Nat) (els':List El) (r r':V) (L':Heap) (n1 n2:Nat),nx≤m→(∀ i,i<nx→M i=L i)→Did T M m f p els' r L' n1→aBr s t els=els'→n1≤n2→nx≤n2∧Did T L nx f p (aBr s t els) r' L' n2:=by
  rintro M m els' r r' L' n1 n2 h1 h2 ⟨f',k1,k2⟩ rfl h4
  have:=k2.le
  exact ⟨by omega,f',k1.grow h4 fun _ _=>rfl,(Stp.grow h1 h2).trans (k2.trans (Stp.grow h4 fun _ _=>rfl))⟩
 have hxl:x.length≤8192:=by omega
 have up2:∀ (a:Option Blk) (i:Nat),i<nx→upd L (nx+5) a i=L i:=fun a i hi=>fr1 hi
 refine aAd (fun h=>?_) (fun c1=>?_)
 ·have hk:t.kind=1:=by omega
  simp only [push_cast,seval,-Nat.reducePow]
  refine aAa (t69 H.h69 H.h59 H.h106 (st2 _ _ (by omega) (fun i hi=>fr1 hi)) x (by omega) hne) ?_
  intro r L' n1 h
  exact fin _ _ _ _ _ _ _ _ (by omega) (fun i hi=>fr1 hi) h (by simp [aBr,hk,hx]) (by omega)
 simp only [push_cast,seval,-Nat.reducePow]
 refine aAd (fun h=>?_) (fun c2=>?_)
 ·have hk:t.kind=2:=by omega
  simp only [push_cast,seval,-Nat.reducePow]
  refine aAa (t69 H.h69 H.h59 H.h106 (st2 _ _ (by omega) (fun i hi=>fr1 hi)) x (by omega) hne) ?_
  intro r L' n1 h
  exact fin _ _ _ _ _ _ _ _ (by omega) (fun i hi=>fr1 hi) h (by simp [aBr,hk,hx]) (by omega)
 simp only [push_cast,seval,-Nat.reducePow]
 refine aAd (fun h=>?_) (fun c3=>?_)
 ·have hk:t.kind=9:=by omega
  simp only [push_cast,seval,-Nat.reducePow]
  refine aAa (t70 H.h70 H.h59 H.h106 (st2 _ _ (by omega) (fun i hi=>fr1 hi)) (.mk 2 0 x [] []) (by simp [Node.kind]) (by omega) hne) ?_
  intro r L' n1 h
  exact fin _ _ _ _ _ _ _ _ (by omega) (fun i hi=>fr1 hi) h (by simp [aBr,hk,hx]) (by omega)
 simp only [push_cast,seval,-Nat.reducePow]
 refine aAd (fun h=>?_) (fun c4=>?_)
 ·have hk:t.kind=10:=by omega
  have hw17:=hw.wiki hk
  rw [hx] at hw17
  have e9:((x.length:Nat):Int)-9=((x.length-9:Nat):Nat):=by omega
  simp only [push_cast,seval,-Nat.reducePow,e9]
  refine ⟨by omega,by omega,by omega,?_⟩
  refine aAa (t70 H.h70 H.h59 H.h106 (st2 _ _ (by omega) (fun i hi=>fr1 hi)) (.mk 3 0 ((x.take (x.length-9)).drop 8) [] []) (by simp [Node.kind]) (by omega) hne) ?_
  intro r L' n1 h
  exact fin _ _ _ _ _ _ _ _ (by omega) (fun i hi=>fr1 hi) h (by simp [aBr,hk,hx]) (by omega)
 simp only [push_cast,seval,-Nat.reducePow]
 have openE:∀ (e:El) (M:Heap) (m id:Nat),e.list=[]→e.args=[]→e.ok→M id=some (.box (T 5) [.int .i64 e.kind,.int .i64 e.tag,.int .i64 e.count,.nils,.nils])→nx≤id→id<m→nx≤m→(∀ i,i<nx→M i=L i)→aBr s t els=aG2 e x els →
  ECall P (F 71) [.ptr p 0,.ptr id 0,.str x] M m fun _ L' n1=>nx≤n1+86∧∀ r',Did T L nx f p (aBr s t els) r' L' (n1+86):=by
  intro e M m id h1 h2 h3 h4 h5 h6 h7 h8 h9
  refine (t71 H.h71 H.h69 H.h59 H.h106 (st2 M m h7 h8) e id x (by omega) hne h1 h2 h3 h4 (fun hc=>by have:=hs.lt _ hc; omega) h6).mono ?_
  rintro r L' n1 ⟨f',k1,k2,k3,k4⟩
  refine ⟨by omega,fun r'=>⟨f',by rw [h9]; exact k1.grow (by omega) fun _ _=>rfl,by omega,fun i hi=>?_,fun i ty cs g1 g2 g3 g4=>?_⟩⟩
  ·rcases k3 i hi with h | h | h
   ·exact .inl h
   ·exact .inr (by omega)
   ·exact .inr (by omega)
  ·exact k4 i ty cs (by omega) g2 (by rw [h8 i g1]; exact g3) g4
 refine aAd (fun h=>?_) (fun c5=>?_)
 ·have hk:t.kind=3:=by omega
  simp only [push_cast,seval,-Nat.reducePow]
  refine aAa (openE ⟨3,0,x.length,[],[]⟩ _ _ _ rfl rfl ⟨fun h=>by simp at h,fun n hn=>by simp at hn,fun a ha=>by simp at ha⟩ (by simp only [aBe,if_true]; rfl) (by omega) (by omega) (by omega) (fun i hi=>(fr1 hi).trans (fr1 hi)) (by simp [aBr,hk,hx])) ?_
  rintro r L' n1 ⟨k1,k2⟩
  exact ⟨k1,k2 _⟩
 simp only [push_cast,seval,-Nat.reducePow]
 refine aAd (fun h=>?_) (fun c6=>?_)
 ·have hk:t.kind=5:=by omega
  simp only [push_cast,seval,-Nat.reducePow]
  refine aAa (openE ⟨1,0,0,[],[]⟩ _ _ _ rfl rfl ⟨fun h=>by simp at h,fun n hn=>by simp at hn,fun a ha=>by simp at ha⟩ (by simp only [aBe,if_true]; rfl) (by omega) (by omega) (by omega) (fun i hi=>(fr1 hi).trans (fr1 hi)) (by simp [aBr,hk,hx])) ?_
  rintro r L' n1 ⟨k1,k2⟩
  exact ⟨k1,k2 _⟩
 simp only [push_cast,seval,-Nat.reducePow]
 refine aAd (fun h=>?_) (fun c7=>?_)
 ·have hk:t.kind=11:=by omega
  simp only [push_cast,seval,-Nat.reducePow]
  refine aAc (K.tag s t (by omega) hw.le hsl hw.tagO hw.tagC) (by simp only [push_cast,seval,-Nat.reducePow,Tok.vs]) (by simp only [push_cast,seval,-Nat.reducePow]) ?_
  simp only [push_cast,seval,-Nat.reducePow]
  refine aAa (openE ⟨2,t.tag s,0,[],[]⟩ _ _ _ rfl rfl ⟨fun _=>hw.tag hk,fun n hn=>by simp at hn,fun a ha=>by simp at ha⟩ (by simp only [aBe,if_true]; rfl) (by omega) (by omega) (by omega) (fun i hi=>(fr1 hi).trans (fr1 hi)) (by simp [aBr,hk,hx])) ?_
  rintro r L' n1 ⟨k1,k2⟩
  exact ⟨k1,k2 _⟩
 simp only [push_cast,seval,-Nat.reducePow]
 refine aAd (fun h=>?_) (fun c8=>?_)
 ·have hk:t.kind=7:=by omega
  simp only [push_cast,seval,-Nat.reducePow]
  refine aAa (t73 H.h73 H.h69 H.h59 H.h106 (st2 _ _ (by omega) (fun i hi=>fr1 hi)) (by omega) hne) ?_
  intro r L' n1 h
  exact fin _ _ _ _ _ _ _ _ (by omega) (fun i hi=>fr1 hi) h (by simp [aBr,hk,hx]) (by omega)
 simp only [push_cast,seval,-Nat.reducePow]
 refine aAd (fun h=>?_) (fun c9=>?_)
 ·have hk:t.kind=8:=by omega
  simp only [push_cast,seval,-Nat.reducePow]
  refine aAa (t74 H.h74 H.h69 H.h59 H.h106 (st2 _ _ (by omega) (fun i hi=>fr1 hi)) (by omega) hne) ?_
  intro r L' n1 h
  exact fin _ _ _ _ _ _ _ _ (by omega) (fun i hi=>fr1 hi) h (by simp [aBr,hk,hx]) (by omega)
 simp only [push_cast,seval,-Nat.reducePow]
 refine aAd (fun h=>?_) (fun c10=>?_)
 ·have hk:t.kind=6:=by omega
  simp only [push_cast,seval,-Nat.reducePow]
  cases els with
  | nil=>exact absurd rfl hne
  | cons e els =>
    refine aAa (t75 H.h75 H.h78 H.h80 H.h69 H.h70 H.h59 H.h106 (st2 _ _ (by omega) (fun i hi=>fr1 hi)) (by omega) hi.kind1) ?_
    intro r L' n1 h
    exact fin _ _ _ _ _ _ _ _ (by omega) (fun i hi=>fr1 hi) h (by simp [aBr,hk,hx]) (by omega)
 simp only [push_cast,seval,-Nat.reducePow]
 refine aAd (fun h=>?_) (fun c11=>?_)
 ·have hk:t.kind=12:=by omega
  simp only [push_cast,seval,-Nat.reducePow]
  refine aAc (K.tag s t (by omega) hw.le hsl hw.tagO hw.tagC) (by simp only [push_cast,seval,-Nat.reducePow,Tok.vs]) (by simp only [push_cast,seval,-Nat.reducePow]) ?_
  simp only [push_cast,seval,-Nat.reducePow]
  refine aAa (t76 H.h76 H.h58 H.h78 H.h80 H.h79 H.h69 H.h70 H.h59 H.h106 H.rep (st2 _ _ (by omega) (fun i hi=>fr1 hi)) (t.tag s) x (by omega) hne) ?_
  intro r L' n1 h
  exact fin _ _ _ _ _ _ _ _ (by omega) (fun i hi=>fr1 hi) h (by simp [aBr,hk,hx]) (by omega)
 simp only [push_cast,seval,-Nat.reducePow]
 refine aAd (fun h=>?_) (fun c12=>?_)
 ·have hk:t.kind=4:=by omega
  simp only [push_cast,seval,-Nat.reducePow]
  refine aAa (t77 H.h77 H.h108 H.h58 H.h78 H.h80 H.h79 H.h69 H.h70 H.h59 H.h106 H.rep (st2 _ _ (by omega) (fun i hi=>fr1 hi)) x.length (by omega) hne hi.cn) ?_
  intro r L' n1 h
  exact fin _ _ _ _ _ _ _ _ (by omega) (fun i hi=>fr1 hi) h (by simp [aBr,hk,hx]) (by omega)
 ·have:=hw.kind
  omega
end Go.Ab
