/- Several texts of one kind, merged. No condition. -/
import Derived.Test.YtjakkhalapaofaaGreatDoorAbP1
set_option linter.unusedSimpArgs false
set_option linter.unusedVariables false
namespace Go.Ab
variable {P:Program} {F T:Nat→Nat}
def Rpt (P:Program) (F:Nat→Nat):Prop:=∀ (c:UInt8) (n:Nat),n≤2^30→PTr P (F 42) [.str [c],.int .i64 n] (.str (List.replicate n c))
theorem argP_bulk (l:List Arg):bulks (l.flatMap Arg.pieces)≤bulkA l+4*l.length:=by
 induction l with
 | nil=>simp [bulks]
 | cons a r ih =>
   obtain ⟨b,n,v⟩:=a
   simp only [List.flatMap_cons,bulks_append,bulkA,Arg.bulk,List.length_cons]
   cases b <;> simp [Arg.pieces,bulks,bulks_append,tx,Node.bulk,bulkA] <;> omega
theorem tagN_len {t:Nat}:(tagName t).length≤11:=by
 unfold tagName; split <;> (try split) <;> (try split) <;> simp
theorem Stk.lt {z:Bool} {L:Heap} {nx:Nat} {f:List Nat} {p:Nat} {els:List El} (h:Stk T z L nx f p els):∀ i,i∈f→i<nx:=by obtain ⟨sid,jk,hs,hp⟩:=h; exact hp.lt
theorem head_len (e:El):e.head.length≤13+e.count:=by
 have:=tagN_len (t:=e.tag)
 unfold El.head; split <;> (try split) <;> (try split) <;> simp [tagO] <;> omega
theorem pieces_bulk (e:El):bulks e.pieces≤e.pot:=by
 have h1:=argP_bulk e.args
 have h2:=head_len e
 simp only [El.pieces,bulks,bulks_append,El.pot,tx,Node.bulk,bulkA]; omega
theorem Stk.ne {z:Bool} {L:Heap} {nx:Nat} {f:List Nat} {p:Nat} {els:List El} (h:Stk T z L nx f p els):True:=trivial
theorem t58 (hf:Is58 P F T) (h78:Is78 P F T) (h80:Is80 P F T) (h79:Is79 P F T) (h69:Is69 P F T) (h70:Is70 P F T) (h59:Is59 P F T) (h106:Is106 P F T) (hR:Rpt P F) {L:Heap} {nx:Nat} {f:List Nat} {p:Nat} {e:El} {els:List El}
 (hs:Stk T false L nx f p (e::els)) (hb:pot (e::els)≤2^29) (hne:els≠[]) :
 ECall P (F 58) [.ptr p 0] L nx (Did T L nx f p (flat1 (e::els))):=by
 have hok:=hs.ok e (by simp)
 have hpb:=pieces_bulk e
 simp only [pot] at hb
 refine ecallC [] hf (by simp) ?_
 simp only [c58,push_cast,seval,-Nat.reducePow]
 refine ecallK_intro (t78 h78 h59 (hs.grow (by omega) fun _ _=>rfl) (by simp only [pot]; omega)) ?_
 rintro _ L1 n1 ⟨f1,id,rfl,hid,hif,hbx,hst,hsp⟩
 have hsp1:=hsp.le
 have hsp0:Stp L nx f L1 n1 f1:=(Stp.grow (by omega) fun _ _=>rfl).trans hsp
 simp only [push_cast,seval,-Nat.reducePow]
 refine cutK_intro (fun s=>s.env 0=.ptr p 0∧s.env 2=.ptr id 0∧∃ f',id<s.nx∧id∉f'∧s.L id=some (.box (T 5) [.int .i64 e.kind,.int .i64 e.tag,.int .i64 e.count,ln 5 (vns e.list),ln 3 (vas e.args)])∧Stk T false s.L s.nx f' p (addS (tx e.head) els)∧Stp L nx f s.L s.nx f') ?_ ?_
 ·have himm:V.imms [.int .i64 e.kind,.int .i64 e.tag,.int .i64 e.count,ln 5 (vns e.list),ln 3 (vas e.args)]=true:=by simp [V.imms,V.imm,imm_ln,imms_vns,imms_vas]
  have hhl:e.head.length+1≤30+2*e.count:=by have:=head_len e; omega
  have hpe:pot els+30+2*e.count≤2^29:=by simp only [El.pot] at hb; omega
  have go:∀ (m:Nat) (h:List UInt8),h=e.head→n1≤m→ECall P (F 69) [.ptr p 0,.str h] L1 m fun _ L' nx'=>∃ f',id<nx'∧id∉f'∧L' id=some (.box (T 5) [.int .i64 e.kind,.int .i64 e.tag,.int .i64 e.count,ln 5 (vns e.list),ln 3 (vas e.args)])∧Stk T false L' nx' f' p (addS (tx e.head) els)∧Stp L nx f L' nx' f':=by
   rintro m h rfl hm
   refine (t69 h69 h59 h106 (hst.grow hm fun _ _=>rfl) e.head (by omega) hne).mono ?_
   rintro r L' nx' ⟨f2,k1,k2⟩
   have hle:=k2.le
   refine ⟨f2,by omega,fun hc=>(k2.sub id hc).elim hif fun h=>by omega,k2.fr id _ _ (by omega) hif hbx himm,k1,hsp0.trans ((Stp.grow hm fun _ _=>rfl).trans k2)⟩
  simp only [push_cast,seval,-Nat.reducePow,hbx]
  refine condK_dec (fun hk=>?_) (fun hk=>?_)
  ·have hk':e.kind=1:=by omega
   simp only [push_cast,seval,-Nat.reducePow]
   refine ecallK_intro (go _ [91,91] (by simp [El.head,hk']) (by omega)) ?_
   rintro _ L' nx' ⟨f2,k1,k2,k3,k4,k5⟩
   simp only [push_cast,seval,-Nat.reducePow]
   exact ⟨f2,by omega,k2,k3,k4.grow (by omega) fun _ _=>rfl,k5.trans (Stp.grow (by omega) fun _ _=>rfl)⟩
  ·simp only [push_cast,seval,-Nat.reducePow]
   refine condK_dec (fun hk2=>?_) (fun hk2=>?_)
   ·have hk':e.kind=2:=by omega
    simp only [push_cast,seval,-Nat.reducePow,hbx]
    refine callK_intro (t79 h79 e.tag (hok.tag hk')) (by simp only [push_cast,seval,-Nat.reducePow]) (by simp only [push_cast,seval,-Nat.reducePow]) ?_
    simp only [push_cast,seval,-Nat.reducePow]
    refine ecallK_intro (go _ (tagO e.tag) (by simp [El.head,hk']) (by omega)) ?_
    rintro _ L' nx' ⟨f2,k1,k2,k3,k4,k5⟩
    simp only [push_cast,seval,-Nat.reducePow]
    exact ⟨f2,by omega,k2,k3,k4.grow (by omega) fun _ _=>rfl,k5.trans (Stp.grow (by omega) fun _ _=>rfl)⟩
   ·simp only [push_cast,seval,-Nat.reducePow]
    refine condK_dec (fun hk3=>?_) (fun hk3=>?_)
    ·have hk':e.kind=3:=by omega
     simp only [push_cast,seval,-Nat.reducePow,hbx]
     refine callK_intro (hR 123 e.count (by omega)) (by simp only [push_cast,seval,-Nat.reducePow]) (by simp only [push_cast,seval,-Nat.reducePow]) ?_
     simp only [push_cast,seval,-Nat.reducePow]
     refine ecallK_intro (go _ (List.replicate e.count 123) (by simp [El.head,hk']) (by omega)) ?_
     rintro _ L' nx' ⟨f2,k1,k2,k3,k4,k5⟩
     simp only [push_cast,seval,-Nat.reducePow]
     exact ⟨f2,by omega,k2,k3,k4.grow (by omega) fun _ _=>rfl,k5.trans (Stp.grow (by omega) fun _ _=>rfl)⟩
    ·simp only [push_cast,seval,-Nat.reducePow]
     have he:e.head=[]:=by
      have h1:e.kind≠1:=by omega
      have h2:e.kind≠2:=by omega
      have h3:e.kind≠3:=by omega
      simp [El.head,h1,h2,h3]
     rw [he,addS_nil]
     exact ⟨f1,by omega,hif,hbx,hst.grow (by omega) fun _ _=>rfl,hsp0.trans (Stp.grow (by omega) fun _ _=>rfl)⟩
 ·rintro s ⟨h0,h2,f2,g1,g2,g3,g4,g5⟩
  have hp1:=addS_pot (tx e.head) els
  have himm:V.imms [.int .i64 e.kind,.int .i64 e.tag,.int .i64 e.count,ln 5 (vns e.list),ln 3 (vas e.args)]=true:=by simp [V.imms,V.imm,imm_ln,imms_vns,imms_vas]
  have hbp:bulks e.pieces=(tx e.head).bulk+(bulks e.list+bulks (e.args.flatMap Arg.pieces)):=by simp only [El.pieces,bulks,bulks_append]
  simp only [push_cast,seval,-Nat.reducePow,h0,h2,g3]
  refine ecallK_intro (t80 h80 h69 h70 h59 h106 (g4.grow (by omega) fun _ _=>rfl) e.list (by omega) (addS_ne hne)) ?_
  rintro _ L3 n3 ⟨f3,k1,k2⟩
  have hle:=k2.le
  have hbx3:=k2.fr id _ _ (by omega) g2 g3 himm
  have g53:=g5.trans ((Stp.grow (by omega) fun _ _=>rfl).trans k2)
  simp only [push_cast,seval,-Nat.reducePow,h0,h2,hbx3]
  refine loopK_intro (fun m s=>∃ a r f',e.args=a++r∧m=r.length∧s.env 0=.ptr p 0∧s.env 42=ln 3 (vas (a++r))∧s.env 43=.int .i64 (a++r).length∧s.env 44=.int .i64 a.length∧Stk T false s.L s.nx f' p (addsS (tx e.head::(e.list++a.flatMap Arg.pieces)) els)∧Stp L nx f s.L s.nx f') e.args.length ⟨[],e.args,f3,?_⟩ fun m s hJ=>?_
  ·simp only [push_cast,seval,-Nat.reducePow,List.flatMap_nil,addsS_cons]
   exact ⟨h0,k1.grow (by omega) fun _ _=>rfl,g53.trans (Stp.grow (by omega) fun _ _=>rfl)⟩
  ·obtain ⟨a,r,f4,ha,rfl,j0,j42,j43,j44,hst4,hsp4⟩:=hJ
   have hp2:=addsS_pot (tx e.head::(e.list++a.flatMap Arg.pieces)) els
   simp only [bulks,bulks_append] at hp2
   have hle4:=hsp4.le
   have hba:bulks (e.args.flatMap Arg.pieces)=bulks (a.flatMap Arg.pieces)+bulks (r.flatMap Arg.pieces):=by rw [ha,List.flatMap_append,bulks_append]
   have hal:a.length<2^32:=by
    have:e.args.length=a.length+r.length:=by rw [ha,List.length_append]
    simp only [El.pot] at hb; omega
   cases r with
   | nil =>
     simp only [push_cast,seval,-Nat.reducePow,j0,j42,j43,j44]
     refine ⟨by omega,f4,?_,hsp4.trans (Stp.grow (by omega) fun _ _=>rfl)⟩
     simp only [List.append_nil] at ha
     simp only [flat1,El.pieces,ha]
     exact hst4.grow (by omega) fun _ _=>rfl
   | cons x r =>
     obtain ⟨xb,xn,xv⟩:=x
     have hne4:=addsS_ne (l:=tx e.head::(e.list++a.flatMap Arg.pieces)) hne
     simp only [List.flatMap_cons,bulks_append] at hba
     simp only [push_cast,seval,-Nat.reducePow,j0,j42,j43,j44,Arg.vs]
     have hf4:s.nx+67∉f4:=fun h=>by have:=hst4.lt _ h; omega
     have ibx:V.imms [.bool xb,ln 5 (vns xn),ln 5 (vns xv)]=true:=by simp [V.imms,V.imm,imm_ln,imms_vns]
     have hsp5:∀ (M:Heap) (m:Nat),s.nx≤m→(∀ i,i<s.nx→M i=s.L i)→Stp L nx f M m f4:=fun M m h1 h2=>hsp4.trans (Stp.grow h1 h2)
     have hxb:bulks (Arg.mk xb xn xv).pieces=2+((if xb then bulks xn+2 else 0)+bulks xv):=by cases xb <;> simp [Arg.pieces,bulks,bulks_append,tx,Node.bulk,bulkA] <;> omega
     refine ecallK_intro (t69 h69 h59 h106 (hst4.grow (by omega) fun i hi=>by rw [fr1 hi,fr1 hi]) [124] (by simp; omega) hne4) ?_
     rintro _ L5 n5 ⟨f5,k1,k2⟩
     have q1:=k2.le
     have a5:=(hsp5 _ _ (by omega) (fun i hi=>by rw [fr1 hi,fr1 hi])).trans k2
     have b5:=k2.fr (s.nx+67) (T 1) _ (by omega) hf4 (by simp only [updE',if_true]) ibx
     have hf5:s.nx+67∉f5:=fun h=>(k2.sub _ h).elim hf4 fun h=>by omega
     have hp5:=addS_pot (tx [124]) (addsS (tx e.head::(e.list++a.flatMap Arg.pieces)) els)
     have ht:(tx [124]).bulk=2:=rfl
     have ht2:(tx [61]).bulk=2:=rfl
     have hn5:=addS_ne (n:=tx [124]) hne4
     simp only [push_cast,seval,-Nat.reducePow,j0,b5]
     refine condK_intro (fun hxb'=>?_) (fun hxb'=>?_)
     ·subst hxb'
      simp only [if_true] at hxb
      simp only [push_cast,seval,-Nat.reducePow,j0,b5]
      refine ecallK_intro (t80 h80 h69 h70 h59 h106 (k1.grow (by omega) fun _ _=>rfl) xn (by omega) hn5) ?_
      rintro _ L6 n6 ⟨f6,k3,k4⟩
      have q2:=k4.le
      have a6:=a5.trans ((Stp.grow (by omega) fun _ _=>rfl).trans k4)
      have b6:=k4.fr (s.nx+67) (T 1) _ (by omega) hf5 b5 ibx
      have hf6:s.nx+67∉f6:=fun h=>(k4.sub _ h).elim hf5 fun h=>by omega
      have hp6:=addsS_pot xn (addS (tx [124]) (addsS (tx e.head::(e.list++a.flatMap Arg.pieces)) els))
      have hn6:=addsS_ne (l:=xn) hn5
      simp only [push_cast,seval,-Nat.reducePow,j0]
      refine ecallK_intro (t69 h69 h59 h106 (k3.grow (by omega) fun _ _=>rfl) [61] (by simp; omega) hn6) ?_
      rintro _ L7 n7 ⟨f7,k5,k6⟩
      have q3:=k6.le
      have a7:=a6.trans ((Stp.grow (by omega) fun _ _=>rfl).trans k6)
      have b7:=k6.fr (s.nx+67) (T 1) _ (by omega) hf6 b6 ibx
      have hf7:s.nx+67∉f7:=fun h=>(k6.sub _ h).elim hf6 fun h=>by omega
      have hp7:=addS_pot (tx [61]) (addsS xn (addS (tx [124]) (addsS (tx e.head::(e.list++a.flatMap Arg.pieces)) els)))
      have hn7:=addS_ne (n:=tx [61]) hn6
      simp only [push_cast,seval,-Nat.reducePow,j0,b7]
      refine ecallK_intro (t80 h80 h69 h70 h59 h106 (k5.grow (by omega) fun _ _=>rfl) xv (by omega) hn7) ?_
      rintro _ L8 n8 ⟨f8,k7,k8⟩
      have q4:=k8.le
      have a8:=a7.trans ((Stp.grow (by omega) fun _ _=>rfl).trans k8)
      simp only [push_cast,seval,-Nat.reducePow,j0,j42,j43,j44]
      refine ⟨by omega,r.length,by omega,a++[.mk true xn xv],r,f8,by rw [ha]; simp,rfl,by simp,by simp,by simp,?_,a8.trans (Stp.grow (by omega) fun _ _=>rfl)⟩
      have e1:tx e.head::(e.list++(a++[Arg.mk true xn xv]).flatMap Arg.pieces)=tx e.head::(e.list++a.flatMap Arg.pieces)++([tx [124]]++xn++[tx [61]]++xv):=by
       simp [List.flatMap_append,Arg.pieces]
      rw [e1,addsS_append,addsS_append,addsS_append,addsS_append]
      exact k7.grow (by omega) fun _ _=>rfl
     ·subst hxb'
      simp only [Bool.false_eq_true,if_false] at hxb
      simp only [push_cast,seval,-Nat.reducePow,j0,b5]
      refine ecallK_intro (t80 h80 h69 h70 h59 h106 (k1.grow (by omega) fun _ _=>rfl) xv (by omega) hn5) ?_
      rintro _ L8 n8 ⟨f8,k7,k8⟩
      have q4:=k8.le
      have a8:=a5.trans ((Stp.grow (by omega) fun _ _=>rfl).trans k8)
      simp only [push_cast,seval,-Nat.reducePow,j0,j42,j43,j44]
      refine ⟨by omega,r.length,by omega,a++[.mk false xn xv],r,f8,by rw [ha]; simp,rfl,by simp,by simp,by simp,?_,a8.trans (Stp.grow (by omega) fun _ _=>rfl)⟩
      have e1:tx e.head::(e.list++(a++[Arg.mk false xn xv]).flatMap Arg.pieces)=tx e.head::(e.list++a.flatMap Arg.pieces)++([tx [124]]++xv):=by
       simp [List.flatMap_append,Arg.pieces]
      rw [e1,addsS_append,addsS_append]
      exact k7.grow (by omega) fun _ _=>rfl
end Go.Ab
namespace Go.Ab
variable {P:Program} {F T:Nat→Nat}
theorem Stk.split {z:Bool} {L:Heap} {nx:Nat} {f:List Nat} {p:Nat} {els:List El} (h:Stk T z L nx f p els) (hne:els≠[]):∃ sid jk h t,Stx T z L nx f p els sid jk (h::t)∧els=h.e::t.map EH.e:=by
 obtain ⟨sid,jk,hs,hp⟩:=h
 cases hs with
 | nil=>exact absurd hp.map.symm hne
 | cons h t=>exact ⟨sid,jk,h,t,hp,by rw [← hp.map]; rfl⟩
theorem t75 (hf:Is75 P F T) (h78:Is78 P F T) (h80:Is80 P F T) (h69:Is69 P F T) (h70:Is70 P F T) (h59:Is59 P F T) (h106:Is106 P F T) {L:Heap} {nx:Nat} {f:List Nat} {p:Nat} {e:El} {els:List El} (hs:Stk T false L nx f p (e::els)) (hb:pot (e::els)+3≤2^29)
 (hne:e.kind=1→els≠[]):ECall P (F 75) [.ptr p 0] L nx (Did T L nx f p (linkF (e::els))):=by
 obtain ⟨sid,jk,h,t,hp,r9⟩:=hs.split (by simp)
 have hlen:=pot_len (e::els)
 have hel:(e::els).length=t.length+1:=by rw [r9]; simp
 have he:e=h.e:=(List.cons.inj r9).1
 simp only [pot] at hb hlen
 refine ecallC [] hf (by simp) ?_
 simp only [c75,push_cast,seval,-Nat.reducePow]
 refine ecallK_intro (t59 h59 (hp.grow (by omega)) (by omega)) ?_
 rintro _ _ n1 ⟨rfl,rfl,hn1⟩
 have hbx:=(hp.at_ h (by simp)).box
 simp only [EH.cells,← he] at hbx
 simp only [push_cast,seval,-Nat.reducePow,hbx]
 refine condK_dec (fun hk=>?_) (fun hk=>?_)
 ·have hk':e.kind=1:=by omega
  simp only [push_cast,seval,-Nat.reducePow]
  rename_i L1
  have hpp:e.pot=30+2*e.count+bulks e.list+bulkA e.args+5*e.args.length:=rfl
  refine ecallK_intro (t78 h78 h59 (hs.grow (by omega) fun _ _=>rfl) (by simp only [pot]; omega)) ?_
  rintro _ L2 n2 ⟨f2,id,rfl,hid,hif,hbx2,hst,hsp⟩
  have q1:=hsp.le
  have hne':=hne hk'
  have himm:V.imms [.int .i64 e.kind,.int .i64 e.tag,.int .i64 e.count,ln 5 (vns e.list),ln 3 (vas e.args)]=true:=by simp [V.imms,V.imm,imm_ln,imms_vns,imms_vas]
  have a2:Stp L1 nx f L2 n2 f2:=(Stp.grow (by omega) fun _ _=>rfl).trans hsp
  simp only [push_cast,seval,-Nat.reducePow]
  refine ecallK_intro (t69 h69 h59 h106 (hst.grow (by omega) fun _ _=>rfl) [91,91] (by simp; omega) hne') ?_
  rintro _ L3 n3 ⟨f3,k1,k2⟩
  have q2:=k2.le
  have a3:=a2.trans ((Stp.grow (by omega) fun _ _=>rfl).trans k2)
  have b3:=k2.fr id _ _ (by omega) hif hbx2 himm
  have p3:=addS_pot (tx [91,91]) els
  have tb:∀ a b:UInt8,(tx [a,b]).bulk=3:=fun _ _=>rfl
  simp only [tb] at p3
  simp only [push_cast,seval,-Nat.reducePow,b3]
  refine ecallK_intro (t80 h80 h69 h70 h59 h106 (k1.grow (by omega) fun _ _=>rfl) e.list (by omega) (addS_ne hne')) ?_
  rintro _ L4 n4 ⟨f4,k3,k4⟩
  have q3:=k4.le
  have a4:=a3.trans ((Stp.grow (by omega) fun _ _=>rfl).trans k4)
  have p4:=addsS_pot e.list (addS (tx [91,91]) els)
  simp only [push_cast,seval,-Nat.reducePow]
  refine ecallK_intro (t69 h69 h59 h106 (k3.grow (by omega) fun _ _=>rfl) [93,93] (by simp; omega) (addsS_ne (addS_ne hne'))) ?_
  rintro _ L5 n5 ⟨f5,k5,k6⟩
  have q4:=k6.le
  have a5:=a4.trans ((Stp.grow (by omega) fun _ _=>rfl).trans k6)
  refine ⟨by omega,f5,?_,a5.trans (Stp.grow (by omega) fun _ _=>rfl)⟩
  rw [linkF,if_pos hk',addsS_cons,addsS_snoc]
  exact k5.grow (by omega) fun _ _=>rfl
 ·have hk':e.kind≠1:=by omega
  simp only [push_cast,seval,-Nat.reducePow]
  refine ecallK_intro (t69 h69 h59 h106 (hs.grow (by omega) fun _ _=>rfl) [93,93] (by simp only [pot]; simp; omega) (by simp)) ?_
  rintro _ L' nx' ⟨f2,k1,k2⟩
  have:=k2.le
  refine ⟨by omega,f2,?_,(Stp.grow (by omega) fun _ _=>rfl).trans (k2.trans (Stp.grow (by omega) fun _ _=>rfl))⟩
  rw [linkF,if_neg hk']
  exact k1.grow (by omega) fun _ _=>rfl
def lastB:List El→Nat
 | []=>0
 | [_]=>0
 | e::b::r=>if e.kind=2 then 0 else if e.kind=3 then r.length+1 else lastB (b::r)
def lastT (k:Nat):List El→Nat
 | []=>0
 | [_]=>0
 | e::b::r=>if e.kind=2∧e.tag=k then r.length+1 else lastT k (b::r)
theorem lastB_idx:∀ els:List El,(braceIdx els=none∧lastB els=0)∨∃ k,braceIdx els=some k∧lastB els+k+1=els.length∧0<lastB els
 | []=>.inl ⟨rfl,rfl⟩
 | [_]=>.inl ⟨rfl,rfl⟩
 | e::b::r=>by
   by_cases h2:e.kind=2
   ·exact .inl ⟨by simp [braceIdx,h2],by simp [lastB,h2]⟩
   ·by_cases h3:e.kind=3
    ·exact .inr ⟨0,by simp [braceIdx,h3],by simp [lastB,h3],by simp [lastB,h3]⟩
    ·rcases lastB_idx (b::r) with ⟨g1,g2⟩ | ⟨k,g1,g2,g3⟩
     ·exact .inl ⟨by simp [braceIdx,h2,h3,g1],by simp [lastB,h2,h3,g2]⟩
     ·refine .inr ⟨k+1,by simp [braceIdx,h2,h3,g1],?_,?_⟩
      ·simp only [lastB,h2,h3,if_false,List.length_cons] at g2 ⊢; omega
      ·simp only [lastB,h2,h3,if_false]; exact g3
theorem lastT_idx (t:Nat):∀ els:List El,(tagIdx t els=none∧lastT t els=0)∨∃ k,tagIdx t els=some k∧lastT t els+k+1=els.length∧0<lastT t els
 | []=>.inl ⟨rfl,rfl⟩
 | [_]=>.inl ⟨rfl,rfl⟩
 | e::b::r=>by
   by_cases h2:e.kind=2∧e.tag=t
   ·exact .inr ⟨0,by simp [tagIdx,h2],by simp [lastT,h2],by simp [lastT,h2]⟩
   ·rcases lastT_idx t (b::r) with ⟨g1,g2⟩ | ⟨k,g1,g2,g3⟩
    ·exact .inl ⟨by simp only [tagIdx,if_neg h2,g1]; rfl,by simp only [lastT,if_neg h2,g2]⟩
    ·refine .inr ⟨k+1,by simp only [tagIdx,if_neg h2,g1]; rfl,?_,?_⟩
     ·simp only [lastT,if_neg h2,List.length_cons] at g2 ⊢; omega
     ·simp only [lastT,if_neg h2]; exact g3
theorem Stx.stkAt {z:Bool} {L:Heap} {nx:Nat} {f:List Nat} {p:Nat} {els:List El} {sid:Nat} {jk:List V} {a r:List EH} {h:EH} (hp:Stx T z L nx f p els sid jk (a++h::r)) :
 ∃ es,L sid=some (.vec (T 6) 1 es)∧es.getD r.length .junk=.ptr h.id 0∧a.length+r.length+1≤es.length:=by
 refine ⟨_,hp.stk,?_,by simp; omega⟩
 simp only [List.reverse_append,List.reverse_cons,List.map_append,List.map_cons,List.map_nil,List.append_assoc,List.singleton_append,List.cons_append]
 exact getD_mid (by simp)
end Go.Ab
namespace Go.Ab
variable {P:Program} {F T:Nat→Nat}
theorem addS_length {n:Node} {els:List El}:(addS n els).length=els.length:=by cases els <;> rfl
theorem addsS_length {l:List Node}:∀ {els:List El},(addsS l els).length=els.length:=by
 induction l with
 | nil=>intro els; rfl
 | cons n r ih=>intro els; rw [addsS_cons,ih,addS_length]
theorem flat1_length {els:List El}:(flat1 els).length=els.length-1:=by cases els with | nil=>rfl | cons e r=>simp [flat1,addsS_length]
theorem flat1_pot (els:List El):pot (flat1 els)≤pot els:=by
 cases els with
 | nil=>simp [flat1]
 | cons e r=>have h1:=addsS_pot e.pieces r; have h2:=pieces_bulk e; simp only [flat1,pot]; omega
theorem flatN_length:∀ (k:Nat) {els:List El},(flatN k els).length=els.length-k
 | 0,els=>by simp [flatN]
 | k+1,els=>by rw [flatN,flatN_length k,flat1_length]; omega
theorem flat_round (h58:Is58 P F T) (h78:Is78 P F T) (h80:Is80 P F T) (h79:Is79 P F T) (h69:Is69 P F T) (h70:Is70 P F T) (h59:Is59 P F T) (h106:Is106 P F T) (hR:Rpt P F) {L:Heap} {nx:Nat} {f:List Nat} {p:Nat} {els:List El}
 (hs:Stk T false L nx f p els) (hb:pot els≤2^29) (hl:2≤els.length):ECall P (F 58) [.ptr p 0] L nx (Did T L nx f p (flat1 els)):=by
 match els,hl with
 | e::b::r,_=>exact t58 h58 h78 h80 h79 h69 h70 h59 h106 hR hs hb (by simp)
theorem t76 (hf:Is76 P F T) (h58:Is58 P F T) (h78:Is78 P F T) (h80:Is80 P F T) (h79:Is79 P F T) (h69:Is69 P F T) (h70:Is70 P F T) (h59:Is59 P F T) (h106:Is106 P F T) (hR:Rpt P F) {L:Heap} {nx:Nat} {f:List Nat} {p:Nat} {els:List El}
 (hs:Stk T false L nx f p els) (k:Nat) (s0:List UInt8) (hb:pot els+s0.length+1≤2^29) (hne:els≠[]) :
 ECall P (F 76) [.ptr p 0,.int .i64 k,.str s0] L nx (Did T L nx f p (tagF k s0 els)):=by
 obtain ⟨sid,jk,h,t,hp,r9⟩:=hs.split hne
 have hlen:=pot_len els
 have hel:els.length=t.length+1:=by rw [r9]; simp
 have hbx:=hp.box
 simp only [List.length_cons] at hbx
 have e1:((t.length:Nat):Int)+1-1=(t.length:Nat):=by omega
 refine ecallC [] hf (by simp) ?_
 simp only [c76,push_cast,seval,-Nat.reducePow,hbx,e1]
 refine ⟨by omega,?_⟩
 refine loopK_intro (fun m s=>∃ a x r,h::t=a++x::r∧m=r.length∧s.env 0=.ptr p 0∧s.env 1=.int .i64 k∧s.env 2=.str s0∧s.env 6=.int .i64 r.length∧lastT k els=lastT k ((x::r).map EH.e)∧s.L=L∧nx≤s.nx) t.length ⟨[],h,t,?_⟩ fun m s hJ=>?_
 ·simp only [push_cast,seval,-Nat.reducePow,r9]
  omega
 ·obtain ⟨a,x,r,hsp,rfl,j0,j1,j2,j6,hl,hL,hnx⟩:=hJ
  have hlt:r.length≤t.length:=by
   have:=congrArg List.length hsp
   simp at this; omega
  obtain ⟨es,s1,s2,s3⟩:=(hsp ▸ hp).stkAt
  have hx:=((hsp ▸ hp).at_ x (by simp)).box
  simp only [EH.cells] at hx
  -- the rest,once the place is known
  have rest:∀ n:Nat,n=lastT k els→0<n→∀ s':St,s'.env 0=.ptr p 0→s'.env 1=.int .i64 k→s'.env 6=.int .i64 n→s'.L=L→nx≤s'.nx→True:=fun _ _ _ _ _ _ _ _ _=>trivial
  cases r with
  | nil =>
    have h0:tagIdx k els=none:=by
     rcases lastT_idx k els with ⟨g,_⟩ | ⟨j,g1,g2,g3⟩
     ·exact g
     ·rw [hl] at g3; simp [lastT] at g3
    simp only [push_cast,seval,-Nat.reducePow,j0,j1,j2,j6,hL]
    refine ecallK_intro (t69 h69 h59 h106 (hs.grow (by omega) fun _ _=>rfl) s0 (by omega) hne) ?_
    rintro _ L' nx' ⟨f2,k1,k2⟩
    have:=k2.le
    refine ⟨by omega,f2,?_,(Stp.grow (by omega) fun _ _=>rfl).trans (k2.trans (Stp.grow (by omega) fun _ _=>rfl))⟩
    rw [tagF,h0]
    exact k1.grow (by omega) fun _ _=>rfl
  | cons y r =>
    have hsl:a.length+r.length+1=t.length:=by
     have:=congrArg List.length hsp
     simp at this; omega
    simp only [List.length_cons] at s2 s3 hlt
    have e4:(0:Int)<((r.length:Nat):Int)+1:=by omega
    have e7:(((r.length:Nat):Int)+1).toNat=r.length+1:=by omega
    have e8:((r.length:Nat):Int)+1-1=(r.length:Nat):=by omega
    have next:¬ (x.e.kind=2∧x.e.tag=k)→lastT k els=lastT k ((y::r).map EH.e):=fun hn=>by
     rw [hl]; simp only [List.map_cons,lastT,if_neg hn]
    simp only [push_cast,seval,-Nat.reducePow,j0,j1,j6,hL,hbx,s1,s2,hx,e4,e7]
    refine ⟨by omega,by omega,by omega,?_⟩
    refine condK_dec (fun hk=>?_) (fun hk=>?_)
    ·have hk':x.e.kind=2:=by omega
     simp only [push_cast,seval,-Nat.reducePow,j0,j1,j6,hL,hbx,s1,s2,hx,e4,e7]
     refine ⟨by omega,by omega,by omega,?_⟩
     refine condK_dec (fun hk3=>?_) (fun hk3=>?_)
     ·have hk3':x.e.tag=k:=by omega
      obtain ⟨jx,g1,g2⟩:∃ jx,tagIdx k els=some jx∧r.length+1+jx+1=els.length:=by
       have hlt:lastT k els=r.length+1:=by rw [hl]; simp [lastT,hk',hk3']
       rcases lastT_idx k els with ⟨_,g⟩ | ⟨j,g1,g2,g3⟩
       ·omega
       ·exact ⟨j,g1,by omega⟩
      simp only [push_cast,seval,-Nat.reducePow,j0,j1,j2,j6,hL]
      refine condK_dec (fun hz=>by omega) (fun hz=>?_)
      simp only [push_cast,seval,-Nat.reducePow,j0,j1,j2,j6,hL]
      refine loopK_intro (fun m s=>∃ f' els',m=els'.length∧r.length+2≤els'.length∧flatN (els'.length-(r.length+2)) els'=flatN jx els∧pot els'≤pot els∧s.env 0=.ptr p 0∧s.env 1=.int .i64 k∧s.env 6=.int .i64 ((r.length:Int)+1)∧Stk T false s.L s.nx f' p els'∧Stp L nx f s.L s.nx f') els.length ⟨f,els,?_⟩ fun m s2 hJ=>?_
      ·simp only [push_cast,seval,-Nat.reducePow,j0,j1,j6,hL]
       refine ⟨by omega,by rw [show els.length-(r.length+2)=jx by omega],hs.grow (by omega) fun _ _=>rfl,Stp.grow (by omega) fun _ _=>rfl⟩
      ·obtain ⟨f2,els2,rfl,u1,u2,u3,i0,i1,i6,st2,sp2⟩:=hJ
       have hle2:=sp2.le
       have hne2:els2≠[]:=by intro e; rw [e] at u1; simp at u1
       obtain ⟨sid2,jk2,h2,t2,hp2,r92⟩:=st2.split hne2
       have hel2:els2.length=t2.length+1:=by rw [r92]; simp
       have hbx2:=hp2.box
       simp only [List.length_cons] at hbx2
       have hlen2:=pot_len els2
       simp only [push_cast,seval,-Nat.reducePow,i0,i1,i6,hbx2]
       refine ⟨by omega,?_⟩
       refine condK_dec (fun hc=>?_) (fun hc=>?_)
       ·simp only [push_cast,seval,-Nat.reducePow,i0,i1,i6]
        refine ecallK_intro (flat_round h58 h78 h80 h79 h69 h70 h59 h106 hR (st2.grow (by omega) fun _ _=>rfl) (by omega) (by omega)) ?_
        rintro _ L3 n3 ⟨f3,k1,k2⟩
        have q:=k2.le
        simp only [push_cast,seval,-Nat.reducePow,i0,i1,i6]
        have fl:(flat1 els2).length=els2.length-1:=flat1_length
        refine ⟨(flat1 els2).length,by omega,f3,flat1 els2,rfl,by omega,?_,Nat.le_trans (flat1_pot _) u3,k1.grow (by omega) fun _ _=>rfl,sp2.trans ((Stp.grow (by omega) fun _ _=>rfl).trans (k2.trans (Stp.grow (by omega) fun _ _=>rfl)))⟩
        rw [← u2,show els2.length-(r.length+2)=(flat1 els2).length-(r.length+2)+1 by omega]
        rfl
       ·have h0:els2.length-(r.length+2)=0:=by omega
        rw [h0,flatN] at u2
        obtain ⟨e2,b2,q2,hq⟩:∃ e2 b2 q2,els2=e2::b2::q2:=by
         match els2,u1 with
         | a::b::c,_=>exact ⟨a,b,c,rfl⟩
        subst hq
        simp only [push_cast,seval,-Nat.reducePow,i0,i1,i6]
        refine ecallK_intro (t78 h78 h59 (st2.grow (by omega) fun _ _=>rfl) (by omega)) ?_
        rintro _ L3 n3 ⟨f3,id,rfl,hid,hif,hbx3,hst3,hsp3⟩
        have q:=hsp3.le
        simp only [push_cast,seval,-Nat.reducePow,i0,i1,i6,hbx3]
        refine ecallK_intro (t70 h70 h59 h106 (hst3.grow (by omega) fun _ _=>rfl) (.mk 6 k [] e2.list []) (by simp [Node.kind]) (by simp only [pot] at u3 ⊢; omega) (by simp)) ?_
        rintro _ L4 n4 ⟨f4,k1,k2⟩
        have q4:=k2.le
        refine ⟨by omega,f4,?_,sp2.trans ((Stp.grow (by omega) fun _ _=>rfl).trans (hsp3.trans ((Stp.grow (by omega) fun _ _=>rfl).trans (k2.trans (Stp.grow (by omega) fun _ _=>rfl)))))⟩
        rw [tagF,g1]
        simp only [← u2]
        exact k1.grow (by omega) fun _ _=>rfl
     ·simp only [push_cast,seval,-Nat.reducePow,j0,j1,j2,j6,e8,hL]
      refine ⟨by omega,r.length,by omega,a++[x],y,r,by rw [hsp]; simp,rfl,rfl,?_,by omega⟩
      exact next fun hh=>hk3 (by have:=hh.2; omega)
    ·simp only [push_cast,seval,-Nat.reducePow,j0,j1,j2,j6,e8,hL]
     refine ⟨by omega,r.length,by omega,a++[x],y,r,by rw [hsp]; simp,rfl,rfl,?_,by omega⟩
     exact next fun hh=>hk (by have:=hh.1; omega)
def kc (els:List El):List (Nat×Nat):=els.map fun e=>(e.kind,e.count)
def Cn (els:List El):Prop:=∀ q,q∈kc els→q.1=3→2≤q.2
theorem kc_add {n:Node} {els:List El}:kc (addS n els)=kc els:=by
 cases els with
 | nil=>rfl
 | cons e r=>simp only [addS,El.add_cur,kc,List.map_cons,El.setCur]; split <;> rfl
theorem kc_adds {l:List Node}:∀ {els:List El},kc (addsS l els)=kc els:=by
 induction l with
 | nil=>intro els; rfl
 | cons n r ih=>intro els; rw [addsS_cons,ih,kc_add]
theorem kc_flat1 {els:List El}:kc (flat1 els)=(kc els).drop 1:=by
 cases els with
 | nil=>rfl
 | cons e r=>have:=kc_adds (l:=e.pieces) (els:=r); simpa [flat1,kc] using this
theorem kc_flatN:∀ (k:Nat) {els:List El},kc (flatN k els)=(kc els).drop k
 | 0,els=>by simp [flatN]
 | k+1,els=>by rw [flatN,kc_flatN k,kc_flat1,List.drop_drop,Nat.add_comm]
theorem Cn.drop {els els':List El} {k:Nat} (h:Cn els) (he:kc els'=(kc els).drop k):Cn els':=fun q hq=>h q (List.mem_of_mem_drop (he ▸ hq))
end Go.Ab
namespace Go.Ab
variable {P:Program} {F T:Nat→Nat}
def Tok.vs (t:Tok):List V:=[.int .i64 t.kind,.int .i64 t.fr,.int .i64 t.to]
structure Tok.wf (s:List UInt8) (t:Tok):Prop where
 kind:1≤t.kind∧t.kind≤12
 lt:t.fr<t.to
 le:t.to≤s.length
 wiki:t.kind=10→17≤(t.text s).length
 tag:t.kind=11→1≤t.tag s∧t.tag s≤3
 open_:t.kind=3→2≤(t.text s).length
 tagO:t.kind=11→∃ k,1≤k∧k≤3∧t.text s=Go.Ab.tagO k
 tagC:t.kind=12→∃ k,1≤k∧k≤3∧t.text s=Go.Ab.tagC k
theorem Tok.text_length {s:List UInt8} {t:Tok} (h:t.to≤s.length):(t.text s).length=t.to-t.fr:=by simp [Tok.text]; omega
structure SInv (els:List El):Prop where
 cn:Cn els
 root:∃ a,kc els=a++[(0,0)]
theorem SInv.ne {els:List El} (h:SInv els):els≠[]:=by
 obtain ⟨a,ha⟩:=h.root
 intro e; subst e; simp [kc] at ha
theorem SInv.kind1 {e:El} {els:List El} (h:SInv (e::els)) (hk:e.kind=1):els≠[]:=by
 obtain ⟨a,ha⟩:=h.root
 intro e2; subst e2
 cases a with
 | nil=>simp [kc] at ha; omega
 | cons x y=>simp [kc] at ha
end Go.Ab
