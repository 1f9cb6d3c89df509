/- Several texts of one kind, merged. No condition. -/
import Derived.Test.YtgdllpgidgiccaaGreatDoorAbM9
set_option linter.unusedSimpArgs false
set_option linter.unusedVariables false
namespace Go.Ab
variable {P:Program} {F T:Nat→Nat}
open Go.Lib
theorem t290 (hf:bBg P F T) (us:List Un) (hu:us.length≤2^31) (w:Un):PTr P (F 290) [.lst 3 (us.map Un.v),w.v] (.int .i64 (ixG w.title w.nth 0 us)):=by
 have hln:=aC3 us
 refine ptrC [] hf (by simp [aBt,Un.v]) rfl ?_
 simp only [c290,push_cast,seval,-Nat.reducePow,hln,Un.v]
 refine aAe (fun m s=>∃ d r,us=d++r∧m=r.length∧ixG w.title w.nth d.length r=ixG w.title w.nth 0 us∧s.env 0=.lst 3 (us.map Un.v)∧s.env 3=.ptr 3 0∧s.L 3=some (.box (T 28) [.str w.title,.int .i64 w.nth,.str w.text])∧s.env 5=.int .i64 d.length) us.length ⟨[],us,?_⟩ fun m s hJ=>?_
 ·simp only [push_cast,seval,-Nat.reducePow]
  try rfl
 ·obtain ⟨d,r,rfl,rfl,ht,j0,j3,jL,j5⟩:=hJ
  cases r with
  | nil =>
    have hld:=aC3 d
    simp only [push_cast,seval,-Nat.reducePow,j0,j3,jL,j5,hld]
    rw [ixG,List.append_nil] at ht
    rw [← ht]
    rfl
  | cons u r =>
    have h':((d.length:Nat):Int)<((d++u::r).length:Nat):=by simp; omega
    have hg:((d++u::r).map Un.v).getD d.length .junk=.agg [.str u.title,.int .i64 u.nth,.str u.text]:=by simp [List.getD,Un.v]
    have hdl:(d++u::r).length=d.length+(r.length+1):=by simp
    rw [ixG] at ht
    by_cases e1:u.title=w.title
    ·by_cases e2:(u.nth:Int)=(w.nth:Int)
     ·rw [if_pos (by simp [e1,e2])] at ht
      rw [← ht]
      simp only [push_cast,seval,-Nat.reducePow,j0,j3,jL,j5,hln,h',hg,e1,e2]
      rfl
     ·rw [if_neg (by simp [e1]; omega)] at ht
      simp only [push_cast,seval,-Nat.reducePow,j0,j3,jL,j5,hln,h',hg,e1,e2]
      exact ⟨by omega,r.length,by omega,d++[u],r,by simp,rfl,by rw [← ht]; simp,by simp⟩
    ·rw [if_neg (by simp [e1])] at ht
     simp only [push_cast,seval,-Nat.reducePow,j0,j3,jL,j5,hln,h',hg,e1]
     exact ⟨by omega,r.length,by omega,d++[u],r,by simp,rfl,by rw [← ht]; simp,by simp⟩
theorem bJj {l:List Un} {n:List UInt8×Nat} (h:hasU l n=true):atU l n<l.length∧txtU l n=some (l.getD (atU l n) ⟨[],0,[]⟩).text:=by
 induction l with
 | nil=>simp [hasU] at h
 | cons u r ih =>
   have h2:atU (u::r) n=if u.nm=n then 0 else atU r n+1:=by
    unfold atU
    rw [List.findIdx_cons]
    by_cases h:u.nm=n <;> simp [h]
   rw [aId,h2]
   by_cases e:u.nm=n
   ·simp [e]
   ·have h3:hasU r n=true:=by
     unfold hasU at h ⊢
     rw [List.any_cons] at h
     simpa [e] using h
    obtain ⟨i1,i2⟩:=ih h3
    simp only [e,if_false,List.length_cons]
    exact ⟨by omega,by rw [i2]; simp⟩
theorem bEl {l:List Un} {n:List UInt8×Nat} (h:¬ hasU l n=true):txtU l n=none:=by
 induction l with
 | nil=>rfl
 | cons u r ih =>
   have h1:hasU (u::r) n=(decide (u.nm=n)||hasU r n):=by unfold hasU; rw [List.any_cons]
   rw [h1] at h
   rw [aId]
   by_cases e:u.nm=n
   ·simp [e] at h
   ·rw [if_neg e,ih (by simpa [e] using h)]
theorem t287 (hf:bIa P F T) (h290:bBg P F T) (us:List Un) (hu:us.length≤2^31) (w:Un):PTr P (F 287) [.lst 3 (us.map Un.v),w.v] (tvV (txtU us w.nm)):=by
 have hln:=aC3 us
 have c1:=t290 h290 us hu w
 rw [show ixG w.title w.nth 0 us=_ from aMy w.nm us 0] at c1
 refine ptrC [] hf (by simp [aBt,Un.v]) (aFc _) ?_
 simp only [Un.v] at c1
 simp only [c287,push_cast,seval,-Nat.reducePow,hln,Un.v]
 refine aAb c1 (by simp only [push_cast,seval,-Nat.reducePow,aBt]) (by simp only [push_cast,seval,-Nat.reducePow]) ?_
 by_cases h:hasU us w.nm=true
 ·obtain ⟨h1,h2⟩:=bJj h
  obtain ⟨u,hu'⟩:∃ u,u=us.getD (atU us w.nm) ⟨[],0,[]⟩:=⟨_,rfl⟩
  have hg:(us.map Un.v).getD (atU us w.nm) .junk=.agg [.str u.title,.int .i64 u.nth,.str u.text]:=by rw [hu']; simp [List.getD,h1,Un.v]
  rw [← hu'] at h2
  have hnn:(0:Int)≤((atU us w.nm:Nat):Int):=by omega
  simp only [push_cast,seval,-Nat.reducePow,h,hnn,hg,Nat.zero_add,hln,h2,tvV]
  exact ⟨h1,rfl⟩
 ·simp only [push_cast,seval,-Nat.reducePow,h,bEl h,tvV]
  rfl
theorem t288 (hf:bGd P F T) (b o t:Option (List UInt8)):PTr P (F 288) [tvV b,tvV o,tvV t] (.tup [tvV (aDg b o t).1,.bool (aDg b o t).2]):=by
 rw [aO8]
 refine ptrC [] hf (by simp [aFc]) (by simp [V.imm,V.imms,aFc]) ?_
 rcases b with _ | b <;> rcases o with _ | o <;> rcases t with _ | t
 all_goals
  simp only [c288,push_cast,seval,-Nat.reducePow,tvV,show (true==true)=true from rfl,show (false==true)=false from rfl,show (true==false)=false from rfl,show (false==false)=true from rfl,Bool.true_and,Bool.false_and]
 all_goals
  repeat' (refine aAh (fun h=>?_) (fun h=>?_) <;> simp only [push_cast,seval,-Nat.reducePow,show (true==true)=true from rfl,show (false==true)=false from rfl,show (true==false)=false from rfl,show (false==false)=true from rfl,Bool.true_and,Bool.false_and])
 all_goals (simp_all [view,aR5,tvV])
theorem t279 (hf:bHn P F T) (t:List UInt8) (cs:List (List UInt8)) (hc:cs.length≤2^31):PTr P (F 279) [.agg [.str t,aGr cs],.agg [.str t,aGr cs]] (.bool true):=by
 have hi:=aIh cs
 refine ptrC [] hf (by simp [V.imm,V.imms,hi]) rfl ?_
 by_cases h0:cs=[]
 ·have e1:aGr cs=.nils:=by rw [h0]; rfl
  simp only [c279,push_cast,seval,-Nat.reducePow,e1]
  refine aAe (fun m s=>s.env 2=.ptr 2 0∧s.env 3=.ptr 3 0∧s.L 2=some (.box (T 27) [.str t,.nils])∧s.L 3=some (.box (T 27) [.str t,.nils])∧s.env 5=.int .i64 0) 0 ?_ fun m s hJ=>?_
  ·simp only [push_cast,seval,-Nat.reducePow]
  ·obtain ⟨j2,j3,jL2,jL3,j5⟩:=hJ
   simp only [push_cast,seval,-Nat.reducePow,j2,j3,jL2,jL3,j5,view]
 ·have e1:aGr cs=.lst 1 (cs.map .str):=by rcases bD6 cs with ⟨_,h⟩ | ⟨e,_⟩; exact absurd h h0; exact e
  have hcl:(cs.map V.str).length=cs.length:=List.length_map ..
  simp only [c279,push_cast,seval,-Nat.reducePow,e1,hcl]
  refine aAe (fun m s=>∃ i,i≤cs.length∧m=cs.length-i∧s.env 2=.ptr 2 0∧s.env 3=.ptr 3 0∧s.L 2=some (.box (T 27) [.str t,.lst 1 (cs.map .str)])∧s.L 3=some (.box (T 27) [.str t,.lst 1 (cs.map .str)])∧s.env 5=.int .i64 i) cs.length ⟨0,?_⟩ fun m s hJ=>?_
  ·simp only [push_cast,seval,-Nat.reducePow]
   omega
  ·obtain ⟨i,hi',rfl,j2,j3,jL2,jL3,j5⟩:=hJ
   by_cases h:i<cs.length
   ·have h':((i:Nat):Int)<(cs.length:Nat):=by omega
    have hg:(cs.map V.str).getD i .junk=.str (cs.getD i []):=by simp [List.getD,h]
    simp only [push_cast,seval,-Nat.reducePow,j2,j3,jL2,jL3,j5,h',hcl,hg]
    exact ⟨h,h,by omega,cs.length-(i+1),by omega,i+1,by omega,rfl,by simp⟩
   ·have h':¬ ((i:Nat):Int)<(cs.length:Nat):=by omega
    simp only [push_cast,seval,-Nat.reducePow,j2,j3,jL2,jL3,j5,h',hcl,view]
theorem t286 (hf:bG0 P F T) (h290:bBg P F T) (x y:List UInt8) (hx:x.length≤8192) (hy:y.length≤8192) :
 PTr P (F 286) [.lst 3 ((aAf x).map Un.v),.lst 3 ((aAf y).map Un.v)] (.lst 3 ((aCf (aAf x) (aAf y)).map Un.v)):=by
 have k1:=aBr x
 have k2:=aBr y
 rw [bBe]
 obtain ⟨o,ho⟩:∃ o,o=aAf x:=⟨_,rfl⟩
 have h0:0<o.length:=by rw [ho]; simp [aAf]
 have hl0:hasU o ([],0)=true:=by rw [ho]; exact aLo x
 obtain ⟨f,hff⟩:∃ f:Un,f=⟨[],0,aHz y⟩:=⟨_,rfl⟩
 obtain ⟨g,hg⟩:∃ g,g=uGo y [] (aEh y):=⟨_,rfl⟩
 have hy2:aAf y=f::g:=by rw [aAf,hff,hg]
 rw [← ho] at k1 ⊢
 rw [← hg]
 obtain ⟨tl,htl⟩:∃ tl,tl=f::g:=⟨_,rfl⟩
 rw [← htl] at hy2
 rw [hy2] at k2 ⊢
 have hln:=aC3 o
 have hlt:=aC3 tl
 have htg:tl.length=g.length+1:=by rw [htl]; rfl
 have hone:¬ o.map Un.v=[]:=fun e=>by have:=congrArg List.length e; rw [hln,List.length_nil] at this; omega
 have himg:∀ (k:Nat) (u:Un),tl[k]?=some u→(tl.map Un.v).getD k .junk=.agg [.str u.title,.int .i64 u.nth,.str u.text]:=fun k u h=>by simp [List.getD,h,Un.v]
 refine ptrC [] hf (by simp [aBt,Un.v,V.imm]) (by simp [V.imm,aBt]) ?_
 simp only [c286,push_cast,seval,-Nat.reducePow]
 refine aBw ?_
 simp only [push_cast,seval,-Nat.reducePow,appN,hln,hone]
 refine ⟨by omega,?_⟩
 refine aAe (fun m s=>∃ d r out id prev p0,g=d++r∧m=r.length∧ordR o out prev r=ordR o o ([],0) g∧tl[d.length]?=some p0∧p0.nm=prev∧hasU out prev=true∧0<out.length∧out.length≤o.length+d.length∧(∀ n,hasU o n=true→hasU out n=true) ∧
  s.env 0=.lst 3 (o.map Un.v)∧s.env 1=.lst 3 (tl.map Un.v)∧s.env 5=.own id 3 0 out.length∧s.L id=some (.vec (T 28) 3 (out.map Un.v))∧id<s.nx∧s.env 6=.int .i64 ((d.length+1:Nat):Int)) g.length ⟨[],g,o,55,([],0),f,?_⟩ fun m s hJ=>?_
 ·simp only [push_cast,seval,-Nat.reducePow]
  exact ⟨by rw [htl]; rfl,by rw [hff],hl0,h0,fun _ h=>h⟩
 ·obtain ⟨d,r,out,id,prev,p0,rfl,rfl,hor,hp1,hp2,hpo,hpos,hol,hsub,j0,j1,j5,jL,hid,j6⟩:=hJ
  have hlo:=aC3 out
  have him:=aBt out
  have e1:(((d.length:Nat):Int)+1).toNat=d.length+1:=by omega
  have e2:((d.length:Nat):Int)+1-1=(d.length:Nat):=by omega
  cases r with
  | nil =>
    rw [List.append_nil] at htg
    have h':¬ ((d.length:Nat):Int)+1<(tl.length:Nat):=by omega
    rw [ordR,List.append_nil] at hor
    simp only [push_cast,seval,-Nat.reducePow,j0,j1,j5,j6,hlt,h']
    rw [← hor]
    have:=aDa (n:=2) (sz:=3) jL him
    rw [hlo] at this
    exact this
  | cons u r =>
    rw [List.length_append,List.length_cons] at htg
    have h':((d.length:Nat):Int)+1<(tl.length:Nat):=by omega
    have hu1:tl[d.length+1]?=some u:=by rw [htl]; simp
    have g1:=himg _ _ hu1
    have g0:=himg _ _ hp1
    have c1:=t290 h290 o (by omega) u
    rw [show ixG u.title u.nth 0 o=_ from aMy u.nm o 0] at c1
    have c2:=t290 h290 out (by omega) p0
    rw [show ixG p0.title p0.nth 0 out=_ from aMy p0.nm out 0,hp2,if_pos hpo,Nat.zero_add] at c2
    simp only [Un.v] at c1 c2
    rw [ordR] at hor
    simp only [push_cast,seval,-Nat.reducePow,j0,j1,j5,j6,hlt,h',e1,g1]
    refine ⟨by omega,by omega,aAb c1 (by simp only [push_cast,seval,-Nat.reducePow,aBt]) (by simp only [push_cast,seval,-Nat.reducePow]) ?_⟩
    cases hh:hasU o u.nm with
    | true =>
      rw [if_pos hh] at hor
      have q:(0:Int)≤((0+atU o u.nm:Nat):Int):=by omega
      simp only [push_cast,seval,-Nat.reducePow,q,j0,j1,j5,j6]
      exact ⟨by omega,r.length,by omega,d++[u],r,out,id,u.nm,u,by simp,rfl,hor,by simpa using hu1,rfl,hsub _ hh,hpos,by simp; omega,hsub,rfl,jL,by omega,by simp⟩
    | false =>
      rw [if_neg (by rw [hh]; decide)] at hor
      simp only [push_cast,seval,-Nat.reducePow,j0,j1,j5,j6,hlt,e2,g0]
      have hv:view s.L 3 (.own id 3 0 out.length)=.lst 3 (out.map Un.v):=by
       have:=aDa (n:=2) (sz:=3) jL him
       rw [hlo] at this
       exact this
      have hat:atU out prev<out.length:=by
       unfold atU
       rw [List.findIdx_lt_length]
       unfold hasU at hpo
       rw [List.any_eq_true] at hpo
       exact hpo
      refine ⟨by omega,by omega,aFj (r:=.int .i64 ((atU out prev:Nat):Int)) ?_ ?_ rfl ?_⟩
      ·rw [hv]
       exact c2
      ·rw [hv]
       simp only [push_cast,seval,-Nat.reducePow,him,view]
      ·obtain ⟨at1,hat1⟩:∃ a,a=atU out prev+1:=⟨_,rfl⟩
       have e3:((atU out prev:Nat):Int)+1=(at1:Nat):=by omega
       have e4:((at1:Nat):Int).toNat=at1:=by omega
       have hle:at1≤out.length:=by omega
       rw [← hat1] at hor
       have htk:(out.map Un.v).take at1=(out.take at1).map Un.v:=(List.map_take ..).symm
       have hlm:((out.take at1).map Un.v).length=at1:=by simp; omega
       have hA1:((out.take at1).map Un.v).take at1=(out.take at1).map Un.v:=List.take_of_length_le (by rw [hlm]; exact Nat.le_refl _)
       have hA2:((out.map Un.v).drop at1).take (out.length-at1)=(out.drop at1).map Un.v:=by rw [List.take_of_length_le (by simp),List.map_drop]
       have hdl:((out.drop at1).map Un.v).length=out.length-at1:=by simp
       have hne:¬ (out.take at1).map Un.v=[]:=fun e=>by have:=congrArg List.length e; rw [hlm,List.length_nil] at this; omega
       simp only [push_cast,seval,-Nat.reducePow,j0,j1,j5,j6,jL,hlt,hlo,e3,e4,e1,g1,hle,Nat.sub_zero]
       have f1:id≠s.nx+172:=by omega
       have f2:id≠s.nx+178:=by omega
       refine ⟨by omega,aBw ?_⟩
       simp only [push_cast,seval,-Nat.reducePow,appN,j0,j1,j5,j6,jL,hlt,hlo,e3,e4,e1,g1,hle,Nat.sub_zero,f1,f2,hne,htk,hlm,hA1,hA2,hdl]
       have hil:(insU out at1 u).length=out.length+1:=by unfold insU; simp; omega
       refine ⟨by omega,by omega,by omega,by omega,by simp; omega,by omega,by omega,by omega,r.length,by omega,d++[u],r,insU out at1 u,s.nx+182,u.nm,u,by simp,rfl,hor,by simpa using hu1,rfl,by rw [aIw]; simp,by omega,by simp; omega,fun n hn=>by rw [aIw,hsub n hn,Bool.or_true],?_⟩
       refine ⟨by rw [hil,show at1+(1+(out.length-at1))=out.length+1 by omega],?_,by omega,by simp⟩
       rw [aAd,List.take_of_length_le (by simp; omega)]
       unfold insU
       simp [Un.v]
end Go.Ab
namespace Go.Ab
variable {P:Program} {F T:Nat→Nat}
open Go.Lib
structure RMrg (P:Program) (F T:Nat→Nat):Prop where
 h256:bH0 P F T
 h272:bCx P F T
 h278:bJ5 P F T
 h279:bHn P F T
 h286:bG0 P F T
 h287:bIa P F T
 h288:bGd P F T
 h290:bBg P F T
 h159:aNw P (F 159)
theorem t278 (K:RMrg P F T) (b x y:List UInt8) (hb:b.length≤8192) (hx:x.length≤8192) (hy:y.length≤8192) (hlen:b.length+2*x.length+2*y.length+2≤8192) :
 PTr P (F 278) [.str b,.str x,.str y] (mrgV (aEw b x y)):=by
 have c0:=t272 K.h272 K.h159 b hb
 have c1:=t272 K.h272 K.h159 x hx
 have c2:=t272 K.h272 K.h159 y hy
 have hml:=aPt b x y
 refine ptrC [] K.h278 (by simp) (by simp [mrgV,V.imm,V.imms,aIh]) ?_
 simp only [c278,push_cast,seval,-Nat.reducePow]
 refine aAb c0 (by simp only [push_cast,seval,-Nat.reducePow]) (by simp only [push_cast,seval,-Nat.reducePow,aBt]) ?_
 simp only [push_cast,seval,-Nat.reducePow]
 refine aAb c1 (by simp only [push_cast,seval,-Nat.reducePow]) (by simp only [push_cast,seval,-Nat.reducePow,aBt]) ?_
 simp only [push_cast,seval,-Nat.reducePow]
 refine aAb c2 (by simp only [push_cast,seval,-Nat.reducePow]) (by simp only [push_cast,seval,-Nat.reducePow,aBt]) ?_
 simp only [push_cast,seval,-Nat.reducePow]
 unfold aEw
 by_cases e1:x=b
 ·subst e1
  simp only [push_cast,seval,-Nat.reducePow]
  simp [view,mrgV,aGr,ln]
 by_cases e2:x=y
 ·subst e2
  simp only [push_cast,seval,-Nat.reducePow,e1]
  simp [view,mrgV,aGr,ln]
 by_cases e3:y=b
 ·subst e3
  simp only [push_cast,seval,-Nat.reducePow,e1,e2]
  simp [view,mrgV,aGr,ln,e1]
 simp only [push_cast,seval,-Nat.reducePow,e1,e2,e3]
 have ulb:=aBr b
 have ulx:=aBr x
 have uly:=aBr y
 have ord:=t286 K.h286 K.h290 x y hx hy
 refine aAb ord (by simp only [push_cast,seval,-Nat.reducePow,aBt]) (by simp only [push_cast,seval,-Nat.reducePow,aBt]) ?_
 obtain ⟨l,hl⟩:∃ l,l=aCf (aAf x) (aAf y):=⟨_,rfl⟩
 rw [← hl]
 have hll:=aC3 l
 obtain ⟨q,hq⟩:∃ q,q=1173:=⟨_,rfl⟩
 obtain ⟨ub,hub⟩:∃ ub,ub=aAf b:=⟨_,rfl⟩
 obtain ⟨ux,hux⟩:∃ ux,ux=aAf x:=⟨_,rfl⟩
 obtain ⟨uy,huy⟩:∃ uy,uy=aAf y:=⟨_,rfl⟩
 rw [← hub] at ulb ⊢
 rw [← hux] at ulx hl ⊢
 rw [← huy] at uly hl ⊢
 have z6:(6:Nat)≠q:=by omega
 have hodl:l.length≤20000:=by
  have h2:=(aEa (aAf y) (aAf x) ([],0) (List.pairwise_map.2 (aDe x))).2
  rw [hl]
  unfold aCf
  rw [← hux,← huy] at h2
  omega
 refine aAe (fun m s=>∃ d r uid cv,l=d++r∧m=r.length∧s.env 6=.ptr 6 0∧s.env 8=.lst 3 (ub.map Un.v)∧s.env 10=.lst 3 (ux.map Un.v)∧s.env 11=.lst 3 (uy.map Un.v)∧s.env 12=.ptr q 0∧s.env 13=.own uid 3 0 (aGj ub ux uy d).length∧s.env 14=.lst 3 (l.map Un.v)∧s.env 15=.int .i64 d.length ∧
  s.L 6=some (.box (T 27) [.str [],.nils])∧s.L q=some (.box (T 27) [.str [],cv])∧OwnS T s (q+1) uid cv (aDy ub ux uy d)∧s.L uid=some (.vec (T 28) 3 ((aGj ub ux uy d).map Un.v))∧q<uid∧uid<s.nx∧q<s.nx) l.length ⟨[],l,1419,.nils,?_⟩ fun m s2 hJ=>?_
 ·simp only [push_cast,seval,-Nat.reducePow]
  subst hq
  refine ⟨rfl,rfl,by rw [aAc _ _ _ _ (by omega),aAd],.inl ⟨rfl,rfl⟩,by rfl,by omega,by omega⟩
 ·obtain ⟨d,r,uid,cv,rfl,rfl,i6,i8,i10,i11,i12,i13,i14,i15,iL6,iq,hcv,iu,hqu,hun,hqn⟩:=hJ
  cases r with
  | nil =>
    rw [List.append_nil] at hl hodl i14
    have hld:=aC3 d
    have h':¬ ((d.length:Nat):Int)<((d.length:Nat):Int):=by omega
    simp only [push_cast,seval,-Nat.reducePow,i6,i8,i10,i11,i12,i13,i14,i15,h',hld]
    subst hl
    have hmf:aEw b x y=(aEs (aGj ub ux uy (aCf ux uy)),aDy ub ux uy (aCf ux uy)):=by
     unfold aEw
     rw [if_neg (by simp [e1,e2]),if_neg e3,hub,hux,huy]
    rw [hmf] at hml
    obtain ⟨ru,hru⟩:∃ ru,ru=aGj ub ux uy (aCf ux uy):=⟨_,rfl⟩
    obtain ⟨cu,hcu⟩:∃ cu,cu=aDy ub ux uy (aCf ux uy):=⟨_,rfl⟩
    have hrl:ru.length≤(aCf ux uy).length:=by
     rw [hru,aI8]
     have:=(aFw ub ux uy ((aCf ux uy).map Un.nm)).2
     rwa [List.length_map] at this
    rw [← hru] at iu hml ⊢
    rw [← hcu] at hcv ⊢
    have hsum:=(aG8 ru).1
    simp only at hml
    have jn:=t256 K.h256 (ru.map Un.u3) (by rw [List.length_map]; omega) (by
     rw [List.map_map]
     show sumT ru≤_
     omega)
    rw [← un_v,List.map_map,show (ru.map ((fun u:U3=>u.2.2) ∘ Un.u3))=ru.map Un.text from rfl,← aK7] at jn
    have hvw:view s2.L 3 (.own uid 3 0 ru.length)=.lst 3 (ru.map Un.v):=by
     have:=aDa (n:=2) (sz:=3) iu (aBt ru)
     rwa [aC3] at this
    rw [hvw]
    refine aFj jn (by simp only [push_cast,seval,-Nat.reducePow,aBt]) rfl ?_
    have hml':¬ (8192:Int)<((aEs ru).length:Nat):=by omega
    simp only [push_cast,seval,-Nat.reducePow,i12,iq,hml',i6,iL6,z6]
    refine ⟨by rw [hcv.one]; rfl,?_⟩
    have hvc:=hcv.view (upd (upd s2.L q (some (Blk.box (T 27) [V.str (aEs ru),cv]))) 6 (some (Blk.box (T 27) [V.str (aEs ru),cv]))) (fun k hk=>by rw [aAc _ _ _ _ (by omega),aAc _ _ _ _ (by omega)]) 0
    rw [if_neg (by simp)]
    simp only [view,List.map_cons,List.map_nil] at hvc ⊢
    rw [hvc]
    rfl
  | cons u r =>
    have h':((d.length:Nat):Int)<((d++u::r).length:Nat):=by simp; omega
    have hg:((d++u::r).map Un.v).getD d.length .junk=.agg [.str u.title,.int .i64 u.nth,.str u.text]:=by simp [List.getD,Un.v]
    have hdl:(d++u::r).length=d.length+(r.length+1):=by simp
    have x0:=t287 K.h287 K.h290 ub (by omega) u
    have x1:=t287 K.h287 K.h290 ux (by omega) u
    have x2:=t287 K.h287 K.h290 uy (by omega) u
    simp only [Un.v] at x0 x1 x2
    simp only [push_cast,seval,-Nat.reducePow,i6,i8,i10,i11,i12,i13,i14,i15,h',hll,hg]
    refine aAb x0 (by simp only [push_cast,seval,-Nat.reducePow,aBt]) (by simp only [push_cast,seval,-Nat.reducePow,aFc]) ?_
    simp only [push_cast,seval,-Nat.reducePow,i6,i8,i10,i11,i12,i13,i14,i15,h',hll,hg]
    refine aAb x1 (by simp only [push_cast,seval,-Nat.reducePow,aBt]) (by simp only [push_cast,seval,-Nat.reducePow,aFc]) ?_
    simp only [push_cast,seval,-Nat.reducePow,i6,i8,i10,i11,i12,i13,i14,i15,h',hll,hg]
    refine aAb x2 (by simp only [push_cast,seval,-Nat.reducePow,aBt]) (by simp only [push_cast,seval,-Nat.reducePow,aFc]) ?_
    refine aAb (t288 K.h288 _ _ _) (by simp only [push_cast,seval,-Nat.reducePow,aFc]) (by simp only [push_cast,seval,-Nat.reducePow,aFc]) ?_
    obtain ⟨co,hco⟩:∃ co,co=aDg (txtU ub u.nm) (txtU ux u.nm) (txtU uy u.nm):=⟨_,rfl⟩
    rw [← hco]
    obtain ⟨c,f⟩:=co
    have hR:aGj ub ux uy (d++[u])=aGj ub ux uy d++(c.map fun s=>(⟨u.title,u.nth,s⟩:Un)).toList:=by
     unfold aGj
     rw [List.filterMap_append,List.filterMap_cons,List.filterMap_nil,← hco]
     cases c <;> rfl
    have hC:aDy ub ux uy (d++[u])=aDy ub ux uy d++(if f then [u.title] else []):=by
     unfold aDy
     rw [List.filter_append,List.map_append,List.filter_cons,List.filter_nil,← hco]
     cases f <;> rfl
    obtain ⟨ru,hru⟩:∃ ru,ru=aGj ub ux uy d:=⟨_,rfl⟩
    obtain ⟨cu,hcu⟩:∃ cu,cu=aDy ub ux uy d:=⟨_,rfl⟩
    rw [← hru] at hR iu
    rw [← hcu] at hC hcv
    have hrl:ru.length≤20000:=by
     have h1:ru.length≤d.length:=by
      rw [hru,aI8]
      have:=(aFw ub ux uy (d.map Un.nm)).2
      rwa [List.length_map] at this
     omega
    have hcl:cu.length≤20000:=by
     have h1:cu.length≤d.length:=by
      rw [hcu]
      unfold aDy
      rw [List.length_map]
      exact List.length_filter_le _ _
     omega
    have hlru:=aC3 ru
    cases f with
    | false =>
      cases c with
      | none =>
        simp only [push_cast,seval,-Nat.reducePow,tvV,i6,i8,i10,i11,i12,i13,i14,i15,hll,hg,← hru]
        refine ⟨by omega,r.length,by omega,d++[u],r,uid,cv,by simp,rfl,by rw [hR]; simp,by simp,iL6,?_,?_,?_,by omega,by omega,by omega⟩
        ·repeat rw [aAc _ _ _ _ (by omega)]
         exact iq
        ·rw [hC]
         simp only [Bool.false_eq_true,if_false,List.append_nil]
         exact hcv.mono (fun k h1 h2 h3=>by simp only; repeat rw [aAc _ _ _ _ (by omega)]) (by simp only; omega) (.inl rfl)
        ·rw [hR]
         repeat rw [aAc _ _ _ _ (by omega)]
         simpa using iu
      | some z =>
        have u1:uid≠s2.nx+145:=by omega
        simp only [push_cast,seval,-Nat.reducePow,tvV,i6,i8,i10,i11,i12,i13,i14,i15,hll,hg,← hru,u1,iu,hlru]
        refine ⟨by omega,by omega,r.length,by omega,d++[u],r,s2.nx+635,cv,by simp,rfl,by rw [hR]; simp,by simp,?_,?_,?_,?_,by omega,by omega,by omega⟩
        ·repeat rw [aAc _ _ _ _ (by omega)]
         exact iL6
        ·repeat rw [aAc _ _ _ _ (by omega)]
         exact iq
        ·rw [hC]
         simp only [Bool.false_eq_true,if_false,List.append_nil]
         exact hcv.mono (fun k h1 h2 h3=>by simp only; repeat rw [aAc _ _ _ _ (by omega)]) (by simp only; omega) (.inr (by omega))
        ·rw [hR,aAd,List.map_append,List.take_of_length_le (by rw [hlru]; exact Nat.le_refl _)]
         rfl
    | true =>
      have u1:uid≠s2.nx+145:=by omega
      have q1:q≠s2.nx+145:=by omega
      have r1:s2.nx+145≠q:=by omega
      have r3:s2.nx+145≠uid:=by omega
      have u5:uid≠q:=by omega
      have u4:uid≠s2.nx+487:=by omega
      have q4:q≠s2.nx+487:=by omega
      have r5:s2.nx+487≠q:=by omega
      have r6:s2.nx+487≠uid:=by omega
      rcases hcv with ⟨hc0,rfl⟩ | ⟨hc0,id,rfl,c1',c2',c3',c4'⟩
      ·cases c with
       | none =>
         simp only [push_cast,seval,-Nat.reducePow,tvV,i6,i8,i10,i11,i12,i13,i14,i15,hll,hg,← hru,u1,q1,r1,r3,u5,u4,q4,r5,r6,iq,iu,hlru]
         refine aBw ?_
         simp only [push_cast,seval,-Nat.reducePow,appN,i6,i8,i10,i11,i12,i13,i14,i15,hll,hg,u1,q1,r1,r3,u5,u4,q4,r5,r6,iq,iu,hlru,← hru]
         refine ⟨by omega,by omega,r.length,by omega,d++[u],r,uid,.own (s2.nx+487) 1 0 (cu.length+1),by simp,rfl,by rw [hR]; simp,by simp,?_,?_,?_,?_,by omega,by omega,by omega⟩
         ·repeat rw [aAc _ _ _ _ (by omega)]
          exact iL6
         ·first | rfl | (rw [hc0]; rfl) | ((repeat (rw [aAc _ _ _ _ (by omega)])); rw [aAd]; try (first | rfl | (rw [hc0]; rfl)))
         ·rw [hC]
          refine .inr ⟨by simp,s2.nx+487,by simp,?_,by omega,by simp only; omega,by omega⟩
          simp only
          repeat rw [aAc _ _ _ _ (by omega)]
          rw [aAd]
          first | (simp [hc0]; done) | (simp [List.take_of_length_le]; done)
         ·rw [hR]
          repeat rw [aAc _ _ _ _ (by omega)]
          simpa using iu
       | some z =>
         simp only [push_cast,seval,-Nat.reducePow,tvV,i6,i8,i10,i11,i12,i13,i14,i15,hll,hg,← hru,u1,q1,r1,r3,u5,u4,q4,r5,r6,iq,iu,hlru]
         refine aBw ?_
         simp only [push_cast,seval,-Nat.reducePow,appN,i6,i8,i10,i11,i12,i13,i14,i15,hll,hg,u1,q1,r1,r3,u5,u4,q4,r5,r6,iq,iu,hlru,← hru]
         refine ⟨by omega,by omega,by omega,r.length,by omega,d++[u],r,s2.nx+764,.own (s2.nx+487) 1 0 (cu.length+1),by simp,rfl,by rw [hR]; simp,by simp,?_,?_,?_,?_,by omega,by omega,by omega⟩
         ·repeat rw [aAc _ _ _ _ (by omega)]
          exact iL6
         ·first | rfl | (rw [hc0]; rfl) | ((repeat (rw [aAc _ _ _ _ (by omega)])); rw [aAd]; try (first | rfl | (rw [hc0]; rfl)))
         ·rw [hC]
          refine .inr ⟨by simp,s2.nx+487,by simp,?_,by omega,by simp only; omega,by omega⟩
          simp only
          repeat rw [aAc _ _ _ _ (by omega)]
          rw [aAd]
          first | (simp [hc0]; done) | (simp [List.take_of_length_le]; done)
         ·rw [hR,aAd,List.map_append,List.take_of_length_le (by rw [hlru]; exact Nat.le_refl _)]
          rfl
      ·have v1:id≠s2.nx+145:=by omega
       have t1:s2.nx+145≠id:=by omega
       have t3:s2.nx+487≠id:=by omega
       have v4:uid≠id:=fun e=>c4' e.symm
       have v5:q≠id:=by omega
       have hcln:(cu.map V.str).length=cu.length:=List.length_map ..
       cases c with
       | none =>
         simp only [push_cast,seval,-Nat.reducePow,tvV,i6,i8,i10,i11,i12,i13,i14,i15,hll,hg,← hru,u1,q1,r1,r3,u5,u4,q4,r5,r6,v1,t1,t3,v4,v5,c4',c1',iq,iu,hlru,hcln]
         refine ⟨by omega,by omega,r.length,by omega,d++[u],r,uid,.own (s2.nx+487) 1 0 (cu.length+1),by simp,rfl,by rw [hR]; simp,by simp,?_,?_,?_,?_,by omega,by omega,by omega⟩
         ·repeat rw [aAc _ _ _ _ (by omega)]
          exact iL6
         ·first | rfl | (rw [hc0]; rfl) | ((repeat (rw [aAc _ _ _ _ (by omega)])); rw [aAd]; try (first | rfl | (rw [hc0]; rfl)))
         ·rw [hC]
          refine .inr ⟨by simp,s2.nx+487,by simp,?_,by omega,by simp only; omega,by omega⟩
          simp only
          repeat rw [aAc _ _ _ _ (by omega)]
          rw [aAd]
          first | (simp [hc0]; done) | (simp [List.take_of_length_le]; done)
         ·rw [hR]
          repeat rw [aAc _ _ _ _ (by omega)]
          simpa using iu
       | some z =>
         simp only [push_cast,seval,-Nat.reducePow,tvV,i6,i8,i10,i11,i12,i13,i14,i15,hll,hg,← hru,u1,q1,r1,r3,u5,u4,q4,r5,r6,v1,t1,t3,v4,v5,c4',c1',iq,iu,hlru,hcln]
         refine ⟨by omega,by omega,by omega,r.length,by omega,d++[u],r,s2.nx+764,.own (s2.nx+487) 1 0 (cu.length+1),by simp,rfl,by rw [hR]; simp,by simp,?_,?_,?_,?_,by omega,by omega,by omega⟩
         ·repeat rw [aAc _ _ _ _ (by omega)]
          exact iL6
         ·first | rfl | (rw [hc0]; rfl) | ((repeat (rw [aAc _ _ _ _ (by omega)])); rw [aAd]; try (first | rfl | (rw [hc0]; rfl)))
         ·rw [hC]
          refine .inr ⟨by simp,s2.nx+487,by simp,?_,by omega,by simp only; omega,by omega⟩
          simp only
          repeat rw [aAc _ _ _ _ (by omega)]
          rw [aAd]
          first | (simp [hc0]; done) | (simp [List.take_of_length_le]; done)
         ·rw [hR,aAd,List.map_append,List.take_of_length_le (by rw [hlru]; exact Nat.le_refl _)]
          rfl
theorem law276 (hf:bKr P F T) (M:MrgLaw P F T) (R:RMrg P F T) (b x y:List UInt8) (es:List V) (hi:V.imms es=true) (hes:∀ e,e∈es→∃ m,e=.int .i64 m):PTr P (F 276) [.str b,.str x,.str y,.lst 1 es] (.bool true):=by
 refine bEp 3 rfl fun hl=>?_
 refine ptrC [] hf (by simp [hi]) rfl ?_
 simp only [c276,push_cast,seval,-Nat.reducePow]
 by_cases h1:300<b.length
 ·have h1':(300:Int)<(b.length:Nat):=by omega
  simp only [push_cast,seval,-Nat.reducePow,h1']
  refine aAb M.kn (by simp only [push_cast,seval,-Nat.reducePow]) (by simp only [push_cast,seval,-Nat.reducePow]) ?_
  simp only [push_cast,seval,-Nat.reducePow,view]
 have h1':¬ (300:Int)<(b.length:Nat):=by omega
 by_cases h2:300<x.length
 ·have h2':(300:Int)<(x.length:Nat):=by omega
  simp only [push_cast,seval,-Nat.reducePow,h1',h2']
  refine aAb M.kn (by simp only [push_cast,seval,-Nat.reducePow]) (by simp only [push_cast,seval,-Nat.reducePow]) ?_
  simp only [push_cast,seval,-Nat.reducePow,view]
 have h2':¬ (300:Int)<(x.length:Nat):=by omega
 by_cases h3:300<y.length
 ·have h3':(300:Int)<(y.length:Nat):=by omega
  simp only [push_cast,seval,-Nat.reducePow,h1',h2',h3']
  refine aAb M.kn (by simp only [push_cast,seval,-Nat.reducePow]) (by simp only [push_cast,seval,-Nat.reducePow]) ?_
  simp only [push_cast,seval,-Nat.reducePow,view]
 have h3':¬ (300:Int)<(y.length:Nat):=by omega
 have c1:=M.mrg (b:=b) (x:=x) (y:=y) (by omega) (by omega) (by omega)
 have r1:=t278 R b x y (by omega) (by omega) (by omega) (by omega)
 have hcle:=aT0 b x y
 have k1:=aBr x
 have k2:=aBr y
 obtain ⟨m1,hm1⟩:∃ m,m=aEw b x y:=⟨_,rfl⟩
 rw [← hm1] at c1 r1 hcle
 have i1:=aIh m1.2
 have sa:=t279 R.h279 m1.1 m1.2 (by omega)
 simp only [push_cast,seval,-Nat.reducePow,h1',h2',h3']
 refine aAa (n277 M.C es hi hes hl) ?_
 rintro v L0 n0 ⟨b',x',y',rfl,⟨hb,_⟩,⟨hx,_⟩,⟨hy,_⟩,hn⟩
 have c2:=M.mrg (b:=b') (x:=x') (y:=y') (by omega) (by omega) (by omega)
 have r2:=t278 R b' x' y' (by omega) (by omega) (by omega) (by omega)
 have hcle2:=aT0 b' x' y'
 have k3:=aBr x'
 have k4:=aBr y'
 obtain ⟨m2,hm2⟩:∃ m,m=aEw b' x' y':=⟨_,rfl⟩
 rw [← hm2] at c2 r2 hcle2
 have i2:=aIh m2.2
 have sb:=t279 R.h279 m2.1 m2.2 (by omega)
 simp only [mrgV] at c1 c2 r1 r2
 simp only [push_cast,seval,-Nat.reducePow]
 refine aAb c1 (by simp only [push_cast,seval,-Nat.reducePow]) (by simp only [push_cast,seval,-Nat.reducePow,i1]) ?_
 simp only [push_cast,seval,-Nat.reducePow,aKx]
 refine aAb r1 (by simp only [push_cast,seval,-Nat.reducePow]) (by simp only [push_cast,seval,-Nat.reducePow,i1]) ?_
 simp only [push_cast,seval,-Nat.reducePow,aKx]
 refine aAb c2 (by simp only [push_cast,seval,-Nat.reducePow]) (by simp only [push_cast,seval,-Nat.reducePow,i2]) ?_
 simp only [push_cast,seval,-Nat.reducePow,aKx]
 refine aAb r2 (by simp only [push_cast,seval,-Nat.reducePow]) (by simp only [push_cast,seval,-Nat.reducePow,i2]) ?_
 simp only [push_cast,seval,-Nat.reducePow,aKx]
 refine aAb sa (by simp only [push_cast,seval,-Nat.reducePow,i1]) (by simp only [push_cast,seval,-Nat.reducePow]) ?_
 simp only [push_cast,seval,-Nat.reducePow]
 refine aAb sb (by simp only [push_cast,seval,-Nat.reducePow,i2]) (by simp only [push_cast,seval,-Nat.reducePow]) ?_
 simp only [push_cast,seval,-Nat.reducePow]
 refine aAb M.kn (by simp only [push_cast,seval,-Nat.reducePow]) (by simp only [push_cast,seval,-Nat.reducePow]) ?_
 simp only [push_cast,seval,-Nat.reducePow,view]
end Go.Ab
