/- Several texts of one kind, merged. No condition. -/
import Derived.Test.YtjakkhalapaofaaGreatDoorAbM9
set_option linter.unusedSimpArgs false
set_option linter.unusedVariables false
namespace Go.Ab
variable {P:Program} {F T:Nat→Nat}
open Go.Lib
theorem t290 (hf:bB7 P F T) (us:List Un) (hu:us.length≤2^31) (w:Un):PTr P (F 290) [.lst 3 (us.map Un.v),w.v] (.int .i64 (ixG w.title w.nth 0 us)):=by
 have hln:=aCn us
 refine ptrC [] hf (by simp [aBd,Un.v]) rfl ?_
 simp only [c290,push_cast,seval,-Nat.reducePow,hln,Un.v]
 refine aAg (fun m s=>∃ d r,us=d++r∧m=r.length∧ixG w.title w.nth d.length r=ixG w.title w.nth 0 us∧s.env 0=.lst 3 (us.map Un.v)∧s.env 3=.ptr 3 0∧s.L 3=some (.box (T 28) [.str w.title,.int .i64 w.nth,.str w.text])∧s.env 5=.int .i64 d.length) us.length ⟨[],us,?_⟩ fun m s hJ=>?_
 ·simp only [push_cast,seval,-Nat.reducePow]
  try rfl
 ·obtain ⟨d,r,rfl,rfl,ht,j0,j3,jL,j5⟩:=hJ
  cases r with
  | nil =>
    have hld:=aCn d
    simp only [push_cast,seval,-Nat.reducePow,j0,j3,jL,j5,hld]
    rw [ixG,List.append_nil] at ht
    rw [← ht]
    rfl
  | cons u r =>
    have h':((d.length:Nat):Int)<((d++u::r).length:Nat):=by simp; omega
    have hg:((d++u::r).map Un.v).getD d.length .junk=.agg [.str u.title,.int .i64 u.nth,.str u.text]:=by simp [List.getD,Un.v]
    have hdl:(d++u::r).length=d.length+(r.length+1):=by simp
    rw [ixG] at ht
    by_cases e1:u.title=w.title
    ·by_cases e2:(u.nth:Int)=(w.nth:Int)
     ·rw [if_pos (by simp [e1,e2])] at ht
      rw [← ht]
      simp only [push_cast,seval,-Nat.reducePow,j0,j3,jL,j5,hln,h',hg,e1,e2]
      rfl
     ·rw [if_neg (by simp [e1]; omega)] at ht
      simp only [push_cast,seval,-Nat.reducePow,j0,j3,jL,j5,hln,h',hg,e1,e2]
      exact ⟨by omega,r.length,by omega,d++[u],r,by simp,rfl,by rw [← ht]; simp,by simp⟩
    ·rw [if_neg (by simp [e1])] at ht
     simp only [push_cast,seval,-Nat.reducePow,j0,j3,jL,j5,hln,h',hg,e1]
     exact ⟨by omega,r.length,by omega,d++[u],r,by simp,rfl,by rw [← ht]; simp,by simp⟩
theorem bMq {l:List Un} {n:List UInt8×Nat} (h:hasU l n=true):atU l n<l.length∧txtU l n=some (l.getD (atU l n) ⟨[],0,[]⟩).text:=by
 induction l with
 | nil=>simp [hasU] at h
 | cons u r ih =>
   have h2:atU (u::r) n=if u.nm=n then 0 else atU r n+1:=by
    unfold atU
    rw [List.findIdx_cons]
    by_cases h:u.nm=n <;> simp [h]
   rw [aF7,h2]
   by_cases e:u.nm=n
   ·simp [e]
   ·have h3:hasU r n=true:=by
     unfold hasU at h ⊢
     rw [List.any_cons] at h
     simpa [e] using h
    obtain ⟨i1,i2⟩:=ih h3
    simp only [e,if_false,List.length_cons]
    exact ⟨by omega,by rw [i2]; simp⟩
theorem bE2 {l:List Un} {n:List UInt8×Nat} (h:¬ hasU l n=true):txtU l n=none:=by
 induction l with
 | nil=>rfl
 | cons u r ih =>
   have h1:hasU (u::r) n=(decide (u.nm=n)||hasU r n):=by unfold hasU; rw [List.any_cons]
   rw [h1] at h
   rw [aF7]
   by_cases e:u.nm=n
   ·simp [e] at h
   ·rw [if_neg e,ih (by simpa [e] using h)]
theorem t287 (hf:bJ3 P F T) (h290:bB7 P F T) (us:List Un) (hu:us.length≤2^31) (w:Un):PTr P (F 287) [.lst 3 (us.map Un.v),w.v] (tvV (txtU us w.nm)):=by
 have hln:=aCn us
 have c1:=t290 h290 us hu w
 rw [show ixG w.title w.nth 0 us=_ from aL4 w.nm us 0] at c1
 refine ptrC [] hf (by simp [aBd,Un.v]) (aEo _) ?_
 simp only [Un.v] at c1
 simp only [c287,push_cast,seval,-Nat.reducePow,hln,Un.v]
 refine aAa c1 (by simp only [push_cast,seval,-Nat.reducePow,aBd]) (by simp only [push_cast,seval,-Nat.reducePow]) ?_
 by_cases h:hasU us w.nm=true
 ·obtain ⟨h1,h2⟩:=bMq h
  obtain ⟨u,hu'⟩:∃ u,u=us.getD (atU us w.nm) ⟨[],0,[]⟩:=⟨_,rfl⟩
  have hg:(us.map Un.v).getD (atU us w.nm) .junk=.agg [.str u.title,.int .i64 u.nth,.str u.text]:=by rw [hu']; simp [List.getD,h1,Un.v]
  rw [← hu'] at h2
  have hnn:(0:Int)≤((atU us w.nm:Nat):Int):=by omega
  simp only [push_cast,seval,-Nat.reducePow,h,hnn,hg,Nat.zero_add,hln,h2,tvV]
  exact ⟨h1,rfl⟩
 ·simp only [push_cast,seval,-Nat.reducePow,h,bE2 h,tvV]
  rfl
theorem t288 (hf:bKh P F T) (b o t:Option (List UInt8)):PTr P (F 288) [tvV b,tvV o,tvV t] (.tup [tvV (aBt b o t).1,.bool (aBt b o t).2]):=by
 rw [aNx]
 refine ptrC [] hf (by simp [aEo]) (by simp [V.imm,V.imms,aEo]) ?_
 rcases b with _ | b <;> rcases o with _ | o <;> rcases t with _ | t
 all_goals
  simp only [c288,push_cast,seval,-Nat.reducePow,tvV,show (true==true)=true from rfl,show (false==true)=false from rfl,show (true==false)=false from rfl,show (false==false)=true from rfl,Bool.true_and,Bool.false_and]
 all_goals
  repeat' (refine aAk (fun h=>?_) (fun h=>?_) <;> simp only [push_cast,seval,-Nat.reducePow,show (true==true)=true from rfl,show (false==true)=false from rfl,show (true==false)=false from rfl,show (false==false)=true from rfl,Bool.true_and,Bool.false_and])
 all_goals (simp_all [view,aRg,tvV])
theorem t286 (hf:bI9 P F T) (h290:bB7 P F T) (x y:List UInt8) (hx:x.length≤8192) (hy:y.length≤8192) :
 PTr P (F 286) [.lst 3 ((aAc x).map Un.v),.lst 3 ((aAc y).map Un.v)] (.lst 3 ((aBm (aAc x) (aAc y)).map Un.v)):=by
 have k1:=aB2 x
 have k2:=aB2 y
 rw [bCc]
 obtain ⟨o,ho⟩:∃ o,o=aAc x:=⟨_,rfl⟩
 have h0:0<o.length:=by rw [ho]; simp [aAc]
 have hl0:hasU o ([],0)=true:=by rw [ho]; exact aJ7 x
 obtain ⟨f,hff⟩:∃ f:Un,f=⟨[],0,aHz y⟩:=⟨_,rfl⟩
 obtain ⟨g,hg⟩:∃ g,g=uGo y [] (aC9 y):=⟨_,rfl⟩
 have hy2:aAc y=f::g:=by rw [aAc,hff,hg]
 rw [← ho] at k1 ⊢
 rw [← hg]
 obtain ⟨tl,htl⟩:∃ tl,tl=f::g:=⟨_,rfl⟩
 rw [← htl] at hy2
 rw [hy2] at k2 ⊢
 have hln:=aCn o
 have hlt:=aCn tl
 have htg:tl.length=g.length+1:=by rw [htl]; rfl
 have hone:¬ o.map Un.v=[]:=fun e=>by have:=congrArg List.length e; rw [hln,List.length_nil] at this; omega
 have himg:∀ (k:Nat) (u:Un),tl[k]?=some u→(tl.map Un.v).getD k .junk=.agg [.str u.title,.int .i64 u.nth,.str u.text]:=fun k u h=>by simp [List.getD,h,Un.v]
 refine ptrC [] hf (by simp [aBd,Un.v,V.imm]) (by simp [V.imm,aBd]) ?_
 simp only [c286,push_cast,seval,-Nat.reducePow]
 refine aC3 ?_
 simp only [push_cast,seval,-Nat.reducePow,appN,hln,hone]
 refine ⟨by omega,?_⟩
 refine aAg (fun m s=>∃ d r out id prev p0,g=d++r∧m=r.length∧ordR o out prev r=ordR o o ([],0) g∧tl[d.length]?=some p0∧p0.nm=prev∧hasU out prev=true∧0<out.length∧out.length≤o.length+d.length∧(∀ n,hasU o n=true→hasU out n=true) ∧
  s.env 0=.lst 3 (o.map Un.v)∧s.env 1=.lst 3 (tl.map Un.v)∧s.env 5=.own id 3 0 out.length∧s.L id=some (.vec (T 28) 3 (out.map Un.v))∧id<s.nx∧s.env 6=.int .i64 ((d.length+1:Nat):Int)) g.length ⟨[],g,o,55,([],0),f,?_⟩ fun m s hJ=>?_
 ·simp only [push_cast,seval,-Nat.reducePow]
  exact ⟨by rw [htl]; rfl,by rw [hff],hl0,h0,fun _ h=>h⟩
 ·obtain ⟨d,r,out,id,prev,p0,rfl,rfl,hor,hp1,hp2,hpo,hpos,hol,hsub,j0,j1,j5,jL,hid,j6⟩:=hJ
  have hlo:=aCn out
  have him:=aBd out
  have e1:(((d.length:Nat):Int)+1).toNat=d.length+1:=by omega
  have e2:((d.length:Nat):Int)+1-1=(d.length:Nat):=by omega
  cases r with
  | nil =>
    rw [List.append_nil] at htg
    have h':¬ ((d.length:Nat):Int)+1<(tl.length:Nat):=by omega
    rw [ordR,List.append_nil] at hor
    simp only [push_cast,seval,-Nat.reducePow,j0,j1,j5,j6,hlt,h']
    rw [← hor]
    have:=aC4 (n:=2) (sz:=3) jL him
    rw [hlo] at this
    exact this
  | cons u r =>
    rw [List.length_append,List.length_cons] at htg
    have h':((d.length:Nat):Int)+1<(tl.length:Nat):=by omega
    have hu1:tl[d.length+1]?=some u:=by rw [htl]; simp
    have g1:=himg _ _ hu1
    have g0:=himg _ _ hp1
    have c1:=t290 h290 o (by omega) u
    rw [show ixG u.title u.nth 0 o=_ from aL4 u.nm o 0] at c1
    have c2:=t290 h290 out (by omega) p0
    rw [show ixG p0.title p0.nth 0 out=_ from aL4 p0.nm out 0,hp2,if_pos hpo,Nat.zero_add] at c2
    simp only [Un.v] at c1 c2
    rw [ordR] at hor
    simp only [push_cast,seval,-Nat.reducePow,j0,j1,j5,j6,hlt,h',e1,g1]
    refine ⟨by omega,by omega,aAa c1 (by simp only [push_cast,seval,-Nat.reducePow,aBd]) (by simp only [push_cast,seval,-Nat.reducePow]) ?_⟩
    cases hh:hasU o u.nm with
    | true =>
      rw [if_pos hh] at hor
      have q:(0:Int)≤((0+atU o u.nm:Nat):Int):=by omega
      simp only [push_cast,seval,-Nat.reducePow,q,j0,j1,j5,j6]
      exact ⟨by omega,r.length,by omega,d++[u],r,out,id,u.nm,u,by simp,rfl,hor,by simpa using hu1,rfl,hsub _ hh,hpos,by simp; omega,hsub,rfl,jL,by omega,by simp⟩
    | false =>
      rw [if_neg (by rw [hh]; decide)] at hor
      simp only [push_cast,seval,-Nat.reducePow,j0,j1,j5,j6,hlt,e2,g0]
      have hv:view s.L 3 (.own id 3 0 out.length)=.lst 3 (out.map Un.v):=by
       have:=aC4 (n:=2) (sz:=3) jL him
       rw [hlo] at this
       exact this
      have hat:atU out prev<out.length:=by
       unfold atU
       rw [List.findIdx_lt_length]
       unfold hasU at hpo
       rw [List.any_eq_true] at hpo
       exact hpo
      refine ⟨by omega,by omega,aF6 (r:=.int .i64 ((atU out prev:Nat):Int)) ?_ ?_ rfl ?_⟩
      ·rw [hv]
       exact c2
      ·rw [hv]
       simp only [push_cast,seval,-Nat.reducePow,him,view]
      ·obtain ⟨at1,hat1⟩:∃ a,a=atU out prev+1:=⟨_,rfl⟩
       have e3:((atU out prev:Nat):Int)+1=(at1:Nat):=by omega
       have e4:((at1:Nat):Int).toNat=at1:=by omega
       have hle:at1≤out.length:=by omega
       rw [← hat1] at hor
       have htk:(out.map Un.v).take at1=(out.take at1).map Un.v:=(List.map_take ..).symm
       have hlm:((out.take at1).map Un.v).length=at1:=by simp; omega
       have hA1:((out.take at1).map Un.v).take at1=(out.take at1).map Un.v:=List.take_of_length_le (by rw [hlm]; exact Nat.le_refl _)
       have hA2:((out.map Un.v).drop at1).take (out.length-at1)=(out.drop at1).map Un.v:=by rw [List.take_of_length_le (by simp),List.map_drop]
       have hdl:((out.drop at1).map Un.v).length=out.length-at1:=by simp
       have hne:¬ (out.take at1).map Un.v=[]:=fun e=>by have:=congrArg List.length e; rw [hlm,List.length_nil] at this; omega
       simp only [push_cast,seval,-Nat.reducePow,j0,j1,j5,j6,jL,hlt,hlo,e3,e4,e1,g1,hle,Nat.sub_zero]
       have f1:id≠s.nx+172:=by omega
       have f2:id≠s.nx+178:=by omega
       refine ⟨by omega,aC3 ?_⟩
       simp only [push_cast,seval,-Nat.reducePow,appN,j0,j1,j5,j6,jL,hlt,hlo,e3,e4,e1,g1,hle,Nat.sub_zero,f1,f2,hne,htk,hlm,hA1,hA2,hdl]
       have hil:(insU out at1 u).length=out.length+1:=by unfold insU; simp; omega
       refine ⟨by omega,by omega,by omega,by omega,by simp; omega,by omega,by omega,by omega,r.length,by omega,d++[u],r,insU out at1 u,s.nx+182,u.nm,u,by simp,rfl,hor,by simpa using hu1,rfl,by rw [aH5]; simp,by omega,by simp; omega,fun n hn=>by rw [aH5,hsub n hn,Bool.or_true],?_⟩
       refine ⟨by rw [hil,show at1+(1+(out.length-at1))=out.length+1 by omega],?_,by omega,by simp⟩
       rw [aAf,List.take_of_length_le (by simp; omega)]
       unfold insU
       simp [Un.v]
end Go.Ab
namespace Go.Ab
variable {P:Program} {F T:Nat→Nat}
open Go.Lib
end Go.Ab
