/- Several texts of one kind, merged. No condition. -/
import Derived.Test.YtikmbicdjpkipaaGreatDoorAbC1
import Derived.Test.YtikmbicdjpkipaaGreatDoorAbZ1
import Derived.Test.YtikmbicdjpkipaaGreatDoorAbR2
set_option linter.unusedSimpArgs false
set_option linter.unusedVariables false
namespace Go.Ab
variable {P:Program} {F T:Nat→Nat}
open Go.Lib
def ttV (sp:Int) (s:List UInt8):V:=.agg [.int .i64 sp,.str s]
theorem aP8 {l:List (List UInt8)} {i:Nat} (h:i<l.length):(l.map V.str).getD i .junk=.str (l.getD i []):=by simp [List.getD,h]
theorem aHy (l:List (List UInt8)):V.imms (l.map V.str)=true:=aA7 _ _ fun t=>rfl
end Go.Ab
namespace Go.Ab
variable {P:Program} {F T:Nat→Nat}
open Go.Lib
theorem aW2 (sp:Int) (s:List UInt8):∀ i,(anc sp s i).length≤i
 | 0=>Nat.le_refl _
 | i+1=>by
   have ih:=aW2 sp s i
   rw [aZc,List.length_append]
   split <;> simp <;> omega
end Go.Ab
namespace Go.Ab
variable {P:Program} {F T:Nat→Nat}
open Go.Lib
theorem aWi (l:List Scp):V.imms (scV l)=true:=aA7 _ _ fun q=>rfl
theorem aV7 (l:List Scp):(scV l).length=l.length:=List.length_map ..
end Go.Ab
namespace Go.Ab
variable {P:Program} {F T:Nat→Nat}
open Go.Lib
theorem t182 (hf:bDg P F T) (a b:Scp):PTr P (F 182) [a.v,b.v] (.bool (covB a b)):=by
 refine ptrC [] hf (by simp) rfl ?_
 obtain ⟨k,sp,n⟩:=a
 obtain ⟨k2,sp2,n2⟩:=b
 by_cases h1:k=k2
 ·subst h1
  by_cases h2:k=3
  ·have hc:covB ⟨k,sp,n⟩ ⟨k,sp2,n2⟩=(decide (sp=sp2)&&decide (n=n2)):=by simp [covB,h2]
   rw [hc]
   simp only [c182,push_cast,seval,-Nat.reducePow,Scp.v,h2,view]
  ·by_cases h3:k=2
   ·have hc:covB ⟨k,sp,n⟩ ⟨k,sp2,n2⟩=decide (sp=sp2):=by simp [covB,h3]
    rw [hc]
    simp only [c182,push_cast,seval,-Nat.reducePow,Scp.v,h3,view]
   ·have hc:covB ⟨k,sp,n⟩ ⟨k,sp2,n2⟩=true:=by simp [covB,h2,h3]
    rw [hc]
    simp only [c182,push_cast,seval,-Nat.reducePow,Scp.v,h2,h3,view]
 ·have hc:covB ⟨k,sp,n⟩ ⟨k2,sp2,n2⟩=false:=by simp [covB,h1]
  rw [hc]
  simp only [c182,push_cast,seval,-Nat.reducePow,Scp.v,h1,view]
def ixS (l:List (List UInt8)) (x:List UInt8):Int:=match l.findIdx? (·==x) with | none=>-1 | some i=>i
theorem bDy (l:List (List UInt8)) (x:List UInt8):decide (0≤ixS l x)=l.contains x:=by
 unfold ixS
 cases h:l.findIdx? (·==x) with
 | none =>
   rw [List.findIdx?_eq_none_iff] at h
   have:l.contains x=false:=by
    cases hb:l.contains x with
    | false=>rfl
    | true=>have:=h x (List.contains_iff_mem.1 hb); simp at this
   rw [this]; rfl
 | some i =>
   rw [List.findIdx?_eq_some_iff_getElem] at h
   obtain ⟨hi,h1,h2⟩:=h
   have:l.contains x=true:=List.contains_iff_mem.2 (by rw [← beq_iff_eq.1 h1]; exact List.getElem_mem hi)
   rw [this]; simp
theorem t222 (hf:bAa P F T) (l:List (List UInt8)) (x:List UInt8) (hl:l.length≤2^60):PTr P (F 222) [.lst 1 (l.map .str),.str x] (.int .i64 (ixS l x)):=by
 refine ptrC [] hf (by simp) rfl ?_
 have hln:(l.map V.str).length=l.length:=List.length_map ..
 simp only [c222,push_cast,seval,-Nat.reducePow,hln]
 refine aAm (fun m s1=>∃ i,i≤l.length∧m=l.length-i∧(∀ k,k<i→l.getD k []≠x)∧s1.env 0=.lst 1 (l.map .str)∧s1.env 1=.str x∧s1.env 7=.int .i64 l.length∧s1.env 8=.int .i64 i) l.length ⟨0,?_⟩ fun m s1 hJ=>?_
 ·simp only [push_cast,seval,-Nat.reducePow]
  exact ⟨rfl,fun k hk=>absurd hk (Nat.not_lt_zero _)⟩
 ·obtain ⟨i,hi,rfl,hn,j0,j1,j7,j8⟩:=hJ
  by_cases h:i<l.length
  ·have h':((i:Nat):Int)<((l.length:Nat):Int):=by omega
   have hg:=aP8 h
   by_cases e:x=l.getD i []
   ·have hix:ixS l x=i:=by
     have:l.findIdx? (·==x)=some i:=by
      rw [List.findIdx?_eq_some_iff_getElem]
      refine ⟨h,?_,fun j hj=>?_⟩
      ·simp [e,List.getD,h]
      ·have:=hn j hj
       have hjl:j<l.length:=by omega
       simpa [List.getD,hjl] using this
     rw [ixS,this]
    simp only [push_cast,seval,-Nat.reducePow,j0,j1,j7,j8,h',hln,hg,e,view]
    rw [← e,hix]
    exact ⟨h,rfl⟩
   ·simp only [push_cast,seval,-Nat.reducePow,j0,j1,j7,j8,h',hln,hg,e]
    refine ⟨h,⟨by omega,by omega⟩,l.length-(i+1),by omega,i+1,by omega,rfl,fun k hk=>?_,by simp⟩
    by_cases hki:k=i
    ·rw [hki]; exact fun q=>e q.symm
    ·exact hn k (by omega)
  ·have h':¬ ((i:Nat):Int)<((l.length:Nat):Int):=by omega
   obtain rfl:i=l.length:=by omega
   have hix:ixS l x=-1:=by
    have:l.findIdx? (·==x)=none:=by
     rw [List.findIdx?_eq_none_iff]
     intro y hy
     obtain ⟨j,hj,rfl⟩:=List.mem_iff_getElem.1 hy
     have:=hn j hj
     simpa [List.getD,hj] using this
    rw [ixS,this]
   simp only [push_cast,seval,-Nat.reducePow,j0,j1,j7,j8,h',hix,view]
theorem t220 (hf:bB4 P F T) (h222:bAa P F T) (l:List (List UInt8)) (x:List UInt8) (hl:l.length≤2^60):PTr P (F 220) [.lst 1 (l.map .str),.str x] (.bool (l.contains x)):=by
 refine ptrC [] hf (by simp) rfl ?_
 rw [← bDy]
 simp only [c220,push_cast,seval,-Nat.reducePow]
 refine aAa (t222 h222 l x hl) (by simp only [push_cast,seval,-Nat.reducePow,aHy]) (by simp only [push_cast,seval,-Nat.reducePow]) ?_
 simp only [push_cast,seval,-Nat.reducePow,view]
end Go.Ab
namespace Go.Ab
variable {P:Program} {F T:Nat→Nat}
open Go.Lib
theorem bBi {l:List Scp} {i:Nat} (h:i<l.length):∃ q,l[i]?=some q∧(scV l).getD i .junk=.agg [.int .i64 q.k,.int .i64 q.sp,.str q.n]:=⟨l[i],by simp [h],by simp [scV,List.getD,h,Scp.v]⟩
theorem bA1 {l:List Rul} {i:Nat} (h:i<l.length):∃ q,l[i]?=some q∧(ruV l).getD i .junk=.agg [.bool q.al,.int .i64 q.ri,.str q.gr,.int .i64 q.sc.k,.int .i64 q.sc.sp,.str q.sc.n]:=⟨l[i],by simp [h],by simp [ruV,List.getD,h,Rul.v]⟩
theorem aXg (l:List Rul):(ruV l).length=l.length:=List.length_map ..
theorem aT0 (l:List Rul):V.imms (ruV l)=true:=aA7 _ _ fun q=>rfl
theorem aK9 {α:Type} {l:List α} {i:Nat} {q:α} (h:l[i]?=some q):l.drop i=q::l.drop (i+1):=by
 obtain ⟨h1,rfl⟩:=List.getElem?_eq_some_iff.1 h
 exact List.drop_eq_getElem_cons h1
theorem aP0 (sp:Int) (s:List UInt8):(levF sp s).length≤s.length+3:=by
 have:=aW2 sp s s.length
 simp [levF]; omega
theorem aM3 {sp:Int} {s:List UInt8} (h:aD8 sp s=true):s.length≤100:=by
 by_cases h1:s.length≤100
 ·exact h1
 ·exfalso; simp [aD8,h1] at h
def polV (gv:List V) (rs:List Rul) (dv:List V):V:=.agg [.lst 2 gv,.lst 6 (ruV rs),.lst 5 dv]
theorem t178 (hf:bCr P F T) {sp:Int} {s:List UInt8} {g:List (List UInt8)} (h185:PTr P (F 185) [ttV sp s] (.bool (aD8 sp s))) (h181:aD8 sp s=true→PTr P (F 181) [ttV sp s] (.lst 3 (scV (levF sp s)))) (h182:∀ a b:Scp,PTr P (F 182) [a.v,b.v] (.bool (covB a b))) (h220:∀ x,PTr P (F 220) [.lst 1 (g.map .str),.str x] (.bool (g.contains x)))
 (gv:List V) (rs:List Rul) (dv:List V) (hgv:V.imms gv=true) (hdv:V.imms dv=true) (hrs:rs.length≤2^60) (right:Int) :
 PTr P (F 178) [polV gv rs dv,.lst 1 (g.map .str),.int .i64 right,ttV sp s] (.bool (mayF rs g right sp s)):=by
 refine ptrC [] hf (by simp) rfl ?_
 have hri:=aT0 rs
 have hgi:=aHy g
 have hrl:=aXg rs
 simp only [c178,push_cast,seval,-Nat.reducePow,polV,ttV,hgv,hdv,hri] at h185 h181 ⊢
 refine aAa h185 (by simp only [push_cast,seval,-Nat.reducePow]) (by simp only [push_cast,seval,-Nat.reducePow]) ?_
 by_cases hv:aD8 sp s=true
 rotate_left
 ·have hv':aD8 sp s=false:=by simpa using hv
  simp only [push_cast,seval,-Nat.reducePow,hv',view,mayF,Bool.false_and]
 by_cases a1:right<1
 ·have d1:¬ 1≤right:=by omega
  simp only [push_cast,seval,-Nat.reducePow,hv,a1,d1,view,mayF,Bool.true_and,Bool.false_and]
 by_cases a2:5<right
 ·have d2:¬ right≤5:=by omega
  simp only [push_cast,seval,-Nat.reducePow,hv,a1,a2,d2,view,mayF,Bool.true_and,Bool.false_and,Bool.and_false]
 have d1:1≤right:=by omega
 have d2:right≤5:=by omega
 have hm:mayF rs g right sp s=mayL rs g right (levF sp s):=by simp only [mayF,hv,d1,d2,decide_true,Bool.true_and]
 rw [hm]
 simp only [push_cast,seval,-Nat.reducePow,hv,a1,a2]
 refine aAa (h181 hv) (by simp only [push_cast,seval,-Nat.reducePow]) (by simp only [push_cast,seval,-Nat.reducePow,aWi]) ?_
 have hsl:=aM3 hv
 have hll:=aP0 sp s
 obtain ⟨LV,hLV⟩:∃ LV,levF sp s=LV:=⟨_,rfl⟩
 rw [hLV] at hll ⊢
 have hlen:(scV LV).length=LV.length:=aV7 LV
 simp only [push_cast,seval,-Nat.reducePow,hlen]
 refine aAm (fun m s1=>∃ i,i≤LV.length∧m=LV.length-i∧mayL rs g right LV=mayL rs g right (LV.drop i)∧s1.env 1=.lst 1 (g.map .str)∧s1.env 2=.int .i64 right∧s1.env 4=.ptr 4 0∧s1.L 4=some (.box (T 16) [.lst 2 gv,.lst 6 (ruV rs),.lst 5 dv])∧s1.env 27=.lst 3 (scV LV)∧s1.env 28=.int .i64 LV.length∧s1.env 29=.int .i64 i∧5≤s1.nx) LV.length ⟨0,?_⟩ fun m s1 hJ=>?_
 ·simp only [push_cast,seval,-Nat.reducePow]
  rfl
 ·obtain ⟨i,hi,rfl,hma,j1,j2,j4,jB,j27,j28,j29,jn⟩:=hJ
  by_cases h:i<LV.length
  ·have h':((i:Nat):Int)<((LV.length:Nat):Int):=by omega
   obtain ⟨lv,hlv,hg⟩:=bBi h
   have hdr:=aK9 hlv
   rw [hdr,mayL] at hma
   have q4:4≠s1.nx+75:=by omega
   simp only [push_cast,seval,-Nat.reducePow,j1,j2,j4,jB,j27,j28,j29,h',hlen,hg,q4]
   refine ⟨h,?_⟩
   refine aAm (fun m2 s2=>∃ k a b d,k≤rs.length∧m2=rs.length-k∧aI0 g right lv rs (false,true)=aI0 g right lv (rs.drop k) (a,b)∧s2.env 1=.lst 1 (g.map .str)∧s2.env 2=.int .i64 right∧s2.env 4=.ptr 4 0∧s2.L 4=some (.box (T 16) [.lst 2 gv,.lst 6 (ruV rs),.lst 5 dv])∧s2.env 27=.lst 3 (scV LV)∧s2.env 28=.int .i64 LV.length∧s2.env 29=.int .i64 i∧s2.env 10=.ptr d 0∧s2.L d=some (.box (T 18) [.int .i64 lv.k,.int .i64 lv.sp,.str lv.n])∧s2.env 11=.bool a∧s2.env 12=.bool b∧s2.env 34=.lst 6 (ruV rs)∧s2.env 35=.int .i64 rs.length∧s2.env 36=.int .i64 k∧5≤d∧d<s2.nx) rs.length ⟨0,false,true,s1.nx+75,?_⟩ fun m2 s2 hK=>?_
   ·simp only [push_cast,seval,-Nat.reducePow,j1,j2,j4,jB,j27,j28,j29,q4,hrl]
    exact ⟨rfl,by omega⟩
   ·obtain ⟨k,a,b,d,hk,rfl,hat,k1,k2,k4,kB,k27,k28,k29,k10,kD,k11,k12,k34,k35,k36,kd,kd2⟩:=hK
    have p4:4≠s2.nx+79:=by omega
    have pd:d≠s2.nx+79:=by omega
    by_cases e:k<rs.length
    ·have e':((k:Nat):Int)<((rs.length:Nat):Int):=by omega
     obtain ⟨r,hr,hgr⟩:=bA1 e
     have hdk:=aK9 hr
     rw [hdk,aI0] at hat
     by_cases e1:r.ri=right
     rotate_left
     ·have hh:hitB g right lv r=false:=by simp [hitB,e1]
      rw [hh] at hat
      simp only [push_cast,seval,-Nat.reducePow,k1,k2,k4,kB,k27,k28,k29,k10,kD,k11,k12,k34,k35,k36,e',hrl,hgr,e1,p4,pd]
      refine ⟨e,⟨by omega,by omega⟩,rs.length-(k+1),by omega,k+1,a,b,d,by omega,rfl,hat,rfl,?_,rfl,rfl,by simp,kd,by omega⟩
      repeat rw [aAd _ _ _ _ (by omega)]
      exact kD
     ·simp only [push_cast,seval,-Nat.reducePow,k1,k2,k4,kB,k27,k28,k29,k10,kD,k11,k12,k34,k35,k36,e',hrl,hgr,e1,p4,pd]
      refine ⟨e,aAa (h220 r.gr) (by simp only [push_cast,seval,-Nat.reducePow,hgi]) (by simp only [push_cast,seval,-Nat.reducePow]) ?_⟩
      cases e2:g.contains r.gr with
      | false =>
        have hh:hitB g right lv r=false:=by simp only [hitB,e2,Bool.and_false,Bool.false_and]
        rw [hh] at hat
        simp only [push_cast,seval,-Nat.reducePow,k1,k2,k4,kB,k27,k28,k29,k10,kD,k11,k12,k34,k35,k36,p4,pd]
        refine ⟨⟨by omega,by omega⟩,rs.length-(k+1),by omega,k+1,a,b,d,by omega,rfl,hat,rfl,?_,rfl,rfl,by simp,kd,by omega⟩
        repeat rw [aAd _ _ _ _ (by omega)]
        exact kD
      | true =>
        simp only [push_cast,seval,-Nat.reducePow,k1,k2,k4,kB,k27,k28,k29,k10,kD,k11,k12,k34,k35,k36,p4,pd]
        refine aAa (h182 r.sc lv) (by simp only [push_cast,seval,-Nat.reducePow,Scp.v]) (by simp only [push_cast,seval,-Nat.reducePow]) ?_
        have hh:hitB g right lv r=covB r.sc lv:=by simp only [hitB,e1,e2,decide_true,Bool.true_and]
        rw [hh] at hat
        cases e3:covB r.sc lv with
        | false =>
          rw [e3] at hat
          simp only [push_cast,seval,-Nat.reducePow,k1,k2,k4,kB,k27,k28,k29,k10,kD,k11,k12,k34,k35,k36,p4,pd]
          refine ⟨⟨by omega,by omega⟩,rs.length-(k+1),by omega,k+1,a,b,d,by omega,rfl,hat,rfl,?_,rfl,rfl,by simp,kd,by omega⟩
          repeat rw [aAd _ _ _ _ (by omega)]
          exact kD
        | true =>
          rw [e3] at hat
          cases b with
          | false =>
            simp only [push_cast,seval,-Nat.reducePow,k1,k2,k4,kB,k27,k28,k29,k10,kD,k11,k12,k34,k35,k36,p4,pd]
            refine ⟨⟨by omega,by omega⟩,rs.length-(k+1),by omega,k+1,true,false,d,by omega,rfl,hat,rfl,?_,rfl,rfl,by simp,kd,by omega⟩
            repeat rw [aAd _ _ _ _ (by omega)]
            exact kD
          | true =>
            simp only [push_cast,seval,-Nat.reducePow,k1,k2,k4,kB,k27,k28,k29,k10,kD,k11,k12,k34,k35,k36,p4,pd]
            refine ⟨⟨by omega,by omega⟩,rs.length-(k+1),by omega,k+1,true,r.al,d,by omega,rfl,hat,rfl,?_,rfl,rfl,by simp,kd,by omega⟩
            repeat rw [aAd _ _ _ _ (by omega)]
            exact kD
    ·have e':¬ ((k:Nat):Int)<((rs.length:Nat):Int):=by omega
     obtain rfl:k=rs.length:=by omega
     rw [List.drop_length,aI0] at hat
     rw [hat] at hma
     cases a with
     | true =>
       simp only [push_cast,seval,-Nat.reducePow,k1,k2,k4,kB,k27,k28,k29,k10,kD,k11,k12,k34,k35,k36,e',view]
       rw [hma]; rfl
     | false =>
       simp only [push_cast,seval,-Nat.reducePow,k1,k2,k4,kB,k27,k28,k29,k10,kD,k11,k12,k34,k35,k36,e']
       exact ⟨⟨by omega,by omega⟩,LV.length-(i+1),by omega,i+1,by omega,rfl,hma,by simp⟩
  ·have h':¬ ((i:Nat):Int)<((LV.length:Nat):Int):=by omega
   obtain rfl:i=LV.length:=by omega
   rw [List.drop_length,mayL] at hma
   simp only [push_cast,seval,-Nat.reducePow,j1,j2,j4,jB,j27,j28,j29,h',hma,view]
end Go.Ab
namespace Go.Ab
variable {P:Program} {F T:Nat→Nat}
open Go.Lib
theorem t193 (hf:bE0 P F T) (l:List (List UInt8)) (x:List UInt8) (hl:l.length≤2^60):PTr P (F 193) [.lst 1 (l.map .str),.str x] (.bool (l.contains x)):=by
 refine ptrC [] hf (by simp) rfl ?_
 have hln:(l.map V.str).length=l.length:=List.length_map ..
 simp only [c193,push_cast,seval,-Nat.reducePow,hln]
 refine aAm (fun m s1=>∃ i,i≤l.length∧m=l.length-i∧l.contains x=(l.drop i).contains x∧s1.env 0=.lst 1 (l.map .str)∧s1.env 1=.str x∧s1.env 5=.int .i64 i) l.length ⟨0,?_⟩ fun m s1 hJ=>?_
 ·simp only [push_cast,seval,-Nat.reducePow]
  rfl
 ·obtain ⟨i,hi,rfl,hn,j0,j1,j5⟩:=hJ
  by_cases h:i<l.length
  ·have h':((i:Nat):Int)<((l.length:Nat):Int):=by omega
   have hg:=aP8 h
   obtain ⟨y,hy⟩:∃ y,l.getD i []=y:=⟨_,rfl⟩
   have el:l.drop i=y::l.drop (i+1):=by rw [← hy,List.drop_eq_getElem_cons h]; simp [List.getD,h]
   rw [el] at hn
   rw [hy] at hg
   by_cases e:y=x
   ·simp only [push_cast,seval,-Nat.reducePow,j0,j1,j5,h',hln,hg,e,view]
    rw [hn,e]
    simp
    exact h
   ·simp only [push_cast,seval,-Nat.reducePow,j0,j1,j5,h',hln,hg,e]
    refine ⟨h,⟨by omega,by omega⟩,l.length-(i+1),by omega,i+1,by omega,rfl,?_,by simp⟩
    rw [hn,List.contains_cons]
    have:(x==y)=false:=by rw [beq_eq_false_iff_ne]; exact fun q=>e q.symm
    rw [this,Bool.false_or]
  ·have h':¬ ((i:Nat):Int)<((l.length:Nat):Int):=by omega
   have el:l.drop i=[]:=List.drop_of_length_le (by omega)
   rw [el] at hn
   simp only [push_cast,seval,-Nat.reducePow,j0,j1,j5,h',hln,hn,view]
   rfl
theorem t195 (hf:bD2 P F T) (a b:Scp):PTr P (F 195) [a.v,b.v] (.bool (covB a b)):=by
 refine ptrC [] hf (by simp) rfl ?_
 obtain ⟨k,sp,n⟩:=a
 obtain ⟨k2,sp2,n2⟩:=b
 by_cases h1:k=k2
 ·subst h1
  by_cases h2:k=3
  ·have hc:covB ⟨k,sp,n⟩ ⟨k,sp2,n2⟩=(decide (sp=sp2)&&decide (n=n2)):=by simp [covB,h2]
   rw [hc]
   simp only [c195,push_cast,seval,-Nat.reducePow,Scp.v,h2,view]
  ·by_cases h3:k=2
   ·have hc:covB ⟨k,sp,n⟩ ⟨k,sp2,n2⟩=decide (sp=sp2):=by simp [covB,h3]
    rw [hc]
    simp only [c195,push_cast,seval,-Nat.reducePow,Scp.v,h3,view]
   ·have hc:covB ⟨k,sp,n⟩ ⟨k,sp2,n2⟩=true:=by simp [covB,h2,h3]
    rw [hc]
    simp only [c195,push_cast,seval,-Nat.reducePow,Scp.v,h2,h3,view]
 ·have hc:covB ⟨k,sp,n⟩ ⟨k2,sp2,n2⟩=false:=by simp [covB,h1]
  rw [hc]
  simp only [c195,push_cast,seval,-Nat.reducePow,Scp.v,h1,view]
end Go.Ab
namespace Go.Ab
variable {P:Program} {F T:Nat→Nat}
open Go.Lib
theorem t192 (hf:bEq P F T) {sp:Int} {s:List UInt8} {g:List (List UInt8)} (h199:PTr P (F 199) [ttV sp s] (.bool (aD8 sp s))) (h194:aD8 sp s=true→PTr P (F 194) [ttV sp s] (.lst 3 (scV (levF sp s)))) (h195:∀ a b:Scp,PTr P (F 195) [a.v,b.v] (.bool (covB a b))) (h193:∀ x,PTr P (F 193) [.lst 1 (g.map .str),.str x] (.bool (g.contains x)))
 (gv:List V) (rs:List Rul) (dv:List V) (hgv:V.imms gv=true) (hdv:V.imms dv=true) (hrs:rs.length≤2^60) (right:Int) :
 PTr P (F 192) [polV gv rs dv,.lst 1 (g.map .str),.int .i64 right,ttV sp s] (.bool (mayF rs g right sp s)):=by
 refine ptrC [] hf (by simp) rfl ?_
 have hri:=aT0 rs
 have hgi:=aHy g
 have hrl:=aXg rs
 simp only [c192,push_cast,seval,-Nat.reducePow,polV,ttV,hgv,hdv,hri] at h199 h194 ⊢
 refine aAa h199 (by simp only [push_cast,seval,-Nat.reducePow]) (by simp only [push_cast,seval,-Nat.reducePow]) ?_
 by_cases hv:aD8 sp s=true
 rotate_left
 ·have hv':aD8 sp s=false:=by simpa using hv
  simp only [push_cast,seval,-Nat.reducePow,hv',view,mayF,Bool.false_and]
 by_cases a1:right<1
 ·have d1:¬ 1≤right:=by omega
  simp only [push_cast,seval,-Nat.reducePow,hv,a1,d1,view,mayF,Bool.true_and,Bool.false_and]
 by_cases a2:5<right
 ·have d2:¬ right≤5:=by omega
  simp only [push_cast,seval,-Nat.reducePow,hv,a1,a2,d2,view,mayF,Bool.true_and,Bool.false_and,Bool.and_false]
 have d1:1≤right:=by omega
 have d2:right≤5:=by omega
 have hm:mayF rs g right sp s=mayL rs g right (levF sp s):=by simp only [mayF,hv,d1,d2,decide_true,Bool.true_and]
 rw [hm]
 simp only [push_cast,seval,-Nat.reducePow,hv,a1,a2]
 refine aAa (h194 hv) (by simp only [push_cast,seval,-Nat.reducePow]) (by simp only [push_cast,seval,-Nat.reducePow,aWi]) ?_
 have hsl:=aM3 hv
 have hll:=aP0 sp s
 obtain ⟨LV,hLV⟩:∃ LV,levF sp s=LV:=⟨_,rfl⟩
 rw [hLV] at hll ⊢
 have hlen:(scV LV).length=LV.length:=aV7 LV
 simp only [push_cast,seval,-Nat.reducePow,hlen]
 refine aAm (fun m s1=>∃ i,i≤LV.length∧m=LV.length-i∧mayL rs g right LV=mayL rs g right (LV.drop i)∧s1.env 1=.lst 1 (g.map .str)∧s1.env 2=.int .i64 right∧s1.env 4=.ptr 4 0∧s1.L 4=some (.box (T 16) [.lst 2 gv,.lst 6 (ruV rs),.lst 5 dv])∧s1.env 9=.lst 3 (scV LV)∧s1.env 10=.int .i64 i∧5≤s1.nx) LV.length ⟨0,?_⟩ fun m s1 hJ=>?_
 ·simp only [push_cast,seval,-Nat.reducePow]
  rfl
 ·obtain ⟨i,hi,rfl,hma,j1,j2,j4,jB,j9,j10,jn⟩:=hJ
  by_cases h:i<LV.length
  ·have h':((i:Nat):Int)<((LV.length:Nat):Int):=by omega
   obtain ⟨lv,hlv,hg⟩:=bBi h
   have hdr:=aK9 hlv
   rw [hdr,mayL] at hma
   simp only [push_cast,seval,-Nat.reducePow,j1,j2,j4,jB,j9,j10,h',hlen,hg]
   refine aAm (fun m2 s2=>∃ k a b,k≤rs.length∧m2=rs.length-k∧aI0 g right lv rs (false,true)=aI0 g right lv (rs.drop k) (a,b)∧s2.env 1=.lst 1 (g.map .str)∧s2.env 2=.int .i64 right∧s2.env 4=.ptr 4 0∧s2.L 4=some (.box (T 16) [.lst 2 gv,.lst 6 (ruV rs),.lst 5 dv])∧s2.env 9=.lst 3 (scV LV)∧s2.env 10=.int .i64 i∧s2.env 11=.bool a∧s2.env 12=.bool b∧s2.env 13=.int .i64 k∧5≤s2.nx) rs.length ⟨0,false,true,?_⟩ fun m2 s2 hK=>?_
   ·simp only [push_cast,seval,-Nat.reducePow,j1,j2,j4,jB,j9,j10,hrl]
    rfl
   ·obtain ⟨k,a,b,hk,rfl,hat,k1,k2,k4,kB,k9,k10,k11,k12,k13,kn⟩:=hK
    have p4:4≠s2.nx+86:=by omega
    by_cases e:k<rs.length
    ·have e':((k:Nat):Int)<((rs.length:Nat):Int):=by omega
     obtain ⟨r,hr,hgr⟩:=bA1 e
     have hdk:=aK9 hr
     rw [hdk,aI0] at hat
     by_cases e1:r.ri=right
     rotate_left
     ·have hh:hitB g right lv r=false:=by simp [hitB,e1]
      rw [hh] at hat
      simp only [push_cast,seval,-Nat.reducePow,k1,k2,k4,kB,k9,k10,k11,k12,k13,hlen,hg,e',hrl,hgr,e1,p4]
      repeat refine And.intro (by omega) ?_
      exact ⟨rs.length-(k+1),by omega,k+1,a,b,by omega,rfl,hat,rfl,rfl,by simp⟩
     ·simp only [push_cast,seval,-Nat.reducePow,k1,k2,k4,kB,k9,k10,k11,k12,k13,hlen,hg,e',hrl,hgr,e1,p4]
      refine ⟨e,aAa (h193 r.gr) (by simp only [push_cast,seval,-Nat.reducePow,hgi]) (by simp only [push_cast,seval,-Nat.reducePow]) ?_⟩
      cases e2:g.contains r.gr with
      | false =>
        have hh:hitB g right lv r=false:=by simp only [hitB,e2,Bool.and_false,Bool.false_and]
        rw [hh] at hat
        simp only [push_cast,seval,-Nat.reducePow,k1,k2,k4,kB,k9,k10,k11,k12,k13,hlen,hg,p4]
        repeat refine And.intro (by omega) ?_
        exact ⟨rs.length-(k+1),by omega,k+1,a,b,by omega,rfl,hat,rfl,rfl,by simp⟩
      | true =>
        simp only [push_cast,seval,-Nat.reducePow,k1,k2,k4,kB,k9,k10,k11,k12,k13,hlen,hg,p4]
        repeat refine And.intro (by omega) ?_
        refine aAa (h195 r.sc lv) (by simp only [push_cast,seval,-Nat.reducePow,Scp.v]) (by simp only [push_cast,seval,-Nat.reducePow]) ?_
        have hh:hitB g right lv r=covB r.sc lv:=by simp only [hitB,e1,e2,decide_true,Bool.true_and]
        rw [hh] at hat
        cases e3:covB r.sc lv with
        | false =>
          rw [e3] at hat
          simp only [push_cast,seval,-Nat.reducePow,k1,k2,k4,kB,k9,k10,k11,k12,k13,hlen,hg,p4]
          repeat refine And.intro (by omega) ?_
          exact ⟨rs.length-(k+1),by omega,k+1,a,b,by omega,rfl,hat,rfl,rfl,by simp⟩
        | true =>
          rw [e3] at hat
          cases b with
          | false =>
            simp only [push_cast,seval,-Nat.reducePow,k1,k2,k4,kB,k9,k10,k11,k12,k13,hlen,hg,p4]
            repeat refine And.intro (by omega) ?_
            exact ⟨rs.length-(k+1),by omega,k+1,true,false,by omega,rfl,hat,rfl,rfl,by simp⟩
          | true =>
            simp only [push_cast,seval,-Nat.reducePow,k1,k2,k4,kB,k9,k10,k11,k12,k13,hlen,hg,p4]
            repeat refine And.intro (by omega) ?_
            exact ⟨rs.length-(k+1),by omega,k+1,true,r.al,by omega,rfl,hat,rfl,rfl,by simp⟩
    ·have e':¬ ((k:Nat):Int)<((rs.length:Nat):Int):=by omega
     obtain rfl:k=rs.length:=by omega
     rw [List.drop_length,aI0] at hat
     rw [hat] at hma
     cases a with
     | true =>
       simp only [push_cast,seval,-Nat.reducePow,k1,k2,k4,kB,k9,k10,k11,k12,k13,hlen,hg,hrl,e',view]
       rw [hma]; rfl
     | false =>
       simp only [push_cast,seval,-Nat.reducePow,k1,k2,k4,kB,k9,k10,k11,k12,k13,hlen,hg,hrl,e']
       exact ⟨⟨by omega,by omega⟩,LV.length-(i+1),by omega,i+1,by omega,rfl,hma,by simp⟩
  ·have h':¬ ((i:Nat):Int)<((LV.length:Nat):Int):=by omega
   obtain rfl:i=LV.length:=by omega
   rw [List.drop_length,mayL] at hma
   simp only [push_cast,seval,-Nat.reducePow,j1,j2,j4,jB,j9,j10,h',hlen,hma,view]
end Go.Ab
