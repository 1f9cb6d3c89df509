/- Several texts of one kind, merged. No condition. -/
import Derived.Test.YtcmnepgnkcoiiaaGreatDoorAbC4
import Derived.Test.YtcmnepgnkcoiiaaGreatDoorAbZ4
set_option linter.unusedSimpArgs false
set_option linter.unusedVariables false
namespace Go.Ab
variable {P:Program} {F T:Nat→Nat}
open Go.Lib
theorem aNs (n:List UInt8):∀ (l:List QSec) (j:Nat),(aCd n l j).2=true→∃ k,(aCd n l j).1=((j+k:Nat):Int)∧k<l.length
 | [],j,h=>by simp [aCd] at h
 | q::r,j,h=>by
   simp only [aCd] at h ⊢
   split
   ·exact ⟨0,rfl,by simp⟩
   ·rename_i hq
    rw [if_neg hq] at h
    obtain ⟨k,h1,h2⟩:=aNs n r (j+1) h
    exact ⟨k+1,by rw [h1]; omega,by simp; omega⟩
theorem bHg:(false==false)=true:=rfl
theorem bG3:(false==true)=false:=rfl
theorem bH9:(true==false)=false:=rfl
theorem bJv:(true==true)=true:=rfl
theorem t183 (hf:bD5 P F T) (h124:aLd P (F 124)) (S:StrC0 P F) (h128:bBi P F T) (h132:bBm P F T) (h141:aXk P F T) (s name:List UInt8) (hs:s.length≤8192) :
 PTr P (F 183) [.str s,.str name] (.tup [.str (aIu s name).1,.bool (aIu s name).2]):=by
 have hl:=aM7 s
 have c1:=h124 s (by omega)
 have c2:=t128 h128 S ((aAv s).map Sec.q) name (by rw [List.length_map]; omega)
 rw [← aWc] at c2
 refine ptrC [] hf (by simp) rfl ?_
 unfold aIu
 have c3:=t132 h132 h141 h124 s (by omega) (aCd (trimS name wsp) ((aAv s).map Sec.q) 0).1
 generalize aCd (trimS name wsp) ((aAv s).map Sec.q) 0=y at *
 obtain ⟨i,b⟩:=y
 simp only [c183,push_cast,seval,-Nat.reducePow]
 refine aAb c1 (by simp only [push_cast,seval,-Nat.reducePow]) (by simp only [push_cast,seval,-Nat.reducePow,aCn]) ?_
 simp only [push_cast,seval,-Nat.reducePow]
 refine aAb c2 (by simp only [push_cast,seval,-Nat.reducePow,aCn]) (by simp only [push_cast,seval,-Nat.reducePow]) ?_
 cases b with
 | false =>
   simp only [push_cast,seval,-Nat.reducePow,view]
   try rfl
 | true =>
   simp only [push_cast,seval,-Nat.reducePow]
   refine aAb c3 (by simp only [push_cast,seval,-Nat.reducePow]) (by simp only [push_cast,seval,-Nat.reducePow]) ?_
   simp only [push_cast,seval,-Nat.reducePow,view]
   try rfl
theorem t184 (hf:bE8 P F T) (h183:∀ s name:List UInt8,s.length≤8192→PTr P (F 183) [.str s,.str name] (.tup [.str (aIu s name).1,.bool (aIu s name).2])) (g:Grd) (old now:List UInt8) (ho:old.length≤8192) (hn:now.length≤8192) :
 PTr P (F 184) [g.v,.str old,.str now] (.bool (aMu g.sec old now)):=by
 refine ptrC [] hf (by simp) rfl ?_
 unfold aMu
 simp only [c184,push_cast,seval,-Nat.reducePow,Grd.v]
 by_cases h:g.sec=[]
 ·rw [if_pos h]
  simp only [push_cast,seval,-Nat.reducePow,h,view]
 ·rw [if_neg h]
  have c1:=h183 old g.sec ho
  have c2:=h183 now g.sec hn
  generalize aIu old g.sec=x at *
  generalize aIu now g.sec=y at *
  obtain ⟨a,b⟩:=x
  obtain ⟨c,d⟩:=y
  simp only [push_cast,seval,-Nat.reducePow,h]
  refine aAb c1 (by simp only [push_cast,seval,-Nat.reducePow]) (by simp only [push_cast,seval,-Nat.reducePow]) ?_
  simp only [push_cast,seval,-Nat.reducePow]
  refine aAb c2 (by simp only [push_cast,seval,-Nat.reducePow]) (by simp only [push_cast,seval,-Nat.reducePow]) ?_
  cases b <;> cases d
  all_goals simp only [push_cast,seval,-Nat.reducePow,bHg,bG3,bH9,bJv,view]
  all_goals (try rfl)
end Go.Ab
namespace Go.Ab
variable {P:Program} {F T:Nat→Nat}
open Go.Lib
theorem bIw {l:List Grd} {i:Nat} (h:i<l.length):∃ q,l[i]?=some q∧(gdV l).getD i .junk=.agg [.bool q.st,.str q.gr,.int .i64 q.sp,.str q.n,.str q.sec]:=⟨l[i],by simp [h],by simp [gdV,List.getD,h,Grd.v]⟩
theorem t179 (hf:aZj P F T) (g:List (List UInt8)) (old now:List UInt8) (h220:∀ x,PTr P (F 220) [.lst 1 (g.map .str),.str x] (.bool (g.contains x))) (h184:∀ q:Grd,PTr P (F 184) [q.v,.str old,.str now] (.bool (aMu q.sec old now)))
 (gv:List V) (rs:List Rul) (ds:List Grd) (hgv:V.imms gv=true) (hds:ds.length≤2^60) (sp:Int) (s:List UInt8) :
 PTr P (F 179) [polV gv rs (gdV ds),.lst 1 (g.map .str),ttV sp s,.str old,.str now] (.int .i64 (chgF g sp s old now ds 1)):=by
 refine ptrC [] hf (by simp) rfl ?_
 have hri:=aJ8 rs
 have hdi:=aXn ds
 have hdl:=bFq ds
 have hgi:=aH7 g
 simp only [c179,push_cast,seval,-Nat.reducePow,polV,ttV,hgv,hri,hdi,hdl]
 refine aAc (fun m s1=>∃ i out,i≤ds.length∧m=ds.length-i∧chgF g sp s old now ds 1=chgF g sp s old now (ds.drop i) out∧s1.env 1=.lst 1 (g.map .str)∧s1.env 3=.str old∧s1.env 4=.str now∧s1.env 7=.ptr 7 0∧s1.L 7=some (.box (T 17) [.int .i64 sp,.str s])∧s1.env 11=.int .i64 out∧s1.env 15=.lst 5 (gdV ds)∧s1.env 16=.int .i64 ds.length∧s1.env 17=.int .i64 i∧8≤s1.nx) ds.length ⟨0,1,?_⟩ fun m s1 hJ=>?_
 ·simp only [push_cast,seval,-Nat.reducePow]
  rfl
 ·obtain ⟨i,out,hi,rfl,hch,j1,j3,j4,j7,jB,j11,j15,j16,j17,jn⟩:=hJ
  by_cases h:i<ds.length
  ·have h':((i:Nat):Int)<((ds.length:Nat):Int):=by omega
   obtain ⟨q,hq,hg⟩:=bIw h
   rw [aQc hq,chgF] at hch
   have q7:7≠s1.nx+55:=by omega
   by_cases e1:q.sp=sp∧q.n=s
   ·obtain ⟨e1,e2⟩:=e1
    simp only [push_cast,seval,-Nat.reducePow,j1,j3,j4,j7,jB,j11,j15,j16,j17,h',hdl,hg,q7,e1,e2]
    refine ⟨h,aAb (h220 q.gr) (by simp only [push_cast,seval,-Nat.reducePow,hgi]) (by simp only [push_cast,seval,-Nat.reducePow]) ?_⟩
    cases e3:g.contains q.gr with
    | true =>
      have hh:hitG g sp s old now q=false:=by simp only [hitG,e3,Bool.not_true,Bool.and_false,Bool.false_and]
      rw [hh] at hch
      simp only [push_cast,seval,-Nat.reducePow,j1,j3,j4,j7,jB,j11,j15,j16,j17]
      exact ⟨⟨by omega,by omega⟩,ds.length-(i+1),by omega,i+1,out,by omega,rfl,hch,rfl,by simp⟩
    | false =>
      have hc:=h184 q
      have hh:hitG g sp s old now q=aMu q.sec old now:=by simp only [hitG,e1,e2,e3,decide_true,Bool.not_false,Bool.true_and]
      rw [hh] at hch
      simp only [Grd.v,e1,e2] at hc
      simp only [push_cast,seval,-Nat.reducePow,j1,j3,j4,j7,jB,j11,j15,j16,j17,q7]
      refine aAb hc (by simp only [push_cast,seval,-Nat.reducePow]) (by simp only [push_cast,seval,-Nat.reducePow]) ?_
      cases e4:aMu q.sec old now with
      | false =>
        rw [e4] at hch
        simp only [push_cast,seval,-Nat.reducePow,j1,j3,j4,j7,jB,j11,j15,j16,j17]
        exact ⟨⟨by omega,by omega⟩,ds.length-(i+1),by omega,i+1,out,by omega,rfl,hch,rfl,by simp⟩
      | true =>
        rw [e4] at hch
        cases e5:q.st with
        | true =>
          rw [e5] at hch
          simp only [push_cast,seval,-Nat.reducePow,j1,j3,j4,j7,jB,j11,j15,j16,j17,e5,view]
          rw [hch]; rfl
        | false =>
          rw [e5] at hch
          simp only [push_cast,seval,-Nat.reducePow,j1,j3,j4,j7,jB,j11,j15,j16,j17,e5]
          exact ⟨⟨by omega,by omega⟩,ds.length-(i+1),by omega,i+1,2,by omega,rfl,hch,rfl,by simp⟩
   ·have hn:(decide (q.sp=sp)&&decide (q.n=s))=false:=by
     rw [Bool.and_eq_false_iff]
     by_cases a:q.sp=sp
     ·exact Or.inr (decide_eq_false fun b=>e1 ⟨a,b⟩)
     ·exact Or.inl (decide_eq_false a)
    have hh:hitG g sp s old now q=false:=by simp only [hitG,hn,Bool.false_and]
    rw [hh] at hch
    simp only [push_cast,seval,-Nat.reducePow,j1,j3,j4,j7,jB,j11,j15,j16,j17,h',hdl,hg,q7,hn]
    exact ⟨h,⟨by omega,by omega⟩,ds.length-(i+1),by omega,i+1,out,by omega,rfl,hch,rfl,by simp⟩
  ·have h':¬ ((i:Nat):Int)<((ds.length:Nat):Int):=by omega
   obtain rfl:i=ds.length:=by omega
   rw [List.drop_length,chgF] at hch
   simp only [push_cast,seval,-Nat.reducePow,j1,j3,j4,j7,jB,j11,j15,j16,j17,h',hch,view]
structure ChgC (P:Program) (F T:Nat→Nat):Prop where
 s1:aLd P (F 124)
 s2:aLd P (F 159)
 strc:StrC0 P F
 h128:bBi P F T
 h129:bEa P F T
 h125:aUi P F T
 h138:aRa P F T
 h132:bBm P F T
 h141:aXk P F T
 h183:bD5 P F T
 h184:bE8 P F T
 h179:aZj P F T
 h220:bAg P F T
 h222:aZk P F T
 h193:bIg P F T
 h196:bHo P F T
 h197:bIz P F T
 h198:bH4 P F T
theorem aZi (H:ChgC P F T) {g:List (List UInt8)} (hg:g.length≤2^60) (gv:List V) (rs:List Rul) (ds:List Grd) (hgv:V.imms gv=true) (hds:ds.length≤2^60) (sp:Int) (s old now:List UInt8) (ho:old.length≤8192) (hn:now.length≤8192) :
 PTr P (F 179) [polV gv rs (gdV ds),.lst 1 (g.map .str),ttV sp s,.str old,.str now] (.int .i64 (chgF g sp s old now ds 1)) :=
 t179 H.h179 g old now (fun x=>t220 H.h220 H.h222 g x hg) (fun q=>t184 H.h184 (fun s name hs=>t183 H.h183 H.s1 H.strc H.h128 H.h132 H.h141 s name hs) q old now ho hn) gv rs ds hgv hds sp s
end Go.Ab
