/- Several texts of one kind, merged. No condition. -/
import Derived.Test.YtdnhjbdnebokiaaGreatDoorAbK1
import Derived.Test.YtdnhjbdnebokiaaGreatDoorAbE4
set_option linter.unusedSimpArgs false
set_option linter.unusedVariables false
namespace Go.Ab
variable {P:Program} {F T:Nat→Nat}
def aDr (t:Int) (c:Bool):List UInt8:=if 1≤t∧t≤3 then (if c then [60,47] else [60])++aA9 t++[62] else []
theorem t25 (hf:Is25 P F T) (t:Int) (c:Bool):PTr P (F 25) [.int .i64 t,.bool c] (.str (aDr t c)):=by
 refine ptrC [] hf (by simp) rfl ?_
 by_cases h1:t<1
 ·simp only [c25,push_cast,seval,-Nat.reducePow,h1]
  have:¬ (1≤t∧t≤3):=by omega
  simp [view,aDr,this]
 ·by_cases h2:3<t
  ·simp only [c25,push_cast,seval,-Nat.reducePow,h1,h2]
   have:¬ (1≤t∧t≤3):=by omega
   simp [view,aDr,this]
  ·have ht:t=1∨t=2∨t=3:=by omega
   rcases ht with rfl | rfl | rfl <;> cases c
   all_goals
    simp only [c25,push_cast,seval,-Nat.reducePow]
    simp [view,aDr,aA9]
def PS (P:Program) (F:Nat→Nat) (n:Nat):Prop:=∀ (l:List Node),aA4 l<n→aA4 l≤2^26→PTr P (F 3) [.lst 5 (encs l)] (.str (srcs l))
def PA (P:Program) (F:Nat→Nat) (n:Nat):Prop:=∀ (l:List Arg),aCl l<n→aCl l≤2^26→PTr P (F 24) [.lst 3 (encA l)] (.str (srcA l))
theorem tPA (hf:Is24 P F T) {n:Nat} (hS:PS P F n):PA P F (n+1):=by
 intro l hn hb
 refine ptrC [] hf (by simp) rfl ?_
 simp only [c24,push_cast,seval,-Nat.reducePow]
 refine aAl (fun m s=>∃ a r,l=a++r∧m=r.length∧s.env 0=.lst 3 (encA (a++r))∧s.env 3=.str (srcA a)∧s.env 4=.int .i64 a.length) l.length ⟨[],l,?_⟩ fun m s hJ=>?_
 ·simp only [push_cast,seval,-Nat.reducePow,srcA]
 obtain ⟨a,r,rfl,rfl,h0,h3,h4⟩:=hJ
 cases r with
 | nil =>
   simp only [push_cast,seval,-Nat.reducePow,h0,h3,h4]
   simp [view]
 | cons x r =>
   obtain ⟨b,xn,xv⟩:=x
   have q1:=aFk a
   have q2:=aBj xn
   have q3:=aBj xv
   have q4:=aJv a
   simp only [aC8,aCl,Arg.bulk] at hn hb
   cases b
   ·simp only [push_cast,seval,-Nat.reducePow,h0,h3,h4,Arg.cs]
    refine ⟨by omega,aAh (hS xv (by omega) (by omega)) (by simp only [push_cast,seval,-Nat.reducePow]) (by simp only [push_cast,seval,-Nat.reducePow]) ?_⟩
    simp only [push_cast,seval,-Nat.reducePow,h0,h3,h4,Arg.cs]
    refine ⟨by simp; omega,by omega,r.length,by omega,a++[.mk false xn xv],r,List.append_cons _ _ _,rfl,?_,?_,?_⟩
    ·simp
    ·simp [aEx,srcA,Arg.src]
    ·simp
   ·simp only [push_cast,seval,-Nat.reducePow,h0,h3,h4,Arg.cs]
    refine ⟨by omega,aAh (hS xn (by omega) (by omega)) (by simp only [push_cast,seval,-Nat.reducePow]) (by simp only [push_cast,seval,-Nat.reducePow]) ?_⟩
    simp only [push_cast,seval,-Nat.reducePow,h0,h3,h4,Arg.cs]
    refine ⟨by simp; omega,by simp; omega,aAh (hS xv (by omega) (by omega)) (by simp only [push_cast,seval,-Nat.reducePow]) (by simp only [push_cast,seval,-Nat.reducePow]) ?_⟩
    simp only [push_cast,seval,-Nat.reducePow,h0,h3,h4,Arg.cs]
    refine ⟨by simp; omega,by omega,r.length,by omega,a++[.mk true xn xv],r,List.append_cons _ _ _,rfl,?_,?_,?_⟩
    ·simp
    ·simp [aEx,srcA,Arg.src]
    ·simp
theorem tPS (hf:Is3 P F T) (h25:Is25 P F T) {n:Nat} (hS:PS P F n) (hA:PA P F n):PS P F (n+1):=by
 intro l hn hb
 refine ptrC [] hf (by simp) rfl ?_
 simp only [c3,push_cast,seval,-Nat.reducePow]
 refine aAl (fun m s=>∃ a r,l=a++r∧m=r.length∧s.env 0=.lst 5 (encs (a++r))∧s.env 3=.str (srcs a)∧s.env 4=.int .i64 a.length) l.length ⟨[],l,?_⟩ fun m s hJ=>?_
 ·simp only [push_cast,seval,-Nat.reducePow,srcs]
 obtain ⟨a,r,rfl,rfl,h0,h3,h4⟩:=hJ
 cases r with
 | nil =>
   simp only [push_cast,seval,-Nat.reducePow,h0,h3,h4]
   simp [view]
 | cons x r =>
   obtain ⟨k,t,s0,ks,as⟩:=x
   have q1:=aBj a
   have q2:=aBj ks
   have q3:=aFk as
   have q4:=aEh a
   have q5:=aGn t
   simp only [aBk,aA4,Node.bulk] at hn hb
   have fin:∀ (k:Int) (q:List UInt8),(Node.mk k t s0 ks as).src=q→srcs (a++[.mk k t s0 ks as])=srcs a++q:=fun k q h=>by rw [aJe,srcs,srcs,h,List.append_nil]
   by_cases k1:k=1
   ·subst k1
    simp only [push_cast,seval,-Nat.reducePow,h0,h3,h4,Node.cs]
    refine ⟨by omega,by omega,r.length,by omega,a++[.mk 1 t s0 ks as],r,List.append_cons _ _ _,rfl,?_,?_,?_⟩
    ·simp
    ·rw [fin 1 s0 (by simp [Node.src])]
    ·simp
   by_cases k2:k=2
   ·subst k2
    simp only [push_cast,seval,-Nat.reducePow,h0,h3,h4,Node.cs]
    refine ⟨by omega,by omega,r.length,by omega,a++[.mk 2 t s0 ks as],r,List.append_cons _ _ _,rfl,?_,?_,?_⟩
    ·simp
    ·rw [fin 2 s0 (by simp [Node.src])]
    ·simp
   by_cases k3:k=3
   ·subst k3
    simp only [push_cast,seval,-Nat.reducePow,h0,h3,h4,Node.cs]
    refine ⟨by omega,by simp; omega,by simp; omega,by omega,r.length,by omega,a++[.mk 3 t s0 ks as],r,List.append_cons _ _ _,rfl,?_,?_,?_⟩
    ·simp
    ·rw [fin 3 _ (by simp [Node.src]; rfl)]; simp
    ·simp
   by_cases k4:k=4
   ·subst k4
    simp only [push_cast,seval,-Nat.reducePow,h0,h3,h4,Node.cs]
    refine ⟨by omega,aAh (hS ks (by omega) (by omega)) (by simp only [push_cast,seval,-Nat.reducePow]) (by simp only [push_cast,seval,-Nat.reducePow]) ?_⟩
    simp only [push_cast,seval,-Nat.reducePow,h0,h3,h4,Node.cs]
    refine ⟨by simp; omega,aAh (hA as (by omega) (by omega)) (by simp only [push_cast,seval,-Nat.reducePow]) (by simp only [push_cast,seval,-Nat.reducePow]) ?_⟩
    simp only [push_cast,seval,-Nat.reducePow,h0,h3,h4,Node.cs]
    refine ⟨by simp; omega,by simp; omega,by omega,r.length,by omega,a++[.mk 4 t s0 ks as],r,List.append_cons _ _ _,rfl,?_,?_,?_⟩
    ·simp
    ·rw [fin 4 _ (by simp [Node.src]; rfl)]; simp
    ·simp
   by_cases k5:k=5
   ·subst k5
    simp only [push_cast,seval,-Nat.reducePow,h0,h3,h4,Node.cs]
    refine ⟨by omega,aAh (hS ks (by omega) (by omega)) (by simp only [push_cast,seval,-Nat.reducePow]) (by simp only [push_cast,seval,-Nat.reducePow]) ?_⟩
    simp only [push_cast,seval,-Nat.reducePow,h0,h3,h4,Node.cs]
    refine ⟨by simp; omega,aAh (hA as (by omega) (by omega)) (by simp only [push_cast,seval,-Nat.reducePow]) (by simp only [push_cast,seval,-Nat.reducePow]) ?_⟩
    simp only [push_cast,seval,-Nat.reducePow,h0,h3,h4,Node.cs]
    refine ⟨by simp; omega,by simp; omega,by omega,r.length,by omega,a++[.mk 5 t s0 ks as],r,List.append_cons _ _ _,rfl,?_,?_,?_⟩
    ·simp
    ·rw [fin 5 _ (by simp [Node.src]; rfl)]; simp
    ·simp
   by_cases k6:k=6
   ·subst k6
    by_cases t1:1≤t
    ·by_cases t3:t≤3
     ·have ht:1≤t∧t≤3:=⟨t1,t3⟩
      have l1:(aDr t false).length≤14:=by simp [aDr,ht]; omega
      have l2:(aDr t true).length≤14:=by simp [aDr,ht]; omega
      simp only [push_cast,seval,-Nat.reducePow,h0,h3,h4,Node.cs,t1,t3]
      refine aAh (t25 h25 t false) (by simp only [push_cast,seval,-Nat.reducePow]) (by simp only [push_cast,seval,-Nat.reducePow]) ?_
      simp only [push_cast,seval,-Nat.reducePow,h0,h3,h4,Node.cs]
      refine ⟨by omega,aAh (hS ks (by omega) (by omega)) (by simp only [push_cast,seval,-Nat.reducePow]) (by simp only [push_cast,seval,-Nat.reducePow]) ?_⟩
      simp only [push_cast,seval,-Nat.reducePow,h0,h3,h4,Node.cs]
      refine ⟨by simp; omega,aAh (t25 h25 t true) (by simp only [push_cast,seval,-Nat.reducePow]) (by simp only [push_cast,seval,-Nat.reducePow]) ?_⟩
      simp only [push_cast,seval,-Nat.reducePow,h0,h3,h4,Node.cs]
      refine ⟨by simp; omega,by omega,r.length,by omega,a++[.mk 6 t s0 ks as],r,List.append_cons _ _ _,rfl,?_,?_,?_⟩
      ·simp
      ·rw [fin 6 (aDr t false++srcs ks++aDr t true) (by simp [Node.src,aDr,ht])]; simp
      ·simp
     ·simp only [push_cast,seval,-Nat.reducePow,h0,h3,h4,Node.cs,t1,t3]
      refine ⟨by omega,r.length,by omega,a++[.mk 6 t s0 ks as],r,List.append_cons _ _ _,rfl,?_,?_,?_⟩
      ·simp
      ·rw [fin 6 [] (by simp [Node.src,t3])]; simp
      ·simp
    ·simp only [push_cast,seval,-Nat.reducePow,h0,h3,h4,Node.cs,t1]
     refine ⟨by omega,r.length,by omega,a++[.mk 6 t s0 ks as],r,List.append_cons _ _ _,rfl,?_,?_,?_⟩
     ·simp
     ·rw [fin 6 [] (by simp [Node.src,t1])]; simp
     ·simp
   ·simp only [push_cast,seval,-Nat.reducePow,h0,h3,h4,Node.cs,k1,k2,k3,k4,k5,k6]
    refine ⟨by omega,r.length,by omega,a++[.mk k t s0 ks as],r,List.append_cons _ _ _,rfl,?_,?_,?_⟩
    ·simp
    ·rw [fin k [] (by simp [Node.src,k1,k2,k3,k4,k5,k6])]; simp
    ·simp
theorem tPSA (h3:Is3 P F T) (h24:Is24 P F T) (h25:Is25 P F T):∀ n,PS P F n∧PA P F n
 | 0=>⟨fun l h=>by omega,fun l h=>by omega⟩
 | n+1=>⟨tPS h3 h25 (tPSA h3 h24 h25 n).1 (tPSA h3 h24 h25 n).2,tPA h24 (tPSA h3 h24 h25 n).1⟩
theorem t3 (h3:Is3 P F T) (h24:Is24 P F T) (h25:Is25 P F T) (l:List Node) (hb:aA4 l≤2^26):PTr P (F 3) [.lst 5 (encs l)] (.str (srcs l)):=(tPSA h3 h24 h25 _).1 l (Nat.lt_succ_self _) hb
end Go.Ab
namespace Go.Ab
theorem aC5:∀ (a b out:List Node),aDl out (a++b)=aDl (aDl out a) b
 | [],b,out=>by simp [aDl]
 | x::r,b,out=>by simp [aDl,aC5 r b]
variable {P:Program} {F T:Nat→Nat}
def Node.tn:Node→Prop
 | .mk k t _ ks as=>k=1→t=0∧ks=[]∧as=[]
end Go.Ab
