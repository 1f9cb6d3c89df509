/- Several texts of one kind, merged. No condition. -/
import Derived.Test.YtikmbicdjpkipaaGreatDoorAbM1
import Derived.Lib.IndexMore
import Derived.Lib.SplitLaws
import Derived.Lib.CountLaws
import Derived.Lib.Split
import Derived.Lib.Join
import Derived.Lib.IndexBytes
import Derived.Test.YtikmbicdjpkipaaGreatDoorAbP1
import Derived.Deep.Draws
set_option linter.unusedSimpArgs false
set_option linter.unusedVariables false
namespace Go.Ab
variable {P:Program} {F T:Nat→Nat}
open Go.Lib
def lnF:List UInt8→List (List UInt8)
 | []=>[[]]
 | x::r=>if x=10 then []::lnF r else (x::(lnF r).headD [])::(lnF r).tail
theorem aY7 (s:List UInt8):∃ p q,lnF s=p::q:=by
 cases s with
 | nil=>exact ⟨[],[],rfl⟩
 | cons x r=>rw [lnF]; split <;> exact ⟨_,_,rfl⟩
theorem bA2:∀ {s:List UInt8},(∀ b,b∈s→b≠10)→lnF s=[s]
 | [],_=>rfl
 | x::r,h=>by
   have ih:=bA2 (s:=r) (fun b hb=>h b (by simp [hb]))
   have hx:=h x (by simp)
   simp [lnF,hx,ih]
theorem bBf:∀ {u v:List UInt8},(∀ b,b∈u→b≠10)→lnF (u++10::v)=u::lnF v
 | [],v,_=>by simp [lnF]
 | x::r,v,h=>by
   have ih:=bBf (u:=r) (v:=v) (fun b hb=>h b (by simp [hb]))
   have hx:=h x (by simp)
   simp [lnF,hx,ih]
theorem aTl:∀ s:List UInt8,((lnF s).map List.length).sum≤s.length
 | []=>by simp [lnF]
 | x::r=>by
   obtain ⟨p,t,e⟩:=aY7 r
   have ih:=aTl r
   rw [lnF]
   split
   ·simp; omega
   ·rw [e] at ih ⊢
    simp only [List.headD_cons,List.tail_cons,List.map_cons,List.sum_cons,List.length_cons] at ih ⊢
    omega
theorem aNd (c:UInt8):∀ s:List UInt8,indexByte s c=match s.findIdx? (·==c) with | none=>-1 | some i=>(i:Int)
 | []=>rfl
 | x::r=>by
   have ih:=aNd c r
   by_cases hx:x=c
   ·subst hx; simp [indexByte,List.findIdx?_cons]
   ·have hx':(x==c)=false:=by simpa using hx
    simp only [indexByte,hx',List.findIdx?_cons,Bool.false_eq_true,if_false]
    rw [ih]
    cases h:r.findIdx? (·==c) with
    | none=>rfl
    | some i =>
      have:(((i:Nat):Int)==-1)=false:=by rw [beq_eq_false_iff_ne]; omega
      simp [this]
theorem aNu {c:UInt8} {s:List UInt8} {i:Nat} (h:s.findIdx? (·==c)=some i):s=s.take i++c::s.drop (i+1)∧(∀ b,b∈s.take i→b≠c)∧i<s.length:=by
 rw [List.findIdx?_eq_some_iff_getElem] at h
 obtain ⟨hi,h1,h2⟩:=h
 have hc:s[i]=c:=by simpa using h1
 refine ⟨?_,fun b hb=>?_,hi⟩
 ·conv=>lhs; rw [← List.take_append_drop i s,List.drop_eq_getElem_cons hi,hc]
 ·obtain ⟨j,hj,rfl⟩:=List.mem_iff_getElem.1 hb
  rw [List.length_take] at hj
  rw [List.getElem_take]
  have:=h2 j (by omega)
  simpa using this
theorem aQ2 {c:UInt8} {s:List UInt8} (h:s.findIdx? (·==c)=none):∀ b,b∈s→b≠c:=by
 intro b hb
 rw [List.findIdx?_eq_none_iff] at h
 have:=h b hb
 simpa using this
theorem bAk:∀ (n:Nat) (s:List UInt8),s.length≤n→split s [10]=lnF s:=by
 intro n
 induction n with
 | zero =>
   intro s hs
   have:s=[]:=List.length_eq_zero_iff.1 (by omega)
   subst this; rfl
 | succ n ih =>
   intro s hs
   have hix:index s [10]=indexByte s 10:=index_one s 10
   rw [aNd] at hix
   cases hf:s.findIdx? (·==10) with
   | none =>
     rw [hf] at hix
     rw [split,count_miss hix,splitK,bA2 (aQ2 hf)]
   | some i =>
     rw [hf] at hix
     simp only at hix
     obtain ⟨h1,h2,h3⟩:=aNu hf
     have hm:¬ (index s [10]==-1)=true:=fun e=>by have:=beq_iff_eq.1 e; omega
     have ht:(index s [10]).toNat=i:=by omega
     have ih':=ih (s.drop (i+1)) (by rw [List.length_drop]; omega)
     rw [split,count_hit (by simp) hix,Nat.add_comm,splitK,if_neg hm,ht,Nat.add_zero]
     rw [split] at ih'
     simp only [List.length_singleton]
     rw [ih']
     conv=>rhs; rw [h1,bBf h2]
end Go.Ab
namespace Go.Ab
variable {P:Program} {F T:Nat→Nat}
open Go.Lib
open Go.RowKit
theorem aQq:∀ {l:List (List UInt8)} {q:List UInt8},q∈l→q.length≤(l.map List.length).sum
 | y::r,q,h=>by
   rcases List.mem_cons.1 h with rfl | h
   ·simp
   ·have:=aQq h
    simp only [List.map_cons,List.sum_cons]; omega
end Go.Ab
