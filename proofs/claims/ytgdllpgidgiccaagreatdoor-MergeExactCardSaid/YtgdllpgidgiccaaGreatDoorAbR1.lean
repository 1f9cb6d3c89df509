/- Several texts of one kind, merged. No condition. -/
import Derived.Test.YtgdllpgidgiccaaGreatDoorAbP4
import Derived.Test.YtgdllpgidgiccaaGreatDoorAbK2
import Derived.Test.YtgdllpgidgiccaaGreatDoorAbK4
import Derived.KernelRfl
set_option linter.unusedSimpArgs false
set_option linter.unusedVariables false
namespace Go.Ab
variable {P:Program} {F T:Nat→Nat}
theorem t101 (hf:bIo P F T) (s t:List UInt8) (i:Nat) (hi:i≤s.length) (hs:s.length≤8192) (ht:t.length≤8192):PTr P (F 101) [.str s,.int .i64 i,.str t] (.bool (t.isPrefixOf (s.drop i))):=by
 refine ptrC [] hf (by simp) rfl ?_
 have h0:(0:Int)≤((i:Nat):Int):=by omega
 have h1:((i:Nat):Int)≤((s.length:Nat):Int):=by omega
 by_cases h:t.length≤s.length-i
 ·have h2:((t.length:Nat):Int)≤((s.length:Nat):Int)-(i:Nat):=by omega
  simp only [c101,push_cast,seval,-Nat.reducePow,h0,h1,h2]
  refine ⟨by omega,by omega,by omega,by omega,by omega,?_⟩
  have e:((i:Int)+(t.length:Int)).toNat-i=t.length:=by omega
  simp only [view,aDz,List.length_drop,h,decide_true,Bool.true_and]
  try simp [List.drop_take,e]
 ·have h2:¬ ((t.length:Nat):Int)≤((s.length:Nat):Int)-(i:Nat):=by omega
  simp only [c101,push_cast,seval,-Nat.reducePow,h0,h1,h2]
  refine ⟨by omega,?_⟩
  simp only [view,aDz,List.length_drop,h,decide_false,Bool.false_and]
theorem t103 (hf:bH8 P F T) (s:List UInt8) (c:UInt8) (i:Nat) (hi:i≤s.length) (hs:s.length<2^62):PTr P (F 103) [.str s,.int .i64 i,.int .u8 c.toNat] (.int .i64 (i+runL c (s.drop i):Nat)):=by
 refine ptrC [] hf (by simp) rfl ?_
 simp only [c103,push_cast,seval,-Nat.reducePow]
 refine aAe (fun m s1=>∃ n,i+n≤s.length∧m=s.length-(i+n) ∧  s1.env 0=.str s∧s1.env 2=.int .u8 c.toNat∧s1.env 1=.int .i64 (i+n:Nat)∧runL c (s.drop i)=n+runL c ((s.drop i).drop n)) (s.length-i) ⟨0,?_⟩ fun m s1 hJ=>?_
 ·simp only [push_cast,seval,-Nat.reducePow,Nat.add_zero,List.drop_zero,Nat.zero_add]
  exact hi
 ·obtain ⟨n,hn,rfl,j0,j2,j1,hr⟩:=hJ
  by_cases h:i+n<s.length
  ·have h':((i:Nat):Int)+(n:Nat)<((s.length:Nat):Int):=by omega
   simp only [push_cast,seval,-Nat.reducePow,j0,j1,j2,h']
   have e0:((i:Int)+(n:Int)).toNat=i+n:=by omega
   try simp only [e0]
   have hget:s.getD (i+n) 0=s[i+n]:=by simp [List.getD,h]
   have hgd:(s.drop i).getD n 0=s[i+n]:=by simp [List.getD,List.getElem?_drop,h]
   refine ⟨by omega,by omega,?_⟩
   refine aAh (fun hc=>?_) (fun hc=>?_)
   ·have hc':=aMe hc
    simp only [push_cast,seval,-Nat.reducePow,j0,j1,j2]
    refine ⟨by omega,s.length-(i+(n+1)),by omega,n+1,by omega,rfl,?_,?_⟩
    ·simp only [push_cast,seval,-Nat.reducePow]; congr 1
    ·exact aPw c (s.drop i) n (by simp; omega) (by rw [hgd,← hget]; exact hc') hr
   ·simp only [push_cast,seval,-Nat.reducePow,j0,j1,j2,view]
    have hne:s[i+n]≠c:=fun e=>hc (by rw [hget,e])
    rw [hr,List.drop_eq_getElem_cons (by simp; omega)]
    simp [runL,hne]
  ·have h':¬ ((i:Nat):Int)+(n:Nat)<((s.length:Nat):Int):=by omega
   simp only [push_cast,seval,-Nat.reducePow,j0,j1,j2,h',view]
   rw [hr,List.drop_eq_nil_of_le (by simp; omega)]
   simp [runL]
end Go.Ab
namespace Go.Ab
end Go.Ab
namespace Go.Ab
variable {P:Program} {F T:Nat→Nat}
theorem aZp (st:List El):aAk (finF st)≤pot st:=by
 have h:=aFb (st.length-1) st
 unfold finF
 cases hf:flatN (st.length-1) st with
 | nil=>simp [aAk]
 | cons e r =>
   rw [hf] at h
   simp only [pot,El.pot] at h
   simp only; omega
theorem aLk (s:List UInt8):aAk (aB4 s)≤31+35*s.length:=by
 obtain ⟨g1,g2⟩:=aI7 s
 have h:=(aK6 (s:=s) (scan s) (st:=[root]) (fun t ht=>(g1 t ht).wf) aNx.inv).2
 have:=aZp (runF s (scan s) [root])
 have e:pot [root]≤31:=by simp [pot,El.pot,root,aAk,aA0]
 unfold aB4
 omega
end Go.Ab
