/- Several texts of one kind, merged. No condition. -/
import Derived.Test.YtcmnepgnkcoiiaaGreatDoorAbC2
import Derived.Test.YtcmnepgnkcoiiaaGreatDoorAbC1
import Derived.Test.YtcmnepgnkcoiiaaGreatDoorAbR2
set_option linter.unusedSimpArgs false
set_option linter.unusedVariables false
namespace Go.Ab
variable {P:Program} {F T:Nat→Nat}
open Go.Lib
theorem t193 (hf:aR5 P F T) (l:List (List UInt8)) (x:List UInt8) (hl:l.length≤2^60):PTr P (F 193) [.lst 1 (l.map .str),.str x] (.bool (l.contains x)):=by
 refine ptrC [] hf (by simp) rfl ?_
 have hln:(l.map V.str).length=l.length:=List.length_map ..
 simp only [c193,push_cast,seval,-Nat.reducePow,hln]
 refine aAc (fun m s1=>∃ i,i≤l.length∧m=l.length-i∧l.contains x=(l.drop i).contains x∧s1.env 0=.lst 1 (l.map .str)∧s1.env 1=.str x∧s1.env 5=.int .i64 i) l.length ⟨0,?_⟩ fun m s1 hJ=>?_
 ·simp only [push_cast,seval,-Nat.reducePow]
  rfl
 ·obtain ⟨i,hi,rfl,hn,j0,j1,j5⟩:=hJ
  by_cases h:i<l.length
  ·have h':((i:Nat):Int)<((l.length:Nat):Int):=by omega
   have hg:=aHs h
   obtain ⟨y,hy⟩:∃ y,l.getD i []=y:=⟨_,rfl⟩
   have el:l.drop i=y::l.drop (i+1):=by rw [← hy,List.drop_eq_getElem_cons h]; simp [List.getD,h]
   rw [el] at hn
   rw [hy] at hg
   by_cases e:y=x
   ·simp only [push_cast,seval,-Nat.reducePow,j0,j1,j5,h',hln,hg,e,view]
    rw [hn,e]
    simp
    exact h
   ·simp only [push_cast,seval,-Nat.reducePow,j0,j1,j5,h',hln,hg,e]
    refine ⟨h,⟨by omega,by omega⟩,l.length-(i+1),by omega,i+1,by omega,rfl,?_,by simp⟩
    rw [hn,List.contains_cons]
    have:(x==y)=false:=by rw [beq_eq_false_iff_ne]; exact fun q=>e q.symm
    rw [this,Bool.false_or]
  ·have h':¬ ((i:Nat):Int)<((l.length:Nat):Int):=by omega
   have el:l.drop i=[]:=List.drop_of_length_le (by omega)
   rw [el] at hn
   simp only [push_cast,seval,-Nat.reducePow,j0,j1,j5,h',hln,hn,view]
   rfl
end Go.Ab
namespace Go.Ab
variable {P:Program} {F T:Nat→Nat}
open Go.Lib
end Go.Ab
namespace Go.Ab
variable {P:Program} {F T:Nat→Nat}
open Go.Lib
end Go.Ab
namespace Go.Ab
variable {P:Program} {F T:Nat→Nat}
open Go.Lib
end Go.Ab
namespace Go.Ab
variable {P:Program} {F T:Nat→Nat}
open Go.Lib
end Go.Ab
