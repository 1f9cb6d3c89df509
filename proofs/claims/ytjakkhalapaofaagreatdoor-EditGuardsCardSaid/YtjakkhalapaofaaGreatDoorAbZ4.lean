/- Several texts of one kind, merged. No condition. -/
import Derived.Test.YtjakkhalapaofaaGreatDoorAbZ1
set_option linter.unusedSimpArgs false
set_option linter.unusedVariables false
namespace Go.Ab
def c164 (F T:Nat→Nat):C :=
 .n [.mov (some 2) (.s []),.mov (some 3) (.i 0)] <|
 .n [.m 7 0,.c 8 (F 159) [.t 7],.m 6 8,.x 9 0 6,.x 10 1 6,.m 4 9,.m 5 10] <|
 .seq (.n [.m 11 5,.bi 12 .neq 11 0] <|
 .cond (.t 12)
 (.n [.m 13 5,.mov (some 2) (.s []),.m 3 13] <|
 .ret)
 (.skip)) <|
 .seq (.n [.m 14 4,.ll 15 14,.bi 16 .gtr 15 0] <|
 .cond (.t 16)
 (.n [.m 17 0,.m 18 4,.iadr (some 19) 5 (.t 18) (.i 0),.f 20 2 19,.l 21 20,.slcS (some 22) (.t 17) none (some (.t 21)),.m 2 22,.mov (some 3) (.i 0)] <|
 .ret)
 (.skip)) <|
 .n [.m 23 0,.m 2 23,.mov (some 3) (.i 0)] <|
 .ret
abbrev bL8 (P:Program) (F T:Nat→Nat):Prop:=Fn P (F 164) 24 [(2,none),(3,none)] (c164 F T)
end Go.Ab
namespace Go.Ab
variable {P:Program} {F T:Nat→Nat}
open Go.Lib
theorem t164 (hf:bL8 P F T) (h159:bAs P (F 159)) (s:List UInt8) (hs:s.length≤8192):PTr P (F 164) [.str s] (.tup [.str (bIm s),.int .i64 0]):=by
 have h1:=h159 s hs
 have hok:=aZ9 s
 refine ptrC [] hf (by simp) rfl ?_
 simp only [c164,push_cast,seval,-Nat.reducePow]
 refine aAc h1 (by simp only [push_cast,seval,-Nat.reducePow]) (by simp only [push_cast,seval,-Nat.reducePow,aEo]) ?_
 unfold bIm
 cases hl:aCm s with
 | nil =>
   simp only [push_cast,seval,-Nat.reducePow,secV,List.map_nil,view]
 | cons x r =>
   have:=hok x (by rw [hl]; simp)
   have h2:=this.bd
   have h3:=this.le
   have h4:=this.to
   have h5:(0:Int)<((r.length:Nat):Int)+1:=by omega
   have h6:List.drop 0 (List.take x.fr s)=List.take x.fr s:=rfl
   simp only [push_cast,seval,-Nat.reducePow,secV,List.map_cons,view,Sec.v,List.getD_cons_zero,List.length_cons,List.length_map,h5]
   omega
end Go.Ab
