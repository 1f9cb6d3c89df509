/- Several texts of one kind, merged. No condition. -/
import Derived.Test.YtcmnepgnkcoiiaaGreatDoorAbZ1
set_option linter.unusedSimpArgs false
set_option linter.unusedVariables false
namespace Go.Ab
def c159 (F T:Nat→Nat):C :=
 .seq (.ops false [⟨none,[.mov (some 2) (.k .nils),.mov (some 3) (.k (.int .i64 0))]⟩]) <|
 .seq (.ops false [⟨none,[.mov (some 16) (.t 0),.call (some 17) true (F 37) [(.t 16)],.mov (some 15) (.t 17),.ext (some 18) 0 (.t 15),.ext (some 19) 1 (.t 15),.mov (some 4) (.t 18),.mov (some 5) (.t 19)]⟩]) <|
 .seq (.seq (.ops false [⟨none,[.mov (some 20) (.t 5),.bin (some 21) .neq (.t 20) (.k (.int .i64 0))]⟩]) <|
 .cond (.t 21)
 (.seq (.ops false [⟨none,[.mov (some 22) (.t 5),.mov (some 2) (.k .nils),.mov (some 3) (.t 22)]⟩]) <|
 .ret)
 (.skip)) <|
 .seq (.ops false [⟨none,[.mov (some 23) (.t 4),.call (some 24) true (F 168) [(.t 23)],.mov (some 6) (.t 24)]⟩]) <|
 .seq (.gha (.own 7 (T 14) 5) <| .ops false [⟨none,[.mov (some 7) (.k .nils)]⟩]) <|
 .seq (.seq (.ops false [⟨none,[.mov (some 8) (.k (.int .i64 0))]⟩]) <|
 .block 0 <|
 .loop <|
 .seq (.seq (.ops false [⟨none,[.mov (some 25) (.t 8),.mov (some 26) (.t 0),.len (some 27) true (.t 26),.bin (some 28) .leq (.t 25) (.t 27)]⟩]) <|
 .cond (.t 28)
 (.skip)
 (.exit 0)) <|
 .block 1 <|
 .seq (.ops false [⟨none,[.mov (some 29) (.t 8),.mov (some 9) (.t 29)]⟩]) <|
 .seq (.ops false [⟨none,[.mov (some 10) (.k (.bool true))]⟩]) <|
 .seqc (.block 2 <|
 .loop <|
 .seq (.seq (.ops false [⟨none,[.mov (some 30) (.t 9),.mov (some 31) (.t 0),.len (some 32) true (.t 31),.bin (some 33) .lss (.t 30) (.t 32),.mov (some 34) (.t 33)]⟩,
 ⟨some (34,true),[.mov (some 35) (.t 0),.mov (some 36) (.t 9),.idx (some 37) (.t 35) (.t 36),.bin (some 38) .neq (.t 37) (.k (.int .u8 10))]⟩,
 ⟨none,[.pick (some 39) (.t 34) (.t 38) (.k (.bool false))]⟩]) <|
 .cond (.t 39)
 (.skip)
 (.exit 2)) <|
 .block 3 <|
 .seq (.ops false [⟨none,[.mov (some 40) (.t 10),.mov (some 41) (.t 40)]⟩,
 ⟨some (41,true),[.mov (some 42) (.t 6),.mov (some 43) (.t 9),.iadr (some 44) 1 (.t 42) (.t 43),.load (some 45) false 1 false (.t 44)]⟩,
 ⟨none,[.pick (some 46) (.t 41) (.t 45) (.k (.bool false)),.mov (some 10) (.t 46)]⟩]) <|
 .ops false [⟨none,[.mov (some 47) (.t 9),.bin (some 48) .add (.t 47) (.k (.int .i64 1)),.mov (some 9) (.t 48)]⟩]) <|
 .seqc (.seq (.ops false [⟨none,[.mov (some 50) (.t 0),.mov (some 51) (.t 8),.mov (some 52) (.t 9),.slcS (some 53) (.t 50) (some (.t 51)) (some (.t 52)),.call (some 54) true (F 169) [(.t 53)],.mov (some 49) (.t 54),.ext (some 55) 0 (.t 49),.ext (some 56) 1 (.t 49),.mov (some 11) (.t 55),.mov (some 12) (.t 56)]⟩]) <|
 .seq (.ops false [⟨none,[.mov (some 57) (.t 10),.mov (some 58) (.t 57)]⟩,
 ⟨some (58,true),[.mov (some 59) (.t 11),.bin (some 60) .gtr (.t 59) (.k (.int .i64 0))]⟩,
 ⟨none,[.pick (some 61) (.t 58) (.t 60) (.k (.bool false))]⟩]) <|
 .cond (.t 61)
 (.ops false [⟨none,[.mov (some 62) (.t 7),.mov (some 63) (.t 11),.mov (some 64) (.t 12),.mov (some 65) (.t 8),.mov (some 66) (.t 9),.bin (some 67) .add (.t 66) (.k (.int .i64 1)),.mov (some 68) (.t 0),.len (some 69) true (.t 68),.mx (some 70) false (.t 67) (.t 69),.mov (some 71) (.t 0),.len (some 72) true (.t 71),.build (some 73) [(.int .i64 0),(.str []),(.int .i64 0),(.int .i64 0),(.int .i64 0)] [(0,1,(.t 63)),(1,1,(.t 64)),(2,1,(.t 65)),(3,1,(.t 70)),(4,1,(.t 72))],.mkl (some 74) 5 [(.t 73)],.app 75 (T 14) 5 (.t 62) (.t 74),.mov (some 7) (.t 75)]⟩])
 (.skip)) <|
 .ops false [⟨none,[.mov (some 76) (.t 9),.bin (some 77) .add (.t 76) (.k (.int .i64 1)),.mov (some 8) (.t 77)]⟩]) <|
 .seq (.seq (.ops false [⟨none,[.mov (some 13) (.k (.int .i64 0))]⟩]) <|
 .block 4 <|
 .loop <|
 .seq (.seq (.ops false [⟨none,[.mov (some 78) (.t 13),.mov (some 79) (.t 7),.len (some 80) false (.t 79),.bin (some 81) .lss (.t 78) (.t 80)]⟩]) <|
 .cond (.t 81)
 (.skip)
 (.exit 4)) <|
 .seq (.block 5 <|
 .seq (.ops false [⟨none,[.mov (some 84) (.t 7),.len (some 85) false (.t 84),.bin (some 86) .sub (.t 85) (.k (.int .i64 1)),.mov (some 14) (.t 86)]⟩]) <|
 .block 6 <|
 .loop <|
 .seq (.seq (.ops false [⟨none,[.mov (some 87) (.t 14),.mov (some 88) (.t 13),.bin (some 89) .gtr (.t 87) (.t 88)]⟩]) <|
 .cond (.t 89)
 (.skip)
 (.exit 6)) <|
 .seq (.block 7 <|
 .seq (.ops true [⟨none,[.mov (some 92) (.t 7),.mov (some 93) (.t 14),.iadr (some 94) 5 (.t 92) (.t 93),.fadr (some 95) 0 (.t 94),.load (some 96) false 1 false (.t 95),.mov (some 97) (.t 7),.mov (some 98) (.t 13),.iadr (some 99) 5 (.t 97) (.t 98),.fadr (some 100) 0 (.t 99),.load (some 101) false 1 false (.t 100),.bin (some 102) .leq (.t 96) (.t 101)]⟩]) <|
 .cond (.t 102)
 (.ops false [⟨none,[.mov (some 103) (.t 7),.mov (some 104) (.t 13),.mov (some 105) (.t 7),.mov (some 106) (.t 14),.iadr (some 107) 5 (.t 105) (.t 106),.fadr (some 108) 2 (.t 107),.load (some 109) false 1 false (.t 108),.iadr (some 110) 5 (.t 103) (.t 104),.fadr (some 111) 4 (.t 110),.store 1 (.t 111) (.t 109)]⟩])
 (.skip)) <|
 .ops false [⟨none,[.mov (some 90) (.t 14),.bin (some 91) .sub (.t 90) (.k (.int .i64 1)),.mov (some 14) (.t 91)]⟩]) <|
 .ops false [⟨none,[.mov (some 82) (.t 13),.bin (some 83) .add (.t 82) (.k (.int .i64 1)),.mov (some 13) (.t 83)]⟩]) <|
 .seq (.ops false [⟨none,[.mov (some 112) (.t 7),.mov (some 2) (.t 112),.mov (some 3) (.k (.int .i64 0))]⟩]) <|
 .ret
abbrev Is159 (P:Program) (F T:Nat→Nat):Prop:=Fn P (F 159) 113 [(2,none),(3,none)] (c159 F T)
def c164 (F T:Nat→Nat):C :=
 .seq (.ops false [⟨none,[.mov (some 2) (.k (.str [])),.mov (some 3) (.k (.int .i64 0))]⟩]) <|
 .seq (.ops false [⟨none,[.mov (some 7) (.t 0),.call (some 8) true (F 159) [(.t 7)],.mov (some 6) (.t 8),.ext (some 9) 0 (.t 6),.ext (some 10) 1 (.t 6),.mov (some 4) (.t 9),.mov (some 5) (.t 10)]⟩]) <|
 .seq (.seq (.ops false [⟨none,[.mov (some 11) (.t 5),.bin (some 12) .neq (.t 11) (.k (.int .i64 0))]⟩]) <|
 .cond (.t 12)
 (.seq (.ops false [⟨none,[.mov (some 13) (.t 5),.mov (some 2) (.k (.str [])),.mov (some 3) (.t 13)]⟩]) <|
 .ret)
 (.skip)) <|
 .seq (.seq (.ops false [⟨none,[.mov (some 14) (.t 4),.len (some 15) false (.t 14),.bin (some 16) .gtr (.t 15) (.k (.int .i64 0))]⟩]) <|
 .cond (.t 16)
 (.seq (.ops false [⟨none,[.mov (some 17) (.t 0),.mov (some 18) (.t 4),.iadr (some 19) 5 (.t 18) (.k (.int .i64 0)),.fadr (some 20) 2 (.t 19),.load (some 21) false 1 false (.t 20),.slcS (some 22) (.t 17) none (some (.t 21)),.mov (some 2) (.t 22),.mov (some 3) (.k (.int .i64 0))]⟩]) <|
 .ret)
 (.skip)) <|
 .seq (.ops false [⟨none,[.mov (some 23) (.t 0),.mov (some 2) (.t 23),.mov (some 3) (.k (.int .i64 0))]⟩]) <|
 .ret
abbrev Is164 (P:Program) (F T:Nat→Nat):Prop:=Fn P (F 164) 24 [(2,none),(3,none)] (c164 F T)
def c168 (F T:Nat→Nat):C :=
 .seq (.ops false [⟨none,[.mov (some 2) (.k .nils)]⟩]) <|
 .seq (.gha (.own 3 (T 15) 1) <| .ops false [⟨none,[.mov (some 3) (.k .nils)]⟩]) <|
 .seq (.seq (.ops false [⟨none,[.mov (some 4) (.k (.int .i64 0))]⟩]) <|
 .block 0 <|
 .loop <|
 .seq (.seq (.ops false [⟨none,[.mov (some 7) (.t 4),.mov (some 8) (.t 0),.len (some 9) false (.t 8),.bin (some 10) .lss (.t 7) (.t 9)]⟩]) <|
 .cond (.t 10)
 (.skip)
 (.exit 0)) <|
 .seq (.block 1 <|
 .seq (.ops false [⟨none,[.mov (some 13) (.t 0),.mov (some 14) (.t 4),.mov (some 15) (.t 4),.bin (some 16) .add (.t 15) (.k (.int .i64 1)),.slc (some 17) 5 (.t 13) (some (.t 14)) (some (.t 16)),.call (some 18) true (F 3) [(.t 17)],.len (some 19) true (.t 18),.mov (some 5) (.t 19)]⟩]) <|
 .seq (.ops false [⟨none,[.mov (some 6) (.k (.int .i64 0))]⟩]) <|
 .block 2 <|
 .loop <|
 .seq (.seq (.ops false [⟨none,[.mov (some 20) (.t 6),.mov (some 21) (.t 5),.bin (some 22) .lss (.t 20) (.t 21)]⟩]) <|
 .cond (.t 22)
 (.skip)
 (.exit 2)) <|
 .seq (.block 3 <|
 .ops false [⟨none,[.mov (some 25) (.t 3),.mov (some 26) (.t 0),.mov (some 27) (.t 4),.iadr (some 28) 5 (.t 26) (.t 27),.fadr (some 29) 0 (.t 28),.load (some 30) false 1 false (.t 29),.bin (some 31) .eql (.t 30) (.k (.int .i64 1)),.mkl (some 32) 1 [(.t 31)],.app 33 (T 15) 1 (.t 25) (.t 32),.mov (some 3) (.t 33)]⟩]) <|
 .ops false [⟨none,[.mov (some 23) (.t 6),.bin (some 24) .add (.t 23) (.k (.int .i64 1)),.mov (some 6) (.t 24)]⟩]) <|
 .ops false [⟨none,[.mov (some 11) (.t 4),.bin (some 12) .add (.t 11) (.k (.int .i64 1)),.mov (some 4) (.t 12)]⟩]) <|
 .seq (.ops false [⟨none,[.mov (some 34) (.t 3),.mov (some 2) (.t 34)]⟩]) <|
 .ret
abbrev Is168 (P:Program) (F T:Nat→Nat):Prop:=Fn P (F 168) 35 [(2,none)] (c168 F T)
def c169 (F T:Nat→Nat):C :=
 .seq (.ops false [⟨none,[.mov (some 2) (.k (.int .i64 0)),.mov (some 3) (.k (.str []))]⟩]) <|
 .seq (.ops false [⟨none,[.mov (some 8) (.t 0),.call (some 9) true (F 138) [(.t 8)],.mov (some 0) (.t 9)]⟩]) <|
 .seq (.ops false [⟨none,[.mov (some 4) (.k (.int .i64 0)),.mov (some 5) (.k (.int .i64 0))]⟩]) <|
 .seqc (.block 0 <|
 .loop <|
 .seq (.seq (.ops false [⟨none,[.mov (some 10) (.t 4),.mov (some 11) (.t 0),.len (some 12) true (.t 11),.bin (some 13) .lss (.t 10) (.t 12),.mov (some 14) (.t 13)]⟩,
 ⟨some (14,true),[.mov (some 15) (.t 0),.mov (some 16) (.t 4),.idx (some 17) (.t 15) (.t 16),.bin (some 18) .eql (.t 17) (.k (.int .u8 61))]⟩,
 ⟨none,[.pick (some 19) (.t 14) (.t 18) (.k (.bool false))]⟩]) <|
 .cond (.t 19)
 (.skip)
 (.exit 0)) <|
 .block 1 <|
 .ops false [⟨none,[.mov (some 20) (.t 4),.bin (some 21) .add (.t 20) (.k (.int .i64 1)),.mov (some 4) (.t 21)]⟩]) <|
 .seqc (.block 2 <|
 .loop <|
 .seq (.seq (.ops false [⟨none,[.mov (some 22) (.t 5),.mov (some 23) (.t 0),.len (some 24) true (.t 23),.bin (some 25) .lss (.t 22) (.t 24),.mov (some 26) (.t 25)]⟩,
 ⟨some (26,true),[.mov (some 27) (.t 0),.mov (some 28) (.t 0),.len (some 29) true (.t 28),.bin (some 30) .sub (.t 29) (.k (.int .i64 1)),.mov (some 31) (.t 5),.bin (some 32) .sub (.t 30) (.t 31),.idx (some 33) (.t 27) (.t 32),.bin (some 34) .eql (.t 33) (.k (.int .u8 61))]⟩,
 ⟨none,[.pick (some 35) (.t 26) (.t 34) (.k (.bool false))]⟩]) <|
 .cond (.t 35)
 (.skip)
 (.exit 2)) <|
 .block 3 <|
 .ops false [⟨none,[.mov (some 36) (.t 5),.bin (some 37) .add (.t 36) (.k (.int .i64 1)),.mov (some 5) (.t 37)]⟩]) <|
 .seq (.seq (.ops false [⟨none,[.mov (some 38) (.t 4),.bin (some 39) .eql (.t 38) (.k (.int .i64 0)),.mov (some 40) (.t 39)]⟩,
 ⟨some (40,false),[.mov (some 41) (.t 5),.bin (some 42) .eql (.t 41) (.k (.int .i64 0))]⟩,
 ⟨none,[.pick (some 43) (.t 40) (.k (.bool true)) (.t 42),.mov (some 44) (.t 43)]⟩,
 ⟨some (44,false),[.mov (some 45) (.t 4),.mov (some 46) (.t 0),.len (some 47) true (.t 46),.bin (some 48) .eql (.t 45) (.t 47)]⟩,
 ⟨none,[.pick (some 49) (.t 44) (.k (.bool true)) (.t 48)]⟩]) <|
 .cond (.t 49)
 (.seq (.ops false [⟨none,[.mov (some 2) (.k (.int .i64 0)),.mov (some 3) (.k (.str []))]⟩]) <|
 .ret)
 (.skip)) <|
 .seq (.ops false [⟨none,[.mov (some 50) (.t 4),.mov (some 51) (.t 5),.mx3 (some 52) false (.t 50) (.t 51) (.k (.int .i64 6)),.mov (some 6) (.t 52)]⟩]) <|
 .seq (.ops false [⟨none,[.mov (some 53) (.t 0),.mov (some 54) (.t 6),.mov (some 55) (.t 0),.len (some 56) true (.t 55),.mov (some 57) (.t 6),.bin (some 58) .sub (.t 56) (.t 57),.slcS (some 59) (.t 53) (some (.t 54)) (some (.t 58)),.call (some 60) true (F 125) [(.t 59)],.mov (some 7) (.t 60)]⟩]) <|
 .seq (.seq (.ops false [⟨none,[.mov (some 61) (.t 7),.bin (some 62) .eql (.t 61) (.k (.str []))]⟩]) <|
 .cond (.t 62)
 (.seq (.ops false [⟨none,[.mov (some 2) (.k (.int .i64 0)),.mov (some 3) (.k (.str []))]⟩]) <|
 .ret)
 (.skip)) <|
 .seq (.ops false [⟨none,[.mov (some 63) (.t 6),.mov (some 64) (.t 7),.mov (some 2) (.t 63),.mov (some 3) (.t 64)]⟩]) <|
 .ret
abbrev Is169 (P:Program) (F T:Nat→Nat):Prop:=Fn P (F 169) 65 [(2,none),(3,none)] (c169 F T)
end Go.Ab
namespace Go.Ab
variable {P:Program} {F T:Nat→Nat}
open Go.Lib
theorem t169 (hf:Is169 P F T) (h138:Is138 P F T) (h125:Is125 P F T) (s:List UInt8) (hs:s.length≤100000):PTr P (F 169) [.str s] (hdR s):=by
 have hTl:=hdT_le s
 have imm:(hdR s).imm=true:=by unfold hdR; split <;> rfl
 have c1:=t138 h138 s (by omega)
 have hT:trimRightS s wsp=hdT s:=rfl
 have hr1:=runL_le2 61 (hdT s)
 have hr2:=runL_rev_le 61 (hdT s)
 have f3:min (min ((runL 61 (hdT s):Nat):Int) ((runL 61 (hdT s).reverse:Nat):Int)) 6=(hdN s:Nat):=by unfold hdN; omega
 rw [hT] at c1
 refine ptrC [] hf (by simp) imm ?_
 simp only [c169,push_cast,seval,-Nat.reducePow]
 refine callK_intro c1 (by simp only [push_cast,seval,-Nat.reducePow]) (by simp only [push_cast,seval,-Nat.reducePow]) ?_
 simp only [push_cast,seval,-Nat.reducePow]
 refine cutK_intro (fun s2=>s2.env 0=.str (hdT s)∧s2.env 4=.int .i64 (runL 61 (hdT s))∧s2.env 5=.int .i64 0) ?_ ?_
 ·simp only [push_cast,seval,-Nat.reducePow]
  refine loopK_intro (fun m s1=>∃ a,a≤runL 61 (hdT s)∧m=runL 61 (hdT s)-a∧s1.env 0=.str (hdT s)∧s1.env 4=.int .i64 a∧s1.env 5=.int .i64 0) (runL 61 (hdT s)) ⟨0,?_⟩ fun m s1 hJ=>?_
  ·simp only [push_cast,seval,-Nat.reducePow]
   simp
  ·obtain ⟨a,ha,rfl,j0,j4,j5⟩:=hJ
   by_cases hal:a<(hdT s).length
   ·have hal':((a:Nat):Int)<((hdT s).length:Nat):=by omega
    have hat:=run_at ha hal
    by_cases h61:((hdT s).getD a 0).toNat=61
    ·have h61':((((hdT s).getD a 0).toNat:Nat):Int)=61:=by omega
     have:=hat.1 h61
     simp only [push_cast,seval,-Nat.reducePow,j0,j4,j5,hal',h61']
     exact ⟨by omega,by omega,runL 61 (hdT s)-(a+1),by omega,a+1,by omega,rfl,by simp⟩
    ·have h61':¬ ((((hdT s).getD a 0).toNat:Nat):Int)=61:=by omega
     have hae:runL 61 (hdT s)=a:=by
      rcases Nat.lt_or_ge a (runL 61 (hdT s)) with h | h
      ·exact absurd (hat.2 h) h61
      ·omega
     simp only [push_cast,seval,-Nat.reducePow,j0,j4,j5,hal',h61',hae]
     omega
   ·have hal':¬ ((a:Nat):Int)<((hdT s).length:Nat):=by omega
    have hae:runL 61 (hdT s)=a:=by omega
    simp only [push_cast,seval,-Nat.reducePow,j0,j4,j5,hal',hae]
 ·rintro s2 ⟨k0,k4,k5⟩
  simp only [push_cast,seval,-Nat.reducePow,k0,k4,k5]
  refine cutK_intro (fun s2=>s2.env 0=.str (hdT s)∧s2.env 4=.int .i64 (runL 61 (hdT s))∧s2.env 5=.int .i64 (runL 61 (hdT s).reverse)) ?_ ?_
  ·simp only [push_cast,seval,-Nat.reducePow]
   refine loopK_intro (fun m s1=>∃ a,a≤runL 61 (hdT s).reverse∧m=runL 61 (hdT s).reverse-a∧s1.env 0=.str (hdT s)∧s1.env 5=.int .i64 a∧s1.env 4=.int .i64 (runL 61 (hdT s))) (runL 61 (hdT s).reverse) ⟨0,?_⟩ fun m s1 hJ=>?_
   ·simp only [push_cast,seval,-Nat.reducePow,k0,k4,k5]
    simp
   ·obtain ⟨a,ha,rfl,j0,j5,j4⟩:=hJ
    by_cases hal:a<(hdT s).length
    ·have hal':((a:Nat):Int)<((hdT s).length:Nat):=by omega
     have hat:=run_at ha (by simpa using hal)
     rw [run_rev hal] at hat
     have hix:(((hdT s).length:Nat):Int)-1-(a:Nat)=(((hdT s).length-1-a:Nat):Int):=by omega
     obtain ⟨I,hI⟩:∃ I,I=(hdT s).length-1-a:=⟨_,rfl⟩
     rw [← hI] at hix hat
     by_cases h61:((hdT s).getD I 0).toNat=61
     ·have h61':((((hdT s).getD I 0).toNat:Nat):Int)=61:=by omega
      have:=hat.1 h61
      simp only [push_cast,seval,-Nat.reducePow,j0,j4,j5,hal',hix,h61']
      exact ⟨by omega,by omega,by omega,by omega,runL 61 (hdT s).reverse-(a+1),by omega,a+1,by omega,rfl,by simp⟩
     ·have h61':¬ ((((hdT s).getD I 0).toNat:Nat):Int)=61:=by omega
      have hae:runL 61 (hdT s).reverse=a:=by
       rcases Nat.lt_or_ge a (runL 61 (hdT s).reverse) with h | h
       ·exact absurd (hat.2 h) h61
       ·omega
      simp only [push_cast,seval,-Nat.reducePow,j0,j4,j5,hal',hix,h61',hae]
      omega
    ·have hal':¬ ((a:Nat):Int)<((hdT s).length:Nat):=by omega
     have hae:runL 61 (hdT s).reverse=a:=by omega
     simp only [push_cast,seval,-Nat.reducePow,j0,j4,j5,hal',hae]
  ·rintro s3 ⟨k0,k4,k5⟩
   by_cases h1:runL 61 (hdT s)=0
   ·have h1':((runL 61 (hdT s):Nat):Int)=0:=by omega
    have hb:hdBad s:=.inl h1
    simp only [push_cast,seval,-Nat.reducePow,k0,k4,k5,h1',hdR,hb,view,if_true,true_or]
   ·have h1':¬ ((runL 61 (hdT s):Nat):Int)=0:=by omega
    by_cases h2:runL 61 (hdT s).reverse=0
    ·have h2':((runL 61 (hdT s).reverse:Nat):Int)=0:=by omega
     have hb:hdBad s:=.inr (.inl h2)
     simp only [push_cast,seval,-Nat.reducePow,k0,k4,k5,h1',h2',hdR,hb,view,if_true,true_or]
    ·have h2':¬ ((runL 61 (hdT s).reverse:Nat):Int)=0:=by omega
     by_cases h3:runL 61 (hdT s)=(hdT s).length
     ·have h3':((runL 61 (hdT s):Nat):Int)=((hdT s).length:Nat):=by omega
      have hb:hdBad s:=.inr (.inr h3)
      have h4':¬ (((hdT s).length:Nat):Int)=0:=by omega
      simp only [push_cast,seval,-Nat.reducePow,k0,k4,k5,h4',h2',h3',hdR,hb,view,if_true,true_or]
     ·have h3':¬ ((runL 61 (hdT s):Nat):Int)=((hdT s).length:Nat):=by omega
      have hb:¬ hdBad s:=by unfold hdBad; omega
      obtain ⟨g1,g2,g3⟩:=hdN_le hb
      have f5:(((hdT s).length:Nat):Int)-(hdN s:Nat)=(((hdT s).length-hdN s:Nat):Int):=by omega
      have c2:=t125 h125 h138 (((hdT s).take ((hdT s).length-hdN s)).drop (hdN s)) (by rw [List.length_drop,List.length_take]; omega)
      have hS:trimS (List.drop (hdN s) (List.take ((hdT s).length-hdN s) (hdT s))) wsp=hdS s:=rfl
      rw [hS] at c2
      simp only [push_cast,seval,-Nat.reducePow,k0,k4,k5,f3,f5,h1',h2',h3',mxI_min]
      repeat refine And.intro (by omega) ?_
      refine callK_intro c2 (by simp only [push_cast,seval,-Nat.reducePow]) (by simp only [push_cast,seval,-Nat.reducePow]) ?_
      by_cases hem:hdS s=[]
      ·simp only [push_cast,seval,-Nat.reducePow,k0,k4,k5,hdR,hb,hem,view,or_true,if_true]
      ·simp only [push_cast,seval,-Nat.reducePow,k0,k4,k5,hdR,hb,hem,view,or_self,if_false]
theorem t164 (hf:Is164 P F T) (h159:SectC P (F 159)) (s:List UInt8) (hs:s.length≤8192):PTr P (F 164) [.str s] (.tup [.str (leadF s),.int .i64 0]):=by
 have h1:=h159 s hs
 have hok:=sect_ok s
 refine ptrC [] hf (by simp) rfl ?_
 simp only [c164,push_cast,seval,-Nat.reducePow]
 refine callK_intro h1 (by simp only [push_cast,seval,-Nat.reducePow]) (by simp only [push_cast,seval,-Nat.reducePow,secV_imm]) ?_
 unfold leadF
 cases hl:sectF s with
 | nil =>
   simp only [push_cast,seval,-Nat.reducePow,secV,List.map_nil,view]
 | cons x r =>
   have:=hok x (by rw [hl]; simp)
   have h2:=this.bd
   have h3:=this.le
   have h4:=this.to
   have h5:(0:Int)<((r.length:Nat):Int)+1:=by omega
   have h6:List.drop 0 (List.take x.fr s)=List.take x.fr s:=rfl
   simp only [push_cast,seval,-Nat.reducePow,secV,List.map_cons,view,Sec.v,List.getD_cons_zero,List.length_cons,List.length_map,h5]
   omega
theorem t168 (hf:Is168 P F T) (h3:∀ l:List Node,bulks l≤2^26→PTr P (F 3) [.lst 5 (encs l)] (.str (srcs l))) (l:List Node) (hb:bulks l≤2^26) (hl:(srcs l).length≤100000) (hn:l.length≤1000000) :
 PTr P (F 168) [.lst 5 (encs l)] (.lst 1 (bls (plainF l))):=by
 refine ptrC [] hf (by simp [imms_encs]) (by simp [V.imm,bls_imm]) ?_
 simp only [c168,push_cast,seval,-Nat.reducePow]
 refine loopK_intro (fun m s1=>∃ d r id,l=d++r∧m=r.length∧s1.env 0=.lst 5 (encs l)∧s1.env 4=.int .i64 d.length∧s1.env 3=.own id 1 0 (plainF d).length∧s1.L id=some (.vec (T 15) 1 (bls (plainF d)))∧id<s1.nx) l.length ⟨[],l,70,?_⟩ fun m s1 hJ=>?_
 ·simp only [push_cast,seval,-Nat.reducePow]
  exact ⟨rfl,rfl⟩
 ·obtain ⟨d,r,id,rfl,rfl,j0,j4,j3,jL,hid⟩:=hJ
  have hlen:=encs_length (d++r)
  cases r with
  | nil =>
    have h0:¬ ((d.length:Nat):Int)<(((encs (d++[])).length:Nat):Int):=by rw [encs_length]; simp
    simp only [List.append_nil] at h0 j0 ⊢
    simp only [push_cast,seval,-Nat.reducePow,j0,j3,j4,jL,h0]
    exact view_own1 jL (bls_imm _) (bls_len _).symm
  | cons x r =>
    have h0:((d.length:Nat):Int)<(((encs (d++x::r)).length:Nat):Int):=by rw [encs_length]; simp; omega
    have hsl:=encs_cut d x r
    have he1:(((d.length:Nat):Int)+1).toNat=d.length+1:=by omega
    have hx:=encs_at d x r
    have hb1:bulks [x]≤2^26:=by
     have:=bulks_append d (x::r)
     have e1:bulks (x::r)=bulks [x]+bulks r:=bulks_append [x] r
     omega
    have h3x:=h3 [x] hb1
    have hpl:plainF (d++[x])=plainF d++List.replicate x.src.length (decide (x.kind=1)):=plainF_snoc d x
    rw [srcs_mid] at hl
    rw [srcs_one] at h3x
    have hdl:(plainF d).length=(srcs d).length:=plainF_len d
    have hn2:d.length≤1000000:=by rw [List.length_append] at hn; omega
    have hlc:(encs (d++x::r)).length=d.length+(r.length+1):=by rw [encs_length]; simp
    generalize x.src=w at *
    obtain ⟨k,tg,tx,ks,av⟩:=x
    simp only [encs,Node.cs] at h3x hsl hx
    simp only [push_cast,seval,-Nat.reducePow,j0,j3,j4,jL,h0,he1,hsl]
    repeat refine And.intro (by omega) ?_
    refine callK_intro h3x (by simp only [push_cast,seval,-Nat.reducePow,imms_encs]) (by simp only [push_cast,seval,-Nat.reducePow]) ?_
    have hbb:decide ((Node.mk k tg tx ks av).kind=1)=decide (k=1):=rfl
    rw [hbb] at hpl
    simp only [push_cast,seval,-Nat.reducePow,j0,j3,j4,jL]
    refine loopK_intro (fun m s2=>∃ j id2,j≤w.length∧m=w.length-j∧s2.env 0=.lst 5 (encs (d++Node.mk k tg tx ks av::r))∧s2.env 4=.int .i64 d.length∧s2.env 5=.int .i64 w.length∧s2.env 6=.int .i64 j∧s2.env 3=.own id2 1 0 ((plainF d).length+j)∧s2.L id2=some (.vec (T 15) 1 (bls (plainF d++List.replicate j (decide (k=1)))))∧id2<s2.nx) w.length ⟨0,id,?_⟩ fun m s2 hJ=>?_
    ·simp only [push_cast,seval,-Nat.reducePow,j0,j3,j4,jL]
     simp
     omega
    ·obtain ⟨j,id2,hj,rfl,k0,k4,k5,k6,k3,kL,kid⟩:=hJ
     by_cases hjw:j<w.length
     ·have hjw':((j:Nat):Int)<((w.length:Nat):Int):=by omega
      have hlen:(bls (plainF d++List.replicate j (decide (k=1)))).length=(plainF d).length+j:=by rw [bls_len,List.length_append,List.length_replicate]
      have htk:List.take ((plainF d).length+j) (bls (plainF d++List.replicate j (decide (k=1))))=bls (plainF d++List.replicate j (decide (k=1))):=List.take_of_length_le (by omega)
      have hsn:bls (plainF d++List.replicate j (decide (k=1)))++[.bool (decide (k=1))]=bls (plainF d++List.replicate (j+1) (decide (k=1))):=by rw [bls_snoc,List.append_assoc,rep_snoc]
      simp only [push_cast,seval,-Nat.reducePow,k0,k3,k4,k5,k6,kL,hjw',hx,hlen,htk,hsn]
      exact ⟨by omega,by omega,w.length-(j+1),by omega,j+1,s2.nx+68,by omega,rfl,by simp,rfl,upd_same _ _ _,by omega⟩
     ·have hjw':¬ ((j:Nat):Int)<((w.length:Nat):Int):=by omega
      obtain rfl:j=w.length:=by omega
      simp only [push_cast,seval,-Nat.reducePow,k0,k3,k4,k5,k6,kL,hjw']
      refine ⟨by omega,r.length,by simp,d++[.mk k tg tx ks av],r,id2,by simp,rfl,by simp,?_,?_,by omega⟩
      ·rw [hpl]; simp
      ·rw [hpl]; exact kL
theorem plainR_of (hf:Is168 P F T) (h3:∀ l:List Node,bulks l≤2^26→PTr P (F 3) [.lst 5 (encs l)] (.str (srcs l))) (s:List UInt8) (hs:s.length≤8192):PTr P (F 168) [.lst 5 (encs (parseF s))] (.lst 1 (bls (plainF (parseF s)))):=by
 have hb:=parseF_bulk s
 have hr:=srcs_parseF s
 have:=len_bulks (parseF s)
 exact t168 hf h3 (parseF s) (by omega) (by rw [hr]; omega) (by omega)
theorem rawF_step2 (s:List UInt8) (p:List Bool) {i:Nat} (h:i≤s.length):rawF s p (s.length+1) i=secAt s p i++rawF s p (s.length+1) (lineE s i+1):=by
 have hle:=lineE_le (s:=s) (i:=i) h
 by_cases hi:i<s.length
 ·rw [rawF_step s p hi]
  by_cases hE:lineE s i+1≤s.length
  ·rw [Nat.min_eq_left hE]
  ·rw [rawF_end s p _ (i:=min (lineE s i+1) s.length) (by omega),rawF_end s p _ (i:=lineE s i+1) (by omega)]
 ·have he:(s.take (lineE s i)).drop i=[]:=List.drop_eq_nil_of_le (by rw [List.length_take]; omega)
  have hs:secAt s p i=[]:=by
   rw [secAt,he,headF_nil]
   split <;> rfl
  rw [hs,rawF_end s p _ (by omega),rawF_end s p _ (by omega)]; rfl
theorem line_nl {s:List UInt8} {i j:Nat} (hi:i≤s.length) (h1:i≤j) (h2:j<lineE s i):(s.getD j 0).toNat≠10:=by
 have:j-i<lineL (s.drop i):=by unfold lineE at h2; omega
 obtain ⟨b,hb,hb2⟩:=lineL_no this
 rw [List.getElem?_drop,show i+(j-i)=j by omega] at hb
 simp only [List.getD,hb,Option.getD_some]
 intro e
 apply hb2
 have:b=UInt8.ofNat b.toNat:=by simp
 rw [this,e]; rfl
theorem line_end {s:List UInt8} {i:Nat} (hi:i≤s.length) (h2:lineE s i<s.length):(s.getD (lineE s i) 0).toNat=10:=by
 have h3:lineL (s.drop i)<(s.drop i).length:=by rw [List.length_drop]; unfold lineE at h2; omega
 have h4:=lineL_end h3
 rw [List.getElem?_drop] at h4
 simp only [List.getD,lineE,h4,Option.getD_some]
 rfl
theorem t159 (hf:Is159 P F T) (h169:Is169 P F T) (h138:Is138 P F T) (h125:Is125 P F T) (s:List UInt8) (hs:s.length≤8192) (h37:PTr P (F 37) [.str s] (.tup [.lst 5 (encs (parseF s)),.int .i64 0])) (h168:PTr P (F 168) [.lst 5 (encs (parseF s))] (.lst 1 (bls (plainF (parseF s))))):PTr P (F 159) [.str s] (.tup [.lst 5 (secV (sectF s)),.int .i64 0]):=by
 obtain ⟨p,hp⟩:∃ p,p=plainF (parseF s):=⟨_,rfl⟩
 have hpl:p.length=s.length:=by rw [hp,plainF_len,srcs_parseF]
 have hsec:sectF s=toF (rawF s p (s.length+1) 0):=by rw [sectF,hp]
 have hcnt:=rawF_count s p (s.length+1) 0
 rw [← hp] at h168
 refine ptrC [] hf (by simp) (by simp [V.imm,V.imms,secV_imm]) ?_
 simp only [c159,push_cast,seval,-Nat.reducePow]
 refine callK_intro h37 (by simp only [push_cast,seval,-Nat.reducePow]) (by simp only [push_cast,seval,-Nat.reducePow,imms_encs]) ?_
 simp only [push_cast,seval,-Nat.reducePow]
 refine callK_intro h168 (by simp only [push_cast,seval,-Nat.reducePow,imms_encs]) (by simp only [push_cast,seval,-Nat.reducePow,bls_imm]) ?_
 refine loopK_intro (fun m s1=>∃ a i id,rawF s p (s.length+1) 0=a++rawF s p (s.length+1) i∧m=s.length+1-i∧i≤s.length+1∧a.length≤i∧s1.env 0=.str s∧s1.env 6=.lst 1 (bls p)∧s1.env 8=.int .i64 i∧s1.env 7=.own id 5 0 a.length∧s1.L id=some (.vec (T 14) 5 (secV a))∧id<s1.nx) (s.length+1) ⟨[],0,565,?_⟩ fun m s1 hJ=>?_
 ·simp only [push_cast,seval,-Nat.reducePow]
  rfl
 ·obtain ⟨a,i,id,hra,rfl,hi,hal,j0,j4,j7,j6,jL,hid⟩:=hJ
  by_cases hlt:i≤s.length
  ·have hlt':((i:Nat):Int)≤((s.length:Nat):Int):=by omega
   have hle:=lineE_le (s:=s) (i:=i) hlt
   rw [rawF_step2 s p hlt] at hra
   have hsq:=secAt_eq s p i
   have hnl:=fun j=>line_nl (s:=s) (i:=i) (j:=j) hlt
   have hne:=line_end (s:=s) (i:=i) hlt
   generalize lineE s i=E at *
   obtain ⟨N,hN⟩:∃ N,N=min (E+1) s.length:=⟨_,rfl⟩
   rw [← hN] at hsq
   have hN':min (((E:Nat):Int)+1) ((s.length:Nat):Int)=(N:Nat):=by omega
   simp only [push_cast,seval,-Nat.reducePow,j0,j4,j7,j6,jL,hlt']
   refine cutK_intro (fun s3=>s3.env 0=.str s∧s3.env 6=.lst 1 (bls p)∧s3.env 8=.int .i64 i∧s3.env 7=.own id 5 0 a.length∧s3.L id=some (.vec (T 14) 5 (secV a))∧id<s3.nx∧s3.env 9=.int .i64 E∧s3.env 10=.bool (allP p i E)) ?_ ?_
   ·simp only [push_cast,seval,-Nat.reducePow]
    refine loopK_intro (fun m s3=>∃ j,i≤j∧j≤E∧m=E-j∧s3.env 0=.str s∧s3.env 6=.lst 1 (bls p)∧s3.env 8=.int .i64 i∧s3.env 7=.own id 5 0 a.length∧s3.L id=some (.vec (T 14) 5 (secV a))∧id<s3.nx∧s3.env 9=.int .i64 j∧s3.env 10=.bool (allP p i j)) (E-i) ⟨i,?_⟩ fun m s3 hJ=>?_
    ·simp only [push_cast,seval,-Nat.reducePow,j0,j4,j7,j6,jL,allP_nil]
     omega
    ·obtain ⟨j,hij,hje,rfl,g0,g4,g7,g6,gL,gid,g12,g11⟩:=hJ
     by_cases hj:j<E
     ·have hj':((j:Nat):Int)<((s.length:Nat):Int):=by omega
      have hjp:j<p.length:=by omega
      have hat:=bls_at p hjp
      have hjb:j<(bls p).length:=by rw [bls_len]; exact hjp
      have hst:=allP_step p hij hjp
      have hnn:=hnl j hij hj
      have hnn':¬ (((s.getD j 0).toNat:Nat):Int)=10:=by omega
      cases hb:allP p i j with
      | true =>
        rw [hb,Bool.true_and] at hst
        rw [hb] at g11
        simp only [push_cast,seval,-Nat.reducePow,g0,g4,g7,g6,gL,g12,g11,hj',hat,hnn']
        exact ⟨by omega,hjb,by omega,E-(j+1),by omega,j+1,by omega,by omega,rfl,by omega,by simp,by rw [hst]⟩
      | false =>
        rw [hb,Bool.false_and] at hst
        rw [hb] at g11
        simp only [push_cast,seval,-Nat.reducePow,g0,g4,g7,g6,gL,g12,g11,hj',hnn']
        exact ⟨by omega,by omega,E-(j+1),by omega,j+1,by omega,by omega,rfl,by omega,by simp,by rw [hst]⟩
     ·obtain rfl:E=j:=by omega
      by_cases hE:E<s.length
      ·have hE':((E:Nat):Int)<((s.length:Nat):Int):=by omega
       have hn':(((s.getD E 0).toNat:Nat):Int)=10:=by have:=hne hE; omega
       simp only [push_cast,seval,-Nat.reducePow,g0,g4,g7,g6,gL,g12,g11,hE',hn']
       omega
      ·have hE':¬ ((E:Nat):Int)<((s.length:Nat):Int):=by omega
       simp only [push_cast,seval,-Nat.reducePow,g0,g4,g7,g6,gL,g12,g11,hE']
       omega
   ·rintro s3 ⟨g0,g4,g7,g6,gL,gid,g12,g11⟩
    simp only [push_cast,seval,-Nat.reducePow]
    refine cutK_intro (fun s4=>∃ id2,s4.env 0=.str s∧s4.env 6=.lst 1 (bls p)∧s4.env 9=.int .i64 E∧s4.env 7=.own id2 5 0 (a++secAt s p i).length∧s4.L id2=some (.vec (T 14) 5 (secV (a++secAt s p i)))∧id2<s4.nx) ?_ ?_
    ·have hcal:=t169 h169 h138 h125 ((s.take E).drop i) (by rw [List.length_drop,List.length_take]; omega)
     have himm:(hdR ((s.take E).drop i)).imm=true:=by unfold hdR; split <;> rfl
     have htk:List.take a.length (secV a)=secV a:=List.take_of_length_le (by rw [secV_len]; omega)
     have hpos:¬ hdBad ((s.take E).drop i)→(0:Int)<(hdN ((s.take E).drop i):Nat):=fun h=>by have:=hdN_le h; omega
     simp only [push_cast,seval,-Nat.reducePow,g0,g4,g7,g6,gL,g12,g11]
     repeat refine And.intro (by omega) ?_
     refine callK_intro hcal (by simp only [push_cast,seval,-Nat.reducePow]) himm ?_
     generalize (s.take E).drop i=ln at *
     simp only [hdR] at himm ⊢
     by_cases hbad:hdBad ln∨hdS ln=[]
     ·have hs0:secAt s p i=[]:=by rw [hsq]; rcases hbad with h | h <;> simp [hdOk,h]
      rw [if_pos hbad,hs0,List.append_nil]
      cases hall:allP p i E with
      | true =>
        rw [hall] at g11
        simp only [push_cast,seval,-Nat.reducePow,g0,g4,g7,g6,gL,g12,g11]
        exact ⟨id,rfl,gL,by omega⟩
      | false =>
        rw [hall] at g11
        simp only [push_cast,seval,-Nat.reducePow,g0,g4,g7,g6,gL,g12,g11]
        exact ⟨id,rfl,gL,by omega⟩
     ·rw [if_neg hbad]
      rw [not_or] at hbad
      cases hall:allP p i E with
      | false =>
        have hs0:secAt s p i=[]:=by rw [hsq]; simp [hdOk,hbad.1,hbad.2,hall]
        rw [hs0,List.append_nil]
        rw [hall] at g11
        simp only [push_cast,seval,-Nat.reducePow,g0,g4,g7,g6,gL,g12,g11]
        exact ⟨id,rfl,gL,by omega⟩
      | true =>
        have hs0:secAt s p i=[⟨hdN ln,hdS ln,i,N,s.length⟩]:=by rw [hsq]; simp [hdOk,hbad.1,hbad.2,hall]
        have hsn:=secV_snoc a ⟨hdN ln,hdS ln,i,N,s.length⟩
        have hp0:=hpos hbad.1
        simp only [Sec.v] at hsn
        rw [hs0]
        rw [hall] at g11
        simp only [push_cast,seval,-Nat.reducePow,g0,g4,g7,g6,gL,g12,g11,htk,hsn,hp0,hN',mxI_min]
        exact ⟨by omega,by rw [secV_len]; omega,by omega,s3.nx+301,by simp,upd_same _ _ _,by omega⟩
    ·rintro s4 ⟨id2,m0,m4,m9,m6,mL,mid⟩
     simp only [push_cast,seval,-Nat.reducePow,m0,m4,m9,m6,mL]
     have hsl:(secAt s p i).length≤1:=by rw [hsq]; split <;> simp
     exact ⟨by omega,s.length+1-(E+1),by omega,a++secAt s p i,E+1,id2,by rw [hra,List.append_assoc],rfl,by omega,by rw [List.length_append]; omega,by simp,rfl,mL,by omega⟩
  ·have hlt':¬ ((i:Nat):Int)≤((s.length:Nat):Int):=by omega
   rw [rawF_end s p (s.length+1) (i:=i) (by omega),List.append_nil] at hra
   simp only [push_cast,seval,-Nat.reducePow,j0,j4,j7,j6,jL,hlt']
   refine loopK_intro (fun m s2=>∃ d r id,toF a=d++toF r∧a.length=d.length+r.length∧m=r.length∧s2.env 13=.int .i64 d.length∧s2.env 7=.own id 5 0 a.length∧s2.L id=some (.vec (T 14) 5 (secV (d++r)))∧id<s2.nx) a.length ⟨[],a,id,?_⟩ fun m s2 hJ=>?_
   ·simp only [push_cast,seval,-Nat.reducePow,j0,j4,j7,j6,jL]
    omega
   ·obtain ⟨d,r,id,htf,hlen,rfl,k6,k7,kL,kid⟩:=hJ
    cases r with
    | nil =>
      have hd:¬ ((d.length:Nat):Int)<((a.length:Nat):Int):=by simp at hlen; omega
      simp only [push_cast,seval,-Nat.reducePow,k6,k7,kL,hd]
      rw [hsec,hra,htf]
      simp only [toF]
      exact view_own2 kL (secV_imm _) (by rw [secV_len,List.length_append,hlen])
    | cons x q =>
      have hd:((d.length:Nat):Int)<((a.length:Nat):Int):=by simp at hlen; omega
      simp only [List.length_cons] at hlen
      simp only [push_cast,seval,-Nat.reducePow,k6,k7,kL,hd]
      repeat refine And.intro (by omega) ?_
      refine loopK_intro (fun m s3=>∃ u v,q=u++v∧m=u.length∧s3.env 13=.int .i64 d.length∧s3.env 14=.int .i64 (d.length+u.length:Nat)∧s3.env 7=.own id 5 0 a.length∧s3.L id=some (.vec (T 14) 5 (secV (d++toOf x v::q)))∧id<s3.nx) q.length ⟨q,[],?_⟩ fun m s3 hJ=>?_
      ·have e1:((a.length:Nat):Int)-1=(d.length:Nat)+(q.length:Nat):=by omega
       have e2:toOf x []=x:=rfl
       simp only [push_cast,seval,-Nat.reducePow,k6,k7,kL,e1,e2]
       simp
       omega
      ·obtain ⟨u,v,rfl,rfl,g6,g17,g7,gL,gid⟩:=hJ
       have hx:=secV_at d (toOf x v) (u++v)
       have hlv:(toOf x v).lev=x.lev:=rfl
       have hll:(secV (d++toOf x v::(u++v))).length=d.length+(u.length+v.length+1):=by rw [secV_len]; simp
       simp only [List.length_append] at hlen
       rcases List.eq_nil_or_concat u with rfl | ⟨u,y,rfl⟩
       ·have hk:¬ ((d.length:Nat):Int)<((d.length+([]:List Sec).length:Nat):Int):=by simp
        simp only [List.length_nil,Nat.add_zero] at g17 hk
        simp only [push_cast,seval,-Nat.reducePow,g6,g17,g7,gL,hk]
        refine ⟨by omega,v.length,by simp,d++[toOf x v],v,id,?_,by simp at hlen ⊢; omega,rfl,by simp,rfl,by simpa using gL,by omega⟩
        rw [htf]; simp [toF]
       ·have hKd:d.length+(u.concat y).length=d.length+1+u.length:=by simp; omega
        rw [hKd] at g17
        generalize hK:d.length+1+u.length=K at *
        simp only [List.concat_eq_append,List.append_assoc,List.singleton_append,List.length_append,List.length_singleton] at *
        have hk:((d.length:Nat):Int)<((K:Nat):Int):=by omega
        have hy:(secV (d++toOf x v::(u++y::v))).getD K .junk=y.v:=by
         have:=secV_at (d++toOf x v::u) y v
         rw [show (d++toOf x v::u).length=K by simp; omega] at this
         simpa using this
        have hto:=toOf_cons x y v
        have hse:=secV_set d (toOf x v) (endS x y.fr) (u++y::v)
        obtain ⟨X,hX⟩:∃ X,X=toOf x v:=⟨_,rfl⟩
        have hXe:endS x y.fr=⟨X.lev,X.title,X.fr,X.bd,y.fr⟩:=by rw [hX]; rfl
        rw [← hX] at hx hy gL hll hto hse hlv
        by_cases hyx:y.lev≤x.lev
        ·have hyx':((y.lev:Nat):Int)≤((X.lev:Nat):Int):=by omega
         rw [if_pos hyx] at hto
         rw [hXe] at hse
         simp only [Sec.v] at hse
         simp only [push_cast,seval,-Nat.reducePow,g6,g17,g7,gL,hk,hx,hy,Sec.v,hyx']
         refine ⟨by omega,by omega,by omega,by omega,by omega,by omega,by omega,by omega,by omega,u.length,by omega,u,y::v,by simp,rfl,by congr 1; omega,?_,by omega⟩
         rw [hse,hto,hXe]
        ·have hyx':¬ ((y.lev:Nat):Int)≤((X.lev:Nat):Int):=by omega
         rw [if_neg hyx] at hto
         simp only [push_cast,seval,-Nat.reducePow,g6,g17,g7,gL,hk,hx,hy,Sec.v,hyx']
         refine ⟨by omega,by omega,by omega,by omega,by omega,u.length,by omega,u,y::v,by simp,rfl,by congr 1; omega,?_,by omega⟩
         rw [hto,hX]
end Go.Ab
