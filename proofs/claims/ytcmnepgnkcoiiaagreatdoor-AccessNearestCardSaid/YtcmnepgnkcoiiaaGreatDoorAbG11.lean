/- Lowered code of the functions, by program. No condition. -/
import Derived.Test.YtcmnepgnkcoiiaaGreatDoorAbZ1
set_option linter.unusedVariables false
namespace Go.Ab
def c176 (F T:Nat→Nat):C :=
 .seq (.ops false [⟨none,[.mov (some 0) (.k (.bool false))]⟩]) <|
 .seq (.ops false [⟨none,[.build (some 3) [(.int .i64 0),(.str [])] [(0,1,(.k (.int .i64 2))),(1,1,(.k (.str [65,110,110])))],.alloc 1 (T 17) [(.int .i64 0),(.str [])],.store 2 (.t 1) (.t 3)]⟩]) <|
 .seq (.ops false [⟨none,[.build (some 4) [(.int .i64 0),(.int .i64 0),(.str [])] [(0,1,(.k (.int .i64 1)))],.build (some 5) [(.bool false),(.int .i64 0),(.str []),(.int .i64 0),(.int .i64 0),(.str [])] [(0,1,(.k (.bool true))),(1,1,(.k (.int .i64 1))),(2,1,(.k (.str [97,108,108]))),(3,3,(.t 4))],.load (some 6) false 2 true (.t 1),.build (some 7) [(.int .i64 0),(.int .i64 0),(.str [])] [(0,1,(.k (.int .i64 3))),(1,2,(.t 6))],.build (some 8) [(.bool false),(.int .i64 0),(.str []),(.int .i64 0),(.int .i64 0),(.str [])] [(1,1,(.k (.int .i64 1))),(2,1,(.k (.str [97,108,108]))),(3,3,(.t 7))],.mkl (some 9) 6 [(.t 5),(.t 8)],.build (some 10) [.nils,.nils,.nils] [(1,1,(.t 9))],.alloc 2 (T 16) [.nils,.nils,.nils],.store 3 (.t 2) (.t 10)]⟩]) <|
 .seq (.ops false [⟨none,[.load (some 11) false 3 true (.t 2),.mkl (some 12) 1 [(.k (.str [97,108,108]))],.build (some 13) [(.int .i64 0),(.str [])] [(1,1,(.k (.str [65])))],.call (some 14) true (F 178) [(.t 11),(.t 12),(.k (.int .i64 1)),(.t 13)],.mov (some 15) (.t 14)]⟩,
 ⟨some (15,true),[.load (some 16) false 3 true (.t 2),.mkl (some 17) 1 [(.k (.str [97,108,108]))],.load (some 18) false 2 true (.t 1),.call (some 19) true (F 178) [(.t 16),(.t 17),(.k (.int .i64 1)),(.t 18)],.un (some 20) .not (.t 19)]⟩,
 ⟨none,[.pick (some 21) (.t 15) (.t 20) (.k (.bool false)),.mov (some 22) (.t 21)]⟩,
 ⟨some (22,true),[.load (some 23) false 3 true (.t 2),.load (some 24) false 2 true (.t 1),.call (some 25) true (F 179) [(.t 23),(.k .nils),(.t 24),(.k (.str [])),(.k (.str [120]))],.bin (some 26) .eql (.t 25) (.k (.int .i64 1))]⟩,
 ⟨none,[.pick (some 27) (.t 22) (.t 26) (.k (.bool false)),.mov (some 28) (.t 27)]⟩,
 ⟨some (28,true),[.load (some 29) false 3 true (.t 2),.call (some 30) true (F 180) [(.t 29),(.k (.str []))],.len (some 31) false (.t 30),.bin (some 32) .eql (.t 31) (.k (.int .i64 1))]⟩,
 ⟨none,[.pick (some 33) (.t 28) (.t 32) (.k (.bool false)),.mov (some 0) (.t 33)]⟩]) <|
 .ret
abbrev Is176 (P:Program) (F T:Nat→Nat):Prop:=Fn P (F 176) 34 [(0,none)] (c176 F T)
def c178 (F T:Nat→Nat):C :=
 .seq (.ops false [⟨none,[.box 4 (T 16) (.t 0),.box 7 (T 17) (.t 3),.mov (some 8) (.k (.bool false))]⟩]) <|
 .seq (.seq (.ops false [⟨none,[.load (some 15) false 2 true (.t 7),.call (some 16) true (F 185) [(.t 15)],.un (some 17) .not (.t 16),.mov (some 18) (.t 17)]⟩,
 ⟨some (18,false),[.mov (some 19) (.t 2),.bin (some 20) .lss (.t 19) (.k (.int .i64 1))]⟩,
 ⟨none,[.pick (some 21) (.t 18) (.k (.bool true)) (.t 20),.mov (some 22) (.t 21)]⟩,
 ⟨some (22,false),[.mov (some 23) (.t 2),.bin (some 24) .gtr (.t 23) (.k (.int .i64 5))]⟩,
 ⟨none,[.pick (some 25) (.t 22) (.k (.bool true)) (.t 24)]⟩]) <|
 .cond (.t 25)
 (.seq (.ops false [⟨none,[.mov (some 8) (.k (.bool false))]⟩]) <|
 .ret)
 (.skip)) <|
 .seq (.seq (.ops false [⟨none,[.load (some 26) false 2 true (.t 7),.call (some 27) true (F 181) [(.t 26)],.len (some 28) false (.t 27),.mov (some 29) (.k (.int .i64 0))]⟩]) <|
 .block 0 <|
 .loop <|
 .seq (.ops false [⟨none,[.bin (some 30) .lss (.t 29) (.t 28)]⟩]) <|
 .seq (.cond (.t 30)
 (.skip)
 (.exit 0)) <|
 .seq (.block 1 <|
 .seq (.ops false [⟨none,[.iadr (some 31) 3 (.t 27) (.t 29),.load (some 32) false 3 true (.t 31),.alloc 10 (T 18) [(.int .i64 0),(.int .i64 0),(.str [])],.store 3 (.t 10) (.t 32)]⟩]) <|
 .seq (.ops false [⟨none,[.mov (some 11) (.k (.bool false)),.mov (some 12) (.k (.bool true))]⟩]) <|
 .seq (.seq (.ops false [⟨none,[.fadr (some 33) 1 (.t 4),.load (some 34) false 1 false (.t 33),.len (some 35) false (.t 34),.mov (some 36) (.k (.int .i64 0))]⟩]) <|
 .block 2 <|
 .loop <|
 .seq (.ops false [⟨none,[.bin (some 37) .lss (.t 36) (.t 35)]⟩]) <|
 .seq (.cond (.t 37)
 (.skip)
 (.exit 2)) <|
 .seq (.block 3 <|
 .seq (.ops false [⟨none,[.iadr (some 38) 6 (.t 34) (.t 36),.load (some 39) false 6 true (.t 38),.alloc 14 (T 19) [(.bool false),(.int .i64 0),(.str []),(.int .i64 0),(.int .i64 0),(.str [])],.store 6 (.t 14) (.t 39)]⟩]) <|
 .seq (.ops false [⟨none,[.fadr (some 40) 1 (.t 14),.load (some 41) false 1 false (.t 40),.mov (some 42) (.t 2),.bin (some 43) .eql (.t 41) (.t 42),.mov (some 44) (.t 43)]⟩,
 ⟨some (44,true),[.mov (some 45) (.t 1),.fadr (some 46) 2 (.t 14),.load (some 47) false 1 false (.t 46),.call (some 48) true (F 220) [(.t 45),(.t 47)]]⟩,
 ⟨none,[.pick (some 49) (.t 44) (.t 48) (.k (.bool false)),.mov (some 50) (.t 49)]⟩,
 ⟨some (50,true),[.fadr (some 51) 3 (.t 14),.load (some 52) false 3 true (.t 51),.load (some 53) false 3 true (.t 10),.call (some 54) true (F 182) [(.t 52),(.t 53)]]⟩,
 ⟨none,[.pick (some 55) (.t 50) (.t 54) (.k (.bool false))]⟩]) <|
 .cond (.t 55)
 (.ops true [⟨none,[.mov (some 56) (.t 12),.mov (some 57) (.t 56)]⟩,
 ⟨some (57,true),[.fadr (some 58) 0 (.t 14),.load (some 59) false 1 false (.t 58)]⟩,
 ⟨none,[.pick (some 60) (.t 57) (.t 59) (.k (.bool false)),.mov (some 11) (.k (.bool true)),.mov (some 12) (.t 60)]⟩])
 (.skip)) <|
 .ops false [⟨none,[.bin (some 61) .add (.t 36) (.k (.int .i64 1)),.mov (some 36) (.t 61)]⟩]) <|
 .seq (.ops false [⟨none,[.mov (some 62) (.t 11)]⟩]) <|
 .cond (.t 62)
 (.seq (.ops false [⟨none,[.mov (some 63) (.t 12),.mov (some 8) (.t 63)]⟩]) <|
 .ret)
 (.skip)) <|
 .ops false [⟨none,[.bin (some 64) .add (.t 29) (.k (.int .i64 1)),.mov (some 29) (.t 64)]⟩]) <|
 .seq (.ops false [⟨none,[.mov (some 8) (.k (.bool false))]⟩]) <|
 .ret
abbrev Is178 (P:Program) (F T:Nat→Nat):Prop:=Fn P (F 178) 65 [(8,none)] (c178 F T)
def c179 (F T:Nat→Nat):C :=
 .seq (.ops false [⟨none,[.box 5 (T 16) (.t 0),.box 7 (T 17) (.t 2),.mov (some 10) (.k (.int .i64 0))]⟩]) <|
 .seq (.ops false [⟨none,[.mov (some 11) (.k (.int .i64 1))]⟩]) <|
 .seq (.seq (.ops false [⟨none,[.fadr (some 14) 2 (.t 5),.load (some 15) false 1 false (.t 14),.len (some 16) false (.t 15),.mov (some 17) (.k (.int .i64 0))]⟩]) <|
 .block 0 <|
 .loop <|
 .seq (.ops false [⟨none,[.bin (some 18) .lss (.t 17) (.t 16)]⟩]) <|
 .seq (.cond (.t 18)
 (.skip)
 (.exit 0)) <|
 .seq (.block 1 <|
 .seq (.ops false [⟨none,[.iadr (some 19) 5 (.t 15) (.t 17),.load (some 20) false 5 true (.t 19),.alloc 13 (T 20) [(.bool false),(.str []),(.int .i64 0),(.str []),(.str [])],.store 5 (.t 13) (.t 20)]⟩]) <|
 .seq (.seq (.ops false [⟨none,[.fadr (some 21) 2 (.t 13),.load (some 22) false 2 true (.t 21),.load (some 23) false 2 true (.t 7),.eqA (some 24) true [0,1] (.t 22) (.t 23),.mov (some 25) (.t 24)]⟩,
 ⟨some (25,false),[.mov (some 26) (.t 1),.fadr (some 27) 1 (.t 13),.load (some 28) false 1 false (.t 27),.call (some 29) true (F 220) [(.t 26),(.t 28)]]⟩,
 ⟨none,[.pick (some 30) (.t 25) (.k (.bool true)) (.t 29),.mov (some 31) (.t 30)]⟩,
 ⟨some (31,false),[.load (some 32) false 5 true (.t 13),.mov (some 33) (.t 3),.mov (some 34) (.t 4),.call (some 35) true (F 184) [(.t 32),(.t 33),(.t 34)],.un (some 36) .not (.t 35)]⟩,
 ⟨none,[.pick (some 37) (.t 31) (.k (.bool true)) (.t 36)]⟩]) <|
 .cond (.t 37)
 (.exit 1)
 (.skip)) <|
 .seq (.seq (.ops false [⟨none,[.fadr (some 38) 0 (.t 13),.load (some 39) false 1 false (.t 38)]⟩]) <|
 .cond (.t 39)
 (.seq (.ops false [⟨none,[.mov (some 10) (.k (.int .i64 3))]⟩]) <|
 .ret)
 (.skip)) <|
 .ops false [⟨none,[.mov (some 11) (.k (.int .i64 2))]⟩]) <|
 .ops false [⟨none,[.bin (some 40) .add (.t 17) (.k (.int .i64 1)),.mov (some 17) (.t 40)]⟩]) <|
 .seq (.ops false [⟨none,[.mov (some 41) (.t 11),.mov (some 10) (.t 41)]⟩]) <|
 .ret
abbrev Is179 (P:Program) (F T:Nat→Nat):Prop:=Fn P (F 179) 42 [(10,none)] (c179 F T)
def c182 (F T:Nat→Nat):C :=
 .seq (.ops false [⟨none,[.box 2 (T 18) (.t 0),.box 3 (T 18) (.t 1),.mov (some 4) (.k (.bool false))]⟩]) <|
 .seq (.seq (.ops false [⟨none,[.fadr (some 5) 0 (.t 2),.load (some 6) false 1 false (.t 5),.fadr (some 7) 0 (.t 3),.load (some 8) false 1 false (.t 7),.bin (some 9) .neq (.t 6) (.t 8)]⟩]) <|
 .cond (.t 9)
 (.seq (.ops false [⟨none,[.mov (some 4) (.k (.bool false))]⟩]) <|
 .ret)
 (.skip)) <|
 .seq (.seq (.ops false [⟨none,[.fadr (some 10) 0 (.t 2),.load (some 11) false 1 false (.t 10)]⟩]) <|
 .block 0 <|
 .seq (.ops false [⟨none,[.bin (some 13) .eql (.t 11) (.k (.int .i64 3)),.mov (some 12) (.t 13)]⟩]) <|
 .cond (.t 12)
 (.seq (.ops false [⟨none,[.fadr (some 14) 1 (.t 2),.load (some 15) false 2 true (.t 14),.fadr (some 16) 1 (.t 3),.load (some 17) false 2 true (.t 16),.eqA (some 18) false [0,1] (.t 15) (.t 17),.mov (some 4) (.t 18)]⟩]) <|
 .ret)
 (.seq (.ops false [⟨none,[.bin (some 20) .eql (.t 11) (.k (.int .i64 2)),.mov (some 19) (.t 20)]⟩]) <|
 .cond (.t 19)
 (.seq (.ops false [⟨none,[.fadr (some 21) 1 (.t 2),.fadr (some 22) 0 (.t 21),.load (some 23) false 1 false (.t 22),.fadr (some 24) 1 (.t 3),.fadr (some 25) 0 (.t 24),.load (some 26) false 1 false (.t 25),.bin (some 27) .eql (.t 23) (.t 26),.mov (some 4) (.t 27)]⟩]) <|
 .ret)
 (.skip))) <|
 .seq (.ops false [⟨none,[.mov (some 4) (.k (.bool true))]⟩]) <|
 .ret
abbrev Is182 (P:Program) (F T:Nat→Nat):Prop:=Fn P (F 182) 28 [(4,none)] (c182 F T)
def c185 (F T:Nat→Nat):C :=
 .seq (.ops false [⟨none,[.box 1 (T 17) (.t 0),.mov (some 2) (.k (.bool false))]⟩]) <|
 .seq (.ops false [⟨none,[.fadr (some 9) 1 (.t 1),.load (some 10) false 1 false (.t 9),.mov (some 3) (.t 10)]⟩]) <|
 .seq (.seq (.ops false [⟨none,[.fadr (some 11) 0 (.t 1),.load (some 12) false 1 false (.t 11),.bin (some 13) .lss (.t 12) (.k (.int .i64 0)),.mov (some 14) (.t 13)]⟩,
 ⟨some (14,false),[.fadr (some 15) 0 (.t 1),.load (some 16) false 1 false (.t 15),.bin (some 17) .geq (.t 16) (.k (.int .i64 6))]⟩,
 ⟨none,[.pick (some 18) (.t 14) (.k (.bool true)) (.t 17),.mov (some 19) (.t 18)]⟩,
 ⟨some (19,false),[.mov (some 20) (.t 3),.len (some 21) true (.t 20),.bin (some 22) .lss (.t 21) (.k (.int .i64 1))]⟩,
 ⟨none,[.pick (some 23) (.t 19) (.k (.bool true)) (.t 22),.mov (some 24) (.t 23)]⟩,
 ⟨some (24,false),[.mov (some 25) (.t 3),.len (some 26) true (.t 25),.bin (some 27) .gtr (.t 26) (.k (.int .i64 100))]⟩,
 ⟨none,[.pick (some 28) (.t 24) (.k (.bool true)) (.t 27),.mov (some 29) (.t 28)]⟩,
 ⟨some (29,false),[.mov (some 30) (.t 3),.call (some 31) true (F 187) [(.t 30)],.un (some 32) .not (.t 31)]⟩,
 ⟨none,[.pick (some 33) (.t 29) (.k (.bool true)) (.t 32)]⟩]) <|
 .cond (.t 33)
 (.seq (.ops false [⟨none,[.mov (some 2) (.k (.bool false))]⟩]) <|
 .ret)
 (.skip)) <|
 .seq (.seq (.ops false [⟨none,[.mov (some 34) (.t 3),.call (some 35) true (F 171) [(.t 34),(.k (.str [47]))],.len (some 36) false (.t 35),.mov (some 37) (.k (.int .i64 0))]⟩]) <|
 .block 0 <|
 .loop <|
 .seq (.ops false [⟨none,[.bin (some 38) .lss (.t 37) (.t 36)]⟩]) <|
 .seq (.cond (.t 38)
 (.skip)
 (.exit 0)) <|
 .seq (.block 1 <|
 .seq (.ops false [⟨none,[.iadr (some 39) 1 (.t 35) (.t 37),.load (some 40) false 1 false (.t 39),.mov (some 5) (.t 40)]⟩]) <|
 .seq (.ops false [⟨none,[.mov (some 41) (.t 5),.bin (some 42) .eql (.t 41) (.k (.str [])),.mov (some 43) (.t 42)]⟩,
 ⟨some (43,false),[.mov (some 44) (.t 5),.idx (some 45) (.t 44) (.k (.int .i64 0)),.bin (some 46) .eql (.t 45) (.k (.int .u8 32))]⟩,
 ⟨none,[.pick (some 47) (.t 43) (.k (.bool true)) (.t 46),.mov (some 48) (.t 47)]⟩,
 ⟨some (48,false),[.mov (some 49) (.t 5),.mov (some 50) (.t 5),.len (some 51) true (.t 50),.bin (some 52) .sub (.t 51) (.k (.int .i64 1)),.idx (some 53) (.t 49) (.t 52),.bin (some 54) .eql (.t 53) (.k (.int .u8 32))]⟩,
 ⟨none,[.pick (some 55) (.t 48) (.k (.bool true)) (.t 54)]⟩]) <|
 .cond (.t 55)
 (.seq (.ops false [⟨none,[.mov (some 2) (.k (.bool false))]⟩]) <|
 .ret)
 (.skip)) <|
 .ops false [⟨none,[.bin (some 56) .add (.t 37) (.k (.int .i64 1)),.mov (some 37) (.t 56)]⟩]) <|
 .seq (.seq (.ops false [⟨none,[.mov (some 57) (.t 3),.idx (some 58) (.t 57) (.k (.int .i64 0)),.bin (some 59) .eql (.t 58) (.k (.int .u8 58)),.mov (some 60) (.t 59)]⟩,
 ⟨some (60,false),[.mov (some 61) (.t 3),.idx (some 62) (.t 61) (.k (.int .i64 0)),.bin (some 63) .geq (.t 62) (.k (.int .u8 97)),.mov (some 64) (.t 63)]⟩,
 ⟨some (64,true),[.mov (some 65) (.t 3),.idx (some 66) (.t 65) (.k (.int .i64 0)),.bin (some 67) .leq (.t 66) (.k (.int .u8 122))]⟩,
 ⟨some (60,false),[.pick (some 68) (.t 64) (.t 67) (.k (.bool false))]⟩,
 ⟨none,[.pick (some 69) (.t 60) (.k (.bool true)) (.t 68)]⟩]) <|
 .cond (.t 69)
 (.seq (.ops false [⟨none,[.mov (some 2) (.k (.bool false))]⟩]) <|
 .ret)
 (.skip)) <|
 .seq (.ops false [⟨none,[.mov (some 71) (.t 3),.call (some 72) true (F 188) [(.t 71)],.mov (some 70) (.t 72),.ext (some 73) 0 (.t 70),.ext (some 74) 1 (.t 70),.ext (some 75) 2 (.t 70),.mov (some 6) (.t 73),.mov (some 7) (.t 74),.mov (some 8) (.t 75)]⟩]) <|
 .seq (.ops false [⟨none,[.fadr (some 76) 0 (.t 1),.load (some 77) false 1 false (.t 76),.bin (some 78) .neq (.t 77) (.k (.int .i64 0)),.mov (some 79) (.t 78)]⟩,
 ⟨some (79,false),[.mov (some 80) (.t 8),.un (some 81) .not (.t 80)]⟩,
 ⟨none,[.pick (some 82) (.t 79) (.k (.bool true)) (.t 81),.mov (some 2) (.t 82)]⟩]) <|
 .ret
abbrev Is185 (P:Program) (F T:Nat→Nat):Prop:=Fn P (F 185) 83 [(2,none)] (c185 F T)
def c186 (F T:Nat→Nat):C :=
 .seq (.ops false [⟨none,[.box 1 (T 17) (.t 0),.mov (some 2) (.k .nils)]⟩]) <|
 .seq (.seq (.ops false [⟨none,[.load (some 5) false 2 true (.t 1),.call (some 6) true (F 185) [(.t 5)],.un (some 7) .not (.t 6)]⟩]) <|
 .cond (.t 7)
 (.seq (.ops false [⟨none,[.mov (some 2) (.k .nils)]⟩]) <|
 .ret)
 (.skip)) <|
 .seq (.gha (.own 3 (T 17) 2) <| .ops false [⟨none,[.mov (some 3) (.k .nils)]⟩]) <|
 .seq (.seq (.ops false [⟨none,[.mov (some 4) (.k (.int .i64 0))]⟩]) <|
 .block 0 <|
 .loop <|
 .seq (.seq (.ops false [⟨none,[.mov (some 8) (.t 4),.fadr (some 9) 1 (.t 1),.load (some 10) false 1 false (.t 9),.len (some 11) true (.t 10),.bin (some 12) .lss (.t 8) (.t 11)]⟩]) <|
 .cond (.t 12)
 (.skip)
 (.exit 0)) <|
 .seq (.block 1 <|
 .seq (.ops false [⟨none,[.fadr (some 15) 1 (.t 1),.load (some 16) false 1 false (.t 15),.mov (some 17) (.t 4),.idx (some 18) (.t 16) (.t 17),.bin (some 19) .eql (.t 18) (.k (.int .u8 47))]⟩]) <|
 .cond (.t 19)
 (.ops true [⟨none,[.mov (some 20) (.t 3),.fadr (some 21) 0 (.t 1),.load (some 22) false 1 false (.t 21),.fadr (some 23) 1 (.t 1),.load (some 24) false 1 false (.t 23),.mov (some 25) (.t 4),.slcS (some 26) (.t 24) none (some (.t 25)),.build (some 27) [(.int .i64 0),(.str [])] [(0,1,(.t 22)),(1,1,(.t 26))],.mkl (some 28) 2 [(.t 27)],.app 29 (T 17) 2 (.t 20) (.t 28),.mov (some 3) (.t 29)]⟩])
 (.skip)) <|
 .ops false [⟨none,[.mov (some 13) (.t 4),.bin (some 14) .add (.t 13) (.k (.int .i64 1)),.mov (some 4) (.t 14)]⟩]) <|
 .seq (.ops false [⟨none,[.mov (some 30) (.t 3),.mov (some 2) (.t 30)]⟩]) <|
 .ret
abbrev Is186 (P:Program) (F T:Nat→Nat):Prop:=Fn P (F 186) 31 [(2,none)] (c186 F T)
def c187 (F T:Nat→Nat):C :=
 .seq (.ops false [⟨none,[.mov (some 2) (.k (.bool false))]⟩]) <|
 .seq (.seq (.ops false [⟨none,[.mov (some 3) (.k (.int .i64 0))]⟩]) <|
 .block 0 <|
 .loop <|
 .seq (.seq (.ops false [⟨none,[.mov (some 5) (.t 3),.mov (some 6) (.t 0),.len (some 7) true (.t 6),.bin (some 8) .lss (.t 5) (.t 7)]⟩]) <|
 .cond (.t 8)
 (.skip)
 (.exit 0)) <|
 .seq (.block 1 <|
 .seq (.ops false [⟨none,[.mov (some 11) (.t 0),.mov (some 12) (.t 3),.idx (some 13) (.t 11) (.t 12),.mov (some 4) (.t 13)]⟩]) <|
 .seq (.ops false [⟨none,[.mov (some 14) (.t 4),.bin (some 15) .lss (.t 14) (.k (.int .u8 32)),.mov (some 16) (.t 15)]⟩,
 ⟨some (16,false),[.mov (some 17) (.t 4),.bin (some 18) .eql (.t 17) (.k (.int .u8 127))]⟩,
 ⟨none,[.pick (some 19) (.t 16) (.k (.bool true)) (.t 18),.mov (some 20) (.t 19)]⟩,
 ⟨some (20,false),[.mov (some 21) (.t 4),.call (some 22) true (F 120) [(.k (.str [60,62,91,93,123,125,124,35,95])),(.t 21)],.bin (some 23) .geq (.t 22) (.k (.int .i64 0))]⟩,
 ⟨none,[.pick (some 24) (.t 20) (.k (.bool true)) (.t 23),.mov (some 25) (.t 24)]⟩,
 ⟨some (25,false),[.mov (some 26) (.t 4),.bin (some 27) .eql (.t 26) (.k (.int .u8 32)),.mov (some 28) (.t 27)]⟩,
 ⟨some (28,true),[.mov (some 29) (.t 3),.bin (some 30) .gtr (.t 29) (.k (.int .i64 0))]⟩,
 ⟨some (25,false),[.pick (some 31) (.t 28) (.t 30) (.k (.bool false)),.mov (some 32) (.t 31)]⟩,
 ⟨some (32,true),[.mov (some 33) (.t 0),.mov (some 34) (.t 3),.bin (some 35) .sub (.t 34) (.k (.int .i64 1)),.idx (some 36) (.t 33) (.t 35),.bin (some 37) .eql (.t 36) (.k (.int .u8 32))]⟩,
 ⟨some (25,false),[.pick (some 38) (.t 32) (.t 37) (.k (.bool false))]⟩,
 ⟨none,[.pick (some 39) (.t 25) (.k (.bool true)) (.t 38)]⟩]) <|
 .cond (.t 39)
 (.seq (.ops false [⟨none,[.mov (some 2) (.k (.bool false))]⟩]) <|
 .ret)
 (.skip)) <|
 .ops false [⟨none,[.mov (some 9) (.t 3),.bin (some 10) .add (.t 9) (.k (.int .i64 1)),.mov (some 3) (.t 10)]⟩]) <|
 .seq (.ops false [⟨none,[.mov (some 2) (.k (.bool true))]⟩]) <|
 .ret
abbrev Is187 (P:Program) (F T:Nat→Nat):Prop:=Fn P (F 187) 40 [(2,none)] (c187 F T)
def c188 (F T:Nat→Nat):C :=
 .seq (.ops false [⟨none,[.mov (some 2) (.k (.int .i64 0)),.mov (some 3) (.k (.str [])),.mov (some 4) (.k (.bool false))]⟩]) <|
 .seq (.ops false [⟨none,[.mov (some 12) (.t 0),.call (some 13) true (F 172) [(.t 12),(.k (.str [58]))],.mov (some 11) (.t 13),.ext (some 14) 0 (.t 11),.ext (some 15) 1 (.t 11),.ext (some 16) 2 (.t 11),.mov (some 5) (.t 14),.mov (some 6) (.t 15),.mov (some 7) (.t 16)]⟩]) <|
 .seq (.seq (.ops false [⟨none,[.mov (some 17) (.t 7),.un (some 18) .not (.t 17)]⟩]) <|
 .cond (.t 18)
 (.seq (.ops false [⟨none,[.mov (some 2) (.k (.int .i64 0)),.mov (some 3) (.k (.str [])),.mov (some 4) (.k (.bool false))]⟩]) <|
 .ret)
 (.skip)) <|
 .seq (.ops false [⟨none,[.mov (some 19) (.t 5),.call (some 20) true (F 173) [(.t 19),(.k (.str [32]))],.call (some 21) true (F 189) [(.t 20)],.mov (some 8) (.t 21)]⟩]) <|
 .seq (.seq (.ops false [⟨none,[.call (some 22) true (F 190) [],.mov (some 23) (.k (.int .i64 0))]⟩]) <|
 .block 0 <|
 .loop <|
 .seq (.ops false [⟨none,[.bin (some 24) .lss (.t 23) (.k (.int .i64 6))]⟩]) <|
 .seq (.cond (.t 24)
 (.skip)
 (.exit 0)) <|
 .seq (.block 1 <|
 .seq (.ops false [⟨none,[.mov (some 25) (.t 23),.idxA (some 26) 6 1 false (.t 22) (.t 23),.mov (some 9) (.t 25),.mov (some 10) (.t 26)]⟩]) <|
 .seq (.ops false [⟨none,[.mov (some 27) (.t 9),.bin (some 28) .neq (.t 27) (.k (.int .i64 0)),.mov (some 29) (.t 28)]⟩,
 ⟨some (29,true),[.mov (some 30) (.t 8),.mov (some 31) (.t 10),.call (some 32) true (F 189) [(.t 31)],.bin (some 33) .eql (.t 30) (.t 32)]⟩,
 ⟨none,[.pick (some 34) (.t 29) (.t 33) (.k (.bool false))]⟩]) <|
 .cond (.t 34)
 (.seq (.ops false [⟨none,[.mov (some 35) (.t 9),.mov (some 36) (.t 6),.mov (some 2) (.t 35),.mov (some 3) (.t 36),.mov (some 4) (.k (.bool true))]⟩]) <|
 .ret)
 (.skip)) <|
 .ops false [⟨none,[.bin (some 37) .add (.t 23) (.k (.int .i64 1)),.mov (some 23) (.t 37)]⟩]) <|
 .seq (.ops false [⟨none,[.mov (some 2) (.k (.int .i64 0)),.mov (some 3) (.k (.str [])),.mov (some 4) (.k (.bool false))]⟩]) <|
 .ret
abbrev Is188 (P:Program) (F T:Nat→Nat):Prop:=Fn P (F 188) 38 [(2,none),(3,none),(4,none)] (c188 F T)
def c189 (F T:Nat→Nat):C :=
 .seq (.ops false [⟨none,[.mov (some 2) (.k (.str []))]⟩]) <|
 .seq (.ops false [⟨none,[.mov (some 6) (.t 0),.s2b 7 (T 3) (.t 6),.mov (some 3) (.t 7)]⟩]) <|
 .seq (.seq (.ops false [⟨none,[.mov (some 8) (.t 3),.len (some 9) false (.t 8),.mov (some 10) (.k (.int .i64 0))]⟩]) <|
 .block 0 <|
 .loop <|
 .seq (.ops false [⟨none,[.bin (some 11) .lss (.t 10) (.t 9)]⟩]) <|
 .seq (.cond (.t 11)
 (.skip)
 (.exit 0)) <|
 .seq (.block 1 <|
 .seq (.ops false [⟨none,[.mov (some 12) (.t 10),.iadr (some 13) 1 (.t 8) (.t 10),.load (some 14) false 1 false (.t 13),.mov (some 4) (.t 12),.mov (some 5) (.t 14)]⟩]) <|
 .seq (.ops false [⟨none,[.mov (some 15) (.t 5),.bin (some 16) .geq (.t 15) (.k (.int .u8 65)),.mov (some 17) (.t 16)]⟩,
 ⟨some (17,true),[.mov (some 18) (.t 5),.bin (some 19) .leq (.t 18) (.k (.int .u8 90))]⟩,
 ⟨none,[.pick (some 20) (.t 17) (.t 19) (.k (.bool false))]⟩]) <|
 .cond (.t 20)
 (.ops false [⟨none,[.mov (some 21) (.t 3),.mov (some 22) (.t 4),.mov (some 23) (.t 5),.bin (some 24) .add (.t 23) (.k (.int .u8 32)),.iadr (some 25) 1 (.t 21) (.t 22),.store 1 (.t 25) (.t 24)]⟩])
 (.skip)) <|
 .ops false [⟨none,[.bin (some 26) .add (.t 10) (.k (.int .i64 1)),.mov (some 10) (.t 26)]⟩]) <|
 .seq (.ops false [⟨none,[.mov (some 27) (.t 3),.b2s (some 28) (.t 27),.mov (some 2) (.t 28)]⟩]) <|
 .ret
abbrev Is189 (P:Program) (F T:Nat→Nat):Prop:=Fn P (F 189) 29 [(2,none)] (c189 F T)
def c190 (F T:Nat→Nat):C :=
 .seq (.ops false [⟨none,[.alloc 0 (T 25) [(.str []),(.str []),(.str []),(.str []),(.str []),(.str [])]]⟩]) <|
 .seq (.ops false [⟨none,[.build (some 1) [(.str []),(.str []),(.str []),(.str []),(.str []),(.str [])] [(0,1,(.k (.str []))),(1,1,(.k (.str [84,97,108,107]))),(2,1,(.k (.str [85,115,101,114]))),(3,1,(.k (.str [84,101,109,112,108,97,116,101]))),(4,1,(.k (.str [67,97,116,101,103,111,114,121]))),(5,1,(.k (.str [80,114,111,106,101,99,116])))],.store 6 (.t 0) (.t 1)]⟩]) <|
 .ret
abbrev Is190 (P:Program) (F T:Nat→Nat):Prop:=Fn P (F 190) 2 [(0,(some (6,true)))] (c190 F T)
def c191 (F T:Nat→Nat):C :=
 .seq (.ops false [⟨none,[.mov (some 2) (.k (.bool false))]⟩]) <|
 .seq (.seq (.ops false [⟨none,[.mov (some 5) (.t 0),.len (some 6) true (.t 5),.bin (some 7) .lss (.t 6) (.k (.int .i64 1)),.mov (some 8) (.t 7)]⟩,
 ⟨some (8,false),[.mov (some 9) (.t 0),.len (some 10) true (.t 9),.bin (some 11) .gtr (.t 10) (.k (.int .i64 30))]⟩,
 ⟨none,[.pick (some 12) (.t 8) (.k (.bool true)) (.t 11),.mov (some 13) (.t 12)]⟩,
 ⟨some (13,false),[.mov (some 14) (.t 0),.idx (some 15) (.t 14) (.k (.int .i64 0)),.bin (some 16) .lss (.t 15) (.k (.int .u8 97))]⟩,
 ⟨none,[.pick (some 17) (.t 13) (.k (.bool true)) (.t 16),.mov (some 18) (.t 17)]⟩,
 ⟨some (18,false),[.mov (some 19) (.t 0),.idx (some 20) (.t 19) (.k (.int .i64 0)),.bin (some 21) .gtr (.t 20) (.k (.int .u8 122))]⟩,
 ⟨none,[.pick (some 22) (.t 18) (.k (.bool true)) (.t 21)]⟩]) <|
 .cond (.t 22)
 (.seq (.ops false [⟨none,[.mov (some 2) (.k (.bool false))]⟩]) <|
 .ret)
 (.skip)) <|
 .seq (.seq (.ops false [⟨none,[.mov (some 23) (.t 0),.len (some 24) true (.t 23),.mov (some 25) (.k (.int .i64 0))]⟩]) <|
 .block 0 <|
 .loop <|
 .seq (.ops false [⟨none,[.bin (some 26) .lss (.t 25) (.t 24)]⟩]) <|
 .seq (.cond (.t 26)
 (.skip)
 (.exit 0)) <|
 .seq (.block 1 <|
 .seq (.ops false [⟨none,[.mov (some 27) (.t 25),.mov (some 3) (.t 27)]⟩]) <|
 .seq (.ops false [⟨none,[.mov (some 28) (.t 0),.mov (some 29) (.t 3),.idx (some 30) (.t 28) (.t 29),.mov (some 4) (.t 30)]⟩]) <|
 .seq (.ops false [⟨none,[.mov (some 31) (.t 4),.bin (some 32) .lss (.t 31) (.k (.int .u8 97)),.mov (some 33) (.t 32)]⟩,
 ⟨some (33,false),[.mov (some 34) (.t 4),.bin (some 35) .gtr (.t 34) (.k (.int .u8 122))]⟩,
 ⟨none,[.pick (some 36) (.t 33) (.k (.bool true)) (.t 35),.mov (some 37) (.t 36)]⟩,
 ⟨some (37,true),[.mov (some 38) (.t 4),.bin (some 39) .lss (.t 38) (.k (.int .u8 48)),.mov (some 40) (.t 39)]⟩,
 ⟨some (40,false),[.mov (some 41) (.t 4),.bin (some 42) .gtr (.t 41) (.k (.int .u8 57))]⟩,
 ⟨some (37,true),[.pick (some 43) (.t 40) (.k (.bool true)) (.t 42)]⟩,
 ⟨none,[.pick (some 44) (.t 37) (.t 43) (.k (.bool false)),.mov (some 45) (.t 44)]⟩,
 ⟨some (45,true),[.mov (some 46) (.t 4),.bin (some 47) .neq (.t 46) (.k (.int .u8 45))]⟩,
 ⟨none,[.pick (some 48) (.t 45) (.t 47) (.k (.bool false)),.mov (some 49) (.t 48)]⟩,
 ⟨some (49,true),[.mov (some 50) (.t 4),.bin (some 51) .neq (.t 50) (.k (.int .u8 95))]⟩,
 ⟨none,[.pick (some 52) (.t 49) (.t 51) (.k (.bool false))]⟩]) <|
 .cond (.t 52)
 (.seq (.ops false [⟨none,[.mov (some 2) (.k (.bool false))]⟩]) <|
 .ret)
 (.skip)) <|
 .ops false [⟨none,[.bin (some 53) .add (.t 25) (.k (.int .i64 1)),.mov (some 25) (.t 53)]⟩]) <|
 .seq (.ops false [⟨none,[.mov (some 2) (.k (.bool true))]⟩]) <|
 .ret
abbrev Is191 (P:Program) (F T:Nat→Nat):Prop:=Fn P (F 191) 54 [(2,none)] (c191 F T)
def c192 (F T:Nat→Nat):C :=
 .seq (.ops false [⟨none,[.box 4 (T 16) (.t 0),.box 7 (T 17) (.t 3),.mov (some 8) (.k (.bool false))]⟩]) <|
 .seq (.seq (.ops false [⟨none,[.load (some 15) false 2 true (.t 7),.call (some 16) true (F 199) [(.t 15)],.un (some 17) .not (.t 16),.mov (some 18) (.t 17)]⟩,
 ⟨some (18,false),[.mov (some 19) (.t 2),.bin (some 20) .lss (.t 19) (.k (.int .i64 1))]⟩,
 ⟨none,[.pick (some 21) (.t 18) (.k (.bool true)) (.t 20),.mov (some 22) (.t 21)]⟩,
 ⟨some (22,false),[.mov (some 23) (.t 2),.bin (some 24) .gtr (.t 23) (.k (.int .i64 5))]⟩,
 ⟨none,[.pick (some 25) (.t 22) (.k (.bool true)) (.t 24)]⟩]) <|
 .cond (.t 25)
 (.seq (.ops false [⟨none,[.mov (some 8) (.k (.bool false))]⟩]) <|
 .ret)
 (.skip)) <|
 .seq (.ops false [⟨none,[.load (some 26) false 2 true (.t 7),.call (some 27) true (F 194) [(.t 26)],.mov (some 9) (.t 27)]⟩]) <|
 .seq (.seq (.ops false [⟨none,[.mov (some 10) (.k (.int .i64 0))]⟩]) <|
 .block 0 <|
 .loop <|
 .seq (.seq (.ops false [⟨none,[.mov (some 28) (.t 10),.mov (some 29) (.t 9),.len (some 30) false (.t 29),.bin (some 31) .lss (.t 28) (.t 30)]⟩]) <|
 .cond (.t 31)
 (.skip)
 (.exit 0)) <|
 .seq (.block 1 <|
 .seq (.ops false [⟨none,[.mov (some 11) (.k (.bool false)),.mov (some 12) (.k (.bool true))]⟩]) <|
 .seq (.seq (.ops false [⟨none,[.mov (some 13) (.k (.int .i64 0))]⟩]) <|
 .block 2 <|
 .loop <|
 .seq (.seq (.ops false [⟨none,[.mov (some 34) (.t 13),.fadr (some 35) 1 (.t 4),.load (some 36) false 1 false (.t 35),.len (some 37) false (.t 36),.bin (some 38) .lss (.t 34) (.t 37)]⟩]) <|
 .cond (.t 38)
 (.skip)
 (.exit 2)) <|
 .seq (.block 3 <|
 .seq (.ops false [⟨none,[.fadr (some 41) 1 (.t 4),.load (some 42) false 1 false (.t 41),.mov (some 43) (.t 13),.iadr (some 44) 6 (.t 42) (.t 43),.load (some 45) false 6 true (.t 44),.alloc 14 (T 19) [(.bool false),(.int .i64 0),(.str []),(.int .i64 0),(.int .i64 0),(.str [])],.store 6 (.t 14) (.t 45)]⟩]) <|
 .seq (.ops true [⟨none,[.fadr (some 46) 1 (.t 14),.load (some 47) false 1 false (.t 46),.mov (some 48) (.t 2),.bin (some 49) .eql (.t 47) (.t 48),.mov (some 50) (.t 49)]⟩,
 ⟨some (50,true),[.mov (some 51) (.t 1),.fadr (some 52) 2 (.t 14),.load (some 53) false 1 false (.t 52),.call (some 54) true (F 193) [(.t 51),(.t 53)]]⟩,
 ⟨none,[.pick (some 55) (.t 50) (.t 54) (.k (.bool false)),.mov (some 56) (.t 55)]⟩,
 ⟨some (56,true),[.fadr (some 57) 3 (.t 14),.load (some 58) false 3 true (.t 57),.mov (some 59) (.t 9),.mov (some 60) (.t 10),.iadr (some 61) 3 (.t 59) (.t 60),.load (some 62) false 3 true (.t 61),.call (some 63) true (F 195) [(.t 58),(.t 62)]]⟩,
 ⟨none,[.pick (some 64) (.t 56) (.t 63) (.k (.bool false))]⟩]) <|
 .cond (.t 64)
 (.ops true [⟨none,[.mov (some 65) (.t 12),.mov (some 66) (.t 65)]⟩,
 ⟨some (66,true),[.fadr (some 67) 0 (.t 14),.load (some 68) false 1 false (.t 67)]⟩,
 ⟨none,[.pick (some 69) (.t 66) (.t 68) (.k (.bool false)),.mov (some 11) (.k (.bool true)),.mov (some 12) (.t 69)]⟩])
 (.skip)) <|
 .ops false [⟨none,[.mov (some 39) (.t 13),.bin (some 40) .add (.t 39) (.k (.int .i64 1)),.mov (some 13) (.t 40)]⟩]) <|
 .seq (.ops false [⟨none,[.mov (some 70) (.t 11)]⟩]) <|
 .cond (.t 70)
 (.seq (.ops false [⟨none,[.mov (some 71) (.t 12),.mov (some 8) (.t 71)]⟩]) <|
 .ret)
 (.skip)) <|
 .ops false [⟨none,[.mov (some 32) (.t 10),.bin (some 33) .add (.t 32) (.k (.int .i64 1)),.mov (some 10) (.t 33)]⟩]) <|
 .seq (.ops false [⟨none,[.mov (some 8) (.k (.bool false))]⟩]) <|
 .ret
abbrev Is192 (P:Program) (F T:Nat→Nat):Prop:=Fn P (F 192) 72 [(8,none)] (c192 F T)
def c193 (F T:Nat→Nat):C :=
 .seq (.ops false [⟨none,[.mov (some 4) (.k (.bool false))]⟩]) <|
 .seq (.seq (.ops false [⟨none,[.mov (some 5) (.k (.int .i64 0))]⟩]) <|
 .block 0 <|
 .loop <|
 .seq (.seq (.ops false [⟨none,[.mov (some 6) (.t 5),.mov (some 7) (.t 0),.len (some 8) false (.t 7),.bin (some 9) .lss (.t 6) (.t 8)]⟩]) <|
 .cond (.t 9)
 (.skip)
 (.exit 0)) <|
 .seq (.block 1 <|
 .seq (.ops false [⟨none,[.mov (some 12) (.t 0),.mov (some 13) (.t 5),.iadr (some 14) 1 (.t 12) (.t 13),.load (some 15) false 1 false (.t 14),.mov (some 16) (.t 1),.bin (some 17) .eql (.t 15) (.t 16)]⟩]) <|
 .cond (.t 17)
 (.seq (.ops false [⟨none,[.mov (some 4) (.k (.bool true))]⟩]) <|
 .ret)
 (.skip)) <|
 .ops false [⟨none,[.mov (some 10) (.t 5),.bin (some 11) .add (.t 10) (.k (.int .i64 1)),.mov (some 5) (.t 11)]⟩]) <|
 .seq (.ops false [⟨none,[.mov (some 4) (.k (.bool false))]⟩]) <|
 .ret
abbrev Is193 (P:Program) (F T:Nat→Nat):Prop:=Fn P (F 193) 18 [(4,none)] (c193 F T)
def c195 (F T:Nat→Nat):C :=
 .seq (.ops false [⟨none,[.box 2 (T 18) (.t 0),.box 3 (T 18) (.t 1),.mov (some 4) (.k (.bool false))]⟩]) <|
 .seq (.seq (.ops false [⟨none,[.fadr (some 5) 0 (.t 2),.load (some 6) false 1 false (.t 5),.fadr (some 7) 0 (.t 3),.load (some 8) false 1 false (.t 7),.bin (some 9) .neq (.t 6) (.t 8)]⟩]) <|
 .cond (.t 9)
 (.seq (.ops false [⟨none,[.mov (some 4) (.k (.bool false))]⟩]) <|
 .ret)
 (.skip)) <|
 .seq (.seq (.ops false [⟨none,[.fadr (some 10) 0 (.t 2),.load (some 11) false 1 false (.t 10)]⟩]) <|
 .block 0 <|
 .seq (.ops false [⟨none,[.bin (some 13) .eql (.t 11) (.k (.int .i64 3)),.mov (some 12) (.t 13)]⟩]) <|
 .cond (.t 12)
 (.seq (.ops false [⟨none,[.fadr (some 14) 1 (.t 2),.load (some 15) false 2 true (.t 14),.fadr (some 16) 1 (.t 3),.load (some 17) false 2 true (.t 16),.eqA (some 18) false [0,1] (.t 15) (.t 17),.mov (some 4) (.t 18)]⟩]) <|
 .ret)
 (.seq (.ops false [⟨none,[.bin (some 20) .eql (.t 11) (.k (.int .i64 2)),.mov (some 19) (.t 20)]⟩]) <|
 .cond (.t 19)
 (.seq (.ops false [⟨none,[.fadr (some 21) 1 (.t 2),.fadr (some 22) 0 (.t 21),.load (some 23) false 1 false (.t 22),.fadr (some 24) 1 (.t 3),.fadr (some 25) 0 (.t 24),.load (some 26) false 1 false (.t 25),.bin (some 27) .eql (.t 23) (.t 26),.mov (some 4) (.t 27)]⟩]) <|
 .ret)
 (.skip))) <|
 .seq (.ops false [⟨none,[.mov (some 4) (.k (.bool true))]⟩]) <|
 .ret
abbrev Is195 (P:Program) (F T:Nat→Nat):Prop:=Fn P (F 195) 28 [(4,none)] (c195 F T)
def c199 (F T:Nat→Nat):C :=
 .seq (.ops false [⟨none,[.box 1 (T 17) (.t 0),.mov (some 2) (.k (.bool false))]⟩]) <|
 .seq (.ops false [⟨none,[.fadr (some 9) 1 (.t 1),.load (some 10) false 1 false (.t 9),.mov (some 3) (.t 10)]⟩]) <|
 .seq (.seq (.ops false [⟨none,[.fadr (some 11) 0 (.t 1),.load (some 12) false 1 false (.t 11),.bin (some 13) .lss (.t 12) (.k (.int .i64 0)),.mov (some 14) (.t 13)]⟩,
 ⟨some (14,false),[.fadr (some 15) 0 (.t 1),.load (some 16) false 1 false (.t 15),.bin (some 17) .geq (.t 16) (.k (.int .i64 6))]⟩,
 ⟨none,[.pick (some 18) (.t 14) (.k (.bool true)) (.t 17),.mov (some 19) (.t 18)]⟩,
 ⟨some (19,false),[.mov (some 20) (.t 3),.len (some 21) true (.t 20),.bin (some 22) .lss (.t 21) (.k (.int .i64 1))]⟩,
 ⟨none,[.pick (some 23) (.t 19) (.k (.bool true)) (.t 22),.mov (some 24) (.t 23)]⟩,
 ⟨some (24,false),[.mov (some 25) (.t 3),.len (some 26) true (.t 25),.bin (some 27) .gtr (.t 26) (.k (.int .i64 100))]⟩,
 ⟨none,[.pick (some 28) (.t 24) (.k (.bool true)) (.t 27)]⟩]) <|
 .cond (.t 28)
 (.seq (.ops false [⟨none,[.mov (some 2) (.k (.bool false))]⟩]) <|
 .ret)
 (.skip)) <|
 .seq (.seq (.ops false [⟨none,[.mov (some 4) (.k (.int .i64 0))]⟩]) <|
 .block 0 <|
 .loop <|
 .seq (.seq (.ops false [⟨none,[.mov (some 29) (.t 4),.mov (some 30) (.t 3),.len (some 31) true (.t 30),.bin (some 32) .lss (.t 29) (.t 31)]⟩]) <|
 .cond (.t 32)
 (.skip)
 (.exit 0)) <|
 .seq (.block 1 <|
 .seq (.ops false [⟨none,[.mov (some 35) (.t 3),.mov (some 36) (.t 4),.idx (some 37) (.t 35) (.t 36),.bin (some 38) .lss (.t 37) (.k (.int .u8 32)),.mov (some 39) (.t 38)]⟩,
 ⟨some (39,false),[.mov (some 40) (.t 3),.mov (some 41) (.t 4),.idx (some 42) (.t 40) (.t 41),.bin (some 43) .eql (.t 42) (.k (.int .u8 127))]⟩,
 ⟨none,[.pick (some 44) (.t 39) (.k (.bool true)) (.t 43),.mov (some 45) (.t 44)]⟩,
 ⟨some (45,false),[.mov (some 46) (.t 3),.mov (some 47) (.t 4),.mov (some 48) (.t 4),.bin (some 49) .add (.t 48) (.k (.int .i64 1)),.slcS (some 50) (.t 46) (some (.t 47)) (some (.t 49)),.call (some 51) true (F 102) [(.k (.str [60,62,91,93,123,125,124,35,95])),(.t 50),(.k (.int .i64 0))],.bin (some 52) .geq (.t 51) (.k (.int .i64 0))]⟩,
 ⟨none,[.pick (some 53) (.t 45) (.k (.bool true)) (.t 52),.mov (some 54) (.t 53)]⟩,
 ⟨some (54,false),[.mov (some 55) (.t 3),.mov (some 56) (.t 4),.idx (some 57) (.t 55) (.t 56),.bin (some 58) .eql (.t 57) (.k (.int .u8 32)),.mov (some 59) (.t 58)]⟩,
 ⟨some (59,true),[.mov (some 60) (.t 4),.bin (some 61) .gtr (.t 60) (.k (.int .i64 0))]⟩,
 ⟨some (54,false),[.pick (some 62) (.t 59) (.t 61) (.k (.bool false)),.mov (some 63) (.t 62)]⟩,
 ⟨some (63,true),[.mov (some 64) (.t 3),.mov (some 65) (.t 4),.bin (some 66) .sub (.t 65) (.k (.int .i64 1)),.idx (some 67) (.t 64) (.t 66),.bin (some 68) .eql (.t 67) (.k (.int .u8 32))]⟩,
 ⟨some (54,false),[.pick (some 69) (.t 63) (.t 68) (.k (.bool false))]⟩,
 ⟨none,[.pick (some 70) (.t 54) (.k (.bool true)) (.t 69)]⟩]) <|
 .cond (.t 70)
 (.seq (.ops false [⟨none,[.mov (some 2) (.k (.bool false))]⟩]) <|
 .ret)
 (.skip)) <|
 .ops false [⟨none,[.mov (some 33) (.t 4),.bin (some 34) .add (.t 33) (.k (.int .i64 1)),.mov (some 4) (.t 34)]⟩]) <|
 .seq (.ops false [⟨none,[.mov (some 71) (.t 3),.call (some 72) true (F 201) [(.t 71)],.mov (some 5) (.t 72)]⟩]) <|
 .seq (.seq (.ops false [⟨none,[.mov (some 6) (.k (.int .i64 0))]⟩]) <|
 .block 2 <|
 .loop <|
 .seq (.seq (.ops false [⟨none,[.mov (some 73) (.t 6),.mov (some 74) (.t 5),.len (some 75) false (.t 74),.bin (some 76) .lss (.t 73) (.t 75)]⟩]) <|
 .cond (.t 76)
 (.skip)
 (.exit 2)) <|
 .seq (.block 3 <|
 .seq (.ops true [⟨none,[.mov (some 79) (.t 5),.mov (some 80) (.t 6),.iadr (some 81) 1 (.t 79) (.t 80),.load (some 82) false 1 false (.t 81),.bin (some 83) .eql (.t 82) (.k (.str [])),.mov (some 84) (.t 83)]⟩,
 ⟨some (84,false),[.mov (some 85) (.t 5),.mov (some 86) (.t 6),.iadr (some 87) 1 (.t 85) (.t 86),.load (some 88) false 1 false (.t 87),.idx (some 89) (.t 88) (.k (.int .i64 0)),.bin (some 90) .eql (.t 89) (.k (.int .u8 32))]⟩,
 ⟨none,[.pick (some 91) (.t 84) (.k (.bool true)) (.t 90),.mov (some 92) (.t 91)]⟩,
 ⟨some (92,false),[.mov (some 93) (.t 5),.mov (some 94) (.t 6),.iadr (some 95) 1 (.t 93) (.t 94),.load (some 96) false 1 false (.t 95),.mov (some 97) (.t 5),.mov (some 98) (.t 6),.iadr (some 99) 1 (.t 97) (.t 98),.load (some 100) false 1 false (.t 99),.len (some 101) true (.t 100),.bin (some 102) .sub (.t 101) (.k (.int .i64 1)),.idx (some 103) (.t 96) (.t 102),.bin (some 104) .eql (.t 103) (.k (.int .u8 32))]⟩,
 ⟨none,[.pick (some 105) (.t 92) (.k (.bool true)) (.t 104)]⟩]) <|
 .cond (.t 105)
 (.seq (.ops false [⟨none,[.mov (some 2) (.k (.bool false))]⟩]) <|
 .ret)
 (.skip)) <|
 .ops false [⟨none,[.mov (some 77) (.t 6),.bin (some 78) .add (.t 77) (.k (.int .i64 1)),.mov (some 6) (.t 78)]⟩]) <|
 .seq (.seq (.ops false [⟨none,[.mov (some 106) (.t 3),.idx (some 107) (.t 106) (.k (.int .i64 0)),.bin (some 108) .eql (.t 107) (.k (.int .u8 58)),.mov (some 109) (.t 108)]⟩,
 ⟨some (109,false),[.mov (some 110) (.t 3),.idx (some 111) (.t 110) (.k (.int .i64 0)),.bin (some 112) .geq (.t 111) (.k (.int .u8 97)),.mov (some 113) (.t 112)]⟩,
 ⟨some (113,true),[.mov (some 114) (.t 3),.idx (some 115) (.t 114) (.k (.int .i64 0)),.bin (some 116) .leq (.t 115) (.k (.int .u8 122))]⟩,
 ⟨some (109,false),[.pick (some 117) (.t 113) (.t 116) (.k (.bool false))]⟩,
 ⟨none,[.pick (some 118) (.t 109) (.k (.bool true)) (.t 117)]⟩]) <|
 .cond (.t 118)
 (.seq (.ops false [⟨none,[.mov (some 2) (.k (.bool false))]⟩]) <|
 .ret)
 (.skip)) <|
 .seq (.ops false [⟨none,[.mov (some 120) (.t 3),.call (some 121) true (F 202) [(.t 120)],.mov (some 119) (.t 121),.ext (some 122) 0 (.t 119),.ext (some 123) 1 (.t 119),.mov (some 7) (.t 122),.mov (some 8) (.t 123)]⟩]) <|
 .seq (.ops false [⟨none,[.fadr (some 124) 0 (.t 1),.load (some 125) false 1 false (.t 124),.bin (some 126) .neq (.t 125) (.k (.int .i64 0)),.mov (some 127) (.t 126)]⟩,
 ⟨some (127,false),[.mov (some 128) (.t 7),.bin (some 129) .eql (.t 128) (.k (.int .i64 0))]⟩,
 ⟨none,[.pick (some 130) (.t 127) (.k (.bool true)) (.t 129),.mov (some 2) (.t 130)]⟩]) <|
 .ret
abbrev Is199 (P:Program) (F T:Nat→Nat):Prop:=Fn P (F 199) 131 [(2,none)] (c199 F T)
def c200 (F T:Nat→Nat):C :=
 .seq (.ops false [⟨none,[.box 1 (T 17) (.t 0),.mov (some 2) (.k .nils)]⟩]) <|
 .seq (.seq (.ops false [⟨none,[.load (some 5) false 2 true (.t 1),.call (some 6) true (F 199) [(.t 5)],.un (some 7) .not (.t 6)]⟩]) <|
 .cond (.t 7)
 (.seq (.ops false [⟨none,[.mov (some 2) (.k .nils)]⟩]) <|
 .ret)
 (.skip)) <|
 .seq (.gha (.own 3 (T 17) 2) <| .ops false [⟨none,[.mov (some 3) (.k .nils)]⟩]) <|
 .seq (.seq (.ops false [⟨none,[.mov (some 4) (.k (.int .i64 0))]⟩]) <|
 .block 0 <|
 .loop <|
 .seq (.seq (.ops false [⟨none,[.mov (some 8) (.t 4),.fadr (some 9) 1 (.t 1),.load (some 10) false 1 false (.t 9),.len (some 11) true (.t 10),.bin (some 12) .lss (.t 8) (.t 11)]⟩]) <|
 .cond (.t 12)
 (.skip)
 (.exit 0)) <|
 .seq (.block 1 <|
 .seq (.ops false [⟨none,[.fadr (some 15) 1 (.t 1),.load (some 16) false 1 false (.t 15),.mov (some 17) (.t 4),.idx (some 18) (.t 16) (.t 17),.bin (some 19) .eql (.t 18) (.k (.int .u8 47))]⟩]) <|
 .cond (.t 19)
 (.ops true [⟨none,[.mov (some 20) (.t 3),.fadr (some 21) 0 (.t 1),.load (some 22) false 1 false (.t 21),.fadr (some 23) 1 (.t 1),.load (some 24) false 1 false (.t 23),.mov (some 25) (.t 4),.slcS (some 26) (.t 24) none (some (.t 25)),.build (some 27) [(.int .i64 0),(.str [])] [(0,1,(.t 22)),(1,1,(.t 26))],.mkl (some 28) 2 [(.t 27)],.app 29 (T 17) 2 (.t 20) (.t 28),.mov (some 3) (.t 29)]⟩])
 (.skip)) <|
 .ops false [⟨none,[.mov (some 13) (.t 4),.bin (some 14) .add (.t 13) (.k (.int .i64 1)),.mov (some 4) (.t 14)]⟩]) <|
 .seq (.ops false [⟨none,[.mov (some 30) (.t 3),.mov (some 2) (.t 30)]⟩]) <|
 .ret
abbrev Is200 (P:Program) (F T:Nat→Nat):Prop:=Fn P (F 200) 31 [(2,none)] (c200 F T)
def c202 (F T:Nat→Nat):C :=
 .seq (.ops false [⟨none,[.mov (some 2) (.k (.int .i64 0)),.mov (some 3) (.k (.int .i64 0))]⟩]) <|
 .seq (.ops false [⟨none,[.mov (some 7) (.t 0),.call (some 8) true (F 102) [(.t 7),(.k (.str [58])),(.k (.int .i64 0))],.mov (some 4) (.t 8)]⟩]) <|
 .seq (.seq (.ops false [⟨none,[.mov (some 9) (.t 4),.bin (some 10) .lss (.t 9) (.k (.int .i64 0))]⟩]) <|
 .cond (.t 10)
 (.seq (.ops false [⟨none,[.mov (some 2) (.k (.int .i64 0)),.mov (some 3) (.k (.int .i64 0))]⟩]) <|
 .ret)
 (.skip)) <|
 .seq (.ops false [⟨none,[.mov (some 11) (.t 0),.mov (some 12) (.t 4),.slcS (some 13) (.t 11) none (some (.t 12)),.mov (some 5) (.t 13)]⟩]) <|
 .seqc (.seq (.ops false [⟨none,[.mov (some 14) (.t 5),.len (some 15) true (.t 14),.bin (some 16) .gtr (.t 15) (.k (.int .i64 0)),.mov (some 17) (.t 16)]⟩,
 ⟨some (17,true),[.mov (some 18) (.t 5),.mov (some 19) (.t 5),.len (some 20) true (.t 19),.bin (some 21) .sub (.t 20) (.k (.int .i64 1)),.idx (some 22) (.t 18) (.t 21),.bin (some 23) .eql (.t 22) (.k (.int .u8 32))]⟩,
 ⟨none,[.pick (some 24) (.t 17) (.t 23) (.k (.bool false))]⟩]) <|
 .cond (.t 24)
 (.ops false [⟨none,[.mov (some 25) (.t 5),.mov (some 26) (.t 5),.len (some 27) true (.t 26),.bin (some 28) .sub (.t 27) (.k (.int .i64 1)),.slcS (some 29) (.t 25) none (some (.t 28)),.mov (some 5) (.t 29)]⟩])
 (.skip)) <|
 .seq (.seq (.ops false [⟨none,[.mov (some 6) (.k (.int .i64 1))]⟩]) <|
 .block 0 <|
 .loop <|
 .seq (.seq (.ops false [⟨none,[.mov (some 30) (.t 6),.bin (some 31) .lss (.t 30) (.k (.int .i64 6))]⟩]) <|
 .cond (.t 31)
 (.skip)
 (.exit 0)) <|
 .seq (.block 1 <|
 .seq (.ops false [⟨none,[.mov (some 34) (.t 5),.mov (some 35) (.t 6),.call (some 36) true (F 205) [(.t 35)],.call (some 37) true (F 203) [(.t 34),(.t 36)]]⟩]) <|
 .cond (.t 37)
 (.seq (.ops false [⟨none,[.mov (some 38) (.t 6),.mov (some 39) (.t 4),.mov (some 2) (.t 38),.mov (some 3) (.t 39)]⟩]) <|
 .ret)
 (.skip)) <|
 .ops false [⟨none,[.mov (some 32) (.t 6),.bin (some 33) .add (.t 32) (.k (.int .i64 1)),.mov (some 6) (.t 33)]⟩]) <|
 .seq (.ops false [⟨none,[.mov (some 2) (.k (.int .i64 0)),.mov (some 3) (.k (.int .i64 0))]⟩]) <|
 .ret
abbrev Is202 (P:Program) (F T:Nat→Nat):Prop:=Fn P (F 202) 40 [(2,none),(3,none)] (c202 F T)
def c203 (F T:Nat→Nat):C :=
 .seq (.ops false [⟨none,[.mov (some 4) (.k (.bool false))]⟩]) <|
 .seq (.seq (.ops false [⟨none,[.mov (some 6) (.t 0),.len (some 7) true (.t 6),.mov (some 8) (.t 1),.len (some 9) true (.t 8),.bin (some 10) .neq (.t 7) (.t 9)]⟩]) <|
 .cond (.t 10)
 (.seq (.ops false [⟨none,[.mov (some 4) (.k (.bool false))]⟩]) <|
 .ret)
 (.skip)) <|
 .seq (.seq (.ops false [⟨none,[.mov (some 5) (.k (.int .i64 0))]⟩]) <|
 .block 0 <|
 .loop <|
 .seq (.seq (.ops false [⟨none,[.mov (some 11) (.t 5),.mov (some 12) (.t 0),.len (some 13) true (.t 12),.bin (some 14) .lss (.t 11) (.t 13)]⟩]) <|
 .cond (.t 14)
 (.skip)
 (.exit 0)) <|
 .seq (.block 1 <|
 .seq (.ops true [⟨none,[.mov (some 17) (.t 0),.mov (some 18) (.t 5),.idx (some 19) (.t 17) (.t 18),.call (some 20) true (F 204) [(.t 19)],.mov (some 21) (.t 1),.mov (some 22) (.t 5),.idx (some 23) (.t 21) (.t 22),.call (some 24) true (F 204) [(.t 23)],.bin (some 25) .neq (.t 20) (.t 24)]⟩]) <|
 .cond (.t 25)
 (.seq (.ops false [⟨none,[.mov (some 4) (.k (.bool false))]⟩]) <|
 .ret)
 (.skip)) <|
 .ops false [⟨none,[.mov (some 15) (.t 5),.bin (some 16) .add (.t 15) (.k (.int .i64 1)),.mov (some 5) (.t 16)]⟩]) <|
 .seq (.ops false [⟨none,[.mov (some 4) (.k (.bool true))]⟩]) <|
 .ret
abbrev Is203 (P:Program) (F T:Nat→Nat):Prop:=Fn P (F 203) 26 [(4,none)] (c203 F T)
def c204 (F T:Nat→Nat):C :=
 .seq (.ops false [⟨none,[.mov (some 2) (.k (.int .u8 0))]⟩]) <|
 .seq (.seq (.ops false [⟨none,[.mov (some 3) (.t 0),.bin (some 4) .geq (.t 3) (.k (.int .u8 65)),.mov (some 5) (.t 4)]⟩,
 ⟨some (5,true),[.mov (some 6) (.t 0),.bin (some 7) .leq (.t 6) (.k (.int .u8 90))]⟩,
 ⟨none,[.pick (some 8) (.t 5) (.t 7) (.k (.bool false))]⟩]) <|
 .cond (.t 8)
 (.seq (.ops false [⟨none,[.mov (some 9) (.t 0),.bin (some 10) .add (.t 9) (.k (.int .u8 32)),.mov (some 2) (.t 10)]⟩]) <|
 .ret)
 (.skip)) <|
 .seq (.ops false [⟨none,[.mov (some 11) (.t 0),.mov (some 2) (.t 11)]⟩]) <|
 .ret
abbrev Is204 (P:Program) (F T:Nat→Nat):Prop:=Fn P (F 204) 12 [(2,none)] (c204 F T)
def c205 (F T:Nat→Nat):C :=
 .seq (.ops false [⟨none,[.mov (some 2) (.k (.str []))]⟩]) <|
 .seq (.ops false [⟨none,[.mkl (some 4) 1 [(.k (.str [])),(.k (.str [84,97,108,107])),(.k (.str [85,115,101,114])),(.k (.str [84,101,109,112,108,97,116,101])),(.k (.str [67,97,116,101,103,111,114,121])),(.k (.str [80,114,111,106,101,99,116]))],.mov (some 3) (.t 4)]⟩]) <|
 .seq (.seq (.ops false [⟨none,[.mov (some 5) (.t 0),.bin (some 6) .lss (.t 5) (.k (.int .i64 0)),.mov (some 7) (.t 6)]⟩,
 ⟨some (7,false),[.mov (some 8) (.t 0),.mov (some 9) (.t 3),.len (some 10) false (.t 9),.bin (some 11) .geq (.t 8) (.t 10)]⟩,
 ⟨none,[.pick (some 12) (.t 7) (.k (.bool true)) (.t 11)]⟩]) <|
 .cond (.t 12)
 (.seq (.ops false [⟨none,[.mov (some 2) (.k (.str []))]⟩]) <|
 .ret)
 (.skip)) <|
 .seq (.ops false [⟨none,[.mov (some 13) (.t 3),.mov (some 14) (.t 0),.iadr (some 15) 1 (.t 13) (.t 14),.load (some 16) false 1 false (.t 15),.mov (some 2) (.t 16)]⟩]) <|
 .ret
abbrev Is205 (P:Program) (F T:Nat→Nat):Prop:=Fn P (F 205) 17 [(2,none)] (c205 F T)
def c220 (F T:Nat→Nat):C :=
 .seq (.ops false [⟨none,[.mov (some 4) (.k (.bool false))]⟩]) <|
 .seq (.ops false [⟨none,[.mov (some 5) (.t 0),.mov (some 6) (.t 1),.call (some 7) true (F 222) [(.t 5),(.t 6)],.bin (some 8) .geq (.t 7) (.k (.int .i64 0)),.mov (some 4) (.t 8)]⟩]) <|
 .ret
abbrev Is220 (P:Program) (F T:Nat→Nat):Prop:=Fn P (F 220) 9 [(4,none)] (c220 F T)
def c222 (F T:Nat→Nat):C :=
 .seq (.ops false [⟨none,[.mov (some 4) (.k (.int .i64 0))]⟩]) <|
 .seq (.seq (.ops false [⟨none,[.mov (some 6) (.t 0),.len (some 7) false (.t 6),.mov (some 8) (.k (.int .i64 0))]⟩]) <|
 .block 0 <|
 .loop <|
 .seq (.ops false [⟨none,[.bin (some 9) .lss (.t 8) (.t 7)]⟩]) <|
 .seq (.cond (.t 9)
 (.skip)
 (.exit 0)) <|
 .seq (.block 1 <|
 .seq (.ops false [⟨none,[.mov (some 10) (.t 8),.mov (some 5) (.t 10)]⟩]) <|
 .seq (.ops false [⟨none,[.mov (some 11) (.t 1),.mov (some 12) (.t 0),.mov (some 13) (.t 5),.iadr (some 14) 1 (.t 12) (.t 13),.load (some 15) false 1 false (.t 14),.bin (some 16) .eql (.t 11) (.t 15)]⟩]) <|
 .cond (.t 16)
 (.seq (.ops false [⟨none,[.mov (some 17) (.t 5),.mov (some 4) (.t 17)]⟩]) <|
 .ret)
 (.skip)) <|
 .ops false [⟨none,[.bin (some 18) .add (.t 8) (.k (.int .i64 1)),.mov (some 8) (.t 18)]⟩]) <|
 .seq (.ops false [⟨none,[.mov (some 4) (.k (.int .i64 (-1)))]⟩]) <|
 .ret
abbrev Is222 (P:Program) (F T:Nat→Nat):Prop:=Fn P (F 222) 19 [(4,none)] (c222 F T)
def c227 (F T:Nat→Nat):C :=
 .seq (.ops false [⟨none,[.mov (some 2) (.k (.int .i64 0))]⟩]) <|
 .seq (.cond (.k (.bool false))
 (.seq (.ops false [⟨none,[.mov (some 3) (.t 0),.cvt (some 4) .u32 (.t 3),.call (some 5) true (F 239) [(.t 4)],.mov (some 2) (.t 5)]⟩]) <|
 .ret)
 (.skip)) <|
 .seq (.ops false [⟨none,[.mov (some 6) (.t 0),.call (some 7) true (F 240) [(.t 6)],.mov (some 2) (.t 7)]⟩]) <|
 .ret
abbrev Is227 (P:Program) (F T:Nat→Nat):Prop:=Fn P (F 227) 8 [(2,none)] (c227 F T)
def c229 (F T:Nat→Nat):C :=
 .seq (.ops false [⟨none,[.mov (some 4) (.t 0),.len (some 5) false (.t 4),.bin (some 6) .sub (.t 5) (.k (.int .i64 1)),.mov (some 2) (.k (.int .i64 0)),.mov (some 3) (.t 6)]⟩]) <|
 .block 0 <|
 .loop <|
 .seq (.seq (.ops false [⟨none,[.mov (some 7) (.t 2),.mov (some 8) (.t 3),.bin (some 9) .lss (.t 7) (.t 8)]⟩]) <|
 .cond (.t 9)
 (.skip)
 (.exit 0)) <|
 .seq (.block 1 <|
 .ops true [⟨none,[.mov (some 14) (.t 0),.mov (some 15) (.t 2),.mov (some 16) (.t 0),.mov (some 17) (.t 3),.mov (some 18) (.t 0),.mov (some 19) (.t 3),.iadr (some 20) 2 (.t 18) (.t 19),.load (some 21) false 2 true (.t 20),.mov (some 22) (.t 0),.mov (some 23) (.t 2),.iadr (some 24) 2 (.t 22) (.t 23),.load (some 25) false 2 true (.t 24),.iadr (some 26) 2 (.t 14) (.t 15),.store 2 (.t 26) (.t 21),.iadr (some 27) 2 (.t 16) (.t 17),.store 2 (.t 27) (.t 25)]⟩]) <|
 .ops false [⟨none,[.mov (some 10) (.t 2),.bin (some 11) .add (.t 10) (.k (.int .i64 1)),.mov (some 12) (.t 3),.bin (some 13) .sub (.t 12) (.k (.int .i64 1)),.mov (some 2) (.t 11),.mov (some 3) (.t 13)]⟩]
abbrev Is229 (P:Program) (F T:Nat→Nat):Prop:=Fn P (F 229) 28 [] (c229 F T)
def c230 (F T:Nat→Nat):C :=
 .seq (.ops false [⟨none,[.mov (some 8) (.t 1),.bin (some 9) .add (.t 8) (.k (.int .i64 1)),.mov (some 6) (.t 9)]⟩]) <|
 .block 0 <|
 .loop <|
 .seq (.seq (.ops false [⟨none,[.mov (some 10) (.t 6),.mov (some 11) (.t 2),.bin (some 12) .lss (.t 10) (.t 11)]⟩]) <|
 .cond (.t 12)
 (.skip)
 (.exit 0)) <|
 .seq (.block 1 <|
 .seq (.ops false [⟨none,[.mov (some 15) (.t 6),.mov (some 7) (.t 15)]⟩]) <|
 .block 2 <|
 .loop <|
 .seq (.seq (.ops true [⟨none,[.mov (some 16) (.t 7),.mov (some 17) (.t 1),.bin (some 18) .gtr (.t 16) (.t 17),.mov (some 19) (.t 18)]⟩,
 ⟨some (19,true),[.mov (some 20) (.t 0),.mov (some 21) (.t 7),.iadr (some 22) 1 (.t 20) (.t 21),.load (some 23) false 1 false (.t 22),.mov (some 24) (.t 0),.mov (some 25) (.t 7),.bin (some 26) .sub (.t 25) (.k (.int .i64 1)),.iadr (some 27) 1 (.t 24) (.t 26),.load (some 28) false 1 false (.t 27),.call (some 29) true (F 236) [(.t 23),(.t 28)]]⟩,
 ⟨none,[.pick (some 30) (.t 19) (.t 29) (.k (.bool false))]⟩]) <|
 .cond (.t 30)
 (.skip)
 (.exit 2)) <|
 .seq (.block 3 <|
 .ops true [⟨none,[.mov (some 33) (.t 0),.mov (some 34) (.t 7),.mov (some 35) (.t 0),.mov (some 36) (.t 7),.bin (some 37) .sub (.t 36) (.k (.int .i64 1)),.mov (some 38) (.t 0),.mov (some 39) (.t 7),.bin (some 40) .sub (.t 39) (.k (.int .i64 1)),.iadr (some 41) 1 (.t 38) (.t 40),.load (some 42) false 1 false (.t 41),.mov (some 43) (.t 0),.mov (some 44) (.t 7),.iadr (some 45) 1 (.t 43) (.t 44),.load (some 46) false 1 false (.t 45),.iadr (some 47) 1 (.t 33) (.t 34),.store 1 (.t 47) (.t 42),.iadr (some 48) 1 (.t 35) (.t 37),.store 1 (.t 48) (.t 46)]⟩]) <|
 .ops false [⟨none,[.mov (some 31) (.t 7),.bin (some 32) .sub (.t 31) (.k (.int .i64 1)),.mov (some 7) (.t 32)]⟩]) <|
 .ops false [⟨none,[.mov (some 13) (.t 6),.bin (some 14) .add (.t 13) (.k (.int .i64 1)),.mov (some 6) (.t 14)]⟩]
abbrev Is230 (P:Program) (F T:Nat→Nat):Prop:=Fn P (F 230) 49 [] (c230 F T)
def c240 (F T:Nat→Nat):C :=
 .seq (.ops false [⟨none,[.mov (some 2) (.k (.int .i64 0))]⟩]) <|
 .seq (.seq (.ops false [⟨none,[.mov (some 3) (.t 0),.bin (some 4) .geq (.t 3) (.k (.int .u64 4294967296))]⟩]) <|
 .cond (.t 4)
 (.seq (.ops false [⟨none,[.mov (some 5) (.t 0),.bin (some 6) .shr (.t 5) (.k (.int .u64 32)),.mov (some 0) (.t 6)]⟩]) <|
 .ops false [⟨none,[.mov (some 2) (.k (.int .i64 32))]⟩])
 (.skip)) <|
 .seq (.seq (.ops false [⟨none,[.mov (some 7) (.t 0),.bin (some 8) .geq (.t 7) (.k (.int .u64 65536))]⟩]) <|
 .cond (.t 8)
 (.seq (.ops false [⟨none,[.mov (some 9) (.t 0),.bin (some 10) .shr (.t 9) (.k (.int .u64 16)),.mov (some 0) (.t 10)]⟩]) <|
 .ops false [⟨none,[.mov (some 11) (.t 2),.bin (some 12) .add (.t 11) (.k (.int .i64 16)),.mov (some 2) (.t 12)]⟩])
 (.skip)) <|
 .seq (.seq (.ops false [⟨none,[.mov (some 13) (.t 0),.bin (some 14) .geq (.t 13) (.k (.int .u64 256))]⟩]) <|
 .cond (.t 14)
 (.seq (.ops false [⟨none,[.mov (some 15) (.t 0),.bin (some 16) .shr (.t 15) (.k (.int .u64 8)),.mov (some 0) (.t 16)]⟩]) <|
 .ops false [⟨none,[.mov (some 17) (.t 2),.bin (some 18) .add (.t 17) (.k (.int .i64 8)),.mov (some 2) (.t 18)]⟩])
 (.skip)) <|
 .seq (.ops false [⟨none,[.mov (some 19) (.t 2),.mov (some 20) (.t 0),.cvt (some 21) .u8 (.t 20),.idx (some 22) (.k (.str [0,1,2,2,3,3,3,3,4,4,4,4,4,4,4,4,5,5,5,5,5,5,5,5,5,5,5,5,5,5,5,5,6,6,6,6,6,6,6,6,6,6,6,6,6,6,6,6,6,6,6,6,6,6,6,6,6,6,6,6,6,6,6,6,7,7,7,7,7,7,7,7,7,7,7,7,7,7,7,7,7,7,7,7,7,7,7,7,7,7,7,7,7,7,7,7,7,7,7,7,7,7,7,7,7,7,7,7,7,7,7,7,7,7,7,7,7,7,7,7,7,7,7,7,7,7,7,7,8,8,8,8,8,8,8,8,8,8,8,8,8,8,8,8,8,8,8,8,8,8,8,8,8,8,8,8,8,8,8,8,8,8,8,8,8,8,8,8,8,8,8,8,8,8,8,8,8,8,8,8,8,8,8,8,8,8,8,8,8,8,8,8,8,8,8,8,8,8,8,8,8,8,8,8,8,8,8,8,8,8,8,8,8,8,8,8,8,8,8,8,8,8,8,8,8,8,8,8,8,8,8,8,8,8,8,8,8,8,8,8,8,8,8,8,8,8,8,8,8,8,8,8,8,8,8,8])) (.t 21),.cvt (some 23) .i64 (.t 22),.bin (some 24) .add (.t 19) (.t 23),.mov (some 2) (.t 24)]⟩]) <|
 .ret
abbrev Is240 (P:Program) (F T:Nat→Nat):Prop:=Fn P (F 240) 25 [(2,none)] (c240 F T)
end Go.Ab
