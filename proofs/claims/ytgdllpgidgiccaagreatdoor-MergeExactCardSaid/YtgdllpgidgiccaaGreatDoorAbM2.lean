/- Several texts of one kind, merged. No condition. -/
import Derived.Test.YtgdllpgidgiccaaGreatDoorAbZ4
import Derived.Test.YtgdllpgidgiccaaGreatDoorAbM1
import Derived.Test.YtgdllpgidgiccaaGreatDoorAbZ1
import Derived.Test.YtgdllpgidgiccaaGreatDoorAbE5
set_option linter.unusedSimpArgs false
set_option linter.unusedVariables false
namespace Go.Ab
def c254 (F T:Nat→Nat):C :=
 .n [.mov (some 0) (.k (.bool false))] <|
 .n [.c 4 (F 257) [.s [61,61,32,65,32,61,61,10,97,10,61,61,32,66,32,61,61,10,98,10],.s [61,61,32,65,32,61,61,10,120,10,61,61,32,66,32,61,61,10,98,10],.s [61,61,32,65,32,61,61,10,97,10,61,61,32,66,32,61,61,10,121,10]],.m 3 4,.x 5 0 3,.x 6 1 3,.alloc 1 (T 27) [(.str []),.nils],.store 2 (.t 1) (.t 5),.m 2 6] <|
 .seq (.ops false [⟨none,[.m 7 2,.bi 8 .eql 7 0,.m 9 8]⟩,
 ⟨some (9,true),[.f 10 0 1,.l 11 10,.bin (some 12) .eql (.t 11) (.s [61,61,32,65,32,61,61,10,120,10,61,61,32,66,32,61,61,10,121,10])]⟩,
 ⟨none,[.pf 13 9 12,.m 14 13]⟩,
 ⟨some (14,true),[.f 15 1 1,.l 16 15,.ll 17 16,.bi 18 .eql 17 0]⟩,
 ⟨none,[.pf 19 14 18,.m 0 19]⟩]) <|
 .ret
abbrev bL3 (P:Program) (F T:Nat→Nat):Prop:=Fn P (F 254) 20 [(0,none)] (c254 F T)
def c255 (F T:Nat→Nat):C :=
 .n [.mov (some 2) (.s [])] <|
 .n [.mov (some 3) (.i 0)] <|
 .seq (.n [.m 9 0,.ll 10 9,.mov (some 11) (.i 0)] <|
 .block 0 <|
 .loop <|
 .n [.b 12 .lss 11 10] <|
 .seq (.cond (.t 12)
 (.skip)
 (.exit 0)) <|
 .seq (.block 1 <|
 .n [.m 13 11,.ia 14 3 9 11,.load (some 15) false 3 true (.t 14),.alloc 5 (T 28) [(.str []),(.int .i64 0),(.str [])],.m 4 13,.store 3 (.t 5) (.t 15)] <|
 .n [.f 16 2 5,.l 17 16,.bin (some 18) .neq (.t 17) (.s [])] <|
 .cond (.t 18)
 (.o [.m 19 4,.m 3 19])
 (.skip)) <|
 .o [.bi 20 .add 11 1,.m 11 20]) <|
 .seq (.gha (.bclose 6 (T 3)) <| .o [.alloc 6 (T 2) [.nilp,.nils]]) <|
 .seq (.n [.m 21 0,.ll 22 21,.mov (some 23) (.i 0)] <|
 .block 2 <|
 .loop <|
 .n [.b 24 .lss 23 22] <|
 .seq (.cond (.t 24)
 (.skip)
 (.exit 2)) <|
 .seq (.block 3 <|
 .n [.m 25 23,.ia 26 3 21 23,.load (some 27) false 3 true (.t 26),.alloc 8 (T 28) [(.str []),(.int .i64 0),(.str [])],.m 7 25,.store 3 (.t 8) (.t 27)] <|
 .n [.f 28 2 8,.l 29 28,.e 30 48 (F 27) [.t 6,.t 29]] <|
 .seq (.ops false [⟨none,[.m 31 7,.m 32 3,.b 33 .lss 31 32,.m 34 33]⟩,
 ⟨some (34,true),[.f 35 2 8,.l 36 35,.bin (some 37) .neq (.t 36) (.s [])]⟩,
 ⟨none,[.pf 38 34 37,.m 39 38]⟩,
 ⟨some (39,true),[.f 40 2 8,.l 41 40,.c 42 (F 142) [.t 41,.s [10]],.un (some 43) .not (.t 42)]⟩,
 ⟨none,[.pf 44 39 43]⟩]) <|
 .cond (.t 44)
 (.o [.e 45 48 (F 33) [.t 6,(.k (.int .u8 10))]])
 (.skip)) <|
 .o [.bi 46 .add 23 1,.m 23 46]) <|
 .n [.e 47 48 (F 23) [.t 6],.m 2 47] <|
 .ret
abbrev bJu (P:Program) (F T:Nat→Nat):Prop:=Fn P (F 255) 48 [(2,none)] (c255 F T)
def c256 (F T:Nat→Nat):C :=
 .n [.mov (some 2) (.s [])] <|
 .n [.mov (some 3) (.s [])] <|
 .seq (.n [.mov (some 4) (.i 0)] <|
 .block 0 <|
 .loop <|
 .seq (.n [.m 5 4,.m 6 0,.ll 7 6,.b 8 .lss 5 7] <|
 .cond (.t 8)
 (.skip)
 (.exit 0)) <|
 .seq (.block 1 <|
 .seq (.n [.m 11 0,.m 12 4,.ia 13 3 11 12,.f 14 2 13,.l 15 14,.bin (some 16) .eql (.t 15) (.s [])] <|
 .cond (.t 16)
 (.exit 1)
 (.skip)) <|
 .seq (.seq (.ops false [⟨none,[.m 17 3,.bin (some 18) .neq (.t 17) (.s []),.m 19 18]⟩,
 ⟨some (19,true),[.m 20 3,.m 21 3,.ls 22 21,.bi 23 .sub 22 1,.ix 24 20 23,.bin (some 25) .neq (.t 24) (.k (.int .u8 10))]⟩,
 ⟨none,[.pf 26 19 25]⟩]) <|
 .cond (.t 26)
 (.o [.m 27 3,.bin (some 28) .add (.t 27) (.s [10]),.m 3 28])
 (.skip)) <|
 .o [.m 29 3,.m 30 0,.m 31 4,.ia 32 3 30 31,.f 33 2 32,.l 34 33,.b 35 .add 29 34,.m 3 35]) <|
 .o [.m 9 4,.bi 10 .add 9 1,.m 4 10]) <|
 .n [.m 36 3,.m 2 36] <|
 .ret
abbrev bH0 (P:Program) (F T:Nat→Nat):Prop:=Fn P (F 256) 37 [(2,none)] (c256 F T)
def c257 (F T:Nat→Nat):C :=
 .n [.alloc 6 (T 27) [(.str []),.nils],.mov (some 7) (.i 0)] <|
 .n [.alloc 8 (T 29) [.nils,.nils,.nils]] <|
 .seq (.n [.m 23 0,.m 24 1,.m 25 2,.mkl (some 26) 1 [.t 23,.t 24,.t 25],.ll 27 26,.mov (some 28) (.i 0)] <|
 .block 0 <|
 .loop <|
 .n [.b 29 .lss 28 27] <|
 .seq (.cond (.t 29)
 (.skip)
 (.exit 0)) <|
 .seq (.block 1 <|
 .n [.m 30 28,.ia 31 1 26 28,.l 32 31,.m 9 30,.m 10 32] <|
 .n [.m 34 10,.c 35 (F 258) [.t 34],.m 33 35,.x 36 0 33,.x 37 1 33,.m 11 36,.m 12 37] <|
 .seq (.n [.m 38 12,.bi 39 .neq 38 0] <|
 .cond (.t 39)
 (.n [.build (some 40) [(.str []),.nils] [],.m 41 12,.store 2 (.t 6) (.t 40),.m 7 41] <|
 .ret)
 (.skip)) <|
 .o [.m 42 9,.m 43 11,.iadrA (some 44) 3 1 (.t 8) (.t 42),.store 1 (.t 44) (.t 43)]) <|
 .o [.bi 45 .add 28 1,.m 28 45]) <|
 .seq (.seq (.ops false [⟨none,[.m 46 1,.m 47 0,.b 48 .eql 46 47,.m 49 48]⟩,
 ⟨some (49,false),[.m 50 1,.m 51 2,.b 52 .eql 50 51]⟩,
 ⟨none,[.pt 53 49 52]⟩]) <|
 .cond (.t 53)
 (.n [.m 54 2,.build (some 55) [(.str []),.nils] [(0,1,(.t 54))],.store 2 (.t 6) (.t 55),.mov (some 7) (.i 0)] <|
 .ret)
 (.skip)) <|
 .seq (.n [.m 56 2,.m 57 0,.b 58 .eql 56 57] <|
 .cond (.t 58)
 (.n [.m 59 1,.build (some 60) [(.str []),.nils] [(0,1,(.t 59))],.store 2 (.t 6) (.t 60),.mov (some 7) (.i 0)] <|
 .ret)
 (.skip)) <|
 .seq (.gh (.frzb 8) <| .p [.iadrA (some 61) 3 1 (.t 8) (.i 0),.load (some 62) true 1 false (.t 61),.e 63 122 (F 259) [.t 62],.iadrA (some 64) 3 1 (.t 8) (.i 1),.load (some 65) true 1 false (.t 64),.e 66 122 (F 259) [.t 65],.iadrA (some 67) 3 1 (.t 8) (.i 2),.load (some 68) true 1 false (.t 67),.e 69 122 (F 259) [.t 68],.m 13 63,.m 14 66,.m 15 69]) <|
 .n [.alloc 16 (T 27) [(.str []),.nils]] <|
 .seq (.gha (.own 17 (T 28) 3) <| .o [.mov (some 17) (.k .nils)]) <|
 .seq (.n [.iadrA (some 70) 3 1 (.t 8) (.i 1),.l 71 70,.iadrA (some 72) 3 1 (.t 8) (.i 2),.l 73 72,.c 74 (F 260) [.t 71,.t 73],.ll 75 74,.mov (some 76) (.i 0)] <|
 .block 2 <|
 .loop <|
 .n [.b 77 .lss 76 75] <|
 .seq (.cond (.t 77)
 (.skip)
 (.exit 2)) <|
 .seq (.block 3 <|
 .n [.ia 78 3 74 76,.load (some 79) false 3 true (.t 78),.alloc 19 (T 28) [(.str []),(.int .i64 0),(.str [])],.store 3 (.t 19) (.t 79)] <|
 .n [.load (some 80) false 3 true (.t 19),.c 81 (F 261) [.t 80],.alloc 20 (T 30) [(.str []),(.int .i64 0)],.store 2 (.t 20) (.t 81)] <|
 .seq (.p [.m 83 13,.load (some 84) false 2 true (.t 20),.mget (some 85) true [1,0] (.agg [(.bool false),(.str [])]) false (.t 83) (.t 84),.m 86 14,.load (some 87) false 2 true (.t 20),.mget (some 88) true [1,0] (.agg [(.bool false),(.str [])]) false (.t 86) (.t 87),.m 89 15,.load (some 90) false 2 true (.t 20),.mget (some 91) true [1,0] (.agg [(.bool false),(.str [])]) false (.t 89) (.t 90),.c 92 (F 262) [.t 85,.t 88,.t 91],.m 82 92,.x 93 0 82,.x 94 1 82,.alloc 21 (T 31) [(.bool false),(.str [])],.store 2 (.t 21) (.t 93),.m 22 94]) <|
 .seq (.n [.m 95 22] <|
 .cond (.t 95)
 (.o [.f 96 1 16,.l 97 96,.f 98 0 19,.l 99 98,.mkl (some 100) 1 [.t 99],.app 101 (T 21) 1 (.t 97) (.t 100),.f 102 1 16,.store 1 (.t 102) (.t 101)])
 (.skip)) <|
 .n [.f 103 0 21,.l 104 103] <|
 .cond (.t 104)
 (.n [.f 105 1 21,.l 106 105,.f 107 2 19,.store 1 (.t 107) (.t 106)] <|
 .o [.m 108 17,.load (some 109) false 3 true (.t 19),.mkl (some 110) 3 [.t 109],.app 111 (T 28) 3 (.t 108) (.t 110),.m 17 111])
 (.skip)) <|
 .o [.bi 112 .add 76 1,.m 76 112]) <|
 .n [.m 113 17,.call (some 114) false (F 255) [.t 113],.f 115 0 16,.store 1 (.t 115) (.t 114)] <|
 .seq (.n [.f 116 0 16,.l 117 116,.ls 118 117,.bi 119 .gtr 118 8192] <|
 .cond (.t 119)
 (.n [.build (some 120) [(.str []),.nils] [],.store 2 (.t 6) (.t 120),.mov (some 7) (.i 3)] <|
 .ret)
 (.skip)) <|
 .n [.load (some 121) false 2 true (.t 16),.store 2 (.t 6) (.t 121),.mov (some 7) (.i 0)] <|
 .ret
abbrev bKe (P:Program) (F T:Nat→Nat):Prop:=Fn P (F 257) 122 [(6,(some (2,true))),(7,none)] (c257 F T)
def c258 (F T:Nat→Nat):C :=
 .n [.mov (some 2) (.k .nils),.mov (some 3) (.i 0)] <|
 .n [.m 14 0,.c 15 (F 124) [.t 14],.m 13 15,.x 16 0 13,.x 17 1 13,.m 4 16,.m 5 17] <|
 .seq (.n [.m 18 5,.bi 19 .neq 18 0] <|
 .cond (.t 19)
 (.n [.m 20 5,.mov (some 2) (.k .nils),.m 3 20] <|
 .ret)
 (.skip)) <|
 .n [.m 22 0,.c 23 (F 131) [.t 22],.m 21 23,.x 24 0 21,.x 25 1 21,.m 6 24,.m 7 25] <|
 .n [.m 26 6,.build (some 27) [(.str []),(.int .i64 0),(.str [])] [(2,1,(.t 26))],.mkv 28 (T 28) 3 [.t 27],.m 8 28] <|
 .n [.mkm 29,.m 9 29] <|
 .seq (.n [.m 30 4,.ll 31 30,.mov (some 32) (.i 0)] <|
 .block 0 <|
 .loop <|
 .n [.b 33 .lss 32 31] <|
 .seq (.cond (.t 33)
 (.skip)
 (.exit 0)) <|
 .seq (.block 1 <|
 .n [.m 34 32,.ia 35 5 30 32,.load (some 36) false 5 true (.t 35),.alloc 11 (T 14) [(.int .i64 0),(.str []),(.int .i64 0),(.int .i64 0),(.int .i64 0)],.m 10 34,.store 5 (.t 11) (.t 36)] <|
 .n [.m 37 0,.ls 38 37,.m 12 38] <|
 .seq (.n [.m 39 10,.bi 40 .add 39 1,.m 41 4,.ll 42 41,.b 43 .lss 40 42] <|
 .cond (.t 43)
 (.o [.m 44 4,.m 45 10,.bi 46 .add 45 1,.ia 47 5 44 46,.f 48 2 47,.l 49 48,.m 12 49])
 (.skip)) <|
 .seq (.p [.m 50 8,.f 51 1 11,.l 52 51,.m 53 9,.f 54 1 11,.l 55 54,.mget (some 56) false [1] (.int .i64 0) false (.t 53) (.t 55),.m 57 0,.f 58 2 11,.l 59 58,.m 60 12,.slcS (some 61) (.t 57) (some (.t 59)) (some (.t 60)),.build (some 62) [(.str []),(.int .i64 0),(.str [])] [(0,1,(.t 52)),(1,1,(.t 56)),(2,1,(.t 61))],.mkl (some 63) 3 [.t 62],.app 64 (T 28) 3 (.t 50) (.t 63),.m 8 64]) <|
 .o [.m 65 9,.f 66 1 11,.l 67 66,.mget (some 68) false [1] (.int .i64 0) false (.t 65) (.t 67),.bi 69 .add 68 1,.mput false [1] (.t 65) (.t 67) (.t 69)]) <|
 .o [.bi 70 .add 32 1,.m 32 70]) <|
 .n [.m 71 8,.m 2 71,.mov (some 3) (.i 0)] <|
 .ret
abbrev bGq (P:Program) (F T:Nat→Nat):Prop:=Fn P (F 258) 72 [(2,none),(3,none)] (c258 F T)
def c259 (F T:Nat→Nat):C :=
 .n [.mov (some 2) (.k .nilm)] <|
 .n [.mkm 6,.m 3 6] <|
 .seq (.n [.m 7 0,.ll 8 7,.mov (some 9) (.i 0)] <|
 .block 0 <|
 .loop <|
 .n [.b 10 .lss 9 8] <|
 .seq (.cond (.t 10)
 (.skip)
 (.exit 0)) <|
 .seq (.block 1 <|
 .n [.ia 11 3 7 9,.load (some 12) false 3 true (.t 11),.alloc 5 (T 28) [(.str []),(.int .i64 0),(.str [])],.store 3 (.t 5) (.t 12)] <|
 .p [.m 13 3,.load (some 14) false 3 true (.t 5),.c 15 (F 261) [.t 14],.f 16 2 5,.l 17 16,.build (some 18) [(.bool false),(.str [])] [(0,1,(.k (.bool true))),(1,1,(.t 17))],.mput true [1,0] (.t 13) (.t 15) (.t 18)]) <|
 .o [.bi 19 .add 9 1,.m 9 19]) <|
 .n [.m 20 3,.m 2 20] <|
 .ret
abbrev bIe (P:Program) (F T:Nat→Nat):Prop:=Fn P (F 259) 21 [(2,none)] (c259 F T)
def c260 (F T:Nat→Nat):C :=
 .n [.mov (some 4) (.k .nils)] <|
 .n [.m 9 0,.e 10 39 (F 263) [.t 9],.alloc 5 (T 32) [.nils],.store 1 (.t 5) (.t 10)] <|
 .n [.clos (some 11) (F 264) [.t 5],.m 6 11] <|
 .seq (.n [.m 12 1,.ll 13 12,.mov (some 14) (.i 0)] <|
 .block 0 <|
 .loop <|
 .n [.b 15 .lss 14 13] <|
 .seq (.cond (.t 15)
 (.skip)
 (.exit 0)) <|
 .seq (.block 1 <|
 .n [.m 16 14,.ia 17 3 12 14,.load (some 18) false 3 true (.t 17),.alloc 8 (T 28) [(.str []),(.int .i64 0),(.str [])],.m 7 16,.store 3 (.t 8) (.t 18)] <|
 .n [.m 19 6,.load (some 20) false 3 true (.t 8),.c 21 (F 261) [.t 20],.pcall (some 22) (.t 19) [.t 21],.bi 23 .lss 22 0] <|
 .cond (.t 23)
 (.p [.l 24 5,.m 25 6,.m 26 1,.m 27 7,.bi 28 .sub 27 1,.ia 29 3 26 28,.load (some 30) false 3 true (.t 29),.c 31 (F 261) [.t 30],.pcall (some 32) (.t 25) [.t 31],.bi 33 .add 32 1,.load (some 34) false 3 true (.t 8),.mkl (some 35) 3 [.t 34],.e 36 39 (F 265) [.t 24,.t 33,.t 35],.store 1 (.t 5) (.t 36)])
 (.skip)) <|
 .o [.bi 37 .add 14 1,.m 14 37]) <|
 .n [.l 38 5,.m 4 38] <|
 .ret
abbrev bKl (P:Program) (F T:Nat→Nat):Prop:=Fn P (F 260) 39 [(4,none)] (c260 F T)
def c261 (F T:Nat→Nat):C :=
 .n [.box 1 (T 28) (.t 0),.alloc 2 (T 30) [(.str []),(.int .i64 0)]] <|
 .n [.f 3 0 1,.l 4 3,.f 5 1 1,.l 6 5,.build (some 7) [(.str []),(.int .i64 0)] [(0,1,(.t 4)),(1,1,(.t 6))],.store 2 (.t 2) (.t 7)] <|
 .ret
abbrev aSs (P:Program) (F T:Nat→Nat):Prop:=Fn P (F 261) 8 [(2,(some (2,true)))] (c261 F T)
def c262 (F T:Nat→Nat):C :=
 .n [.box 3 (T 31) (.t 0),.box 4 (T 31) (.t 1),.box 5 (T 31) (.t 2),.alloc 6 (T 31) [(.bool false),(.str [])],.mov (some 7) (.k (.bool false))] <|
 .seq (.block 0 <|
 .n [.load (some 9) false 2 true (.t 4),.load (some 10) false 2 true (.t 5),.eqA (some 11) false [2,1] (.t 9) (.t 10),.m 8 11] <|
 .cond (.t 8)
 (.n [.load (some 12) false 2 true (.t 4),.store 2 (.t 6) (.t 12),.mov (some 7) (.k (.bool false))] <|
 .ret)
 (.n [.load (some 14) false 2 true (.t 4),.load (some 15) false 2 true (.t 3),.eqA (some 16) false [2,1] (.t 14) (.t 15),.m 13 16] <|
 .cond (.t 13)
 (.n [.load (some 17) false 2 true (.t 5),.store 2 (.t 6) (.t 17),.mov (some 7) (.k (.bool false))] <|
 .ret)
 (.n [.load (some 19) false 2 true (.t 5),.load (some 20) false 2 true (.t 3),.eqA (some 21) false [2,1] (.t 19) (.t 20),.m 18 21] <|
 .cond (.t 18)
 (.n [.load (some 22) false 2 true (.t 4),.store 2 (.t 6) (.t 22),.mov (some 7) (.k (.bool false))] <|
 .ret)
 (.n [.f 24 0 4,.l 25 24,.m 23 25] <|
 .cond (.t 23)
 (.n [.load (some 26) false 2 true (.t 4),.store 2 (.t 6) (.t 26),.mov (some 7) (.k (.bool true))] <|
 .ret)
 (.skip))))) <|
 .n [.load (some 27) false 2 true (.t 5),.store 2 (.t 6) (.t 27),.mov (some 7) (.k (.bool true))] <|
 .ret
abbrev bIb (P:Program) (F T:Nat→Nat):Prop:=Fn P (F 262) 28 [(6,(some (2,true))),(7,none)] (c262 F T)
def c263 (F T:Nat→Nat):C :=
 .n [.mov (some 2) (.k .nils)] <|
 .seq (.n [.m 3 0,.isnil (some 4) false 1 (.t 3)] <|
 .cond (.t 4)
 (.n [.mov (some 2) (.k .nils)] <|
 .ret)
 (.skip)) <|
 .n [.mkv 5 (T 28) 3 [],.m 6 0,.app 7 (T 28) 3 (.t 5) (.t 6),.m 2 7] <|
 .ret
abbrev bIz (P:Program) (F T:Nat→Nat):Prop:=Fn P (F 263) 8 [(2,none)] (c263 F T)
def c264 (F T:Nat→Nat):C :=
 .n [.box 2 (T 30) (.t 0),.mov (some 3) (.i 0)] <|
 .n [.l 4 1,.clos (some 5) (F 266) [.t 2],.e 6 7 (F 267) [.t 4,.t 5],.m 3 6] <|
 .ret
abbrev bG2 (P:Program) (F T:Nat→Nat):Prop:=Fn P (F 264) 7 [(3,none)] (c264 F T)
def c266 (F T:Nat→Nat):C :=
 .n [.box 2 (T 28) (.t 0),.mov (some 3) (.k (.bool false))] <|
 .seq (.p [.load (some 4) false 3 true (.t 2),.c 5 (F 261) [.t 4],.load (some 6) false 2 true (.t 1),.eqA (some 7) false [1,0] (.t 5) (.t 6),.m 3 7]) <|
 .ret
abbrev aYm (P:Program) (F T:Nat→Nat):Prop:=Fn P (F 266) 8 [(3,none)] (c266 F T)
def c267 (F T:Nat→Nat):C :=
 .n [.mov (some 4) (.i 0)] <|
 .seq (.n [.m 6 0,.ll 7 6,.mov (some 8) (.i 0)] <|
 .block 0 <|
 .loop <|
 .n [.b 9 .lss 8 7] <|
 .seq (.cond (.t 9)
 (.skip)
 (.exit 0)) <|
 .seq (.block 1 <|
 .n [.m 10 8,.m 5 10] <|
 .n [.m 11 1,.m 12 0,.m 13 5,.ia 14 3 12 13,.load (some 15) false 3 true (.t 14),.vcall (some 16) 19 (.t 11) [.t 15]] <|
 .cond (.t 16)
 (.n [.m 17 5,.m 4 17] <|
 .ret)
 (.skip)) <|
 .o [.bi 18 .add 8 1,.m 8 18]) <|
 .n [.mov (some 4) (.k (.int .i64 (-1)))] <|
 .ret
abbrev bD1 (P:Program) (F T:Nat→Nat):Prop:=Fn P (F 267) 19 [(4,none)] (c267 F T)
end Go.Ab
namespace Go.Ab
variable {P:Program} {F T:Nat→Nat}
open Go.Lib
abbrev U3:=List UInt8×Int×List UInt8
def u3V (u:U3):V:=.agg [.str u.1,.int .i64 u.2.1,.str u.2.2]
def Un.u3 (u:Un):U3:=(u.title,u.nth,u.text)
theorem un_v (l:List Un):l.map Un.v=(l.map Un.u3).map u3V:=by rw [List.map_map]; rfl
theorem bFv (l:List U3):(l.map u3V).length=l.length:=List.length_map ..
theorem bF6 (l:List U3):V.imms (l.map u3V)=true:=aHg _ _ fun u=>rfl
theorem aJn {l:List U3} {i:Nat} (h:i<l.length):(l.map u3V).getD i .junk=u3V (l.getD i ([],0,[])):=by simp [List.getD,h]
theorem t261 (hf:aSs P F T) (t:List UInt8) (n:Int) (x:List UInt8):PTr P (F 261) [.agg [.str t,.int .i64 n,.str x]] (.agg [.str t,.int .i64 n]):=by
 refine ptrC [] hf (by simp) rfl ?_
 simp only [c261,push_cast,seval,-Nat.reducePow,view,List.map_cons,List.map_nil]
def tvV:Option (List UInt8)→V
 | some s=>.agg [.bool true,.str s]
 | none=>.agg [.bool false,.str []]
theorem aFc (o:Option (List UInt8)):(tvV o).imm=true:=by cases o <;> rfl
theorem t262 (hf:bIb P F T) (b o t:Option (List UInt8)):PTr P (F 262) [tvV b,tvV o,tvV t] (.tup [tvV (aDg b o t).1,.bool (aDg b o t).2]):=by
 refine ptrC [] hf (by simp [aFc]) (by simp [V.imm,V.imms,aFc]) ?_
 rcases b with _ | b <;> rcases o with _ | o <;> rcases t with _ | t
 all_goals
  simp only [c262,push_cast,seval,-Nat.reducePow,tvV,show (true==true)=true from rfl,show (false==true)=false from rfl,show (true==false)=false from rfl,show (false==false)=true from rfl,Bool.true_and,Bool.false_and]
 all_goals
  repeat' (refine aAh (fun h=>?_) (fun h=>?_) <;> simp only [push_cast,seval,-Nat.reducePow,show (true==true)=true from rfl,show (false==true)=false from rfl,show (true==false)=false from rfl,show (false==false)=true from rfl,Bool.true_and,Bool.false_and])
 all_goals (simp_all [view,aDg,tvV])
end Go.Ab
namespace Go.Ab
variable {P:Program} {F T:Nat→Nat}
open Go.Lib
def jT:List (List UInt8)→List UInt8
 | []=>[]
 | t::r=>t++((if (r.any fun u=>!decide (u=[]))=true∧t≠[]∧t.getLast?≠some 10 then [10] else [])++jT r)
theorem aK7:∀ l:List Un,aEs l=jT (l.map Un.text)
 | []=>rfl
 | u::r=>by
   have h:anyT r=((r.map Un.text).any fun u=>!decide (u=[])):=by unfold anyT; rw [List.any_map]; rfl
   rw [aEs,List.map_cons,jT,aK7 r,h]
theorem bAe:∀ l:List (List UInt8),(jT l).length≤(l.map List.length).sum+l.length
 | []=>by simp [jT]
 | t::r=>by
   have:=bAe r
   simp only [jT,List.length_append,List.map_cons,List.sum_cons,List.length_cons]
   split <;> simp <;> omega
def aF4 (k acc:Nat):List (List UInt8)→Nat
 | []=>acc
 | x::r=>aF4 (k+1) (if x=[] then acc else k) r
theorem aHm:∀ (l:List (List UInt8)) (k acc:Nat),acc≤k→((l.any fun u=>!decide (u=[]))=true→k≤aF4 k acc l)∧((l.any fun u=>!decide (u=[]))=false→aF4 k acc l=acc)∧aF4 k acc l≤k+l.length
 | [],k,acc,h=>by simp [aF4]; exact h
 | x::r,k,acc,h=>by
   rw [List.any_cons,aF4]
   by_cases hx:x=[]
   ·obtain ⟨h1,h2,h3⟩:=aHm r (k+1) acc (by omega)
    simp only [hx,if_true,decide_true,Bool.not_true,Bool.false_or,List.length_cons]
    exact ⟨fun e=>by have:=h1 e; omega,h2,by omega⟩
   ·obtain ⟨h1,h2,h3⟩:=aHm r (k+1) k (by omega)
    simp only [hx,if_false,decide_false,Bool.not_false,Bool.true_or,List.length_cons]
    refine ⟨fun _=>?_,fun e=>(by cases e),by omega⟩
    cases e:r.any fun u=>!decide (u=[]) with
    | true=>have:=h1 e; omega
    | false=>rw [h2 e]; omega
theorem bD8 {t:List UInt8} (h:t≠[]):hasSuffix t [10]=decide (t.getLast?=some 10):=by
 rw [bIf h]
 unfold endB
 have hp:=List.length_pos_iff.2 h
 rw [List.getLast?_eq_getElem?,List.getD_eq_getElem?_getD,List.getElem?_eq_getElem (by omega)]
 simp only [Option.getD_some,Option.some.injEq]
 congr 1
 rw [eq_iff_iff]
 constructor
 ·intro e; exact UInt8.toNat_inj.1 e
 ·intro e; rw [e]; rfl
theorem t255 (hf:bJu P F T) (hS:∀ s p:List UInt8,s.length≤100000→p.length≤100000→PTr P (F 142) [.str s,.str p] (.bool (hasSuffix s p))) (h27:Is27 P F T) (h33:Is33 P F T) (h30:Is30 P F T) (h23:Is23 P F T)
 (l:List U3) (hl:l.length≤2^30) (hb:∀ u,u∈l→u.2.2.length≤100000) (hs:(l.map fun u=>u.2.2.length).sum≤2^30):PTr P (F 255) [.lst 3 (l.map u3V)] (.str (jT (l.map fun u=>u.2.2))):=by
 obtain ⟨tx,htx⟩:∃ tx,tx=l.map fun u=>u.2.2:=⟨_,rfl⟩
 have hlt:tx.length=l.length:=by rw [htx,List.length_map]
 have hsum:(tx.map List.length).sum≤2^30:=by rw [htx,List.map_map]; exact hs
 have hjl:=bAe tx
 have gtx:∀ i,i<l.length→(l.getD i ([],0,[])).2.2=tx.getD i []:=fun i h=>by rw [htx]; simp [List.getD,h]
 have hdr:∀ i,i<l.length→tx.drop i=tx.getD i []::tx.drop (i+1):=fun i h=>by rw [List.drop_eq_getElem_cons (by omega)]; simp [List.getD,show i<tx.length by omega]
 have htl:∀ i,i<l.length→(tx.getD i []).length≤100000:=fun i h=>by
  rw [← gtx i h]; exact hb _ (by simp [List.getD,h])
 rw [← htx]
 have hln:=bFv l
 have himm:=bF6 l
 refine ptrC [] hf (by simp [himm]) rfl ?_
 simp only [c255,push_cast,seval,-Nat.reducePow,hln]
 refine aAe (fun m s=>∃ i acc,i≤l.length∧acc≤i∧m=l.length-i∧aF4 i acc (tx.drop i)=aF4 0 0 tx∧s.env 0=.lst 3 (l.map u3V)∧s.env 9=.lst 3 (l.map u3V)∧s.env 10=.int .i64 l.length∧s.env 11=.int .i64 i∧s.env 3=.int .i64 acc∧50≤s.nx) l.length ⟨0,0,?_⟩ fun m s hJ=>?_
 ·simp only [push_cast,seval,-Nat.reducePow]
  omega
 ·obtain ⟨i,acc,hi,hac,rfl,hla,j0,j9,j10,j11,j3,hnx⟩:=hJ
  by_cases h:i<l.length
  ·have h':((i:Nat):Int)<(l.length:Nat):=by omega
   rw [hdr i h,aF4] at hla
   have hg:=gtx i h
   simp only [push_cast,seval,-Nat.reducePow,j0,j9,j10,j11,j3,h',hln,aJn h,u3V,hg]
   refine ⟨h,aAh (fun e=>?_) (fun e=>?_)⟩
   ·rw [if_pos e] at hla
    simp only [push_cast,seval,-Nat.reducePow,j0,j9,j10,j11,j3]
    exact ⟨by omega,l.length-(i+1),by omega,i+1,acc,by omega,by omega,rfl,hla,by simp,rfl⟩
   ·rw [if_neg e] at hla
    simp only [push_cast,seval,-Nat.reducePow,j0,j9,j10,j11,j3]
    exact ⟨by omega,l.length-(i+1),by omega,i+1,i,by omega,by omega,rfl,hla,by simp,rfl⟩
  ·have h':¬ ((i:Nat):Int)<(l.length:Nat):=by omega
   obtain rfl:i=l.length:=by omega
   obtain ⟨n,hn⟩:∃ n,n=aF4 0 0 tx:=⟨_,rfl⟩
   have hac2:acc=n:=by
    rw [hn,← hla,List.drop_eq_nil_of_le (by omega)]; rfl
   subst hac2
   simp only [push_cast,seval,-Nat.reducePow,j0,j9,j10,j11,j3,h',hln]
   refine aAe (fun m s1=>∃ i a out,i≤l.length∧a≤i∧m=l.length-i∧aF4 i a (tx.drop i)=acc∧out++jT (tx.drop i)=jT tx∧s1.env 21=.lst 3 (l.map u3V)∧s1.env 22=.int .i64 l.length∧s1.env 23=.int .i64 i∧s1.env 3=.int .i64 acc∧s1.env 6=.ptr (s.nx+54) 0∧s1.L (s.nx+54)=some (.bld (T 2) (T 3) out)∧s.nx+54<s1.nx) l.length ⟨0,0,[],?_⟩ fun m s1 hJ=>?_
   ·simp only [push_cast,seval,-Nat.reducePow]
    exact ⟨by omega,hn.symm,j3,by omega⟩
   ·obtain ⟨i,a,out,hi,ha,rfl,hla,ho,k21,k22,k23,k3,k6,kL,knx⟩:=hJ
    obtain ⟨b,hb'⟩:∃ b,b=s.nx+54:=⟨_,rfl⟩
    rw [← hb'] at k6 kL knx
    by_cases h:i<l.length
    ·have h':((i:Nat):Int)<(l.length:Nat):=by omega
     have hg:=gtx i h
     have hol:out.length+(jT (tx.drop i)).length=(jT tx).length:=by rw [← ho,List.length_append]
     rw [hdr i h,aF4] at hla
     have ho2:=ho
     rw [hdr i h,jT] at ho hol
     simp only [List.length_append] at hol
     have n1:s1.nx+8≠b:=by omega
     have n2:b≠s1.nx+8:=by omega
     simp only [push_cast,seval,-Nat.reducePow,k21,k22,k23,k3,k6,h',hln,aJn h,u3V,hg]
     have n1:s1.nx+56≠b:=by omega
     have n2:b≠s1.nx+56:=by omega
     refine ⟨h,aAa (t27 h27 h30 (bs:=out) (by simp only [push_cast,seval,-Nat.reducePow,n2,kL]) (by omega) (by omega)) ?_⟩
     rintro v L1 n3 ⟨w1,w2,w3⟩
     have hla':∃ a',a'≤i+1∧aF4 (i+1) a' (tx.drop (i+1))=acc:=⟨_,by split <;> omega,hla⟩
     obtain ⟨a',ha',hla'⟩:=hla'
     have w4:=w3 (s1.nx+56) (by omega) n1
     simp only [push_cast,seval,-Nat.reducePow] at w4
     have hsuf:=hS (tx.getD i []) [10] (htl i h) (by decide)
     by_cases q1:i<acc
     ·have q1':((i:Nat):Int)<(acc:Nat):=by omega
      by_cases q2:tx.getD i []=[]
      ·rw [if_pos q2] at hla
       have hz:out++tx.getD i []++jT (tx.drop (i+1))=jT tx:=by rw [← ho,q2]; simp
       simp only [push_cast,seval,-Nat.reducePow,k21,k22,k23,k3,k6,q1',w4,q2]
       exact ⟨by omega,l.length-(i+1),by omega,i+1,a',out++tx.getD i [],by omega,ha',rfl,hla',hz,by simp,by rw [hb'],by rw [← hb']; exact w2,by omega⟩
      ·rw [if_neg q2] at hla
       have hany:=(aHm (tx.drop (i+1)) (i+1) i (by omega))
       have hany2:((tx.drop (i+1)).any fun u=>!decide (u=[]))=true:=by
        cases e:(tx.drop (i+1)).any fun u=>!decide (u=[]) with
        | true=>rfl
        | false=>have:=hany.2.1 e; omega
       rw [bD8 q2] at hsuf
       simp only [push_cast,seval,-Nat.reducePow,k21,k22,k23,k3,k6,q1',w4,q2]
       refine aAb hsuf (by simp only [push_cast,seval,-Nat.reducePow]) (by simp only [push_cast,seval,-Nat.reducePow]) ?_
       by_cases q3:(tx.getD i []).getLast?=some 10
       ·have hz:out++tx.getD i []++jT (tx.drop (i+1))=jT tx:=by rw [← ho,if_neg fun hh=>hh.2.2 q3]; simp
        simp only [push_cast,seval,-Nat.reducePow,k21,k22,k23,k3,k6,q3]
        exact ⟨by omega,l.length-(i+1),by omega,i+1,a',out++tx.getD i [],by omega,ha',rfl,hla',hz,by simp,by rw [hb'],by rw [← hb']; exact w2,by omega⟩
       ·have hz:out++tx.getD i []++[10]++jT (tx.drop (i+1))=jT tx:=by rw [← ho,if_pos ⟨hany2,q2,q3⟩]; simp
        simp only [push_cast,seval,-Nat.reducePow,k21,k22,k23,k3,k6,q3]
        refine aAa (t33 h33 h30 (b:=10) w2 (by omega) (by simp only [List.length_append]; omega)) ?_
        rintro v L2 n4 ⟨y1,y2,y3⟩
        simp only [push_cast,seval,-Nat.reducePow,k21,k22,k23,k3,k6]
        exact ⟨by omega,l.length-(i+1),by omega,i+1,a',out++tx.getD i []++[10],by omega,ha',rfl,hla',hz,by simp,by rw [hb'],by rw [← hb']; exact y2,by omega⟩
     ·have q1':¬ ((i:Nat):Int)<(acc:Nat):=by omega
      have hz:out++tx.getD i []++jT (tx.drop (i+1))=jT tx:=by
       rw [← ho]
       by_cases q2:tx.getD i []=[]
       ·rw [if_neg fun hh=>hh.2.1 q2]; simp
       ·rw [if_neg q2] at hla
        have hany:=(aHm (tx.drop (i+1)) (i+1) i (by omega))
        have hany2:((tx.drop (i+1)).any fun u=>!decide (u=[]))=false:=by
         cases e:(tx.drop (i+1)).any fun u=>!decide (u=[]) with
         | false=>rfl
         | true=>have:=hany.1 e; omega
        rw [if_neg fun hh=>by rw [hany2] at hh; exact absurd hh.1 (by decide)]; simp
      simp only [push_cast,seval,-Nat.reducePow,k21,k22,k23,k3,k6,q1',w4]
      exact ⟨by omega,l.length-(i+1),by omega,i+1,a',out++tx.getD i [],by omega,ha',rfl,hla',hz,by simp,by rw [hb'],by rw [← hb']; exact w2,by omega⟩
    ·have h':¬ ((i:Nat):Int)<(l.length:Nat):=by omega
     obtain rfl:i=l.length:=by omega
     rw [List.drop_eq_nil_of_le (by omega),jT,List.append_nil] at ho
     simp only [push_cast,seval,-Nat.reducePow,k21,k22,k23,k3,k6,h']
     refine aAa (t23 h23 kL (by omega)) ?_
     rintro v L1 n3 ⟨rfl,w1,w2⟩
     simp only [push_cast,seval,-Nat.reducePow,view,ho]
def jR (a:List UInt8):List (List UInt8)→List UInt8
 | []=>a
 | t::r=>if t=[] then jR a r else jR ((if a≠[]∧a.getLast?≠some 10 then a++[10] else a)++t) r
theorem aN0:∀ (l:List Un) (a:List UInt8),aPs a l=jR a (l.map Un.text)
 | [],a=>rfl
 | u::r,a=>by
   rw [aPs,List.map_cons,jR,aN0 r,aN0 r]
theorem bO5 (l:List (List UInt8)):jR [] l=jT l:=by
 have h1:=aN0 (l.map fun t=>⟨[],0,t⟩) []
 have h2:=aK7 (l.map fun t=>⟨[],0,t⟩)
 have e:(l.map fun t=>(⟨[],0,t⟩:Un)).map Un.text=l:=by rw [List.map_map]; exact List.map_id' l
 rw [e] at h1 h2
 rw [← h1,← h2,aZq]
theorem aU9:∀ (l:List (List UInt8)) (a:List UInt8),a.length≤(jR a l).length
 | [],a=>Nat.le_refl _
 | t::r,a=>by
   rw [jR]
   split
   ·exact aU9 r a
   ·have:=aU9 r ((if a≠[]∧a.getLast?≠some 10 then a++[10] else a)++t)
    refine Nat.le_trans ?_ this
    split <;> simp <;> omega
theorem t256 (hf:bH0 P F T) (l:List U3) (hl:l.length≤2^30) (hs:(l.map fun u=>u.2.2.length).sum≤2^30):PTr P (F 256) [.lst 3 (l.map u3V)] (.str (jT (l.map fun u=>u.2.2))):=by
 obtain ⟨tx,htx⟩:∃ tx,tx=l.map fun u=>u.2.2:=⟨_,rfl⟩
 have hlt:tx.length=l.length:=by rw [htx,List.length_map]
 have hsum:(tx.map List.length).sum≤2^30:=by rw [htx,List.map_map]; exact hs
 have hjl:=bAe tx
 have gtx:∀ i,i<l.length→(l.getD i ([],0,[])).2.2=tx.getD i []:=fun i h=>by rw [htx]; simp [List.getD,h]
 have hdr:∀ i,i<l.length→tx.drop i=tx.getD i []::tx.drop (i+1):=fun i h=>by rw [List.drop_eq_getElem_cons (by omega)]; simp [List.getD,show i<tx.length by omega]
 rw [← htx]
 have hln:=bFv l
 have himm:=bF6 l
 refine ptrC [] hf (by simp [himm]) rfl ?_
 simp only [c256,push_cast,seval,-Nat.reducePow,hln]
 refine aAe (fun m s=>∃ i a,i≤l.length∧m=l.length-i∧jR a (tx.drop i)=jT tx∧s.env 0=.lst 3 (l.map u3V)∧s.env 4=.int .i64 i∧s.env 3=.str a) l.length ⟨0,[],?_⟩ fun m s hJ=>?_
 ·simp only [push_cast,seval,-Nat.reducePow,bO5]
  omega
 ·obtain ⟨i,a,hi,rfl,hj,j0,j4,j3⟩:=hJ
  by_cases h:i<l.length
  ·have h':((i:Nat):Int)<(l.length:Nat):=by omega
   have hg:=gtx i h
   have ha:=aU9 (tx.drop i) a
   rw [hj] at ha
   rw [hdr i h,jR] at hj
   simp only [push_cast,seval,-Nat.reducePow,j0,j4,j3,h',hln,aJn h,u3V,hg]
   refine ⟨h,aAh (fun e=>?_) (fun e=>?_)⟩
   ·rw [if_pos e] at hj
    simp only [push_cast,seval,-Nat.reducePow,j0,j4,j3]
    exact ⟨by omega,l.length-(i+1),by omega,i+1,a,by omega,rfl,hj,by simp,rfl⟩
   ·rw [if_neg e] at hj
    have ha2:=aU9 (tx.drop (i+1)) ((if a≠[]∧a.getLast?≠some 10 then a++[10] else a)++tx.getD i [])
    rw [hj] at ha2
    by_cases q1:a=[]
    ·rw [if_neg fun hh=>hh.1 q1,q1,List.nil_append] at hj ha2
     simp only [push_cast,seval,-Nat.reducePow,j0,j4,j3,q1,hln,aJn h,u3V,hg]
     exact ⟨h,by omega,by omega,l.length-(i+1),by omega,i+1,tx.getD i [],by omega,rfl,hj,by simp,rfl⟩
    ·have hp:=List.length_pos_iff.2 q1
     have e1:((a.length:Nat):Int)-1=((a.length-1:Nat):Int):=by omega
     have e2:(a.getD (a.length-1) 0).toNat=10↔a.getLast?=some 10:=by
      rw [List.getLast?_eq_getElem?,List.getD_eq_getElem?_getD,List.getElem?_eq_getElem (by omega)]
      simp only [Option.getD_some,Option.some.injEq]
      exact ⟨fun e=>UInt8.toNat_inj.1 e,fun e=>by rw [e]; rfl⟩
     by_cases q2:(a.getD (a.length-1) 0).toNat=10
     ·have q2':(((a.getD (a.length-1) 0).toNat:Nat):Int)=10:=by omega
      rw [if_neg fun hh=>hh.2 (e2.1 q2)] at hj ha2
      rw [List.length_append] at ha2
      simp only [push_cast,seval,-Nat.reducePow,j0,j4,j3,q1,e1,q2',hln,aJn h,u3V,hg]
      exact ⟨by omega,by omega,h,by omega,by omega,l.length-(i+1),by omega,i+1,a++tx.getD i [],by omega,rfl,hj,by simp,rfl⟩
     ·have q2':¬ (((a.getD (a.length-1) 0).toNat:Nat):Int)=10:=by omega
      rw [if_pos ⟨q1,fun e=>q2 (e2.2 e)⟩] at hj ha2
      rw [List.length_append,List.length_append] at ha2
      simp only [push_cast,seval,-Nat.reducePow,j0,j4,j3,q1,e1,q2',hln,aJn h,u3V,hg]
      exact ⟨by omega,by omega,by omega,h,by rw [List.length_append]; exact Nat.lt_of_le_of_lt ha2 (by omega),by omega,l.length-(i+1),by omega,i+1,a++[10]++tx.getD i [],by omega,rfl,hj,by simp,rfl⟩
  ·have h':¬ ((i:Nat):Int)<(l.length:Nat):=by omega
   obtain rfl:i=l.length:=by omega
   rw [List.drop_eq_nil_of_le (by omega),jR] at hj
   simp only [push_cast,seval,-Nat.reducePow,j0,j4,j3,h',view,hj,hln]
end Go.Ab
namespace Go.Ab
variable {P:Program} {F T:Nat→Nat}
open Go.Lib
section maps
variable {κ ν:Type} [DecidableEq κ]
def mE (enc:κ→V) (ev:ν→V) (l:List (κ×ν×Nat)):List (V×V×Nat):=l.map fun e=>(enc e.1,ev e.2.1,e.2.2)
def ixK (l:List (κ×ν×Nat)) (k:κ):Option Nat:=l.findIdx? fun e=>decide (k=e.1)
def getK (l:List (κ×ν×Nat)) (k:κ):Option ν:=(l.find? fun e=>decide (k=e.1)).map (·.2.1)
theorem aKu {ag:Bool} {ks:List Nat} {enc:κ→V} {ev:ν→V} (henc:∀ a b,aAp ks (enc a).cells (enc b).cells=some (decide (a=b))) (hA:∀ a,(enc a).isA=ag) (k:κ):∀ l:List (κ×ν×Nat),aD8 ag ks (enc k) (mE enc ev l)=some (ixK l k)
 | []=>rfl
 | e::r=>by
   have ih:=aKu henc hA k (ev:=ev) r
   show aD8 ag ks (enc k) ((enc e.1,ev e.2.1,e.2.2)::mE enc ev r)=_
   rw [aD8,if_pos (hA _),henc k e.1,ixK,List.findIdx?_cons]
   by_cases h:k=e.1
   ·simp [h]
   ·simp only [h,decide_false,ih]
    rfl
theorem aUc {l:List (κ×ν×Nat)} {k:κ}:match ixK l k with
 | some i=>i<l.length∧∃ v b,l[i]?=some (k,v,b)∧getK l k=some v∧∀ j e,j<i→l[j]?=some e→k≠e.1
 | none=>getK l k=none∧∀ e,e∈l→k≠e.1:=by
 unfold ixK getK
 induction l with
 | nil=>simp
 | cons x r ih =>
   rw [List.findIdx?_cons,List.find?_cons]
   by_cases h:k=x.1
   ·simp only [h,decide_true,if_true]
    exact ⟨by simp,x.2.1,x.2.2,by simp,rfl,fun j e hj=>by omega⟩
   ·simp only [h,decide_false]
    cases hx:List.findIdx? (fun e=>decide (k=e.1)) r with
    | none =>
      rw [hx] at ih
      refine ⟨ih.1,fun e he=>?_⟩
      rcases List.mem_cons.1 he with rfl | he
      ·exact h
      ·exact ih.2 e he
    | some i =>
      rw [hx] at ih
      obtain ⟨h1,v,b,h2,h3,h4⟩:=ih
      simp only [Option.map_some,if_neg (show ¬ (false=true) from by decide)]
      refine ⟨by simp only [List.length_cons]; omega,v,b,by simpa using h2,h3,fun j e hj he=>?_⟩
      cases j with
      | zero=>simp at he; rw [← he]; exact h
      | succ j=>exact h4 j e (by omega) (by simpa using he)
theorem bAr {enc:κ→V} {ev:ν→V} (z:V) (l:List (κ×ν×Nat)) (k:κ):mres false z (mE enc ev l) (ixK l k)=match getK l k with | some v=>ev v | none=>z:=by
 have h:=aUc (l:=l) (k:=k)
 cases e:ixK l k with
 | none=>rw [e] at h; rw [h.1]; rfl
 | some i =>
   rw [e] at h
   obtain ⟨h1,v,b,h2,h3,_⟩:=h
   rw [h3]
   simp [mres,mE,List.getD,h2]
theorem bEz (l:List (κ×ν×Nat)) (e:κ×ν×Nat) (k:κ):getK (l++[e]) k=match getK l k with | some v=>some v | none=>if k=e.1 then some e.2.1 else none:=by
 unfold getK
 rw [List.find?_append]
 cases List.find? (fun e=>decide (k=e.1)) l with
 | some x=>simp
 | none=>simp only [Option.none_or,List.find?_cons,List.find?_nil,Option.map_none]; by_cases h:k=e.1 <;> simp [h]
theorem bDi {l:List (κ×ν×Nat)} {i:Nat} {k:κ} {v0 v:ν} {b:Nat} (h:l[i]?=some (k,v0,b)) (hb:∀ j e,j<i→l[j]?=some e→k≠e.1) (k':κ):getK (l.set i (k,v,b)) k'=if k'=k then some v else getK l k':=by
 unfold getK
 induction l generalizing i with
 | nil=>simp at h
 | cons x r ih =>
   cases i with
   | zero =>
     simp at h
     subst h
     simp only [List.set_cons_zero,List.find?_cons]
     by_cases hk:k'=k <;> simp [hk]
   | succ i =>
     have h0:=hb 0 x (by omega) (by simp)
     simp only [List.set_cons_succ,List.find?_cons]
     have:=ih (i:=i) (by simpa using h) (fun j e hj he=>hb (j+1) e (by omega) (by simpa using he))
     by_cases hk:k'=x.1
     ·have:¬ k'=k:=fun e=>h0 (e.symm.trans hk)
      simp [hk,this,show ¬ x.1=k from fun e=>h0 e.symm]
     ·simp only [hk,decide_false]
      exact this
theorem bBl {enc:κ→V} {ev:ν→V} (c:Nat) (l:List (κ×ν×Nat)) (k:κ) (v:ν):∃ c' l',aH3 c (mE enc ev l) (enc k) (ev v) (ixK l k)=.map c' (mE enc ev l')∧∀ k',getK l' k'=if k'=k then some v else getK l k':=by
 have h:=aUc (l:=l) (k:=k)
 cases e:ixK l k with
 | none =>
   rw [e] at h
   refine ⟨c+1,l++[(k,v,c)],by simp [aH3,mE],fun k'=>?_⟩
   rw [bEz]
   by_cases hk:k'=k
   ·subst hk; simp [h.1]
   ·simp only [hk,if_false]
    cases getK l k' <;> rfl
 | some i =>
   rw [e] at h
   obtain ⟨h1,v0,b,h2,h3,h4⟩:=h
   refine ⟨c,l.set i (k,v,b),?_,fun k'=>bDi h2 h4 k'⟩
   simp [aH3,mE,List.getD,h2,List.map_set]
end maps
theorem aH5 (a b:List UInt8):aAp [1] (V.str a).cells (V.str b).cells=some (decide (a=b)):=by simp [V.cells,aAp,aCu]
def pnV (k:List UInt8×Int):V:=.agg [.str k.1,.int .i64 k.2]
theorem bF8 (a b:List UInt8×Int):aAp [1,0] (pnV a).cells (pnV b).cells=some (decide (a=b)):=by
 obtain ⟨a1,a2⟩:=a
 obtain ⟨b1,b2⟩:=b
 simp [pnV,V.cells,aAp,aCu,Prod.mk.injEq]
end Go.Ab
