/- Several texts of one kind, merged. No condition. -/
import Derived.Test.YtikmbicdjpkipaaGreatDoorAbL1
set_option linter.unusedSimpArgs false
set_option linter.unusedVariables false
namespace Go.Ab
def c350 (F T:Nat→Nat):C :=
 .n [.alloc 0 (T 17) [(.int .i64 0),(.str [])]] <|
 .n [.build (some 1) [(.int .i64 0),(.str [])] [(0,1,(.i 5)),(1,1,(.s [80,111,108,105,99,121]))],.store 2 (.t 0) (.t 1)] <|
 .ret
abbrev bG3 (P:Program) (F T:Nat→Nat):Prop:=Fn P (F 350) 2 [(0,(some (2,true)))] (c350 F T)
def c351 (F T:Nat→Nat):C :=
 .n [.box 2 (T 34) (.t 0),.box 3 (T 17) (.t 1),.mov (some 4) (.s []),.mov (some 5) (.k (.bool false))] <|
 .n [.load (some 9) false 8 true (.t 2),.load (some 10) false 2 true (.t 3),.c 11 (F 299) [.t 9,.t 10],.m 8 11,.x 12 0 8,.x 13 1 8,.alloc 6 (T 35) [(.int .i64 0),(.str []),.nils],.store 3 (.t 6) (.t 12),.m 7 13] <|
 .n [.load (some 14) false 3 true (.t 6),.c 15 (F 301) [.t 14],.field (some 16) 3 1 false (.t 15),.m 17 7,.m 4 16,.m 5 17] <|
 .ret
abbrev bMb (P:Program) (F T:Nat→Nat):Prop:=Fn P (F 351) 18 [(4,none),(5,none)] (c351 F T)
def c334 (F T:Nat→Nat):C :=
 .n [.box 1 (T 34) (.t 0),.alloc 2 (T 16) [.nils,.nils,.nils]] <|
 .seq (.p [.load (some 9) false 8 true (.t 1),.c 10 (F 350) [],.c 11 (F 351) [.t 9,.t 10],.m 8 11,.x 12 0 8,.x 13 1 8,.m 3 12,.m 4 13]) <|
 .seq (.n [.m 14 4,.un (some 15) .not (.t 14)] <|
 .cond (.t 15)
 (.n [.build (some 16) [.nils,.nils,.nils] [],.store 3 (.t 2) (.t 16)] <|
 .ret)
 (.skip)) <|
 .n [.m 18 3,.c 19 (F 316) [.t 18],.m 17 19,.x 20 0 17,.x 21 1 17,.x 22 2 17,.alloc 5 (T 16) [.nils,.nils,.nils],.store 3 (.t 5) (.t 20),.m 6 21,.m 7 22] <|
 .seq (.n [.m 23 7,.bi 24 .neq 23 0] <|
 .cond (.t 24)
 (.n [.build (some 25) [.nils,.nils,.nils] [],.store 3 (.t 2) (.t 25)] <|
 .ret)
 (.skip)) <|
 .n [.load (some 26) false 3 true (.t 5),.store 3 (.t 2) (.t 26)] <|
 .ret
abbrev bKy (P:Program) (F T:Nat→Nat):Prop:=Fn P (F 334) 27 [(2,(some (3,true)))] (c334 F T)
def c357 (F T:Nat→Nat):C :=
 .n [.mov (some 2) (.k .nils)] <|
 .seq (.n [.m 3 0,.isnil (some 4) false 1 (.t 3)] <|
 .cond (.t 4)
 (.n [.mov (some 2) (.k .nils)] <|
 .ret)
 (.skip)) <|
 .n [.mkv 5 (T 36) 6 [],.m 6 0,.app 7 (T 36) 6 (.t 5) (.t 6),.m 2 7] <|
 .ret
abbrev bD3 (P:Program) (F T:Nat→Nat):Prop:=Fn P (F 357) 8 [(2,none)] (c357 F T)
def c371 (F T:Nat→Nat):C :=
 .n [.box 1 (T 35) (.t 0),.alloc 2 (T 35) [(.int .i64 0),(.str []),.nils]] <|
 .n [.f 3 2 1,.l 4 3,.c 5 (F 357) [.t 4],.f 6 2 1,.store 1 (.t 6) (.t 5)] <|
 .n [.load (some 7) false 3 true (.t 1),.store 3 (.t 2) (.t 7)] <|
 .ret
abbrev bEx (P:Program) (F T:Nat→Nat):Prop:=Fn P (F 371) 8 [(2,(some (3,true)))] (c371 F T)
def c346 (F T:Nat→Nat):C :=
 .n [.box 2 (T 34) (.t 0),.box 3 (T 17) (.t 1),.alloc 4 (T 35) [(.int .i64 0),(.str []),.nils],.mov (some 5) (.k (.bool false))] <|
 .seq (.n [.f 8 2 2,.l 9 8,.ll 10 9,.mov (some 11) (.i 0)] <|
 .block 0 <|
 .loop <|
 .n [.b 12 .lss 11 10] <|
 .seq (.cond (.t 12)
 (.skip)
 (.exit 0)) <|
 .seq (.block 1 <|
 .n [.ia 13 3 9 11,.load (some 14) false 3 true (.t 13),.alloc 7 (T 35) [(.int .i64 0),(.str []),.nils],.store 3 (.t 7) (.t 14)] <|
 .n [.f 15 0 7,.load (some 16) false 2 true (.t 15),.load (some 17) false 2 true (.t 3),.eqA (some 18) false [0,1] (.t 16) (.t 17)] <|
 .cond (.t 18)
 (.n [.load (some 19) false 3 true (.t 7),.c 20 (F 371) [.t 19],.store 3 (.t 4) (.t 20),.mov (some 5) (.k (.bool true))] <|
 .ret)
 (.skip)) <|
 .o [.bi 21 .add 11 1,.m 11 21]) <|
 .n [.build (some 22) [(.int .i64 0),(.str []),.nils] [],.store 3 (.t 4) (.t 22),.mov (some 5) (.k (.bool false))] <|
 .ret
abbrev bI5 (P:Program) (F T:Nat→Nat):Prop:=Fn P (F 346) 23 [(4,(some (3,true))),(5,none)] (c346 F T)
def c360 (F T:Nat→Nat):C :=
 .n [.box 1 (T 35) (.t 0),.alloc 2 (T 36) [(.int .i64 0),(.str []),(.str []),(.str []),(.int .i64 0),(.int .i64 0)]] <|
 .seq (.n [.f 3 2 1,.l 4 3,.ll 5 4,.bi 6 .eql 5 0] <|
 .cond (.t 6)
 (.n [.build (some 7) [(.int .i64 0),(.str []),(.str []),(.str []),(.int .i64 0),(.int .i64 0)] [],.store 6 (.t 2) (.t 7)] <|
 .ret)
 (.skip)) <|
 .n [.f 8 2 1,.l 9 8,.f 10 2 1,.l 11 10,.ll 12 11,.bi 13 .sub 12 1,.ia 14 6 9 13,.load (some 15) false 6 true (.t 14),.store 6 (.t 2) (.t 15)] <|
 .ret
abbrev bNg (P:Program) (F T:Nat→Nat):Prop:=Fn P (F 360) 16 [(2,(some (6,true)))] (c360 F T)
def c359 (F T:Nat→Nat):C :=
 .n [.box 1 (T 34) (.t 0),.alloc 2 (T 16) [.nils,.nils,.nils]] <|
 .n [.load (some 9) false 8 true (.t 1),.load (some 10) false 2 true (.k (.cptr [(.int .i64 5),(.str [80,111,108,105,99,121])])),.c 11 (F 346) [.t 9,.t 10],.m 8 11,.x 12 0 8,.x 13 1 8,.alloc 3 (T 35) [(.int .i64 0),(.str []),.nils],.store 3 (.t 3) (.t 12),.m 4 13] <|
 .seq (.n [.m 14 4,.un (some 15) .not (.t 14)] <|
 .cond (.t 15)
 (.n [.build (some 16) [.nils,.nils,.nils] [],.store 3 (.t 2) (.t 16)] <|
 .ret)
 (.skip)) <|
 .n [.load (some 18) false 3 true (.t 3),.c 19 (F 360) [.t 18],.field (some 20) 3 1 false (.t 19),.c 21 (F 361) [.t 20],.m 17 21,.x 22 0 17,.x 23 1 17,.x 24 2 17,.alloc 5 (T 16) [.nils,.nils,.nils],.store 3 (.t 5) (.t 22),.m 6 23,.m 7 24] <|
 .seq (.n [.m 25 7,.bi 26 .neq 25 0] <|
 .cond (.t 26)
 (.n [.build (some 27) [.nils,.nils,.nils] [],.store 3 (.t 2) (.t 27)] <|
 .ret)
 (.skip)) <|
 .n [.load (some 28) false 3 true (.t 5),.store 3 (.t 2) (.t 28)] <|
 .ret
abbrev bJv (P:Program) (F T:Nat→Nat):Prop:=Fn P (F 359) 29 [(2,(some (3,true)))] (c359 F T)
def c362 (F T:Nat→Nat):C :=
 .n [.box 2 (T 34) (.t 0),.alloc 4 (T 44) [.nils,.nils,.nils,.nils]] <|
 .n [.load (some 6) false 8 true (.t 2),.c 7 (F 359) [.t 6],.alloc 5 (T 16) [.nils,.nils,.nils],.store 3 (.t 5) (.t 7)] <|
 .seq (.p [.load (some 8) false 3 true (.t 5),.load (some 9) false 3 true (.t 5),.m 10 1,.c 11 (F 180) [.t 9,.t 10],.build (some 12) [.nils,.nils,.nils,.nils] [(0,3,(.t 8)),(3,1,(.t 11))],.store 4 (.t 4) (.t 12)]) <|
 .ret
abbrev bK1 (P:Program) (F T:Nat→Nat):Prop:=Fn P (F 362) 13 [(4,(some (4,true)))] (c362 F T)
def c363 (F T:Nat→Nat):C :=
 .n [.mov (some 2) (.k (.bool false))] <|
 .seq (.ops false [⟨none,[.m 3 0,.bin (some 4) .eql (.t 3) (.s []),.m 5 4]⟩,
 ⟨some (5,false),[.m 6 0,.c 7 (F 191) [.t 6]]⟩,
 ⟨none,[.pt 8 5 7,.m 2 8]⟩]) <|
 .ret
abbrev bI0 (P:Program) (F T:Nat→Nat):Prop:=Fn P (F 363) 9 [(2,none)] (c363 F T)
def c364 (F T:Nat→Nat):C :=
 .n [.box 3 (T 44) (.t 0),.box 5 (T 17) (.t 2),.mov (some 6) (.k (.bool false))] <|
 .n [.f 7 0 3,.load (some 8) false 3 true (.t 7),.f 9 3 3,.l 10 9,.m 11 1,.load (some 12) false 2 true (.t 5),.c 13 (F 178) [.t 8,.t 10,.t 11,.t 12],.m 6 13] <|
 .ret
abbrev bLr (P:Program) (F T:Nat→Nat):Prop:=Fn P (F 364) 14 [(6,none)] (c364 F T)
def c343 (F T:Nat→Nat):C :=
 .n [.box 6 (T 34) (.t 0),.box 8 (T 17) (.t 2),.alloc 12 (T 41) [(.int .i64 0),.nils,(.str []),.nils],.mov (some 13) (.i 0)] <|
 .n [.load (some 23) false 8 true (.t 6),.m 24 1,.c 25 (F 362) [.t 23,.t 24],.alloc 14 (T 44) [.nils,.nils,.nils,.nils],.store 4 (.t 14) (.t 25)] <|
 .seq (.block 0 <|
 .seq (.ops false [⟨none,[.load (some 27) false 2 true (.t 8),.c 28 (F 185) [.t 27],.un (some 29) .not (.t 28),.m 30 29]⟩,
 ⟨some (30,false),[.m 31 1,.c 32 (F 363) [.t 31],.un (some 33) .not (.t 32)]⟩,
 ⟨none,[.pt 34 30 33,.m 26 34]⟩]) <|
 .cond (.t 26)
 (.n [.build (some 35) [(.int .i64 0),.nils,(.str []),.nils] [],.store 4 (.t 12) (.t 35),.mov (some 13) (.i 2)] <|
 .ret)
 (.seq (.ops false [⟨none,[.m 37 4,.ls 38 37,.bi 39 .gtr 38 8192,.m 40 39]⟩,
 ⟨some (40,false),[.m 41 5,.ls 42 41,.bi 43 .gtr 42 200]⟩,
 ⟨none,[.pt 44 40 43,.m 36 44]⟩]) <|
 .cond (.t 36)
 (.n [.build (some 45) [(.int .i64 0),.nils,(.str []),.nils] [],.store 4 (.t 12) (.t 45),.mov (some 13) (.i 3)] <|
 .ret)
 (.seq (.ops false [⟨none,[.load (some 47) false 4 true (.t 14),.load (some 48) false 2 true (.t 8),.c 49 (F 364) [.t 47,.i 1,.t 48],.un (some 50) .not (.t 49),.m 51 50]⟩,
 ⟨some (51,false),[.load (some 52) false 4 true (.t 14),.load (some 53) false 2 true (.t 8),.c 54 (F 364) [.t 52,.i 2,.t 53],.un (some 55) .not (.t 54)]⟩,
 ⟨none,[.pt 56 51 55,.m 46 56]⟩]) <|
 .cond (.t 46)
 (.n [.build (some 57) [(.int .i64 0),.nils,(.str []),.nils] [],.store 4 (.t 12) (.t 57),.mov (some 13) (.i 10)] <|
 .ret)
 (.skip)))) <|
 .n [.load (some 59) false 8 true (.t 6),.load (some 60) false 2 true (.t 8),.m 61 3,.m 62 4,.c 63 (F 365) [.t 59,.t 60,.t 61,.t 62],.m 58 63,.x 64 0 58,.x 65 1 58,.alloc 15 (T 45) [(.str []),(.str []),.nils],.store 3 (.t 15) (.t 64),.m 16 65] <|
 .seq (.n [.m 66 16,.bi 67 .neq 66 0] <|
 .cond (.t 67)
 (.n [.f 68 1 15,.load (some 69) false 2 true (.t 68),.build (some 70) [(.int .i64 0),.nils,(.str []),.nils] [(2,2,(.t 69))],.m 71 16,.store 4 (.t 12) (.t 70),.m 13 71] <|
 .ret)
 (.skip)) <|
 .n [.load (some 73) false 8 true (.t 6),.load (some 74) false 2 true (.t 8),.c 75 (F 346) [.t 73,.t 74],.m 72 75,.x 76 0 72,.x 77 1 72,.alloc 17 (T 35) [(.int .i64 0),(.str []),.nils],.store 3 (.t 17) (.t 76),.m 18 77] <|
 .n [.load (some 78) false 3 true (.t 17),.c 79 (F 360) [.t 78],.alloc 19 (T 36) [(.int .i64 0),(.str []),(.str []),(.str []),(.int .i64 0),(.int .i64 0)],.store 6 (.t 19) (.t 79)] <|
 .n [.load (some 80) false 4 true (.t 14),.load (some 81) false 2 true (.t 8),.f 82 3 19,.l 83 82,.f 84 0 15,.l 85 84,.c 86 (F 366) [.t 80,.t 81,.t 83,.t 85],.m 20 86] <|
 .seq (.n [.m 87 20,.bi 88 .eql 87 3] <|
 .cond (.t 88)
 (.n [.build (some 89) [(.int .i64 0),.nils,(.str []),.nils] [],.store 4 (.t 12) (.t 89),.mov (some 13) (.i 10)] <|
 .ret)
 (.skip)) <|
 .n [.f 90 1 15,.load (some 91) false 2 true (.t 90),.build (some 92) [(.int .i64 0),.nils,(.str []),.nils] [(2,2,(.t 91))],.alloc 21 (T 41) [(.int .i64 0),.nils,(.str []),.nils],.store 4 (.t 21) (.t 92)] <|
 .n [.m 93 1,.m 94 5,.load (some 95) false 2 true (.t 8),.f 96 0 15,.l 97 96,.build (some 98) [(.int .i64 0),(.str []),(.str []),(.int .i64 0),(.str []),(.int .i64 0),(.str []),(.str []),(.int .i64 0),.nils] [(1,1,(.t 93)),(2,1,(.t 94)),(3,2,(.t 95)),(7,1,(.t 97))],.alloc 22 (T 37) [(.int .i64 0),(.str []),(.str []),(.int .i64 0),(.str []),(.int .i64 0),(.str []),(.str []),(.int .i64 0),.nils],.store 10 (.t 22) (.t 98)] <|
 .seq (.block 1 <|
 .seq (.ops false [⟨none,[.m 102 18,.m 103 102]⟩,
 ⟨some (103,true),[.f 104 3 19,.l 105 104,.f 106 0 15,.l 107 106,.b 108 .eql 105 107]⟩,
 ⟨none,[.pf 109 103 108,.m 101 109]⟩]) <|
 .cond (.t 101)
 (.n [.f 110 0 21,.store 1 (.t 110) (.i 1)] <|
 .n [.load (some 111) false 4 true (.t 21),.store 4 (.t 12) (.t 111),.mov (some 13) (.i 0)] <|
 .ret)
 (.n [.m 113 20,.bi 114 .eql 113 2,.m 112 114] <|
 .cond (.t 112)
 (.n [.f 115 0 21,.store 1 (.t 115) (.i 3)] <|
 .bad)
 (.n [.f 99 0 21,.store 1 (.t 99) (.i 2)] <|
 .o [.f 100 0 22,.store 1 (.t 100) (.i 1)]))) <|
 .n [.load (some 120) false 10 true (.t 22),.mkl (some 121) 10 [.t 120],.f 122 1 21,.store 1 (.t 122) (.t 121)] <|
 .n [.load (some 123) false 4 true (.t 21),.store 4 (.t 12) (.t 123),.mov (some 13) (.i 0)] <|
 .ret
abbrev bJo (P:Program) (F T:Nat→Nat):Prop:=Fn P (F 343) 124 [(12,(some (4,true))),(13,none)] (c343 F T)
def c341 (F T:Nat→Nat):C :=
 .n [.mov (some 8) (.k (.bool false))] <|
 .seq (.n [.m 24 3,.ls 25 24,.bi 26 .gtr 25 500] <|
 .cond (.t 26)
 (.n [.c 27 (F 342) [],.m 8 27] <|
 .ret)
 (.skip)) <|
 .n [.m 28 0,.e 29 116 (F 330) [.t 28],.m 30 1,.e 31 116 (F 331) [.t 30],.alloc 9 (T 34) [(.int .i64 0),(.int .i64 0),.nils,.nils,.nils,(.int .i64 0),.nils,.nils],.store 8 (.t 9) (.t 29),.m 10 31] <|
 .seqc (.o [.m 32 10,.e 33 116 (F 332) [.t 32],.m 34 10,.e 35 116 (F 333) [.t 34],.alloc 12 (T 17) [(.int .i64 0),(.str [])],.m 11 33,.store 2 (.t 12) (.t 35)]) <|
 .n [.load (some 36) false 8 true (.t 9),.c 37 (F 334) [.t 36],.alloc 13 (T 16) [.nils,.nils,.nils],.store 3 (.t 13) (.t 37)] <|
 .n [.load (some 38) false 3 true (.t 13),.m 39 11,.c 40 (F 209) [.t 38,.t 39],.m 14 40] <|
 .seqc (.ops false [⟨none,[.load (some 41) false 3 true (.t 13),.m 42 14,.load (some 43) false 2 true (.t 12),.c 44 (F 192) [.t 41,.t 42,.i 1,.t 43],.m 45 44]⟩,
 ⟨some (45,true),[.load (some 46) false 3 true (.t 13),.m 47 14,.load (some 48) false 2 true (.t 12),.c 49 (F 192) [.t 46,.t 47,.i 2,.t 48]]⟩,
 ⟨none,[.pf 50 45 49,.m 15 50]⟩]) <|
 .seq (.n [.m 51 15] <|
 .cond (.t 51)
 (.seq (.p [.load (some 53) false 8 true (.t 9),.m 54 11,.load (some 55) false 2 true (.t 12),.mkz 56 (T 3) 8193,.b2s (some 57) (.t 56),.c 58 (F 343) [.t 53,.t 54,.t 55,.i 0,.t 57,.s []],.m 52 58,.x 59 0 52,.x 60 1 52,.alloc 16 (T 41) [(.int .i64 0),.nils,(.str []),.nils],.store 4 (.t 16) (.t 59),.m 17 60]) <|
 .seq (.ops false [⟨none,[.c 61 (F 342) [],.m 62 61]⟩,
 ⟨some (62,true),[.m 63 17,.bi 64 .eql 63 3]⟩,
 ⟨none,[.pf 65 62 64,.m 8 65]⟩]) <|
 .ret)
 (.skip)) <|
 .n [.load (some 67) false 8 true (.t 9),.m 68 11,.load (some 69) false 2 true (.t 12),.m 70 2,.m 71 3,.c 72 (F 343) [.t 67,.t 68,.t 69,.t 70,.t 71,.s []],.m 66 72,.x 73 0 66,.x 74 1 66,.alloc 18 (T 41) [(.int .i64 0),.nils,(.str []),.nils],.store 4 (.t 18) (.t 73),.m 19 74] <|
 .n [.load (some 76) false 8 true (.t 9),.load (some 77) false 2 true (.t 12),.build (some 78) [(.int .i64 0),(.str []),(.str []),(.int .i64 0),(.str []),(.int .i64 0),(.str []),(.str []),(.int .i64 0),.nils] [(0,1,(.i 2)),(3,2,(.t 77))],.mkl (some 79) 10 [.t 78],.c 80 (F 293) [.t 76,.t 79],.m 75 80,.x 81 0 75,.x 82 1 75,.alloc 20 (T 34) [(.int .i64 0),(.int .i64 0),.nils,.nils,.nils,(.int .i64 0),.nils,.nils],.store 8 (.t 20) (.t 81),.m 21 82] <|
 .seq (.n [.m 83 21,.bi 84 .neq 83 0] <|
 .cond (.t 84)
 (.o [.load (some 86) false 8 true (.t 9),.load (some 87) false 2 true (.t 12),.m 88 3,.build (some 89) [(.int .i64 0),(.str []),(.str []),(.int .i64 0),(.str []),(.int .i64 0),(.str []),(.str []),(.int .i64 0),.nils] [(0,1,(.i 1)),(3,2,(.t 87)),(7,1,(.t 88))],.mkl (some 90) 10 [.t 89],.c 91 (F 293) [.t 86,.t 90],.m 85 91,.x 92 0 85,.x 93 1 85,.store 8 (.t 20) (.t 92),.m 21 93])
 (.skip)) <|
 .n [.load (some 95) false 8 true (.t 20),.m 96 11,.load (some 97) false 2 true (.t 12),.m 98 2,.m 99 3,.c 100 (F 343) [.t 95,.t 96,.t 97,.t 98,.t 99,.s []],.m 94 100,.x 101 0 94,.x 102 1 94,.alloc 22 (T 41) [(.int .i64 0),.nils,(.str []),.nils],.store 4 (.t 22) (.t 101),.m 23 102] <|
 .seq (.ops false [⟨none,[.c 103 (F 342) [],.m 104 103]⟩,
 ⟨some (104,true),[.m 105 19,.bi 106 .eql 105 10]⟩,
 ⟨none,[.pf 107 104 106,.m 108 107]⟩,
 ⟨some (108,true),[.m 109 21,.bi 110 .eql 109 0]⟩,
 ⟨none,[.pf 111 108 110,.m 112 111]⟩,
 ⟨some (112,true),[.m 113 23,.bi 114 .eql 113 10]⟩,
 ⟨none,[.pf 115 112 114,.m 8 115]⟩]) <|
 .ret
abbrev bN5 (P:Program) (F T:Nat→Nat):Prop:=Fn P (F 341) 116 [(8,none)] (c341 F T)
end Go.Ab
namespace Go.Ab
variable {P:Program} {F T:Nat→Nat}
theorem t350 (hf:bG3 P F T):PTr P (F 350) [] (tV polT):=by
 refine ptrC [] hf (by simp) rfl ?_
 simp only [c350,push_cast,seval,-Nat.reducePow]
 exact aAd 3 _ rfl
theorem t351 (hf:bMb P F T) (h299:bCw P F T) (h300:aK8 P F T) (h301:aZm P F T) (s:Stt) (t:Ttl) (p:Sto) (hp:aGs s t=some p) (hl:s.pages.length≤2^30) (hh:p.hist.length≤2^30):PTr P (F 351) [s.v,tV t] (.tup [.str (curS p).text,.bool true]):=by
 have h1:=t299 h299 h300 s t hl
 rw [hp] at h1
 have h2:=t301 h301 p hh
 refine ptrC [] hf (by simp) rfl ?_
 have h1v:(revV p.hist).one=true:=rfl
 simp only [c351,push_cast,seval,-Nat.reducePow,Stt.v,Stt.cs,stoV,pplV,watV,lasV,tV,tCs]
 refine aAa h1 (by simp only [push_cast,seval,-Nat.reducePow,V.imm,V.imms,aAk,aAp,aAw,aAv]) (by simp [aQ9,V.imm,V.imms,aHo]) ?_
 simp only [push_cast,seval,-Nat.reducePow,aQ9,Sto.v,h1v]
 simp only [Rev.v,Sto.v] at h2
 refine aAa h2 (by simp only [V.imm,V.imms,aCb,Bool.and_self]) (by simp only [push_cast,seval,-Nat.reducePow]) ?_
 simp only [push_cast,seval,-Nat.reducePow]
 exact aAd 3 _ rfl
theorem t334 (hf:bKy P F T) (h350:bG3 P F T) (s:Stt) {w:List UInt8} (h351:PTr P (F 351) [s.v,tV polT] (.tup [.str w,.bool true])) {x y z:V} {n:Int} (h316:PTr P (F 316) [.str w] (.tup [.agg [x,y,z],.int .i64 n,.int .i64 0])) (ix:x.imm=true) (iy:y.imm=true) (iz:z.imm=true) (ho:(x.one&&(y.one&&z.one))=true) :
 PTr P (F 334) [s.v] (.agg [x,y,z]):=by
 refine ptrC [] hf (by simp) (by simp only [V.imm,V.imms,ix,iy,iz,Bool.and_self]) ?_
 simp only [c334,push_cast,seval,-Nat.reducePow,Stt.v,Stt.cs,stoV,pplV,watV,lasV]
 refine aAa (t350 h350) (by simp only [push_cast,seval,-Nat.reducePow]) (by simp only [push_cast,seval,-Nat.reducePow,tV,tCs]) ?_
 simp only [push_cast,seval,-Nat.reducePow,tV,tCs]
 refine aAa h351 (by simp only [push_cast,seval,-Nat.reducePow,V.imm,V.imms,aAk,aAp,aAw,aAv]) (by simp only [push_cast,seval,-Nat.reducePow]) ?_
 simp only [push_cast,seval,-Nat.reducePow]
 refine aAa h316 (by simp only [push_cast,seval,-Nat.reducePow]) (by simp only [V.imm,V.imms,ix,iy,iz,Bool.and_self]) ?_
 simp only [push_cast,seval,-Nat.reducePow,ho]
 exact aAd 3 _ (by simp only [V.imm,V.imms,ix,iy,iz,Bool.and_self])
theorem t357 (hf:bD3 P F T) (h:List Rev) (h0:0<h.length) (hl:h.length≤2^30):PTr P (F 357) [revV h] (revV h):=by
 have hln:(h.map Rev.v).length=h.length:=List.length_map ..
 refine ptrC [] hf (by simp) (aCb _) ?_
 simp only [c357,push_cast,seval,-Nat.reducePow,revV,hln]
 exact ⟨h0,by omega,by rw [← hln]; exact aZx (n:=2) (aAf _ _ _) (aA6 _ _ fun _=>rfl)⟩
theorem t371 (hf:bEx P F T) (h357:bD3 P F T) (p:Sto) (h0:0<p.hist.length) (hl:p.hist.length≤2^30):PTr P (F 371) [p.v] p.v:=by
 refine ptrC [] hf (by simp) (aHo _) ?_
 have h1v:(revV p.hist).one=true:=rfl
 have hcl:(revV p.hist).cells=[revV p.hist]:=rfl
 have hnc:(revV p.hist).ncells=some 1:=rfl
 simp only [c371,push_cast,seval,-Nat.reducePow,Sto.v,h1v]
 refine aAa (t357 h357 p.hist h0 hl) (by simp only [V.imm,V.imms,aCb,Bool.and_self]) (aCb _) ?_
 simp only [push_cast,seval,-Nat.reducePow,h1v,hcl,hnc]
 exact aAd 3 _ (by simp only [V.imm,V.imms,aCb,Bool.and_self])
theorem aVw {s:Stt} {t:Ttl} {p:Sto} (h:aGs s t=some p):∃ a r,s.pages=a++p::r∧(∀ q,q∈a→q.t≠t)∧p.t=t:=by
 unfold aGs at h
 obtain ⟨i,hi,rfl⟩:=Option.map_eq_some_iff.1 h
 obtain ⟨h1,h2⟩:=aB7 hi
 obtain ⟨_,_,h3⟩:=List.findIdx?_eq_some_iff_getElem.1 hi
 have hg:s.pages.getD i zSto=s.pages[i]:=by rw [List.getD_eq_getElem?_getD,List.getElem?_eq_getElem h1]; rfl
 refine ⟨s.pages.take i,s.pages.drop (i+1),?_,fun q hq=>?_,h2⟩
 ·rw [hg,List.getElem_cons_drop,List.take_append_drop]
 ·obtain ⟨j,hj,e⟩:=List.mem_iff_getElem.1 hq
  rw [List.length_take] at hj
  rw [List.getElem_take] at e
  have:=h3 j (by omega)
  rw [← e]
  simpa using this
theorem t346 (hf:bI5 P F T) (h371:bEx P F T) (h357:bD3 P F T) (s:Stt) (t:Ttl) (p:Sto) (hp:aGs s t=some p) (h0:0<p.hist.length) (hl:s.pages.length≤2^30) (hh:p.hist.length≤2^30):PTr P (F 346) [s.v,tV t] (.tup [p.v,.bool true]):=by
 have hlp:(s.pages.map Sto.v).length=s.pages.length:=List.length_map ..
 obtain ⟨a,r,hal,hno,hpt⟩:=aVw hp
 have hal2:s.pages.length=a.length+(r.length+1):=by rw [hal]; simp
 refine ptrC [] hf (by simp) (by simp [V.imm,V.imms,aHo]) ?_
 simp only [c346,push_cast,seval,-Nat.reducePow,Stt.v,Stt.cs,stoV,pplV,watV,lasV,tV,tCs,hlp]
 refine aAh (fun m s1=>∃ b q,a=b++q∧m=q.length∧s1.env 2=.ptr 2 0∧s1.env 3=.ptr 3 0∧s1.env 4=.ptr 4 0∧s1.env 9=.lst 3 (s.pages.map Sto.v)∧s1.env 10=.int .i64 s.pages.length∧s1.env 11=.int .i64 b.length∧s1.L 3=some (.box (T 17) [.int .i64 t.1,.str t.2])∧s1.L 4=some (.box (T 35) [.int .i64 0,.str [],.nils])∧4<s1.nx) a.length ?_ fun m s1 hJ=>?_
 ·simp only [push_cast,seval,-Nat.reducePow]
  exact ⟨[],a,rfl,rfl,rfl⟩
 ·obtain ⟨b,q,hb,rfl,j2,j3,j4,j9,j10,j11,e3,e4,jn⟩:=hJ
  have hb2:a.length=b.length+q.length:=by rw [hb]; simp
  have h1:((b.length:Nat):Int)<((s.pages.length:Nat):Int):=by omega
  cases q with
  | nil =>
    have hg:(s.pages.map Sto.v).getD b.length .junk=.agg [.int .i64 p.t.1,.str p.t.2,revV p.hist]:=by rw [hal,hb]; simp [List.getD_eq_getElem?_getD,Sto.v]
    have h1v:(revV p.hist).one=true:=rfl
    have e1:p.t.1=t.1:=by rw [hpt]
    have e2:p.t.2=t.2:=by rw [hpt]
    have hc:=t371 h371 h357 p h0 hh
    simp only [Sto.v,e1,e2] at hc
    simp only [push_cast,seval,-Nat.reducePow,j2,j3,j4,j9,j10,j11,e3,e4,h1,hg,h1v,e1,e2]
    refine ⟨by omega,aAa hc (by simp only [V.imm,V.imms,aCb,Bool.and_self]) (by simp only [V.imm,V.imms,aCb,Bool.and_self]) ?_⟩
    simp only [push_cast,seval,-Nat.reducePow,j2,j3,j4,j9,j10,j11,e3,e4,h1v]
    rw [show p.v=.agg [.int .i64 t.1,.str t.2,revV p.hist] from by rw [Sto.v,e1,e2]]
    exact aAd 3 _ (by simp only [V.imm,V.imms,aCb,Bool.and_self])
  | cons x q =>
    rw [List.length_cons] at hb2
    have hg:(s.pages.map Sto.v).getD b.length .junk=.agg [.int .i64 x.t.1,.str x.t.2,revV x.hist]:=by rw [hal,hb]; simp [List.getD_eq_getElem?_getD,Sto.v]
    have h1v:(revV x.hist).one=true:=rfl
    have hx:=hno x (by rw [hb]; simp)
    have hd:(decide (x.t.1=t.1)&&decide (x.t.2=t.2))=false:=by
     simp only [Bool.and_eq_false_iff,decide_eq_false_iff_not]
     by_cases h:x.t.1=t.1
     ·exact .inr fun h2=>hx (Prod.ext h h2)
     ·exact .inl h
    simp only [push_cast,seval,-Nat.reducePow,j2,j3,j4,j9,j10,j11,e3,e4,h1,hg,h1v,hd]
    exact ⟨by omega,⟨by omega,by omega⟩,q.length,by omega,b++[x],q,by rw [hb]; simp,rfl,by simp,by omega⟩
theorem t360 (hf:bNg P F T) (p:Sto) (hl:p.hist.length≤2^30):PTr P (F 360) [p.v] (curS p).v:=by
 refine ptrC [] hf (by simp) rfl ?_
 have hlen:(p.hist.map Rev.v).length=p.hist.length:=List.length_map ..
 have h1v:(V.lst 6 (p.hist.map Rev.v)).one=true:=rfl
 simp only [c360,push_cast,seval,-Nat.reducePow,Sto.v,revV,h1v,hlen]
 refine aAm (fun h=>?_) (fun h=>?_)
 ·have hn:p.hist=[]:=List.eq_nil_of_length_eq_zero (by omega)
  have hc:curS p=zRev:=by simp [curS,hn]
  rw [hc]
  simp only [push_cast,seval,-Nat.reducePow,hn]
  exact aAd 3 _ rfl
 ·have hc:curS p=p.hist.getD (p.hist.length-1) zRev:=by
   rw [curS,List.getLast?_eq_getElem?,List.getD_eq_getElem?_getD]
  have hi:p.hist.length-1<p.hist.length:=by omega
  have hg:(p.hist.map Rev.v).getD (((p.hist.length:Nat):Int)-1).toNat .junk=(curS p).v:=by
   have e:(((p.hist.length:Nat):Int)-1).toNat=p.hist.length-1:=by omega
   rw [e,hc]
   simp [List.getD_eq_getElem?_getD,hi]
  have h0:(0:Int)≤((p.hist.length:Nat):Int)-1:=by omega
  have hv:(curS p).v=.agg [.int .i64 (curS p).num,.str (curS p).user,.str (curS p).note,.str (curS p).text,.int .i64 (curS p).minute,.int .i64 (curS p).seq]:=rfl
  rw [hv] at hg ⊢
  simp only [push_cast,seval,-Nat.reducePow,hlen,hg,h0]
  exact ⟨⟨by omega,by omega⟩,by omega,aAd 3 _ rfl⟩
theorem t359 (hf:bJv P F T) (s:Stt) {p:Sto} (h346:PTr P (F 346) [s.v,tV polT] (.tup [p.v,.bool true])) (h360:PTr P (F 360) [p.v] (curS p).v) {x y z:V} {n:Int} (h361:PTr P (F 361) [.str (curS p).text] (.tup [.agg [x,y,z],.int .i64 n,.int .i64 0])) (ix:x.imm=true) (iy:y.imm=true) (iz:z.imm=true) (ho:(x.one&&(y.one&&z.one))=true) :
 PTr P (F 359) [s.v] (.agg [x,y,z]):=by
 have h1v:(revV p.hist).one=true:=rfl
 refine ptrC [] hf (by simp) (by simp only [V.imm,V.imms,ix,iy,iz,Bool.and_self]) ?_
 simp only [c359,push_cast,seval,-Nat.reducePow,Stt.v,Stt.cs,stoV,pplV,watV,lasV]
 refine aAa h346 (by simp only [push_cast,seval,-Nat.reducePow,V.imm,V.imms,aAk,aAp,aAw,aAv]) (by simp [V.imm,V.imms,aHo]) ?_
 simp only [push_cast,seval,-Nat.reducePow,Sto.v,h1v]
 simp only [Rev.v,Sto.v] at h360
 refine aAa h360 (by simp only [V.imm,V.imms,aCb,Bool.and_self]) (by simp only [push_cast,seval,-Nat.reducePow]) ?_
 simp only [push_cast,seval,-Nat.reducePow]
 refine aAa h361 (by simp only [push_cast,seval,-Nat.reducePow]) (by simp only [V.imm,V.imms,ix,iy,iz,Bool.and_self]) ?_
 simp only [push_cast,seval,-Nat.reducePow,ho]
 exact aAd 3 _ (by simp only [V.imm,V.imms,ix,iy,iz,Bool.and_self])
theorem t362 (hf:bK1 P F T) (s:Stt) (u:List UInt8) {x y z g:V} (h359:PTr P (F 359) [s.v] (.agg [x,y,z])) (h180:PTr P (F 180) [.agg [x,y,z],.str u] g) (ix:x.imm=true) (iy:y.imm=true) (iz:z.imm=true) (ho:(x.one&&(y.one&&z.one))=true) (ig:g.imm=true) (hg1:g.one=true) (hgc:g.cells=[g]) (hgn:g.ncells=some 1) :
 PTr P (F 362) [s.v,.str u] (.agg [x,y,z,g]):=by
 have him:(V.agg [x,y,z,g]).imm=true:=by simp only [V.imm,V.imms,ix,iy,iz,ig,Bool.and_self]
 have ho4:(x.one&&(y.one&&(z.one&&g.one)))=true:=by
  simp only [Bool.and_eq_true] at ho ⊢
  exact ⟨ho.1,ho.2.1,ho.2.2,hg1⟩
 refine ptrC [] hf (by simp) him ?_
 simp only [c362,push_cast,seval,-Nat.reducePow,Stt.v,Stt.cs,stoV,pplV,watV,lasV]
 refine aAa h359 (by simp only [push_cast,seval,-Nat.reducePow,V.imm,V.imms,aAk,aAp,aAw,aAv]) (by simp only [V.imm,V.imms,ix,iy,iz,Bool.and_self]) ?_
 simp only [push_cast,seval,-Nat.reducePow,ho]
 refine aAa h180 (by simp only [V.imm,V.imms,ix,iy,iz,Bool.and_self]) ig ?_
 simp only [push_cast,seval,-Nat.reducePow,ho,ho4,hgc,hgn,hg1]
 exact aAd 3 _ him
theorem t364 (hf:bLr P F T) (t:Ttl) (rt:Int) {x y z g:V} {b:Bool} (h178:PTr P (F 178) [.agg [x,y,z],g,.int .i64 rt,tV t] (.bool b)) (ix:x.imm=true) (iy:y.imm=true) (iz:z.imm=true) (ig:g.imm=true) (ho:(x.one&&(y.one&&(z.one&&g.one)))=true) :
 PTr P (F 364) [.agg [x,y,z,g],.int .i64 rt,tV t] (.bool b):=by
 refine ptrC [] hf (by simp) rfl ?_
 simp only [c364,push_cast,seval,-Nat.reducePow,tV,tCs,ho]
 refine aAa h178 (by simp only [V.imm,V.imms,ix,iy,iz,ig,Bool.and_self]) rfl ?_
 exact aAd 3 _ rfl
theorem t363 (hf:bI0 P F T) {nm:List UInt8→Bool} (s:List UInt8) (h191:PTr P (F 191) [.str s] (.bool (nm s))):PTr P (F 363) [.str s] (.bool (decide (s=[])||nm s)):=by
 refine ptrC [] hf (by simp) rfl ?_
 by_cases h:s=[]
 ·simp only [c363,push_cast,seval,-Nat.reducePow,h]
  exact aAd 3 _ rfl
 ·simp only [c363,push_cast,seval,-Nat.reducePow,h]
  refine aAa h191 (by simp only [push_cast,seval,-Nat.reducePow]) (by simp only [push_cast,seval,-Nat.reducePow]) ?_
  simp only [push_cast,seval,-Nat.reducePow]
  exact aAd 3 _ rfl
def outE (n:Int):V:=.tup [.agg [.int .i64 0,.nils,.str [],.nils],.int .i64 n]
theorem t343 (hf:bJo P F T) (s:Stt) (u:List UInt8) (t:Ttl) (base:Int) (text:List UInt8) {x y z g:V} {b1 b2:Bool} (h362:PTr P (F 362) [s.v,.str u] (.agg [x,y,z,g])) (ix:x.imm=true) (iy:y.imm=true) (iz:z.imm=true) (ig:g.imm=true) (ho:(x.one&&(y.one&&(z.one&&g.one)))=true)
 (h185:PTr P (F 185) [tV t] (.bool true)) (h363:PTr P (F 363) [.str u] (.bool true)) (hm1:PTr P (F 364) [.agg [x,y,z,g],.int .i64 1,tV t] (.bool b1)) (hm2:PTr P (F 364) [.agg [x,y,z,g],.int .i64 2,tV t] (.bool b2)) (hd:8192<text.length∨(b1&&b2)=false) :
 PTr P (F 343) [s.v,.str u,tV t,.int .i64 base,.str text,.str []] (outE (if 8192<text.length then 3 else 10)):=by
 have him:(V.agg [x,y,z,g]).imm=true:=by simp only [V.imm,V.imms,ix,iy,iz,ig,Bool.and_self]
 refine ptrC [] hf (by simp) (by rfl) ?_
 simp only [c343,push_cast,seval,-Nat.reducePow,Stt.v,Stt.cs,stoV,pplV,watV,lasV,tV,tCs]
 refine aAa h362 (by simp only [push_cast,seval,-Nat.reducePow,V.imm,V.imms,aAk,aAp,aAw,aAv]) him ?_
 simp only [push_cast,seval,-Nat.reducePow,ho]
 refine aAa h185 (by simp only [push_cast,seval,-Nat.reducePow]) (by simp only [push_cast,seval,-Nat.reducePow]) ?_
 simp only [push_cast,seval,-Nat.reducePow,ho]
 refine aAa h363 (by simp only [push_cast,seval,-Nat.reducePow]) (by simp only [push_cast,seval,-Nat.reducePow]) ?_
 by_cases hl:8192<text.length
 ·have hl':(8192:Int)<((text.length:Nat):Int):=by omega
  simp only [push_cast,seval,-Nat.reducePow,ho,hl',if_pos hl]
  exact aAd 3 _ rfl
 ·have hl':¬ (8192:Int)<((text.length:Nat):Int):=by omega
  have hd:=hd.resolve_left hl
  simp only [push_cast,seval,-Nat.reducePow,ho,hl',if_neg hl]
  refine aAa hm1 (by simp only [V.imm,V.imms,ix,iy,iz,ig,Bool.and_self]) rfl ?_
  cases b1 with
  | false =>
    simp only [push_cast,seval,-Nat.reducePow,ho]
    exact aAd 3 _ rfl
  | true =>
    obtain rfl:b2=false:=by simpa using hd
    simp only [push_cast,seval,-Nat.reducePow,ho]
    refine aAa hm2 (by simp only [V.imm,V.imms,ix,iy,iz,ig,Bool.and_self]) rfl ?_
    simp only [push_cast,seval,-Nat.reducePow,ho]
    exact aAd 3 _ rfl
end Go.Ab
namespace Go.Ab
variable {P:Program} {F T:Nat→Nat}
structure DnF (P:Program) (F T:Nat→Nat):Prop where
 f334:bKy P F T
 f341:bN5 P F T
 f343:bJo P F T
 f346:bI5 P F T
 f350:bG3 P F T
 f351:bMb P F T
 f357:bD3 P F T
 f359:bJv P F T
 f360:bNg P F T
 f362:bK1 P F T
 f363:bI0 P F T
 f364:bLr P F T
 f371:bEx P F T
def One3 (x y z:V):Prop:=x.imm=true∧y.imm=true∧z.imm=true∧(x.one&&(y.one&&z.one))=true
def One1 (g:V):Prop:=g.imm=true∧g.one=true∧g.cells=[g]∧g.ncells=some 1
structure DnR (P:Program) (F:Nat→Nat) (w u:List UInt8) (t:Ttl) (x y z g:V) (a1 a2:Bool):Prop where
 i3:One3 x y z
 i1:One1 g
 h316:∃ n:Int,PTr P (F 316) [.str w] (.tup [.agg [x,y,z],.int .i64 n,.int .i64 0])
 h209:PTr P (F 209) [.agg [x,y,z],.str u] g
 m1:PTr P (F 192) [.agg [x,y,z],g,.int .i64 1,tV t] (.bool a1)
 m2:PTr P (F 192) [.agg [x,y,z],g,.int .i64 2,tV t] (.bool a2)
structure DnP (P:Program) (F:Nat→Nat) (w u:List UInt8) (t:Ttl) (x y z g:V) (a1 a2:Bool):Prop where
 i3:One3 x y z
 i1:One1 g
 h361:∃ n:Int,PTr P (F 361) [.str w] (.tup [.agg [x,y,z],.int .i64 n,.int .i64 0])
 h180:PTr P (F 180) [.agg [x,y,z],.str u] g
 m1:PTr P (F 178) [.agg [x,y,z],g,.int .i64 1,tV t] (.bool a1)
 m2:PTr P (F 178) [.agg [x,y,z],g,.int .i64 2,tV t] (.bool a2)
def DnU (P:Program) (F:Nat→Nat) (w u:List UInt8) (t:Ttl):Prop :=
 ∃ x y z g a1 a2 x' y' z' g' b1 b2,DnR P F w u t x y z g a1 a2∧DnP P F w u t x' y' z' g' b1 b2∧((a1&&a2)=false→(b1&&b2)=false)
variable {ok:Ttl→Bool} {nm:List UInt8→Bool} {w:List UInt8}
theorem aYg (D:DnF P F T) (H:StE P F T usT ttT ok nm) {u:List UInt8} {t:Ttl} {x y z g:V} {b1 b2:Bool} (hd:DnP P F w u t x y z g b1 b2) (h185:PTr P (F 185) [tV t] (.bool true)) (h363:PTr P (F 363) [.str u] (.bool true)) {k:Nat} {st:Stt} (hm:MstP usT ttT w k st.seq st) (hk:k≤40) (base:Int) (text:List UInt8) (hb:8192<text.length∨(b1&&b2)=false) :
 PTr P (F 343) [st.v,.str u,tV t,.int .i64 base,.str text,.str []] (outE (if 8192<text.length then 3 else 10)):=by
 obtain ⟨p,p1,p2,p3,p4⟩:=aR2 hm
 have hl:=hm.pagn
 have hh:=hm.pagp p p2
 have hh1:=hh.2.1.1
 have hh2:=hh.2.1.2.1
 obtain ⟨q1,q2,q3,q4⟩:=hd.i3
 obtain ⟨r1,r2,r3,r4⟩:=hd.i1
 obtain ⟨n,h361⟩:=hd.h361
 have ho4:(x.one&&(y.one&&(z.one&&g.one)))=true:=by
  simp only [Bool.and_eq_true] at q4 ⊢
  exact ⟨q4.1,q4.2.1,q4.2.2,r2⟩
 have h346:=t346 D.f346 D.f371 D.f357 st polT p p1 (by omega) (by omega) (by omega)
 have h359:=t359 D.f359 st h346 (t360 D.f360 p (by omega)) (by rw [p4]; exact h361) q1 q2 q3 q4
 have h362:=t362 D.f362 st u h359 hd.h180 q1 q2 q3 q4 r1 r2 r3 r4
 exact t343 D.f343 st u t base text h362 q1 q2 q3 r1 ho4 h185 h363 (t364 D.f364 t 1 hd.m1 q1 q2 q3 r1 ho4) (t364 D.f364 t 2 hd.m2 q1 q2 q3 r1 ho4) hb
theorem aW6 (D:DnF P F T) (H:StE P F T usT ttT ok nm) {u:List UInt8} {t:Ttl} {x y z g:V} {b1 b2:Bool} (hd:DnR P F w u t x y z g b1 b2) {k:Nat} {st:Stt} (hm:MstP usT ttT w k st.seq st) (hk:k≤40):PTr P (F 334) [st.v] (.agg [x,y,z]):=by
 obtain ⟨p,p1,p2,p3,p4⟩:=aR2 hm
 have hl:=hm.pagn
 have hh2:=(hm.pagp p p2).2.1.2.1
 obtain ⟨q1,q2,q3,q4⟩:=hd.i3
 obtain ⟨n,h316⟩:=hd.h316
 have h351:=t351 D.f351 H.cd.f299 H.cd.f300 H.cd.f301 st polT p p1 (by omega) (by omega)
 rw [p4] at h351
 exact t334 D.f334 D.f350 st h351 h316 q1 q2 q3 q4
def delC (t:Ttl):Chg:=⟨2,[],[],t,zTtl,[],0,[]⟩
def putD (t:Ttl) (x:List UInt8):Chg:=⟨1,[],[],t,zTtl,x,0,[]⟩
theorem bMr {t:Ttl} (ht:ttT t):ChgP usT ttT (delC t) :=
 { kd:=by simp [delC],usr:=by simp [delC,usT,aRi],text:=by simp [delC],note:=by simp [delC],note0:=fun _ _=>⟨rfl,rfl⟩,n0:=fun _ _ _ _=>rfl,t0:=fun h=>absurd h (by simp [delC]),ttl:=fun _ _=>ht,u6:=fun _=>rfl,to0:=fun _=>rfl,to4:=fun h=>absurd h (by simp [delC]),h0:=fun _=>rfl,h5:=fun h=>absurd h (by simp [delC]),n6:=fun h=>absurd h (by simp [delC]),u7:=fun h=>absurd h (by simp [delC]),n9:=fun h=>absurd h (by simp [delC]),n10:=fun h=>absurd h (by simp [delC]) }
theorem bKm {ok:Ttl→Bool} {pol:List UInt8→Bool} {k:Nat} {s:Stt} (h:MstP usT ttT w k s.seq s) (hk:k≤40) {t:Ttl} (ht:ttT t) (hp:¬ ttT polT) (x:List UInt8) (e:(aEa ok pol s [delC t]).2≠0):(aEa ok pol s [putD t x]).2=0:=by
 have hne:t≠polT:=by rintro rfl; exact hp ht
 have hg:=h.gonn
 have hl:=h.pagn
 cases hf:aD6 s.pages t with
 | some i =>
   exfalso
   apply e
   have e1:∀ q,aBt ok s (delC t) q=({ s with gone:=s.gone++[s.pages.getD i zSto],pages:=wtoS s.pages i,props:=aCy s.props t },0):=fun q=>by
    have:¬ 100≤s.gone.length:=by omega
    simp [aBt,delC,remS,hf,this]
   have e2:aDx pol (delC t)=false:=by simp [aDx,delC,hne]
   have hu:(delC t).user=[]:=rfl
   simp [aEa,aGp,e1,e2,notS,hu]
 | none =>
   have e1:∀ q,aBt ok s (putD t x) q=({ s with pages:=insS s.pages ⟨t,[⟨1,[],[],x,s.clock,q⟩]⟩ },0):=fun q=>by
    have:¬ 200≤s.pages.length:=by omega
    simp [aBt,putD,putS,hf,this]
   have e2:aDx pol (putD t x)=false:=by simp [aDx,putD,hne]
   have hu:(putD t x).user=[]:=rfl
   simp [aEa,aGp,e1,e2,notS,hu]
set_option maxHeartbeats 1000000 in
theorem t341 (D:DnF P F T) (hs:bM5 P F T) (ha:bHj P F T) (G:GnF P F T) (H:StE P F T usT ttT ok nm) (hpol:∀ w,w∈aF0→PolC P F w∧w.length≤8192) (hU:∀ w u t,w∈aF0→usT u→ttT t→DnU P F w u t) (h342:PTr P (F 342) [] (.bool true)) (h185:∀ t,ttT t→PTr P (F 185) [tV t] (.bool true)) (h363:∀ u,usT u→PTr P (F 363) [.str u] (.bool true))
 (l m:List Int) (hl:l.length<2^63) (hm:m.length<2^63) (base:Int) (text:List UInt8):PTr P (F 341) [.lst 1 (ints l),.lst 1 (ints m),.int .i64 base,.str text] (.bool true):=by
 refine ptrC [] D.f341 (by simp) rfl ?_
 by_cases ht:500<text.length
 ·have ht':(500:Int)<((text.length:Nat):Int):=by omega
  simp only [c341,push_cast,seval,-Nat.reducePow,ht']
  refine aAa h342 (by simp only [push_cast,seval,-Nat.reducePow]) rfl ?_
  exact aAd 3 _ rfl
 ·have ht':¬ (500:Int)<((text.length:Nat):Int):=by omega
  simp only [c341,push_cast,seval,-Nat.reducePow,ht']
  refine aAb (bKk hs ha G H hpol l hl) ?_
  rintro v L1 nx1 ⟨⟨w,hw,s,rfl,hm1,hq1⟩,n1,f1⟩
  refine aAb (bIo G.f331 m hm) ?_
  rintro v L2 nx2 ⟨rfl,e2,n2,f2⟩
  obtain ⟨p,hp⟩:∃ p,p=nx1+169:=⟨_,rfl⟩
  simp only [push_cast,seval,-Nat.reducePow,Stt.v,Stt.cs,stoV,pplV,watV,lasV]
  refine aCo (fun s1=>∃ (u:List UInt8) (t:Ttl) (b c:Nat),usT u∧ttT t∧s1.env 2=.int .i64 base∧s1.env 3=.str text∧s1.env 9=.ptr b 0∧s1.env 11=.str u∧s1.env 12=.ptr c 0∧s1.L b=some (boxS T s)∧s1.L c=some (.box (T 17) [.int .i64 t.1,.str t.2])∧b≠c∧b<s1.nx∧c<s1.nx) ?_ ?_
  ·simp only [push_cast,seval,-Nat.reducePow]
   have s2:Sr (T 42) m L2 p:=⟨0,_,Nat.zero_le _,by rw [hp]; exact e2⟩
   rw [← hp]
   refine aAb (aVf G.f332 G.f349 G.f368 m hm ((s2.put (by omega)).put (by omega)) (by omega)) ?_
   rintro v L3 nx3 ⟨⟨u,rfl,hu⟩,s3,f3⟩
   have n3:=f3.1
   refine aAb (aS6 G.f333 G.f345 G.f349 G.f368 m hm s3 (by omega)) ?_
   rintro v L4 nx4 ⟨⟨t,rfl,htt⟩,s4,f4⟩
   have n4:=f4.1
   simp only [push_cast,seval,-Nat.reducePow,tV,tCs]
   refine ⟨u,t,nx2+9,nx4+12,hu,htt,rfl,rfl,rfl,?_,aAf _ _ _,by omega,by omega,by omega⟩
   rw [aAe _ _ _ _ (by omega),aAe _ _ _ _ (by omega),f4.2 _ (by omega) (by omega),f3.2 _ (by omega) (by omega),aAf]
  ·rintro s1 ⟨u,t,b,c,hu,htt,j2,j3,j9,j11,j12,eb,ec,hbc,jb,jc⟩
   obtain ⟨x,y,z,g,a1,a2,x',y',z',g',b1,b2,hR,hQ,hi⟩:=hU w u t hw hu htt
   have hpr:=aW6 D H hR hm1 (by omega)
   obtain ⟨q1,q2,q3,q4⟩:=hR.i3
   obtain ⟨r1,r2,r3,r4⟩:=hR.i1
   have hu185:=h185 t htt
   have hu363:=h363 u hu
   have nb:∀ n,¬ b=s1.nx+n:=fun n=>by omega
   have nc:∀ n,¬ c=s1.nx+n:=fun n=>by omega
   simp only [push_cast,seval,-Nat.reducePow,j2,j3,j9,j11,j12,eb,ec]
   refine aAa hpr (by simp only [push_cast,seval,-Nat.reducePow,V.imm,V.imms,aAk,aAp,aAw,aAv]) (by simp only [V.imm,V.imms,q1,q2,q3,Bool.and_self]) ?_
   simp only [push_cast,seval,-Nat.reducePow,j2,j3,j9,j11,j12,eb,ec,q4]
   refine aAa hR.h209 (by simp only [V.imm,V.imms,q1,q2,q3,Bool.and_self]) r1 ?_
   simp only [push_cast,seval,-Nat.reducePow,j2,j3,j9,j11,j12,eb,ec,q4]
   refine aCo (fun s2=>s2.env 2=.int .i64 base∧s2.env 3=.str text∧s2.env 9=.ptr b 0∧s2.env 11=.str u∧s2.env 12=.ptr c 0∧s2.env 15=.bool (a1&&a2)∧s2.L b=some (boxS T s)∧s2.L c=some (.box (T 17) [.int .i64 t.1,.str t.2])∧b<s2.nx∧c<s2.nx) ?_ ?_
   ·simp only [push_cast,seval,-Nat.reducePow,j2,j3,j9,j11,j12,eb,ec,q4,nb,nc]
    refine aAa hR.m1 (by simp only [V.imm,V.imms,q1,q2,q3,r1,Bool.and_self]) rfl ?_
    cases a1 with
    | true =>
      simp only [push_cast,seval,-Nat.reducePow,j2,j3,j9,j11,j12,eb,ec,q4,nb,nc]
      refine aAa hR.m2 (by simp only [V.imm,V.imms,q1,q2,q3,r1,Bool.and_self]) rfl ?_
      simp only [push_cast,seval,-Nat.reducePow,j2,j3,j9,j11,j12,eb,ec,q4,nb,nc]
      exact ⟨by omega,by omega⟩
    | false =>
      simp only [push_cast,seval,-Nat.reducePow,j2,j3,j9,j11,j12,eb,ec,q4,nb,nc]
      exact ⟨by rw [Bool.false_and],by omega,by omega⟩
   ·rintro s2 ⟨k2,k3,k9,k11,k12,k15,kb,kc,lb,lc⟩
    clear j2 j3 j9 j11 j12 eb ec jb jc nb nc
    have nb:∀ n,¬ b=s2.nx+n:=fun n=>by omega
    have nc:∀ n,¬ c=s2.nx+n:=fun n=>by omega
    have hsub:∀ (st:Stt) (k:Nat) (base:Int) (text:List UInt8),MstP usT ttT w k st.seq st→k≤40→(8192<text.length∨(b1&&b2)=false)→PTr P (F 343) [st.v,.str u,tV t,.int .i64 base,.str text,.str []] (outE (if 8192<text.length then 3 else 10)):=fun st k base text h1 h2 h3=>aYg D H hQ hu185 hu363 h1 h2 base text h3
    cases ha12:(a1&&a2) with
    | true =>
      rw [ha12] at k15
      have hbig:=hsub s 30 0 (zb 8193) hm1 (by omega) (.inl (by rw [aUt]; decide))
      rw [if_pos (by rw [aUt]; decide)] at hbig
      simp only [push_cast,seval,-Nat.reducePow,k2,k3,k9,k11,k12,k15,kb,kc,nb,nc]
      refine ⟨by rw [aUt]; exact Nat.le_refl _,zb 8193,List.take_of_length_le (by simp [aAs,aUt]),aAa hbig (by simp only [push_cast,seval,-Nat.reducePow,V.imm,V.imms,aAk,aAp,aAw,aAv]) rfl ?_⟩
      simp only [push_cast,seval,-Nat.reducePow,outE]
      refine aAa h342 (by simp only [push_cast,seval,-Nat.reducePow]) rfl ?_
      simp only [push_cast,seval,-Nat.reducePow]
      exact aAd 3 _ rfl
    | false =>
      rw [ha12] at k15
      have hb12:=hi ha12
      have hpw:=(hpol w hw).1
      have hs1:=hsub s 30 base text hm1 (by omega) (.inr hb12)
      rw [if_neg (by omega)] at hs1
      have hdl:∀ c,c∈[delC t]→ChgP usT ttT c:=fun c hc=>by rw [List.mem_singleton.1 hc]; exact bMr htt
      have hpl:∀ c,c∈[putD t text]→ChgP usT ttT c:=fun c hc=>by rw [List.mem_singleton.1 hc]; exact bDj H.us0 htt (by omega)
      have ad:=aHw H hpw (pol:=fun _=>true) hm1 hdl (by simp) (by simp) (by simp) (by omega)
      have ap:=aHw H hpw (pol:=fun _=>true) hm1 hpl (by simp) (by simp) (by simp) (by omega)
      simp only [push_cast,seval,-Nat.reducePow,k2,k3,k9,k11,k12,k15,kb,kc,nb,nc]
      refine aAa hs1 (by simp only [push_cast,seval,-Nat.reducePow,V.imm,V.imms,aAk,aAp,aAw,aAv]) rfl ?_
      simp only [push_cast,seval,-Nat.reducePow,outE,k2,k3,k9,k11,k12,k15,kb,kc,nb,nc]
      refine aIk ad ?_ ?_ (aIs _) ?_
      ·simp only [List.map_cons,List.map_nil,Stt.v,Stt.cs,delC,Chg.v,Chg.cs,stoV,pplV,watV,lasV,revV,zTtl,aMz,aMy,aFf,aHk,aN1,V.le_refl,and_self]
      ·simp only [V.imm,V.imms,aAk,aAp,aAw,aAv,Bool.and_true,Bool.true_and]
      cases hrd:(aEa ok (fun _=>true) s [delC t]) with
      | mk y e =>
        by_cases he:e=0
        ·subst he
         obtain ⟨m1,m2⟩:=aJ9 H.ntt H.hred hm1 hdl (by simp) hrd
         have hs2:=hsub y 31 base text m1 (by omega) (.inr hb12)
         rw [if_neg (by omega)] at hs2
         simp only [aplV,if_true,outS,Stt.v,Stt.cs,stoV,pplV,watV,lasV,push_cast,seval,-Nat.reducePow,k2,k3,k9,k11,k12,k15,kb,kc,nb,nc]
         refine aAa hs2 (by simp only [push_cast,seval,-Nat.reducePow,V.imm,V.imms,aAk,aAp,aAw,aAv]) rfl ?_
         simp only [push_cast,seval,-Nat.reducePow,outE]
         refine aAa h342 (by simp only [push_cast,seval,-Nat.reducePow]) rfl ?_
         simp only [push_cast,seval,-Nat.reducePow]
         exact aAd 3 _ rfl
        ·have hp2:=bKm (ok:=ok) (pol:=fun _=>true) hm1 (by omega) htt H.ntt text (by rw [hrd]; exact he)
         cases hrp:(aEa ok (fun _=>true) s [putD t text]) with
         | mk y2 e2 =>
           obtain rfl:e2=0:=by rw [hrp] at hp2; exact hp2
           rw [hrp] at ap
           obtain ⟨m1,m2⟩:=aJ9 H.ntt H.hred hm1 hpl (by simp) hrp
           have hs2:=hsub y2 31 base text m1 (by omega) (.inr hb12)
           rw [if_neg (by omega)] at hs2
           simp only [aplV,if_neg he,push_cast,seval,-Nat.reducePow,k2,k3,k9,k11,k12,k15,kb,kc,nb,nc,he]
           refine aIk ap ?_ ?_ (aIs _) ?_
           ·simp only [List.map_cons,List.map_nil,Stt.v,Stt.cs,putD,Chg.v,Chg.cs,stoV,pplV,watV,lasV,revV,zTtl,aMz,aMy,aFf,aHk,aN1,V.le_refl,and_self]
           ·simp only [V.imm,V.imms,aAk,aAp,aAw,aAv,Bool.and_true,Bool.true_and]
           simp only [aplV,if_true,outS,Stt.v,Stt.cs,stoV,pplV,watV,lasV,push_cast,seval,-Nat.reducePow,k2,k3,k9,k11,k12,k15,kb,kc,nb,nc]
           refine aAa hs2 (by simp only [push_cast,seval,-Nat.reducePow,V.imm,V.imms,aAk,aAp,aAw,aAv]) rfl ?_
           simp only [push_cast,seval,-Nat.reducePow,outE]
           refine aAa h342 (by simp only [push_cast,seval,-Nat.reducePow]) rfl ?_
           simp only [push_cast,seval,-Nat.reducePow]
           exact aAd 3 _ rfl
end Go.Ab
