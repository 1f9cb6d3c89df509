/- Several texts of one kind, merged. No condition. -/
import Derived.Test.YtikmbicdjpkipaaGreatDoorAbJ1
import Derived.Test.YtikmbicdjpkipaaGreatDoorAbL2
import Derived.Test.YtikmbicdjpkipaaGreatDoorAbX9
set_option linter.unusedSimpArgs false
set_option linter.unusedVariables false
namespace Go.Ab
def c329 (F T:Nat→Nat):C :=
 .n [.mov (some 6) (.k (.bool false))] <|
 .n [.m 27 0,.e 28 143 (F 330) [.t 27],.m 29 1,.e 30 143 (F 331) [.t 29],.alloc 7 (T 34) [(.int .i64 0),(.int .i64 0),.nils,.nils,.nils,(.int .i64 0),.nils,.nils],.store 8 (.t 7) (.t 28),.m 8 30] <|
 .seqc (.o [.m 31 8,.e 32 143 (F 332) [.t 31],.m 33 8,.e 34 143 (F 333) [.t 33],.m 35 8,.e 36 143 (F 333) [.t 35],.alloc 10 (T 17) [(.int .i64 0),(.str [])],.alloc 11 (T 17) [(.int .i64 0),(.str [])],.m 9 32,.store 2 (.t 10) (.t 34),.store 2 (.t 11) (.t 36)]) <|
 .n [.load (some 37) false 8 true (.t 7),.c 38 (F 334) [.t 37],.alloc 12 (T 16) [.nils,.nils,.nils],.store 3 (.t 12) (.t 38)] <|
 .seq (.seq (.p [.load (some 39) false 3 true (.t 12),.load (some 40) false 3 true (.t 12),.m 41 9,.c 42 (F 209) [.t 40,.t 41],.load (some 43) false 2 true (.t 10),.c 44 (F 192) [.t 39,.t 42,.i 1,.t 43]]) <|
 .cond (.t 44)
 (.n [.c 45 (F 335) [],.m 6 45] <|
 .ret)
 (.skip)) <|
 .seqc (.o [.load (some 47) false 8 true (.t 7),.load (some 48) false 2 true (.t 10),.build (some 49) [(.int .i64 0),(.str []),(.str []),(.int .i64 0),(.str []),(.int .i64 0),(.str []),(.str []),(.int .i64 0),.nils] [(0,1,(.i 2)),(3,2,(.t 48))],.mkl (some 50) 10 [.t 49],.c 51 (F 293) [.t 47,.t 50],.m 46 51,.x 52 0 46,.x 53 1 46,.alloc 13 (T 34) [(.int .i64 0),(.int .i64 0),.nils,.nils,.nils,(.int .i64 0),.nils,.nils],.store 8 (.t 13) (.t 52),.m 14 53]) <|
 .seqc (.n [.m 54 14,.bi 55 .neq 54 0] <|
 .cond (.t 55)
 (.o [.load (some 57) false 8 true (.t 7),.load (some 58) false 2 true (.t 10),.build (some 59) [(.int .i64 0),(.str []),(.str []),(.int .i64 0),(.str []),(.int .i64 0),(.str []),(.str []),(.int .i64 0),.nils] [(0,1,(.i 1)),(3,2,(.t 58)),(7,1,(.s [120]))],.mkl (some 60) 10 [.t 59],.c 61 (F 293) [.t 57,.t 60],.m 56 61,.x 62 0 56,.x 63 1 56,.store 8 (.t 13) (.t 62),.m 14 63])
 (.skip)) <|
 .seqc (.n [.load (some 64) false 8 true (.t 7),.load (some 65) false 8 true (.t 13),.mkl (some 66) 8 [.t 64,.t 65],.ll 67 66,.mov (some 68) (.i 0)] <|
 .block 0 <|
 .loop <|
 .n [.b 69 .lss 68 67] <|
 .seq (.cond (.t 69)
 (.skip)
 (.exit 0)) <|
 .seq (.block 1 <|
 .n [.ia 70 8 66 68,.load (some 71) false 8 true (.t 70),.alloc 16 (T 34) [(.int .i64 0),(.int .i64 0),.nils,.nils,.nils,(.int .i64 0),.nils,.nils],.store 8 (.t 16) (.t 71)] <|
 .n [.load (some 73) false 8 true (.t 16),.m 74 9,.load (some 75) false 2 true (.t 10),.load (some 76) false 2 true (.t 11),.m 77 2,.c 78 (F 336) [.t 73,.t 74,.t 75,.t 76,.t 77],.m 72 78,.x 79 0 72,.x 80 1 72,.m 17 79,.m 18 80] <|
 .seqc (.o [.load (some 82) false 8 true (.t 16),.m 83 9,.load (some 84) false 2 true (.t 11),.load (some 85) false 2 true (.t 10),.m 86 2,.c 87 (F 336) [.t 82,.t 83,.t 84,.t 85,.t 86],.m 81 87,.x 88 0 81,.x 89 1 81,.m 19 88,.m 20 89]) <|
 .n [.load (some 91) false 8 true (.t 16),.m 92 9,.load (some 93) false 2 true (.t 10),.c 94 (F 337) [.t 91,.t 92,.t 93],.m 90 94,.x 95 0 90,.x 96 1 90,.m 21 95,.m 22 96] <|
 .n [.load (some 98) false 8 true (.t 16),.m 99 9,.load (some 100) false 2 true (.t 10),.c 101 (F 338) [.t 98,.t 99,.t 100],.m 97 101,.x 102 0 97,.x 103 1 97,.m 23 102,.m 24 103] <|
 .seqc (.o [.load (some 105) false 8 true (.t 16),.m 106 9,.load (some 107) false 2 true (.t 10),.c 108 (F 339) [.t 105,.t 106,.t 107,(.k .nils)],.m 104 108,.x 109 0 104,.x 110 1 104,.m 25 109,.m 26 110]) <|
 .seq (.ops false [⟨none,[.m 111 18,.bi 112 .neq 111 10,.m 113 112]⟩,
 ⟨some (113,false),[.m 114 20,.bi 115 .neq 114 10]⟩,
 ⟨none,[.pt 116 113 115,.m 117 116]⟩,
 ⟨some (117,false),[.m 118 22,.bi 119 .neq 118 10]⟩,
 ⟨none,[.pt 120 117 119,.m 121 120]⟩,
 ⟨some (121,false),[.m 122 24,.bi 123 .neq 122 10]⟩,
 ⟨none,[.pt 124 121 123,.m 125 124]⟩,
 ⟨some (125,false),[.m 126 26,.bi 127 .neq 126 10]⟩,
 ⟨none,[.pt 128 125 127,.m 129 128]⟩,
 ⟨some (129,false),[.load (some 130) false 8 true (.t 16),.m 131 9,.load (some 132) false 2 true (.t 10),.c 133 (F 340) [.t 130,.t 131,.t 132],.ll 134 133,.bi 135 .neq 134 0]⟩,
 ⟨none,[.pt 136 129 135]⟩]) <|
 .cond (.t 136)
 (.n [.mov (some 6) (.k (.bool false))] <|
 .ret)
 (.skip)) <|
 .o [.bi 137 .add 68 1,.m 68 137]) <|
 .seq (.ops false [⟨none,[.c 138 (F 335) [],.m 139 138]⟩,
 ⟨some (139,true),[.m 140 14,.bi 141 .eql 140 0]⟩,
 ⟨none,[.pf 142 139 141,.m 6 142]⟩]) <|
 .ret
abbrev bIf (P:Program) (F T:Nat→Nat):Prop:=Fn P (F 329) 143 [(6,none)] (c329 F T)
def c336 (F T:Nat→Nat):C :=
 .n [.box 5 (T 34) (.t 0),.box 7 (T 17) (.t 2),.box 8 (T 17) (.t 3),.mov (some 10) (.k .nils),.mov (some 11) (.i 0)] <|
 .seq (.seq (.ops false [⟨none,[.load (some 19) false 2 true (.t 7),.c 20 (F 185) [.t 19],.un (some 21) .not (.t 20),.m 22 21]⟩,
 ⟨some (22,false),[.load (some 23) false 2 true (.t 8),.c 24 (F 185) [.t 23],.un (some 25) .not (.t 24)]⟩,
 ⟨none,[.pt 26 22 25,.m 27 26]⟩,
 ⟨some (27,false),[.m 28 1,.c 29 (F 352) [.t 28],.un (some 30) .not (.t 29)]⟩,
 ⟨none,[.pt 31 27 30]⟩]) <|
 .cond (.t 31)
 (.n [.mov (some 10) (.k .nils),.mov (some 11) (.i 2)] <|
 .ret)
 (.skip)) <|
 .seqc (.o [.load (some 32) false 8 true (.t 5),.m 33 1,.c 34 (F 347) [.t 32,.t 33],.alloc 12 (T 43) [.nils,.nils,.nils,.nils],.store 4 (.t 12) (.t 34)]) <|
 .n [.load (some 36) false 8 true (.t 5),.load (some 37) false 2 true (.t 7),.c 38 (F 353) [.t 36,.t 37],.m 35 38,.x 39 0 35,.x 40 1 35,.m 13 39,.m 14 40] <|
 .n [.load (some 42) false 8 true (.t 5),.load (some 43) false 2 true (.t 8),.c 44 (F 353) [.t 42,.t 43],.m 41 44,.x 45 0 41,.x 46 1 41,.m 15 45,.m 16 46] <|
 .n [.m 47 1,.load (some 48) false 2 true (.t 7),.load (some 49) false 2 true (.t 8),.build (some 50) [(.int .i64 0),(.str []),(.str []),(.int .i64 0),(.str []),(.int .i64 0),(.str []),(.str []),(.int .i64 0),.nils] [(0,1,(.i 4)),(1,1,(.t 47)),(3,2,(.t 48)),(5,2,(.t 49))],.alloc 17 (T 37) [(.int .i64 0),(.str []),(.str []),(.int .i64 0),(.str []),(.int .i64 0),(.str []),(.str []),(.int .i64 0),.nils],.store 10 (.t 17) (.t 50)] <|
 .n [.mov (some 18) (.s [])] <|
 .seqc (.n [.m 51 4] <|
 .cond (.t 51)
 (.o [.load (some 52) false 2 true (.t 8),.c 53 (F 354) [.t 52],.bin (some 54) .add (.s [35,82,69,68,73,82,69,67,84,32,91,91]) (.t 53),.bin (some 55) .add (.t 54) (.s [93,93]),.f 56 8 17,.store 1 (.t 56) (.i 1),.m 18 55])
 (.skip)) <|
 .seq (.block 0 <|
 .seq (.ops false [⟨none,[.load (some 58) false 4 true (.t 12),.load (some 59) false 2 true (.t 7),.mkl (some 60) 1 [.i 1,.i 3],.c 61 (F 348) [.t 58,.t 59,.t 60],.un (some 62) .not (.t 61),.m 63 62]⟩,
 ⟨some (63,false),[.load (some 64) false 4 true (.t 12),.load (some 65) false 2 true (.t 8),.mkl (some 66) 1 [.i 1,.i 2],.c 67 (F 348) [.t 64,.t 65,.t 66],.un (some 68) .not (.t 67)]⟩,
 ⟨none,[.pt 69 63 68,.m 57 69]⟩]) <|
 .cond (.t 57)
 (.n [.mov (some 10) (.k .nils),.mov (some 11) (.i 10)] <|
 .ret)
 (.n [.m 71 14,.un (some 72) .not (.t 71),.m 70 72] <|
 .cond (.t 70)
 (.n [.mov (some 10) (.k .nils),.mov (some 11) (.i 4)] <|
 .ret)
 (.n [.m 74 16,.m 73 74] <|
 .cond (.t 73)
 (.n [.mov (some 10) (.k .nils),.mov (some 11) (.i 5)] <|
 .ret)
 (.seq (.ops false [⟨none,[.load (some 76) false 2 true (.t 7),.load (some 77) false 2 true (.k (.cptr [(.int .i64 5),(.str [80,111,108,105,99,121])])),.eqA (some 78) false [0,1] (.t 76) (.t 77),.m 79 78]⟩,
 ⟨some (79,false),[.load (some 80) false 2 true (.t 8),.load (some 81) false 2 true (.k (.cptr [(.int .i64 5),(.str [80,111,108,105,99,121])])),.eqA (some 82) false [0,1] (.t 80) (.t 81)]⟩,
 ⟨none,[.pt 83 79 82,.m 75 83]⟩]) <|
 .cond (.t 75)
 (.n [.mov (some 10) (.k .nils),.mov (some 11) (.i 7)] <|
 .ret)
 (.seq (.ops false [⟨none,[.load (some 85) false 4 true (.t 12),.load (some 86) false 2 true (.t 7),.m 87 13,.m 88 18,.c 89 (F 355) [.t 85,.t 86,.t 87,.t 88],.un (some 90) .not (.t 89),.m 91 90]⟩,
 ⟨some (91,false),[.load (some 92) false 4 true (.t 12),.load (some 93) false 2 true (.t 8),.m 94 13,.c 95 (F 355) [.t 92,.t 93,.s [],.t 94],.un (some 96) .not (.t 95)]⟩,
 ⟨none,[.pt 97 91 96,.m 84 97]⟩]) <|
 .cond (.t 84)
 (.n [.mov (some 10) (.k .nils),.mov (some 11) (.i 10)] <|
 .ret)
 (.skip)))))) <|
 .n [.load (some 98) false 10 true (.t 17),.mkl (some 99) 10 [.t 98],.m 10 99,.mov (some 11) (.i 0)] <|
 .ret
abbrev bEt (P:Program) (F T:Nat→Nat):Prop:=Fn P (F 336) 100 [(10,none),(11,none)] (c336 F T)
def c337 (F T:Nat→Nat):C :=
 .n [.box 3 (T 34) (.t 0),.box 5 (T 17) (.t 2),.mov (some 6) (.k .nils),.mov (some 7) (.i 0)] <|
 .seq (.seq (.ops false [⟨none,[.load (some 11) false 2 true (.t 5),.c 12 (F 185) [.t 11],.un (some 13) .not (.t 12),.m 14 13]⟩,
 ⟨some (14,false),[.m 15 1,.c 16 (F 352) [.t 15],.un (some 17) .not (.t 16)]⟩,
 ⟨none,[.pt 18 14 17]⟩]) <|
 .cond (.t 18)
 (.n [.mov (some 6) (.k .nils),.mov (some 7) (.i 2)] <|
 .ret)
 (.skip)) <|
 .n [.load (some 19) false 8 true (.t 3),.m 20 1,.c 21 (F 347) [.t 19,.t 20],.alloc 8 (T 43) [.nils,.nils,.nils,.nils],.store 4 (.t 8) (.t 21)] <|
 .n [.load (some 23) false 8 true (.t 3),.load (some 24) false 2 true (.t 5),.c 25 (F 353) [.t 23,.t 24],.m 22 25,.x 26 0 22,.x 27 1 22,.m 9 26,.m 10 27] <|
 .seq (.block 0 <|
 .n [.load (some 29) false 4 true (.t 8),.load (some 30) false 2 true (.t 5),.mkl (some 31) 1 [.i 1,.i 4],.c 32 (F 348) [.t 29,.t 30,.t 31],.un (some 33) .not (.t 32),.m 28 33] <|
 .cond (.t 28)
 (.n [.mov (some 6) (.k .nils),.mov (some 7) (.i 10)] <|
 .ret)
 (.n [.m 35 10,.un (some 36) .not (.t 35),.m 34 36] <|
 .cond (.t 34)
 (.n [.mov (some 6) (.k .nils),.mov (some 7) (.i 4)] <|
 .ret)
 (.n [.load (some 38) false 2 true (.t 5),.load (some 39) false 2 true (.k (.cptr [(.int .i64 5),(.str [80,111,108,105,99,121])])),.eqA (some 40) false [0,1] (.t 38) (.t 39),.m 37 40] <|
 .cond (.t 37)
 (.n [.mov (some 6) (.k .nils),.mov (some 7) (.i 7)] <|
 .ret)
 (.n [.load (some 42) false 4 true (.t 8),.load (some 43) false 2 true (.t 5),.m 44 9,.c 45 (F 355) [.t 42,.t 43,.t 44,.s []],.un (some 46) .not (.t 45),.m 41 46] <|
 .cond (.t 41)
 (.n [.mov (some 6) (.k .nils),.mov (some 7) (.i 10)] <|
 .ret)
 (.skip))))) <|
 .n [.m 47 1,.load (some 48) false 2 true (.t 5),.build (some 49) [(.int .i64 0),(.str []),(.str []),(.int .i64 0),(.str []),(.int .i64 0),(.str []),(.str []),(.int .i64 0),.nils] [(0,1,(.i 2)),(1,1,(.t 47)),(3,2,(.t 48))],.mkl (some 50) 10 [.t 49],.m 6 50,.mov (some 7) (.i 0)] <|
 .ret
abbrev bFu (P:Program) (F T:Nat→Nat):Prop:=Fn P (F 337) 51 [(6,none),(7,none)] (c337 F T)
def c338 (F T:Nat→Nat):C :=
 .n [.box 3 (T 34) (.t 0),.box 5 (T 17) (.t 2),.mov (some 6) (.k .nils),.mov (some 7) (.i 0)] <|
 .seq (.seq (.ops false [⟨none,[.load (some 13) false 2 true (.t 5),.c 14 (F 185) [.t 13],.un (some 15) .not (.t 14),.m 16 15]⟩,
 ⟨some (16,false),[.m 17 1,.c 18 (F 352) [.t 17],.un (some 19) .not (.t 18)]⟩,
 ⟨none,[.pt 20 16 19]⟩]) <|
 .cond (.t 20)
 (.n [.mov (some 6) (.k .nils),.mov (some 7) (.i 2)] <|
 .ret)
 (.skip)) <|
 .n [.load (some 21) false 8 true (.t 3),.m 22 1,.c 23 (F 347) [.t 21,.t 22],.alloc 8 (T 43) [.nils,.nils,.nils,.nils],.store 4 (.t 8) (.t 23)] <|
 .n [.load (some 25) false 8 true (.t 3),.load (some 26) false 2 true (.t 5),.c 27 (F 353) [.t 25,.t 26],.m 24 27,.x 28 0 24,.x 29 1 24,.m 9 28,.m 10 29] <|
 .n [.load (some 31) false 8 true (.t 3),.load (some 32) false 2 true (.t 5),.c 33 (F 356) [.t 31,.t 32],.m 30 33,.x 34 0 30,.x 35 1 30,.m 11 34,.m 12 35] <|
 .seq (.block 0 <|
 .n [.load (some 37) false 4 true (.t 8),.load (some 38) false 2 true (.t 5),.mkl (some 39) 1 [.i 1,.i 4],.c 40 (F 348) [.t 37,.t 38,.t 39],.un (some 41) .not (.t 40),.m 36 41] <|
 .cond (.t 36)
 (.n [.mov (some 6) (.k .nils),.mov (some 7) (.i 10)] <|
 .ret)
 (.n [.m 43 10,.m 42 43] <|
 .cond (.t 42)
 (.n [.mov (some 6) (.k .nils),.mov (some 7) (.i 5)] <|
 .ret)
 (.n [.m 45 12,.un (some 46) .not (.t 45),.m 44 46] <|
 .cond (.t 44)
 (.n [.mov (some 6) (.k .nils),.mov (some 7) (.i 4)] <|
 .ret)
 (.n [.load (some 48) false 2 true (.t 5),.load (some 49) false 2 true (.k (.cptr [(.int .i64 5),(.str [80,111,108,105,99,121])])),.eqA (some 50) false [0,1] (.t 48) (.t 49),.m 47 50] <|
 .cond (.t 47)
 (.n [.mov (some 6) (.k .nils),.mov (some 7) (.i 7)] <|
 .ret)
 (.n [.load (some 52) false 4 true (.t 8),.load (some 53) false 2 true (.t 5),.m 54 11,.c 55 (F 355) [.t 52,.t 53,.s [],.t 54],.un (some 56) .not (.t 55),.m 51 56] <|
 .cond (.t 51)
 (.n [.mov (some 6) (.k .nils),.mov (some 7) (.i 10)] <|
 .ret)
 (.skip)))))) <|
 .n [.m 57 1,.load (some 58) false 2 true (.t 5),.build (some 59) [(.int .i64 0),(.str []),(.str []),(.int .i64 0),(.str []),(.int .i64 0),(.str []),(.str []),(.int .i64 0),.nils] [(0,1,(.i 3)),(1,1,(.t 57)),(3,2,(.t 58))],.mkl (some 60) 10 [.t 59],.m 6 60,.mov (some 7) (.i 0)] <|
 .ret
abbrev bFb (P:Program) (F T:Nat→Nat):Prop:=Fn P (F 338) 61 [(6,none),(7,none)] (c338 F T)
def c339 (F T:Nat→Nat):C :=
 .n [.box 4 (T 34) (.t 0),.box 6 (T 17) (.t 2),.mov (some 8) (.k .nils),.mov (some 9) (.i 0)] <|
 .seq (.seq (.ops false [⟨none,[.load (some 16) false 2 true (.t 6),.c 17 (F 185) [.t 16],.un (some 18) .not (.t 17),.m 19 18]⟩,
 ⟨some (19,false),[.m 20 1,.c 21 (F 352) [.t 20],.un (some 22) .not (.t 21)]⟩,
 ⟨none,[.pt 23 19 22]⟩]) <|
 .cond (.t 23)
 (.n [.mov (some 8) (.k .nils),.mov (some 9) (.i 2)] <|
 .ret)
 (.skip)) <|
 .n [.load (some 24) false 8 true (.t 4),.m 25 1,.c 26 (F 347) [.t 24,.t 25],.alloc 10 (T 43) [.nils,.nils,.nils,.nils],.store 4 (.t 10) (.t 26)] <|
 .seq (.n [.load (some 27) false 4 true (.t 10),.load (some 28) false 2 true (.t 6),.mkl (some 29) 1 [.i 1,.i 2,.i 5],.c 30 (F 348) [.t 27,.t 28,.t 29],.un (some 31) .not (.t 30)] <|
 .cond (.t 31)
 (.n [.mov (some 8) (.k .nils),.mov (some 9) (.i 10)] <|
 .ret)
 (.skip)) <|
 .seq (.n [.load (some 33) false 8 true (.t 4),.load (some 34) false 2 true (.t 6),.c 35 (F 353) [.t 33,.t 34],.m 32 35,.x 36 0 32,.x 37 1 32,.m 11 36,.m 12 37] <|
 .n [.m 38 12] <|
 .cond (.t 38)
 (.n [.mov (some 8) (.k .nils),.mov (some 9) (.i 5)] <|
 .ret)
 (.skip)) <|
 .seq (.p [.m 39 1,.load (some 40) false 2 true (.t 6),.m 41 3,.c 42 (F 357) [.t 41],.build (some 43) [(.int .i64 0),(.str []),(.str []),(.int .i64 0),(.str []),(.int .i64 0),(.str []),(.str []),(.int .i64 0),.nils] [(0,1,(.i 5)),(1,1,(.t 39)),(3,2,(.t 40)),(9,1,(.t 42))],.alloc 13 (T 37) [(.int .i64 0),(.str []),(.str []),(.int .i64 0),(.str []),(.int .i64 0),(.str []),(.str []),(.int .i64 0),.nils],.store 10 (.t 13) (.t 43)]) <|
 .seq (.n [.load (some 44) false 10 true (.t 13),.c 45 (F 358) [.t 44],.m 14 45] <|
 .n [.m 46 14,.bi 47 .neq 46 0] <|
 .cond (.t 47)
 (.n [.m 48 14,.mov (some 8) (.k .nils),.m 9 48] <|
 .ret)
 (.skip)) <|
 .n [.m 49 3,.m 50 3,.ll 51 50,.bi 52 .sub 51 1,.ia 53 6 49 52,.load (some 54) false 6 true (.t 53),.alloc 15 (T 36) [(.int .i64 0),(.str []),(.str []),(.str []),(.int .i64 0),(.int .i64 0)],.store 6 (.t 15) (.t 54)] <|
 .seq (.block 0 <|
 .n [.f 56 4 15,.l 57 56,.f 58 1 4,.l 59 58,.b 60 .gtr 57 59,.m 55 60] <|
 .cond (.t 55)
 (.n [.mov (some 8) (.k .nils),.mov (some 9) (.i 2)] <|
 .ret)
 (.n [.load (some 62) false 2 true (.t 6),.load (some 63) false 2 true (.k (.cptr [(.int .i64 5),(.str [80,111,108,105,99,121])])),.eqA (some 64) false [0,1] (.t 62) (.t 63),.m 61 64] <|
 .cond (.t 61)
 (.n [.mov (some 8) (.k .nils),.mov (some 9) (.i 7)] <|
 .ret)
 (.n [.load (some 66) false 4 true (.t 10),.load (some 67) false 2 true (.t 6),.f 68 3 15,.l 69 68,.c 70 (F 355) [.t 66,.t 67,.s [],.t 69],.un (some 71) .not (.t 70),.m 65 71] <|
 .cond (.t 65)
 (.n [.mov (some 8) (.k .nils),.mov (some 9) (.i 10)] <|
 .ret)
 (.skip)))) <|
 .n [.load (some 72) false 10 true (.t 13),.mkl (some 73) 10 [.t 72],.m 8 73,.mov (some 9) (.i 0)] <|
 .ret
abbrev bCf (P:Program) (F T:Nat→Nat):Prop:=Fn P (F 339) 74 [(8,none),(9,none)] (c339 F T)
def c340 (F T:Nat→Nat):C :=
 .n [.box 3 (T 34) (.t 0),.box 5 (T 17) (.t 2),.mov (some 6) (.k .nils)] <|
 .n [.load (some 11) false 8 true (.t 3),.load (some 12) false 2 true (.t 5),.c 13 (F 346) [.t 11,.t 12],.m 10 13,.x 14 0 10,.x 15 1 10,.alloc 7 (T 35) [(.int .i64 0),(.str []),.nils],.store 3 (.t 7) (.t 14),.m 8 15] <|
 .seq (.seq (.p [.load (some 16) false 8 true (.t 3),.m 17 1,.c 18 (F 347) [.t 16,.t 17],.load (some 19) false 2 true (.t 5),.mkl (some 20) 1 [.i 1],.c 21 (F 348) [.t 18,.t 19,.t 20],.un (some 22) .not (.t 21)]) <|
 .cond (.t 22)
 (.n [.mov (some 6) (.k .nils)] <|
 .ret)
 (.skip)) <|
 .seq (.n [.f 23 2 7,.l 24 23,.ll 25 24,.mov (some 26) (.i 0)] <|
 .block 0 <|
 .loop <|
 .n [.b 27 .lss 26 25] <|
 .seq (.cond (.t 27)
 (.skip)
 (.exit 0)) <|
 .seq (.block 1 <|
 .n [.m 28 26,.m 9 28] <|
 .o [.f 29 2 7,.l 30 29,.m 31 9,.ia 32 6 30 31,.f 33 5 32,.store 1 (.t 33) (.i 0)]) <|
 .o [.bi 34 .add 26 1,.m 26 34]) <|
 .n [.f 35 2 7,.l 36 35,.m 6 36] <|
 .ret
abbrev bBv (P:Program) (F T:Nat→Nat):Prop:=Fn P (F 340) 37 [(6,none)] (c340 F T)
def c347 (F T:Nat→Nat):C :=
 .n [.box 2 (T 34) (.t 0),.alloc 4 (T 43) [.nils,.nils,.nils,.nils]] <|
 .n [.load (some 6) false 8 true (.t 2),.c 7 (F 359) [.t 6],.alloc 5 (T 16) [.nils,.nils,.nils],.store 3 (.t 5) (.t 7)] <|
 .seq (.p [.load (some 8) false 3 true (.t 5),.load (some 9) false 3 true (.t 5),.m 10 1,.c 11 (F 180) [.t 9,.t 10],.build (some 12) [.nils,.nils,.nils,.nils] [(0,3,(.t 8)),(3,1,(.t 11))],.store 4 (.t 4) (.t 12)]) <|
 .ret
abbrev bBt (P:Program) (F T:Nat→Nat):Prop:=Fn P (F 347) 13 [(4,(some (4,true)))] (c347 F T)
def c348 (F T:Nat→Nat):C :=
 .n [.box 3 (T 43) (.t 0),.box 4 (T 17) (.t 1),.mov (some 6) (.k (.bool false))] <|
 .seq (.n [.m 9 2,.ll 10 9,.mov (some 11) (.i 0)] <|
 .block 0 <|
 .loop <|
 .n [.b 12 .lss 11 10] <|
 .seq (.cond (.t 12)
 (.skip)
 (.exit 0)) <|
 .seq (.block 1 <|
 .n [.ia 13 1 9 11,.l 14 13,.m 8 14] <|
 .n [.f 15 0 3,.load (some 16) false 3 true (.t 15),.f 17 3 3,.l 18 17,.m 19 8,.load (some 20) false 2 true (.t 4),.c 21 (F 178) [.t 16,.t 18,.t 19,.t 20],.un (some 22) .not (.t 21)] <|
 .cond (.t 22)
 (.n [.mov (some 6) (.k (.bool false))] <|
 .ret)
 (.skip)) <|
 .o [.bi 23 .add 11 1,.m 11 23]) <|
 .n [.mov (some 6) (.k (.bool true))] <|
 .ret
abbrev bEk (P:Program) (F T:Nat→Nat):Prop:=Fn P (F 348) 24 [(6,none)] (c348 F T)
def c352 (F T:Nat→Nat):C :=
 .n [.mov (some 2) (.k (.bool false))] <|
 .seq (.ops false [⟨none,[.m 3 0,.bin (some 4) .eql (.t 3) (.s []),.m 5 4]⟩,
 ⟨some (5,false),[.m 6 0,.c 7 (F 191) [.t 6]]⟩,
 ⟨none,[.pt 8 5 7,.m 2 8]⟩]) <|
 .ret
abbrev bFl (P:Program) (F T:Nat→Nat):Prop:=Fn P (F 352) 9 [(2,none)] (c352 F T)
def c353 (F T:Nat→Nat):C :=
 .n [.box 2 (T 34) (.t 0),.box 3 (T 17) (.t 1),.mov (some 4) (.s []),.mov (some 5) (.k (.bool false))] <|
 .n [.load (some 9) false 8 true (.t 2),.load (some 10) false 2 true (.t 3),.c 11 (F 346) [.t 9,.t 10],.m 8 11,.x 12 0 8,.x 13 1 8,.alloc 6 (T 35) [(.int .i64 0),(.str []),.nils],.store 3 (.t 6) (.t 12),.m 7 13] <|
 .n [.load (some 14) false 3 true (.t 6),.c 15 (F 360) [.t 14],.field (some 16) 3 1 false (.t 15),.m 17 7,.m 4 16,.m 5 17] <|
 .ret
abbrev bEg (P:Program) (F T:Nat→Nat):Prop:=Fn P (F 353) 18 [(4,none),(5,none)] (c353 F T)
end Go.Ab
namespace Go.Ab
variable {P:Program} {F T:Nat→Nat}
theorem t347 (hf:bBt P F T) (s:Stt) (u:List UInt8) {x y z g:V} (h359:PTr P (F 359) [s.v] (.agg [x,y,z])) (h180:PTr P (F 180) [.agg [x,y,z],.str u] g) (ix:x.imm=true) (iy:y.imm=true) (iz:z.imm=true) (ho:(x.one&&(y.one&&z.one))=true) (ig:g.imm=true) (hg1:g.one=true) (hgc:g.cells=[g]) (hgn:g.ncells=some 1) :
 PTr P (F 347) [s.v,.str u] (.agg [x,y,z,g]):=by
 have him:(V.agg [x,y,z,g]).imm=true:=by simp only [V.imm,V.imms,ix,iy,iz,ig,Bool.and_self]
 have ho4:(x.one&&(y.one&&(z.one&&g.one)))=true:=by
  simp only [Bool.and_eq_true] at ho ⊢
  exact ⟨ho.1,ho.2.1,ho.2.2,hg1⟩
 refine ptrC [] hf (by simp) him ?_
 simp only [c347,push_cast,seval,-Nat.reducePow,Stt.v,Stt.cs,stoV,pplV,watV,lasV]
 refine aAa h359 (by simp only [push_cast,seval,-Nat.reducePow,V.imm,V.imms,aAg,aAl,aAo,aAn]) (by simp only [V.imm,V.imms,ix,iy,iz,Bool.and_self]) ?_
 simp only [push_cast,seval,-Nat.reducePow,ho]
 refine aAa h180 (by simp only [V.imm,V.imms,ix,iy,iz,Bool.and_self]) ig ?_
 simp only [push_cast,seval,-Nat.reducePow,ho,ho4,hgc,hgn,hg1]
 exact aAc 3 _ him
theorem t352 (hf:bFl P F T) {nm:List UInt8→Bool} (s:List UInt8) (h191:PTr P (F 191) [.str s] (.bool (nm s))):PTr P (F 352) [.str s] (.bool (decide (s=[])||nm s)):=by
 refine ptrC [] hf (by simp) rfl ?_
 by_cases h:s=[]
 ·simp only [c352,push_cast,seval,-Nat.reducePow,h]
  exact aAc 3 _ rfl
 ·simp only [c352,push_cast,seval,-Nat.reducePow,h]
  refine aAa h191 (by simp only [push_cast,seval,-Nat.reducePow]) (by simp only [push_cast,seval,-Nat.reducePow]) ?_
  simp only [push_cast,seval,-Nat.reducePow]
  exact aAc 3 _ rfl
theorem t348 (hf:bEk P F T) (t:Ttl) (b:Int→Bool) {x y z g:V} (rs:List Int) (hm:∀ r,r∈rs→PTr P (F 178) [.agg [x,y,z],g,.int .i64 r,tV t] (.bool (b r))) (ix:x.imm=true) (iy:y.imm=true) (iz:z.imm=true) (ig:g.imm=true) (ho:(x.one&&(y.one&&(z.one&&g.one)))=true) (hl:rs.length≤10) :
 PTr P (F 348) [.agg [x,y,z,g],tV t,.lst 1 (ints rs)] (.bool (rs.all b)):=by
 have hlr:(ints rs).length=rs.length:=List.length_map ..
 refine ptrC [] hf (by simp) rfl ?_
 simp only [c348,push_cast,seval,-Nat.reducePow,tV,tCs,hlr,ho]
 refine aAm (fun m s1=>∃ a q,rs=a++q∧m=q.length∧a.all b=true∧s1.env 3=.ptr 3 0∧s1.env 4=.ptr 4 0∧s1.env 9=.lst 1 (ints rs)∧s1.env 10=.int .i64 rs.length∧s1.env 11=.int .i64 a.length∧s1.L 3=some (.box (T 43) [x,y,z,g])∧s1.L 4=some (.box (T 17) [.int .i64 t.1,.str t.2])∧4<s1.nx) rs.length ?_ fun m s1 hJ=>?_
 ·simp only [push_cast,seval,-Nat.reducePow]
  exact ⟨[],rs,rfl,rfl,rfl,rfl⟩
 ·obtain ⟨a,q,hb,rfl,hall,j3,j4,j9,j10,j11,e3,e4,jn⟩:=hJ
  have hb2:rs.length=a.length+q.length:=by rw [hb]; simp
  cases q with
  | nil =>
    have h1:¬ ((a.length:Nat):Int)<((rs.length:Nat):Int):=by simp at hb2; omega
    have e:rs.all b=true:=by rw [hb]; simpa using hall
    simp only [push_cast,seval,-Nat.reducePow,j3,j4,j9,j10,j11,e3,e4,h1,e]
    exact aAc 3 _ rfl
  | cons r q =>
    rw [List.length_cons] at hb2
    have h1:((a.length:Nat):Int)<((rs.length:Nat):Int):=by omega
    have hg:(ints rs).getD a.length .junk=.int .i64 r:=by rw [hb]; simp [ints,List.getD_eq_getElem?_getD]
    have hc:=hm r (by rw [hb]; simp)
    simp only [tV,tCs] at hc
    simp only [push_cast,seval,-Nat.reducePow,j3,j4,j9,j10,j11,e3,e4,h1,hg,hlr,ho]
    refine ⟨by omega,aAa hc (by simp only [V.imm,V.imms,ix,iy,iz,ig,Bool.and_self]) rfl ?_⟩
    cases hbr:b r with
    | false =>
      have e:rs.all b=false:=by rw [hb]; simp [hbr]
      simp only [push_cast,seval,-Nat.reducePow,j3,j4,j9,j10,j11,e3,e4,e]
      exact aAc 3 _ rfl
    | true =>
      simp only [push_cast,seval,-Nat.reducePow,j3,j4,j9,j10,j11,e3,e4]
      exact ⟨⟨by omega,by omega⟩,q.length,by omega,a++[r],q,by rw [hb]; simp,rfl,by simp [hall,hbr],by simp,by omega⟩
theorem bMb (hf:aXt P F T) (s:Stt) (t:Ttl) (hno:∀ p,p∈s.pages→p.t≠t) (hl:s.pages.length≤2^30):PTr P (F 346) [s.v,tV t] (aIn none):=by
 have hlp:(s.pages.map Sto.v).length=s.pages.length:=List.length_map ..
 refine ptrC [] hf (by simp) rfl ?_
 simp only [c346,push_cast,seval,-Nat.reducePow,Stt.v,Stt.cs,stoV,pplV,watV,lasV,tV,tCs,hlp]
 refine aAm (fun m s1=>∃ b q,s.pages=b++q∧m=q.length∧s1.env 2=.ptr 2 0∧s1.env 3=.ptr 3 0∧s1.env 4=.ptr 4 0∧s1.env 9=.lst 3 (s.pages.map Sto.v)∧s1.env 10=.int .i64 s.pages.length∧s1.env 11=.int .i64 b.length∧s1.L 3=some (.box (T 17) [.int .i64 t.1,.str t.2])∧s1.L 4=some (.box (T 35) [.int .i64 0,.str [],.nils])∧4<s1.nx) s.pages.length ?_ fun m s1 hJ=>?_
 ·simp only [push_cast,seval,-Nat.reducePow]
  exact ⟨[],s.pages,rfl,rfl,rfl⟩
 ·obtain ⟨b,q,hb,rfl,j2,j3,j4,j9,j10,j11,e3,e4,jn⟩:=hJ
  have hb2:s.pages.length=b.length+q.length:=by rw [hb]; simp
  cases q with
  | nil =>
    have h1:¬ ((b.length:Nat):Int)<((s.pages.length:Nat):Int):=by simp at hb2; omega
    simp only [push_cast,seval,-Nat.reducePow,j2,j3,j4,j9,j10,j11,e3,e4,h1]
    exact aAc 3 _ rfl
  | cons x q =>
    rw [List.length_cons] at hb2
    have h1:((b.length:Nat):Int)<((s.pages.length:Nat):Int):=by omega
    have hg:(s.pages.map Sto.v).getD b.length .junk=.agg [.int .i64 x.t.1,.str x.t.2,revV x.hist]:=by rw [hb]; simp [List.getD_eq_getElem?_getD,Sto.v]
    have h1v:(revV x.hist).one=true:=rfl
    have hx:=hno x (by rw [hb]; simp)
    have hd:(decide (x.t.1=t.1)&&decide (x.t.2=t.2))=false:=by
     simp only [Bool.and_eq_false_iff,decide_eq_false_iff_not]
     by_cases h:x.t.1=t.1
     ·exact .inr fun h2=>hx (Prod.ext h h2)
     ·exact .inl h
    simp only [push_cast,seval,-Nat.reducePow,j2,j3,j4,j9,j10,j11,e3,e4,h1,hg,h1v,hd]
    exact ⟨by omega,⟨by omega,by omega⟩,q.length,by omega,b++[x],q,by rw [hb]; simp,rfl,by simp,by omega⟩
theorem bO6 (hf:aXt P F T) (h371:aVz P F T) (h357:aSn P F T) (s:Stt) (t:Ttl) (hh:∀ p,p∈s.pages→0<p.hist.length∧p.hist.length≤2^30) (hl:s.pages.length≤2^30):PTr P (F 346) [s.v,tV t] (aIn (aCw s t)):=by
 cases h:aCw s t with
 | none =>
   refine bMb hf s t ?_ hl
   unfold aCw at h
   exact aCz (Option.map_eq_none_iff.1 h)
 | some p =>
   have hp:p∈s.pages:=by
    unfold aCw at h
    obtain ⟨i,hi,rfl⟩:=Option.map_eq_some_iff.1 h
    exact aD6 hi
   exact t346 hf h371 h357 s t p h (hh p hp).1 hl (hh p hp).2
def txS (s:Stt) (t:Ttl):List UInt8:=match aCw s t with | some p=>(curS p).text | none=>[]
theorem t353 (hf:bEg P F T) (h360:aYy P F T) (s:Stt) (t:Ttl) (h346:PTr P (F 346) [s.v,tV t] (aIn (aCw s t))) (hh:∀ p,p∈s.pages→p.hist.length≤2^30):PTr P (F 353) [s.v,tV t] (.tup [.str (txS s t),.bool (aCw s t).isSome]):=by
 have key:∀ (pv:V) (r:Rev) (k:Bool),(∃ a b c,pv=.agg [a,b,c]∧(a.one&&(b.one&&c.one))=true∧V.imms [a,b,c]=true)→PTr P (F 346) [s.v,tV t] (.tup [pv,.bool k])→PTr P (F 360) [pv] r.v→PTr P (F 353) [s.v,tV t] (.tup [.str r.text,.bool k]):=by
  rintro pv r k ⟨a,b,c,rfl,ho,hi⟩ h1 h2
  refine ptrC [] hf (by simp) rfl ?_
  simp only [c353,push_cast,seval,-Nat.reducePow,Stt.v,Stt.cs,stoV,pplV,watV,lasV,tV,tCs]
  refine aAa h1 (by simp only [push_cast,seval,-Nat.reducePow,V.imm,V.imms,aAg,aAl,aAo,aAn]) (by simpa only [V.imm,V.imms,Bool.and_true] using hi) ?_
  simp only [push_cast,seval,-Nat.reducePow,ho]
  simp only [Rev.v] at h2
  refine aAa h2 (by simpa only [V.imm,V.imms,Bool.and_true] using hi) (by simp only [push_cast,seval,-Nat.reducePow]) ?_
  simp only [push_cast,seval,-Nat.reducePow]
  exact aAc 3 _ rfl
 unfold txS
 cases h:aCw s t with
 | none =>
   rw [h] at h346
   have h2:PTr P (F 360) [.agg [.int .i64 0,.str [],.nils]] zRev.v:=(t360 h360 ⟨zTtl,[]⟩ (by simp)).le (by simp only [Sto.v,revV,zTtl,List.map_nil,aDe,aEz,aJa,aIf,V.le_refl,and_self])
   exact key _ zRev false ⟨_,_,_,rfl,rfl,rfl⟩ h346 h2
 | some p =>
   rw [h] at h346
   have hp:p∈s.pages:=by
    unfold aCw at h
    obtain ⟨i,hi,rfl⟩:=Option.map_eq_some_iff.1 h
    exact aD6 hi
   exact key _ (curS p) true ⟨_,_,_,rfl,rfl,by simp only [V.imms,V.imm,aBl,Bool.and_self]⟩ h346 (t360 h360 p (hh p hp))
end Go.Ab
namespace Go.Ab
variable {P:Program} {F T:Nat→Nat}
structure HsP (P:Program) (F:Nat→Nat) (s:Stt) (u:List UInt8) (x y z g:V) (b:Ttl→Int→Bool):Prop where
 h347:PTr P (F 347) [s.v,.str u] (.agg [x,y,z,g])
 h353:∀ t,ttT t→∃ q k,PTr P (F 353) [s.v,tV t] (.tup [.str q,.bool k])
 h348:∀ t rs,ttT t→rs.length≤10→PTr P (F 348) [.agg [x,y,z,g],tV t,.lst 1 (ints rs)] (.bool (rs.all (b t)))
 h185:∀ t,ttT t→PTr P (F 185) [tV t] (.bool true)
 h352:PTr P (F 352) [.str u] (.bool true)
 h354:∀ t,ttT t→∃ q,q.length≤1000∧PTr P (F 354) [tV t] (.str q)
 h356:∀ t,ttT t→∃ q k,PTr P (F 356) [s.v,tV t] (.tup [.str q,.bool k])
 h346:∀ t,ttT t→∃ a c d k,V.imms [a,c,d]=true∧(a.one&&(c.one&&d.one))=true∧PTr P (F 346) [s.v,tV t] (.tup [.agg [a,c,d],.bool k])
 ix:x.imm=true
 iy:y.imm=true
 iz:z.imm=true
 ig:g.imm=true
 ho:(x.one&&(y.one&&(z.one&&g.one)))=true
def den:V:=.tup [.nils,.int .i64 10]
theorem t337 (hf:bFu P F T) {s:Stt} {u:List UInt8} {x y z g:V} {b:Ttl→Int→Bool} (H:HsP P F s u x y z g b) {t:Ttl} (ht:ttT t) (hb:b t 1=false):PTr P (F 337) [s.v,.str u,tV t] den:=by
 have him:(V.agg [x,y,z,g]).imm=true:=by simp only [V.imm,V.imms,H.ix,H.iy,H.iz,H.ig,Bool.and_self]
 have ho:=H.ho
 have h1:=H.h348 t [1,4] ht (by simp)
 rw [show ([1,4]:List Int).all (b t)=false by simp [hb]] at h1
 obtain ⟨q,k,h353⟩:=H.h353 t ht
 refine ptrC [] hf (by simp) rfl ?_
 simp only [c337,push_cast,seval,-Nat.reducePow,Stt.v,Stt.cs,stoV,pplV,watV,lasV,tV,tCs]
 refine aAa (H.h185 t ht) (by simp only [push_cast,seval,-Nat.reducePow]) rfl ?_
 simp only [push_cast,seval,-Nat.reducePow]
 refine aAa H.h352 (by simp only [push_cast,seval,-Nat.reducePow]) rfl ?_
 simp only [push_cast,seval,-Nat.reducePow]
 refine aAa H.h347 (by simp only [push_cast,seval,-Nat.reducePow,V.imm,V.imms,aAg,aAl,aAo,aAn]) him ?_
 simp only [push_cast,seval,-Nat.reducePow,ho]
 refine aAa h353 (by simp only [push_cast,seval,-Nat.reducePow,V.imm,V.imms,aAg,aAl,aAo,aAn]) rfl ?_
 simp only [push_cast,seval,-Nat.reducePow,ho]
 refine aAa h1 (by simp only [V.imm,V.imms,H.ix,H.iy,H.iz,H.ig,Bool.and_self]) rfl ?_
 simp only [push_cast,seval,-Nat.reducePow,ho]
 exact aAc 3 _ rfl
theorem t338 (hf:bFb P F T) {s:Stt} {u:List UInt8} {x y z g:V} {b:Ttl→Int→Bool} (H:HsP P F s u x y z g b) {t:Ttl} (ht:ttT t) (hb:b t 1=false):PTr P (F 338) [s.v,.str u,tV t] den:=by
 have him:(V.agg [x,y,z,g]).imm=true:=by simp only [V.imm,V.imms,H.ix,H.iy,H.iz,H.ig,Bool.and_self]
 have ho:=H.ho
 have h1:=H.h348 t [1,4] ht (by simp)
 rw [show ([1,4]:List Int).all (b t)=false by simp [hb]] at h1
 obtain ⟨q,k,h353⟩:=H.h353 t ht
 obtain ⟨q2,k2,h356⟩:=H.h356 t ht
 refine ptrC [] hf (by simp) rfl ?_
 simp only [c338,push_cast,seval,-Nat.reducePow,Stt.v,Stt.cs,stoV,pplV,watV,lasV,tV,tCs]
 refine aAa (H.h185 t ht) (by simp only [push_cast,seval,-Nat.reducePow]) rfl ?_
 simp only [push_cast,seval,-Nat.reducePow]
 refine aAa H.h352 (by simp only [push_cast,seval,-Nat.reducePow]) rfl ?_
 simp only [push_cast,seval,-Nat.reducePow]
 refine aAa H.h347 (by simp only [push_cast,seval,-Nat.reducePow,V.imm,V.imms,aAg,aAl,aAo,aAn]) him ?_
 simp only [push_cast,seval,-Nat.reducePow,ho]
 refine aAa h353 (by simp only [push_cast,seval,-Nat.reducePow,V.imm,V.imms,aAg,aAl,aAo,aAn]) rfl ?_
 simp only [push_cast,seval,-Nat.reducePow,ho]
 refine aAa h356 (by simp only [push_cast,seval,-Nat.reducePow,V.imm,V.imms,aAg,aAl,aAo,aAn]) rfl ?_
 simp only [push_cast,seval,-Nat.reducePow,ho]
 refine aAa h1 (by simp only [V.imm,V.imms,H.ix,H.iy,H.iz,H.ig,Bool.and_self]) rfl ?_
 simp only [push_cast,seval,-Nat.reducePow,ho]
 exact aAc 3 _ rfl
theorem t339 (hf:bCf P F T) {s:Stt} {u:List UInt8} {x y z g:V} {b:Ttl→Int→Bool} (H:HsP P F s u x y z g b) {t:Ttl} (ht:ttT t) (hb:b t 1=false):PTr P (F 339) [s.v,.str u,tV t,.nils] den:=by
 have him:(V.agg [x,y,z,g]).imm=true:=by simp only [V.imm,V.imms,H.ix,H.iy,H.iz,H.ig,Bool.and_self]
 have ho:=H.ho
 have h1:=H.h348 t [1,2,5] ht (by simp)
 rw [show ([1,2,5]:List Int).all (b t)=false by simp [hb]] at h1
 refine ptrC [] hf (by simp) rfl ?_
 simp only [c339,push_cast,seval,-Nat.reducePow,Stt.v,Stt.cs,stoV,pplV,watV,lasV,tV,tCs]
 refine aAa (H.h185 t ht) (by simp only [push_cast,seval,-Nat.reducePow]) rfl ?_
 simp only [push_cast,seval,-Nat.reducePow]
 refine aAa H.h352 (by simp only [push_cast,seval,-Nat.reducePow]) rfl ?_
 simp only [push_cast,seval,-Nat.reducePow]
 refine aAa H.h347 (by simp only [push_cast,seval,-Nat.reducePow,V.imm,V.imms,aAg,aAl,aAo,aAn]) him ?_
 simp only [push_cast,seval,-Nat.reducePow,ho]
 refine aAa h1 (by simp only [V.imm,V.imms,H.ix,H.iy,H.iz,H.ig,Bool.and_self]) rfl ?_
 simp only [push_cast,seval,-Nat.reducePow,ho]
 exact aAc 3 _ rfl
theorem t340 (hf:bBv P F T) {s:Stt} {u:List UInt8} {x y z g:V} {b:Ttl→Int→Bool} (H:HsP P F s u x y z g b) {t:Ttl} (ht:ttT t) (hb:b t 1=false):PTr P (F 340) [s.v,.str u,tV t] .nils:=by
 have him:(V.agg [x,y,z,g]).imm=true:=by simp only [V.imm,V.imms,H.ix,H.iy,H.iz,H.ig,Bool.and_self]
 have ho:=H.ho
 have h1:=H.h348 t [1] ht (by simp)
 rw [show ([1]:List Int).all (b t)=false by simp [hb]] at h1
 obtain ⟨a,c,d,k,hi,ho2,h346⟩:=H.h346 t ht
 refine ptrC [] hf (by simp) rfl ?_
 simp only [c340,push_cast,seval,-Nat.reducePow,Stt.v,Stt.cs,stoV,pplV,watV,lasV,tV,tCs]
 refine aAa h346 (by simp only [push_cast,seval,-Nat.reducePow,V.imm,V.imms,aAg,aAl,aAo,aAn]) (by simpa only [V.imm,V.imms,Bool.and_true] using hi) ?_
 simp only [push_cast,seval,-Nat.reducePow,ho,ho2]
 refine aAa H.h347 (by simp only [push_cast,seval,-Nat.reducePow,V.imm,V.imms,aAg,aAl,aAo,aAn]) him ?_
 simp only [push_cast,seval,-Nat.reducePow,ho]
 refine aAa h1 (by simp only [V.imm,V.imms,H.ix,H.iy,H.iz,H.ig,Bool.and_self]) rfl ?_
 simp only [push_cast,seval,-Nat.reducePow,ho]
 exact aAc 3 _ rfl
theorem t336 (hf:bEt P F T) {s:Stt} {u:List UInt8} {x y z g:V} {b:Ttl→Int→Bool} (H:HsP P F s u x y z g b) {t c:Ttl} (ht:ttT t) (hc:ttT c) (hb:b t 1=false∨b c 1=false) (red:Bool):PTr P (F 336) [s.v,.str u,tV t,tV c,.bool red] den:=by
 have him:(V.agg [x,y,z,g]).imm=true:=by simp only [V.imm,V.imms,H.ix,H.iy,H.iz,H.ig,Bool.and_self]
 have ho:=H.ho
 have h1:=H.h348 t [1,3] ht (by simp)
 have h2:=H.h348 c [1,2] hc (by simp)
 obtain ⟨q,k,h353⟩:=H.h353 t ht
 obtain ⟨q2,k2,h353c⟩:=H.h353 c hc
 obtain ⟨q3,hq3,h354⟩:=H.h354 c hc
 refine ptrC [] hf (by simp) rfl ?_
 simp only [c336,push_cast,seval,-Nat.reducePow,Stt.v,Stt.cs,stoV,pplV,watV,lasV,tV,tCs]
 refine aAa (H.h185 t ht) (by simp only [push_cast,seval,-Nat.reducePow]) rfl ?_
 simp only [push_cast,seval,-Nat.reducePow]
 refine aAa (H.h185 c hc) (by simp only [push_cast,seval,-Nat.reducePow]) rfl ?_
 simp only [push_cast,seval,-Nat.reducePow]
 refine aAa H.h352 (by simp only [push_cast,seval,-Nat.reducePow]) rfl ?_
 simp only [push_cast,seval,-Nat.reducePow]
 refine aBq (fun s1=>s1.env 1=.str u∧s1.env 4=.bool red∧s1.env 5=.ptr 5 0∧s1.env 7=.ptr 7 0∧s1.env 8=.ptr 8 0∧s1.env 12=.ptr 212 0∧s1.L 5=some (.box (T 34) s.cs)∧s1.L 7=some (.box (T 17) (tCs t))∧s1.L 8=some (.box (T 17) (tCs c))∧s1.L 212=some (.box (T 43) [x,y,z,g])∧212<s1.nx) ?_ ?_
 ·simp only [push_cast,seval,-Nat.reducePow]
  refine aAa H.h347 (by simp only [push_cast,seval,-Nat.reducePow,V.imm,V.imms,aIu,aAg,aAl,aAo,aAn]) him ?_
  simp only [push_cast,seval,-Nat.reducePow,ho,Stt.cs,stoV,pplV,watV,lasV,tCs]
 ·rintro s1 ⟨j1,j4,j5,j7,j8,j12,e5,e7,e8,e12,jn⟩
  have n5:∀ n,¬ 5=s1.nx+n:=fun n=>by omega
  have n7:∀ n,¬ 7=s1.nx+n:=fun n=>by omega
  have n8:∀ n,¬ 8=s1.nx+n:=fun n=>by omega
  have n12:∀ n,¬ 212=s1.nx+n:=fun n=>by omega
  simp only [tCs] at e7 e8
  simp only [Stt.cs,stoV,pplV,watV,lasV] at e5
  simp only [push_cast,seval,-Nat.reducePow,ho,j1,j4,j5,j7,j8,j12,e5,e7,e8,e12]
  refine aAa h353 (by simp only [push_cast,seval,-Nat.reducePow,V.imm,V.imms,aAg,aAl,aAo,aAn]) rfl ?_
  simp only [push_cast,seval,-Nat.reducePow,ho,j1,j4,j5,j7,j8,j12,e5,e7,e8,e12,n5,n7,n8,n12]
  refine aAa h353c (by simp only [push_cast,seval,-Nat.reducePow,V.imm,V.imms,aAg,aAl,aAo,aAn]) rfl ?_
  simp only [push_cast,seval,-Nat.reducePow,ho,j1,j4,j5,j7,j8,j12,e5,e7,e8,e12,n5,n7,n8,n12]
  refine aBq (fun s2=>s2.env 7=.ptr 7 0∧s2.env 8=.ptr 8 0∧s2.env 12=.ptr 212 0∧s2.L 7=some (.box (T 17) [.int .i64 t.1,.str t.2])∧s2.L 8=some (.box (T 17) [.int .i64 c.1,.str c.2])∧s2.L 212=some (.box (T 43) [x,y,z,g])∧212<s2.nx) ?_ ?_
  ·cases red with
   | false =>
     simp only [push_cast,seval,-Nat.reducePow,ho,j1,j4,j5,j7,j8,j12,e5,e7,e8,e12,n5,n7,n8,n12]
     omega
   | true =>
     simp only [push_cast,seval,-Nat.reducePow,ho,j1,j4,j5,j7,j8,j12,e5,e7,e8,e12,n5,n7,n8,n12]
     refine aAa h354 (by simp only [push_cast,seval,-Nat.reducePow]) rfl ?_
     simp only [push_cast,seval,-Nat.reducePow,ho,j1,j4,j5,j7,j8,j12,e5,e7,e8,e12,n5,n7,n8,n12]
     exact ⟨by omega,by omega,by omega⟩
  ·rintro s2 ⟨j7,j8,j12,e7,e8,e12,jn⟩
   simp only [push_cast,seval,-Nat.reducePow,ho,j7,j8,j12,e7,e8,e12]
   refine aAa h1 (by simp only [V.imm,V.imms,H.ix,H.iy,H.iz,H.ig,Bool.and_self]) rfl ?_
   simp only [List.all_cons,List.all_nil,Bool.and_true]
   cases hx:(b t 1&&b t 3) with
   | false =>
     simp only [push_cast,seval,-Nat.reducePow,ho,j7,j8,j12,e7,e8,e12]
     exact aAc 3 _ rfl
   | true =>
     have hc1:b c 1=false:=hb.resolve_left (by simp only [Bool.and_eq_true] at hx; simp [hx.1])
     rw [show ([1,2]:List Int).all (b c)=false by simp [hc1]] at h2
     simp only [push_cast,seval,-Nat.reducePow,ho,j7,j8,j12,e7,e8,e12]
     refine aAa h2 (by simp only [V.imm,V.imms,H.ix,H.iy,H.iz,H.ig,Bool.and_self]) rfl ?_
     simp only [push_cast,seval,-Nat.reducePow,ho,j7,j8,j12,e7,e8,e12]
     exact aAc 3 _ rfl
end Go.Ab
namespace Go.Ab
variable {P:Program} {F T:Nat→Nat}
structure HnF (P:Program) (F T:Nat→Nat):Prop where
 f329:bIf P F T
 f334:bFx P F T
 f336:bEt P F T
 f337:bFu P F T
 f338:bFb P F T
 f339:bCf P F T
 f340:bBv P F T
 f346:aXt P F T
 f347:bBt P F T
 f348:bEk P F T
 f350:aYa P F T
 f351:bEa P F T
 f352:bFl P F T
 f353:bEg P F T
 f357:aSn P F T
 f359:bBr P F T
 f360:aYy P F T
 f371:aVz P F T
structure HnU (P:Program) (F:Nat→Nat) (w u:List UInt8) (x y z g:V) (b:Ttl→Int→Bool):Prop where
 i3:One3 x y z
 i1:One1 g
 h316:∃ n:Int,PTr P (F 316) [.str w] (.tup [.agg [x,y,z],.int .i64 n,.int .i64 0])
 h209:PTr P (F 209) [.agg [x,y,z],.str u] g
 h361:∃ n:Int,PTr P (F 361) [.str w] (.tup [.agg [x,y,z],.int .i64 n,.int .i64 0])
 h180:PTr P (F 180) [.agg [x,y,z],.str u] g
 m:∀ t r,ttT t→PTr P (F 178) [.agg [x,y,z],g,.int .i64 r,tV t] (.bool (b t r))
 n:∀ t r,ttT t→PTr P (F 192) [.agg [x,y,z],g,.int .i64 r,tV t] (.bool (b t r))
theorem aBm {w u:List UInt8} {x y z:V} {gv dv:List V} {rs:List Rul} {g:List (List UInt8)} {n:Int} (hM:∀ t,ttT t→MayP P F t) (hle:V.leL [x,y,z] [.lst 2 gv,.lst 6 (ruV rs),.lst 5 dv]) (h3:One3 x y z)
 (hgv:V.imms gv=true) (hdv:V.imms dv=true) (hrs:rs.length≤2^60) (hg:g.length≤2^60)
 (h316:PTr P (F 316) [.str w] (.tup [.agg [x,y,z],.int .i64 n,.int .i64 0])) (h209:PTr P (F 209) [.agg [x,y,z],.str u] (.lst 1 (g.map .str)))
 (h361:PTr P (F 361) [.str w] (.tup [.agg [x,y,z],.int .i64 n,.int .i64 0])) (h180:PTr P (F 180) [.agg [x,y,z],.str u] (.lst 1 (g.map .str))):∃ x y z g b,HnU P F w u x y z g b:=by
 have h1:One1 (.lst 1 (g.map .str)):=⟨by simp [V.imm,aHy],rfl,rfl,rfl⟩
 have le:∀ (right:Int) (t:Ttl),V.leL [.agg [x,y,z],.lst 1 (g.map .str),.int .i64 right,tV t] [polV gv rs dv,.lst 1 (g.map .str),.int .i64 right,tV t]:=fun right t =>
  ⟨_,_,rfl,⟨_,rfl,hle⟩,V.leL_refl _⟩
 exact ⟨x,y,z,_,fun t r=>mayF rs g r t.1 t.2,h3,h1,⟨n,h316⟩,h209,⟨n,h361⟩,h180,fun t r ht=>((hM t ht gv rs dv g r hgv hdv hrs hg).1).le (le r t),fun t r ht=>((hM t ht gv rs dv g r hgv hdv hrs hg).2).le (le r t)⟩
def GonC (P:Program) (F:Nat→Nat):Prop:=∀ (s:Stt) (t:Ttl),s.gone.length≤2^30→(∀ p,p∈s.gone→p.hist.length≤2^30)→∃ q k,PTr P (F 356) [s.v,tV t] (.tup [.str q,.bool k])
variable {ok:Ttl→Bool} {nm:List UInt8→Bool} {w:List UInt8}
theorem aOn (D:HnF P F T) (H:StE P F T usT ttT ok nm) {u:List UInt8} {x y z g:V} {b:Ttl→Int→Bool} (hd:HnU P F w u x y z g b) {k:Nat} {st:Stt} (hm:MstP usT ttT w k st.seq st) (hk:k≤40):PTr P (F 334) [st.v] (.agg [x,y,z]):=by
 obtain ⟨p,p1,p2,p3,p4⟩:=aOk hm
 have hl:=hm.pagn
 have hh2:=(hm.pagp p p2).2.1.2.1
 obtain ⟨q1,q2,q3,q4⟩:=hd.i3
 obtain ⟨n,h316⟩:=hd.h316
 have h351:=t351 D.f351 H.cd.f299 H.cd.f300 H.cd.f301 st polT p p1 (by omega) (by omega)
 rw [p4] at h351
 exact t334 D.f334 D.f350 st h351 h316 q1 q2 q3 q4
theorem hsP (D:HnF P F T) (hg:GonC P F) (H:StE P F T usT ttT ok nm) {u:List UInt8} {x y z g:V} {b:Ttl→Int→Bool} (hd:HnU P F w u x y z g b) (h185:∀ t,ttT t→PTr P (F 185) [tV t] (.bool true)) (h354:∀ t,ttT t→∃ q,q.length≤1000∧PTr P (F 354) [tV t] (.str q)) (h352:PTr P (F 352) [.str u] (.bool true)) {k:Nat} {st:Stt} (hm:MstP usT ttT w k st.seq st) (hk:k≤40):HsP P F st u x y z g b:=by
 obtain ⟨p,p1,p2,p3,p4⟩:=aOk hm
 have hl:=hm.pagn
 have hgn:=hm.gonn
 have hh:∀ p,p∈st.pages→0<p.hist.length∧p.hist.length≤2^30:=fun p hp=>by
  have h:=(hm.pagp p hp).2
  have h1:=h.1.1
  have h2:=h.1.2.1
  exact ⟨by omega,by omega⟩
 have hgo:∀ p,p∈st.gone→p.hist.length≤2^30:=fun p hp=>by
  have h2:=(hm.gonp p hp).2.1.2.1
  omega
 obtain ⟨q1,q2,q3,q4⟩:=hd.i3
 obtain ⟨r1,r2,r3,r4⟩:=hd.i1
 obtain ⟨n,h361⟩:=hd.h361
 have ho4:(x.one&&(y.one&&(z.one&&g.one)))=true:=by
  simp only [Bool.and_eq_true] at q4 ⊢
  exact ⟨q4.1,q4.2.1,q4.2.2,r2⟩
 have h346:=fun t=>bO6 D.f346 D.f371 D.f357 st t hh (by omega)
 have hpp:=h346 polT
 rw [p1] at hpp
 have h359:=t359 D.f359 st hpp (t360 D.f360 p (hh p p2).2) (by rw [p4]; exact h361) q1 q2 q3 q4
 exact {
  h347:=t347 D.f347 st u h359 hd.h180 q1 q2 q3 q4 r1 r2 r3 r4
  h353:=fun t _=>⟨_,_,t353 D.f353 D.f360 st t (h346 t) fun p hp=>(hh p hp).2⟩
  h348:=fun t rs ht hr=>t348 D.f348 t (b t) rs (fun r _=>hd.m t r ht) q1 q2 q3 r1 ho4 hr
  h185:=h185
  h352:=h352
  h354:=h354
  h356:=fun t _=>hg st t (by omega) hgo
  h346:=fun t _=>by
   have h:=h346 t
   cases e:aCw st t with
   | none=>rw [e] at h; exact ⟨_,_,_,_,rfl,rfl,h⟩
   | some p=>rw [e] at h; exact ⟨_,_,_,_,by simp only [V.imms,V.imm,aBl,Bool.and_self],rfl,h⟩
  ix:=q1
  iy:=q2
  iz:=q3
  ig:=r1
  ho:=ho4 }
set_option maxHeartbeats 1000000 in
theorem t329 (D:HnF P F T) (hgc:GonC P F) (hs:bCb P F T) (ha:bAn P F T) (G:GnF P F T) (H:StE P F T usT ttT ok nm) (hpol:∀ w,w∈aEk→PolC P F w∧w.length≤8192) (hU:∀ w u,w∈aEk→usT u→∃ x y z g b,HnU P F w u x y z g b) (h335:PTr P (F 335) [] (.bool true)) (h185:∀ t,ttT t→PTr P (F 185) [tV t] (.bool true)) (h354:∀ t,ttT t→∃ q,q.length≤1000∧PTr P (F 354) [tV t] (.str q)) (h352:∀ u,usT u→PTr P (F 352) [.str u] (.bool true))
 (l m:List Int) (hl:l.length<2^63) (hm:m.length<2^63) (red:Bool):PTr P (F 329) [.lst 1 (ints l),.lst 1 (ints m),.bool red] (.bool true):=by
 refine ptrC [] D.f329 (by simp) rfl ?_
 simp only [c329,push_cast,seval,-Nat.reducePow]
 refine aAh (bE9 hs ha G H hpol l hl) ?_
 rintro v L1 nx1 ⟨⟨w,hw,s,rfl,hm1,hq1⟩,n1,f1⟩
 refine aAh (bA9 G.f331 m hm) ?_
 rintro v L2 nx2 ⟨rfl,e2,n2,f2⟩
 obtain ⟨p,hp⟩:∃ p,p=nx1+143+53:=⟨_,rfl⟩
 simp only [push_cast,seval,-Nat.reducePow,Stt.v,Stt.cs,stoV,pplV,watV,lasV]
 refine aBq (fun s1=>∃ (u:List UInt8) (t o:Ttl) (b c d:Nat),usT u∧ttT t∧ttT o∧s1.env 2=.bool red∧s1.env 7=.ptr b 0∧s1.env 9=.str u∧s1.env 10=.ptr c 0∧s1.env 11=.ptr d 0∧s1.L b=some (boxS T s)∧s1.L c=some (.box (T 17) [.int .i64 t.1,.str t.2])∧s1.L d=some (.box (T 17) [.int .i64 o.1,.str o.2])∧b≠c∧b≠d∧c≠d∧b<s1.nx∧c<s1.nx∧d<s1.nx) ?_ ?_
 ·simp only [push_cast,seval,-Nat.reducePow]
  have s2:Sr (T 42) m L2 p:=⟨0,_,Nat.zero_le _,by rw [hp]; exact e2⟩
  rw [← hp]
  refine aAh (aP5 G.f332 G.f349 G.f368 m hm ((s2.put (by omega)).put (by omega)) (by omega)) ?_
  rintro v L3 nx3 ⟨⟨u,rfl,hu⟩,s3,f3⟩
  have n3:=f3.1
  refine aAh (aKo G.f333 G.f345 G.f349 G.f368 m hm s3 (by omega)) ?_
  rintro v L4 nx4 ⟨⟨t,rfl,htt⟩,s4,f4⟩
  have n4:=f4.1
  refine aAh (aKo G.f333 G.f345 G.f349 G.f368 m hm s4 (by omega)) ?_
  rintro v L5 nx5 ⟨⟨o,rfl,hoo⟩,s5,f5⟩
  have n5:=f5.1
  simp only [push_cast,seval,-Nat.reducePow,tV,tCs]
  refine ⟨u,t,o,nx2+7,nx5+10,nx5+11,hu,htt,hoo,rfl,rfl,rfl,rfl,?_,?_,?_,by omega,by omega,by omega,by omega,by omega,by omega⟩
  ·rw [aAd _ _ _ _ (by omega),aAd _ _ _ _ (by omega),aAd _ _ _ _ (by omega),aAd _ _ _ _ (by omega),f5.2 _ (by omega) (by omega),f4.2 _ (by omega) (by omega),f3.2 _ (by omega) (by omega),aAe]
  ·rw [aAd _ _ _ _ (by omega),aAe]
  ·exact aAe _ _ _
 ·rintro s1 ⟨u,t,o,b,c,d,hu,htt,hto,j2,j7,j9,j10,j11,eb,ec,ed,hbc,hbd,hcd,jb,jc,jd⟩
  obtain ⟨x,y_,z,g,m2,hR⟩:=hU w u hw hu
  have hpr:=aOn D H hR hm1 (by omega)
  obtain ⟨q1,q2,q3,q4⟩:=hR.i3
  obtain ⟨r1,r2,r3,r4⟩:=hR.i1
  have nb:∀ n,¬ b=s1.nx+n:=fun n=>by omega
  have nc:∀ n,¬ c=s1.nx+n:=fun n=>by omega
  have nd:∀ n,¬ d=s1.nx+n:=fun n=>by omega
  simp only [push_cast,seval,-Nat.reducePow,j2,j7,j9,j10,j11,eb,ec,ed]
  refine aAa hpr (by simp only [push_cast,seval,-Nat.reducePow,V.imm,V.imms,aAg,aAl,aAo,aAn]) (by simp only [V.imm,V.imms,q1,q2,q3,Bool.and_self]) ?_
  simp only [push_cast,seval,-Nat.reducePow,j2,j7,j9,j10,j11,eb,ec,ed,q4,nb,nc,nd]
  refine aAa hR.h209 (by simp only [V.imm,V.imms,q1,q2,q3,Bool.and_self]) r1 ?_
  simp only [push_cast,seval,-Nat.reducePow,j2,j7,j9,j10,j11,eb,ec,ed,q4,nb,nc,nd]
  refine aAa (hR.n t 1 htt) (by simp only [V.imm,V.imms,q1,q2,q3,r1,Bool.and_self]) rfl ?_
  cases hb1:m2 t 1 with
  | true =>
    simp only [push_cast,seval,-Nat.reducePow,j2,j7,j9,j10,j11,eb,ec,ed,q4,nb,nc,nd]
    refine aAa h335 (by simp only [push_cast,seval,-Nat.reducePow]) rfl ?_
    exact aAc 3 _ rfl
  | false =>
    have hpw:=(hpol w hw).1
    have hdl:∀ c,c∈[delC t]→ChgP usT ttT c:=fun c hc=>by rw [List.mem_singleton.1 hc]; exact bBm htt
    have hpl:∀ c,c∈[putD t [120]]→ChgP usT ttT c:=fun c hc=>by rw [List.mem_singleton.1 hc]; exact aVq H.us0 htt (by simp)
    have ad:=aGd H hpw (pol:=fun _=>true) hm1 hdl (by simp) (by simp) (by simp) (by omega)
    have ap:=aGd H hpw (pol:=fun _=>true) hm1 hpl (by simp) (by simp) (by simp) (by omega)
    simp only [push_cast,seval,-Nat.reducePow,j2,j7,j9,j10,j11,eb,ec,ed,q4,nb,nc,nd]
    refine aBq (fun s2=>∃ (r:Stt×Int) (e:Nat) (cs:List V),r=aCo ok (fun _=>true) s [delC t]∧s2.env 2=.bool red∧s2.env 7=.ptr b 0∧s2.env 9=.str u∧s2.env 10=.ptr c 0∧s2.env 11=.ptr d 0∧s2.env 13=.ptr e 0∧s2.env 14=.int .i64 r.2∧s2.L b=some (boxS T s)∧s2.L c=some (.box (T 17) [.int .i64 t.1,.str t.2])∧s2.L d=some (.box (T 17) [.int .i64 o.1,.str o.2])∧s2.L e=some (.box (T 34) cs)∧cs.length=8∧(r.2=0→cs=r.1.cs)∧b<s2.nx∧c<s2.nx∧d<s2.nx∧e<s2.nx∧b≠e∧c≠e∧d≠e) ?_ ?_
    ·simp only [push_cast,seval,-Nat.reducePow,j2,j7,j9,j10,j11,eb,ec,ed,q4,nb,nc,nd]
     refine aF0 ad ?_ ?_ (aF9 _) ?_
     ·simp only [List.map_cons,List.map_nil,Stt.v,Stt.cs,delC,Chg.v,Chg.cs,stoV,pplV,watV,lasV,revV,zTtl,aJa,aKa,aDe,aEz,aIf,V.le_refl,and_self]
     ·simp only [V.imm,V.imms,aAg,aAl,aAo,aAn,Bool.and_true,Bool.true_and]
     cases hrd:(aCo ok (fun _=>true) s [delC t]) with
     | mk y e =>
       by_cases he:e=0
       ·subst he
        simp only [aplV,if_true,outS,Stt.v,Stt.cs,stoV,pplV,watV,lasV,push_cast,seval,-Nat.reducePow,j2,j7,j9,j10,j11,eb,ec,ed,nb,nc,nd]
        exact ⟨(y,0),_,_,rfl,rfl,rfl,aAe _ _ _,rfl,fun _=>rfl,by omega,by omega,by omega,by omega,by omega,by omega,by omega⟩
       ·simp only [aplV,if_neg he,push_cast,seval,-Nat.reducePow,j2,j7,j9,j10,j11,eb,ec,ed,nb,nc,nd,he]
        exact ⟨(y,e),_,_,rfl,rfl,rfl,aAe _ _ _,rfl,fun h=>absurd h he,by omega,by omega,by omega,by omega,by omega,by omega,by omega⟩
    ·rintro s2 ⟨r,e,cs,hr,k2,k7,k9,k10,k11,k13,k14,kb,kc,kd,ke,hcs,hcr,lb,lc,ld,le,be,ce,de⟩
     clear j2 j7 j9 j10 j11 eb ec ed jb jc jd nb nc nd
     have nb:∀ n,¬ b=s2.nx+n:=fun n=>by omega
     have nc:∀ n,¬ c=s2.nx+n:=fun n=>by omega
     have nd:∀ n,¬ d=s2.nx+n:=fun n=>by omega
     have ne:∀ n,¬ e=s2.nx+n:=fun n=>by omega
     simp only [push_cast,seval,-Nat.reducePow]
     refine aBq (fun s3=>∃ (y:Stt) (k:Nat),MstP usT ttT w k y.seq y∧k≤40∧s3.env 2=.bool red∧s3.env 7=.ptr b 0∧s3.env 9=.str u∧s3.env 10=.ptr c 0∧s3.env 11=.ptr d 0∧s3.env 13=.ptr e 0∧s3.env 14=.int .i64 0∧s3.L b=some (boxS T s)∧s3.L c=some (.box (T 17) [.int .i64 t.1,.str t.2])∧s3.L d=some (.box (T 17) [.int .i64 o.1,.str o.2])∧s3.L e=some (boxS T y)∧b<s3.nx∧c<s3.nx∧d<s3.nx∧e<s3.nx) ?_ ?_
     ·by_cases he:r.2=0
      ·obtain ⟨m1,m2⟩:=aHx H.ntt H.hred hm1 hdl (by simp) (show aCo ok (fun _=>true) s [delC t]=(r.1,0) by rw [← hr,← he])
       simp only [push_cast,seval,-Nat.reducePow,k2,k7,k9,k10,k11,k13,k14,kb,kc,kd,ke,nb,nc,nd,ne,he]
       exact ⟨r.1,31,m1,by omega,by rw [hcr he]; rfl,by omega,by omega,by omega,by omega⟩
      ·have hp2:=bE8 (ok:=ok) (pol:=fun _=>true) hm1 (by omega) htt H.ntt [120] (by rw [← hr]; exact he)
       cases hrp:(aCo ok (fun _=>true) s [putD t [120]]) with
       | mk y2 e2 =>
         obtain rfl:e2=0:=by rw [hrp] at hp2; exact hp2
         rw [hrp] at ap
         obtain ⟨m1,m2⟩:=aHx H.ntt H.hred hm1 hpl (by simp) hrp
         simp only [push_cast,seval,-Nat.reducePow,k2,k7,k9,k10,k11,k13,k14,kb,kc,kd,ke,nb,nc,nd,ne,he]
         refine aF0 ap ?_ ?_ (aF9 _) ?_
         ·simp only [List.map_cons,List.map_nil,Stt.v,Stt.cs,putD,Chg.v,Chg.cs,stoV,pplV,watV,lasV,revV,zTtl,aJa,aKa,aDe,aEz,aIf,V.le_refl,and_self]
         ·simp only [V.imm,V.imms,aAg,aAl,aAo,aAn,Bool.and_true,Bool.true_and]
         simp only [aplV,if_true,outS,Stt.v,Stt.cs,stoV,pplV,watV,lasV,push_cast,seval,-Nat.reducePow,k2,k7,k9,k10,k11,k13,k14,kb,kc,kd,ke,nb,nc,nd,ne,hcs,List.drop_eq_nil_of_le (Nat.le_of_eq hcs)]
         exact ⟨y2,31,m1,by omega,(aAd _ _ _ _ be).trans kb,(aAd _ _ _ _ ce).trans kc,(aAd _ _ _ _ de).trans kd,rfl,by omega,by omega,by omega,by omega⟩
     ·rintro s3 ⟨y,k,m1,hk,i2,i7,i9,i10,i11,i13,i14,ib,ic,id,ie,gb,gc,gd,ge⟩
      clear k2 k7 k9 k10 k11 k13 k14 kb kc kd ke lb lc ld le nb nc nd ne
      simp only [push_cast,seval,-Nat.reducePow]
      refine aBq (fun s4=>s4.env 14=.int .i64 0) ?_ ?_
      ·obtain ⟨zs,hzs⟩:∃ zs:List V,zs=[s.v,y.v]:=⟨_,rfl⟩
       have hzl:zs.length=2:=by rw [hzs]; rfl
       have hz:∀ i:Nat,i<2→∃ zz:Stt,HsP P F zz u x y_ z g m2∧zs.getD i .junk=zz.v:=fun i hi=>by
        rw [hzs]
        rcases (show i=0∨i=1 by omega) with rfl | rfl
        ·exact ⟨s,hsP D hgc H hR h185 h354 (h352 u hu) hm1 (by omega),rfl⟩
        ·exact ⟨y,hsP D hgc H hR h185 h354 (h352 u hu) m1 hk,rfl⟩
       simp only [push_cast,seval,-Nat.reducePow,i2,i7,i9,i10,i11,i13,i14,ib,ic,id,ie]
       refine aAm (fun m s4=>∃ i:Nat,i≤2∧m=2-i∧s4.env 2=.bool red∧s4.env 9=.str u∧s4.env 10=.ptr c 0∧s4.env 11=.ptr d 0∧s4.env 14=.int .i64 0∧s4.env 66=.lst 8 zs∧s4.env 67=.int .i64 2∧s4.env 68=.int .i64 i∧s4.L c=some (.box (T 17) [.int .i64 t.1,.str t.2])∧s4.L d=some (.box (T 17) [.int .i64 o.1,.str o.2])∧c<s4.nx∧d<s4.nx) 2 ?_ fun m s4 hJ=>?_
       ·simp only [push_cast,seval,-Nat.reducePow]
        exact ⟨0,by omega,rfl,i2,i9,i10,i11,i14,by rw [hzs]; rfl,rfl,ic,id,by omega,by omega⟩
       ·obtain ⟨i,hi,rfl,j2,j9,j10,j11,j14,j66,j67,j68,jc,jd,lc,ld⟩:=hJ
        have nc:∀ n,¬ c=s4.nx+n:=fun n=>by omega
        have nd:∀ n,¬ d=s4.nx+n:=fun n=>by omega
        by_cases hlt:i<2
        ·obtain ⟨zz,hzz,hg⟩:=hz i hlt
         have h1:((i:Nat):Int)<2:=by omega
         have hdt:∀ red,PTr P (F 336) _ den:=fun red=>t336 D.f336 hzz htt hto (.inl hb1) red
         have hdo:=t336 D.f336 hzz hto htt (.inr hb1) red
         have hd1:=t337 D.f337 hzz htt hb1
         have hd2:=t338 D.f338 hzz htt hb1
         have hd3:=t339 D.f339 hzz htt hb1
         have hd4:=t340 D.f340 hzz htt hb1
         simp only [push_cast,seval,-Nat.reducePow,j2,j9,j10,j11,j14,j66,j67,j68,jc,jd,h1,hg,hzl,nc,nd,Stt.v,Stt.cs,stoV,pplV,watV,lasV]
         refine ⟨hlt,aAa (hdt red) (by simp only [push_cast,seval,-Nat.reducePow,V.imm,V.imms,aAg,aAl,aAo,aAn]) rfl ?_⟩
         simp only [push_cast,seval,-Nat.reducePow,den,j2,j9,j10,j11,j14,j66,j67,j68,jc,jd,nc,nd]
         refine aBq (fun s5=>∃ f:Nat,s5.env 2=.bool red∧s5.env 9=.str u∧s5.env 10=.ptr c 0∧s5.env 11=.ptr d 0∧s5.env 14=.int .i64 0∧s5.env 16=.ptr f 0∧s5.env 66=.lst 8 zs∧s5.env 67=.int .i64 2∧s5.env 68=.int .i64 i∧s5.env 18=.int .i64 10∧s5.env 20=.int .i64 10∧s5.L c=some (.box (T 17) [.int .i64 t.1,.str t.2])∧s5.L d=some (.box (T 17) [.int .i64 o.1,.str o.2])∧s5.L f=some (boxS T zz)∧c<s5.nx∧d<s5.nx∧f<s5.nx) ?_ ?_
         ·simp only [push_cast,seval,-Nat.reducePow,j2,j9,j10,j11,j14,j66,j67,j68,jc,jd,nc,nd]
          refine aAa hdo (by simp only [push_cast,seval,-Nat.reducePow,V.imm,V.imms,aAg,aAl,aAo,aAn]) rfl ?_
          simp only [push_cast,seval,-Nat.reducePow,den,j2,j9,j10,j11,j14,j66,j67,j68,jc,jd,nc,nd]
          exact ⟨_,rfl,aAe _ _ _,by omega,by omega,by omega⟩
         ·rintro s5 ⟨f,k2,k9,k10,k11,k14,k16,k66,k67,k68,k18,k20,kc,kd,kf,mc,md,mf⟩
          clear j2 j9 j10 j11 j14 j66 j67 j68 jc jd nc nd
          simp only [push_cast,seval,-Nat.reducePow,k2,k9,k10,k11,k14,k16,k66,k67,k68,k18,k20,kc,kd,kf]
          refine aAa hd1 (by simp only [push_cast,seval,-Nat.reducePow,V.imm,V.imms,aAg,aAl,aAo,aAn]) rfl ?_
          simp only [push_cast,seval,-Nat.reducePow,den,k2,k9,k10,k11,k14,k16,k66,k67,k68,k18,k20,kc,kd,kf]
          refine aAa hd2 (by simp only [push_cast,seval,-Nat.reducePow,V.imm,V.imms,aAg,aAl,aAo,aAn]) rfl ?_
          simp only [push_cast,seval,-Nat.reducePow,den,k2,k9,k10,k11,k14,k16,k66,k67,k68,k18,k20,kc,kd,kf]
          refine aBq (fun s5=>s5.env 2=.bool red∧s5.env 9=.str u∧s5.env 10=.ptr c 0∧s5.env 11=.ptr d 0∧s5.env 14=.int .i64 0∧s5.env 16=.ptr f 0∧s5.env 66=.lst 8 zs∧s5.env 67=.int .i64 2∧s5.env 68=.int .i64 i∧s5.env 18=.int .i64 10∧s5.env 20=.int .i64 10∧s5.env 22=.int .i64 10∧s5.env 24=.int .i64 10∧s5.env 26=.int .i64 10∧s5.L c=some (.box (T 17) [.int .i64 t.1,.str t.2])∧s5.L d=some (.box (T 17) [.int .i64 o.1,.str o.2])∧s5.L f=some (boxS T zz)∧c<s5.nx∧d<s5.nx∧f<s5.nx) ?_ ?_
          ·simp only [push_cast,seval,-Nat.reducePow,k2,k9,k10,k11,k14,k16,k66,k67,k68,k18,k20,kc,kd,kf]
           refine aAa hd3 (by simp only [push_cast,seval,-Nat.reducePow,V.imm,V.imms,aAg,aAl,aAo,aAn]) rfl ?_
           simp only [push_cast,seval,-Nat.reducePow,den,k2,k9,k10,k11,k14,k16,k66,k67,k68,k18,k20,kc,kd,kf]
           exact ⟨by omega,by omega,by omega⟩
          ·rintro s6 ⟨k2,k9,k10,k11,k14,k16,k66,k67,k68,k18,k20,k22,k24,k26,kc,kd,kf,mc,md,mf⟩
           simp only [push_cast,seval,-Nat.reducePow,k2,k9,k10,k11,k14,k16,k66,k67,k68,k18,k20,k22,k24,k26,kc,kd,kf]
           refine aAa hd4 (by simp only [push_cast,seval,-Nat.reducePow,V.imm,V.imms,aAg,aAl,aAo,aAn]) rfl ?_
           simp only [push_cast,seval,-Nat.reducePow,den,k2,k9,k10,k11,k14,k16,k66,k67,k68,k18,k20,k22,k24,k26,kc,kd,kf]
           exact ⟨⟨by omega,by omega⟩,2-(i+1),by omega,i+1,by omega,rfl,by simp,by omega,by omega⟩
        ·obtain rfl:i=2:=by omega
         simp only [push_cast,seval,-Nat.reducePow,j2,j9,j10,j11,j14,j66,j67,j68,jc,jd]
      ·intro s4 i14
       simp only [push_cast,seval,-Nat.reducePow,i14]
       refine aAa h335 (by simp only [push_cast,seval,-Nat.reducePow]) rfl ?_
       simp only [push_cast,seval,-Nat.reducePow,i14]
       exact aAc 3 _ rfl
end Go.Ab
