/- Several texts of one kind, merged. No condition. -/
import Derived.Test.YtgdllpgidgiccaaGreatDoorAbM2
import Derived.Test.YtgdllpgidgiccaaGreatDoorAbM4
import Derived.Test.YtgdllpgidgiccaaGreatDoorAbR7
set_option linter.unusedSimpArgs false
set_option linter.unusedVariables false
namespace Go.Ab
def c272 (F T:Nat→Nat):C :=
 .n [.mov (some 2) (.k .nils),.mov (some 3) (.i 0)] <|
 .n [.m 13 0,.c 14 (F 159) [.t 13],.m 12 14,.x 15 0 12,.x 16 1 12,.m 4 15,.m 5 16] <|
 .seq (.n [.m 17 5,.bi 18 .neq 17 0] <|
 .cond (.t 18)
 (.n [.m 19 5,.mov (some 2) (.k .nils),.m 3 19] <|
 .ret)
 (.skip)) <|
 .n [.m 20 0,.ls 21 20,.m 6 21] <|
 .seqc (.n [.m 22 4,.ll 23 22,.bi 24 .gtr 23 0] <|
 .cond (.t 24)
 (.o [.m 25 4,.iadr (some 26) 5 (.t 25) (.i 0),.f 27 2 26,.l 28 27,.m 6 28])
 (.skip)) <|
 .n [.m 29 0,.m 30 6,.slcS (some 31) (.t 29) none (some (.t 30)),.build (some 32) [(.str []),(.int .i64 0),(.str [])] [(2,1,(.t 31))],.mkv 33 (T 28) 3 [.t 32],.m 7 33] <|
 .seq (.n [.mov (some 8) (.i 0)] <|
 .block 0 <|
 .loop <|
 .seq (.n [.m 34 8,.m 35 4,.ll 36 35,.b 37 .lss 34 36] <|
 .cond (.t 37)
 (.skip)
 (.exit 0)) <|
 .seq (.block 1 <|
 .n [.m 40 0,.ls 41 40,.mov (some 9) (.i 0),.m 10 41] <|
 .seqc (.n [.mov (some 11) (.i 0)] <|
 .block 2 <|
 .loop <|
 .seq (.n [.m 42 11,.m 43 8,.b 44 .lss 42 43] <|
 .cond (.t 44)
 (.skip)
 (.exit 2)) <|
 .seq (.block 3 <|
 .seq (.p [.m 47 4,.m 48 11,.ia 49 5 47 48,.f 50 1 49,.l 51 50,.m 52 4,.m 53 8,.ia 54 5 52 53,.f 55 1 54,.l 56 55,.b 57 .eql 51 56]) <|
 .cond (.t 57)
 (.o [.m 58 9,.bi 59 .add 58 1,.m 9 59])
 (.skip)) <|
 .o [.m 45 11,.bi 46 .add 45 1,.m 11 46]) <|
 .seqc (.n [.m 60 8,.bi 61 .add 60 1,.m 62 4,.ll 63 62,.b 64 .lss 61 63] <|
 .cond (.t 64)
 (.o [.m 65 4,.m 66 8,.bi 67 .add 66 1,.ia 68 5 65 67,.f 69 2 68,.l 70 69,.m 10 70])
 (.skip)) <|
 .p [.m 71 7,.m 72 4,.m 73 8,.ia 74 5 72 73,.f 75 1 74,.l 76 75,.m 77 9,.m 78 0,.m 79 4,.m 80 8,.ia 81 5 79 80,.f 82 2 81,.l 83 82,.m 84 10,.slcS (some 85) (.t 78) (some (.t 83)) (some (.t 84)),.build (some 86) [(.str []),(.int .i64 0),(.str [])] [(0,1,(.t 76)),(1,1,(.t 77)),(2,1,(.t 85))],.mkl (some 87) 3 [.t 86],.app 88 (T 28) 3 (.t 71) (.t 87),.m 7 88]) <|
 .o [.m 38 8,.bi 39 .add 38 1,.m 8 39]) <|
 .n [.m 89 7,.m 2 89,.mov (some 3) (.i 0)] <|
 .ret
abbrev bCx (P:Program) (F T:Nat→Nat):Prop:=Fn P (F 272) 90 [(2,none),(3,none)] (c272 F T)
def c277 (F T:Nat→Nat):C :=
 .n [.mov (some 2) (.s []),.mov (some 3) (.s []),.mov (some 4) (.s [])] <|
 .n [.m 7 0,.e 8 18 (F 39) [.t 7],.m 5 8] <|
 .n [.m 9 5,.e 10 18 (F 284) [.t 9,.i 14],.m 6 10] <|
 .n [.m 11 6,.m 12 5,.m 13 6,.e 14 18 (F 285) [.t 12,.t 13],.m 15 5,.m 16 6,.e 17 18 (F 285) [.t 15,.t 16],.m 2 11,.m 3 14,.m 4 17] <|
 .ret
abbrev bJy (P:Program) (F T:Nat→Nat):Prop:=Fn P (F 277) 18 [(2,none),(3,none),(4,none)] (c277 F T)
def c284 (F T:Nat→Nat):C :=
 .n [.mov (some 4) (.s [])] <|
 .n [.mov (some 5) (.s [])] <|
 .seq (.n [.mov (some 6) (.i 0)] <|
 .block 0 <|
 .loop <|
 .seq (.n [.m 7 6,.m 8 0,.m 9 1,.e 10 26 (F 46) [.t 8,.t 9],.b 11 .lss 7 10] <|
 .cond (.t 11)
 (.skip)
 (.exit 0)) <|
 .seq (.block 1 <|
 .o [.m 14 5,.m 15 0,.mkl (some 16) 1 [.s [97],.s [98],.s [99],.s [97],.s [],.s [61,61,32,115,32,61,61],.s [61,61,32,116,32,61,61],.s [61,61,61,32,115,32,61,61,61],.s [61,61,32,115,32,61,61]],.e 17 26 (F 47) [.t 15,.t 16],.b 18 .add 14 17,.bin (some 19) .add (.t 18) (.s [10]),.m 5 19]) <|
 .o [.m 12 6,.bi 13 .add 12 1,.m 6 13]) <|
 .seq (.n [.m 20 0,.e 21 26 (F 46) [.t 20,.i 4],.bi 22 .eql 21 0] <|
 .cond (.t 22)
 (.o [.m 23 5,.bin (some 24) .add (.t 23) (.s [101,110,100]),.m 5 24])
 (.skip)) <|
 .n [.m 25 5,.m 4 25] <|
 .ret
abbrev bHa (P:Program) (F T:Nat→Nat):Prop:=Fn P (F 284) 26 [(4,none)] (c284 F T)
def c285 (F T:Nat→Nat):C :=
 .n [.mov (some 4) (.s [])] <|
 .n [.m 9 1,.e 10 60 (F 171) [.t 9,.s [10]],.m 5 10] <|
 .seq (.n [.mov (some 6) (.i 0)] <|
 .block 0 <|
 .loop <|
 .seq (.n [.m 11 6,.m 12 0,.e 13 60 (F 46) [.t 12,.i 3],.bin (some 14) .add (.i 1) (.t 13),.b 15 .lss 11 14] <|
 .cond (.t 15)
 (.skip)
 (.exit 0)) <|
 .seq (.block 1 <|
 .n [.m 18 0,.m 19 5,.ll 20 19,.e 21 60 (F 46) [.t 18,.t 20],.m 7 21] <|
 .n [.m 22 0,.mkl (some 23) 1 [.s [120],.s [121],.s [61,61,32,115,32,61,61],.s [61,61,32,110,101,119,32,61,61],.s []],.e 24 60 (F 47) [.t 22,.t 23],.m 8 24] <|
 .n [.m 25 0,.e 26 60 (F 46) [.t 25,.i 3]] <|
 .block 2 <|
 .n [.bi 40 .eql 26 0,.m 39 40] <|
 .cond (.t 39)
 (.o [.m 41 5,.m 42 7,.m 43 8,.ia 44 1 41 42,.store 1 (.t 44) (.t 43)])
 (.n [.bi 46 .eql 26 1,.m 45 46] <|
 .cond (.t 45)
 (.p [.m 47 5,.m 48 7,.slc (some 49) 1 (.t 47) none (some (.t 48)),.app 50 (T 21) 1 (.k .nils) (.t 49),.m 51 8,.mkl (some 52) 1 [.t 51],.app 53 (T 21) 1 (.t 50) (.t 52),.m 54 5,.m 55 7,.slc (some 56) 1 (.t 54) (some (.t 55)) none,.app 57 (T 21) 1 (.t 53) (.t 56),.m 5 57])
 (.n [.m 27 5,.ll 28 27,.bi 29 .gtr 28 1] <|
 .cond (.t 29)
 (.p [.m 30 5,.m 31 7,.slc (some 32) 1 (.t 30) none (some (.t 31)),.app 33 (T 21) 1 (.k .nils) (.t 32),.m 34 5,.m 35 7,.bi 36 .add 35 1,.slc (some 37) 1 (.t 34) (some (.t 36)) none,.app 38 (T 21) 1 (.t 33) (.t 37),.m 5 38])
 (.skip)))) <|
 .o [.m 16 6,.bi 17 .add 16 1,.m 6 17]) <|
 .n [.m 58 5,.call (some 59) false (F 289) [.t 58,.s [10]],.m 4 59] <|
 .ret
abbrev bGh (P:Program) (F T:Nat→Nat):Prop:=Fn P (F 285) 60 [(4,none)] (c285 F T)
end Go.Ab
namespace Go.Ab
end Go.Ab
namespace Go.Ab
def c276 (F T:Nat→Nat):C :=
 .n [.mov (some 8) (.k (.bool false))] <|
 .seq (.seq (.ops false [⟨none,[.m 20 0,.ls 21 20,.bi 22 .gtr 21 300,.m 23 22]⟩,
 ⟨some (23,false),[.m 24 1,.ls 25 24,.bi 26 .gtr 25 300]⟩,
 ⟨none,[.pt 27 23 26,.m 28 27]⟩,
 ⟨some (28,false),[.m 29 2,.ls 30 29,.bi 31 .gtr 30 300]⟩,
 ⟨none,[.pt 32 28 31]⟩]) <|
 .cond (.t 32)
 (.n [.c 33 (F 254) [],.m 8 33] <|
 .ret)
 (.skip)) <|
 .n [.m 35 3,.e 36 89 (F 277) [.t 35],.m 34 36,.x 37 0 34,.x 38 1 34,.x 39 2 34,.m 9 37,.m 10 38,.m 11 39] <|
 .n [.m 41 0,.m 42 1,.m 43 2,.c 44 (F 257) [.t 41,.t 42,.t 43],.m 40 44,.x 45 0 40,.x 46 1 40,.alloc 12 (T 27) [(.str []),.nils],.store 2 (.t 12) (.t 45),.m 13 46] <|
 .n [.m 48 0,.m 49 1,.m 50 2,.c 51 (F 278) [.t 48,.t 49,.t 50],.m 47 51,.x 52 0 47,.x 53 1 47,.alloc 14 (T 27) [(.str []),.nils],.store 2 (.t 14) (.t 52),.m 15 53] <|
 .n [.m 55 9,.m 56 10,.m 57 11,.c 58 (F 257) [.t 55,.t 56,.t 57],.m 54 58,.x 59 0 54,.x 60 1 54,.alloc 16 (T 27) [(.str []),.nils],.store 2 (.t 16) (.t 59),.m 17 60] <|
 .n [.m 62 9,.m 63 10,.m 64 11,.c 65 (F 278) [.t 62,.t 63,.t 64],.m 61 65,.x 66 0 61,.x 67 1 61,.alloc 18 (T 27) [(.str []),.nils],.store 2 (.t 18) (.t 66),.m 19 67] <|
 .seq (.ops false [⟨none,[.m 68 13,.m 69 15,.b 70 .eql 68 69,.m 71 70]⟩,
 ⟨some (71,true),[.m 72 17,.m 73 19,.b 74 .eql 72 73]⟩,
 ⟨none,[.pf 75 71 74,.m 76 75]⟩,
 ⟨some (76,true),[.load (some 77) false 2 true (.t 12),.load (some 78) false 2 true (.t 14),.c 79 (F 279) [.t 77,.t 78]]⟩,
 ⟨none,[.pf 80 76 79,.m 81 80]⟩,
 ⟨some (81,true),[.load (some 82) false 2 true (.t 16),.load (some 83) false 2 true (.t 18),.c 84 (F 279) [.t 82,.t 83]]⟩,
 ⟨none,[.pf 85 81 84,.m 86 85]⟩,
 ⟨some (86,true),[.c 87 (F 254) []]⟩,
 ⟨none,[.pf 88 86 87,.m 8 88]⟩]) <|
 .ret
abbrev bKr (P:Program) (F T:Nat→Nat):Prop:=Fn P (F 276) 89 [(8,none)] (c276 F T)
def c278 (F T:Nat→Nat):C :=
 .n [.alloc 6 (T 27) [(.str []),.nils],.mov (some 7) (.i 0)] <|
 .n [.m 19 0,.c 20 (F 272) [.t 19],.m 18 20,.x 21 0 18,.x 22 1 18,.m 8 21,.m 9 22] <|
 .seq (.n [.m 23 9,.bi 24 .neq 23 0] <|
 .cond (.t 24)
 (.n [.build (some 25) [(.str []),.nils] [],.m 26 9,.store 2 (.t 6) (.t 25),.m 7 26] <|
 .ret)
 (.skip)) <|
 .n [.m 28 1,.c 29 (F 272) [.t 28],.m 27 29,.x 30 0 27,.x 31 1 27,.m 10 30,.m 9 31] <|
 .seq (.n [.m 32 9,.bi 33 .neq 32 0] <|
 .cond (.t 33)
 (.n [.build (some 34) [(.str []),.nils] [],.m 35 9,.store 2 (.t 6) (.t 34),.m 7 35] <|
 .ret)
 (.skip)) <|
 .n [.m 37 2,.c 38 (F 272) [.t 37],.m 36 38,.x 39 0 36,.x 40 1 36,.m 11 39,.m 9 40] <|
 .seq (.n [.m 41 9,.bi 42 .neq 41 0] <|
 .cond (.t 42)
 (.n [.build (some 43) [(.str []),.nils] [],.m 44 9,.store 2 (.t 6) (.t 43),.m 7 44] <|
 .ret)
 (.skip)) <|
 .seq (.seq (.ops false [⟨none,[.m 45 1,.m 46 0,.b 47 .eql 45 46,.m 48 47]⟩,
 ⟨some (48,false),[.m 49 1,.m 50 2,.b 51 .eql 49 50]⟩,
 ⟨none,[.pt 52 48 51]⟩]) <|
 .cond (.t 52)
 (.n [.m 53 2,.build (some 54) [(.str []),.nils] [(0,1,(.t 53))],.store 2 (.t 6) (.t 54),.mov (some 7) (.i 0)] <|
 .ret)
 (.skip)) <|
 .seq (.n [.m 55 2,.m 56 0,.b 57 .eql 55 56] <|
 .cond (.t 57)
 (.n [.m 58 1,.build (some 59) [(.str []),.nils] [(0,1,(.t 58))],.store 2 (.t 6) (.t 59),.mov (some 7) (.i 0)] <|
 .ret)
 (.skip)) <|
 .n [.alloc 12 (T 27) [(.str []),.nils]] <|
 .seq (.gha (.own 13 (T 28) 3) <| .o [.mov (some 13) (.k .nils)]) <|
 .n [.m 60 10,.m 61 11,.c 62 (F 286) [.t 60,.t 61],.m 14 62] <|
 .seq (.n [.mov (some 15) (.i 0)] <|
 .block 0 <|
 .loop <|
 .seq (.n [.m 63 15,.m 64 14,.ll 65 64,.b 66 .lss 63 65] <|
 .cond (.t 66)
 (.skip)
 (.exit 0)) <|
 .seq (.block 1 <|
 .seq (.p [.m 70 8,.m 71 14,.m 72 15,.ia 73 3 71 72,.load (some 74) false 3 true (.t 73),.c 75 (F 287) [.t 70,.t 74],.m 76 10,.m 77 14,.m 78 15,.ia 79 3 77 78,.load (some 80) false 3 true (.t 79),.c 81 (F 287) [.t 76,.t 80],.m 82 11,.m 83 14,.m 84 15,.ia 85 3 83 84,.load (some 86) false 3 true (.t 85),.c 87 (F 287) [.t 82,.t 86],.c 88 (F 288) [.t 75,.t 81,.t 87],.m 69 88,.x 89 0 69,.x 90 1 69,.alloc 16 (T 33) [(.bool false),(.str [])],.store 2 (.t 16) (.t 89),.m 17 90]) <|
 .seq (.n [.m 91 17] <|
 .cond (.t 91)
 (.p [.f 92 1 12,.l 93 92,.m 94 14,.m 95 15,.ia 96 3 94 95,.f 97 0 96,.l 98 97,.mkl (some 99) 1 [.t 98],.app 100 (T 21) 1 (.t 93) (.t 99),.f 101 1 12,.store 1 (.t 101) (.t 100)])
 (.skip)) <|
 .n [.f 102 0 16,.l 103 102] <|
 .cond (.t 103)
 (.p [.m 104 13,.m 105 14,.m 106 15,.ia 107 3 105 106,.f 108 0 107,.l 109 108,.m 110 14,.m 111 15,.ia 112 3 110 111,.f 113 1 112,.l 114 113,.f 115 1 16,.l 116 115,.build (some 117) [(.str []),(.int .i64 0),(.str [])] [(0,1,(.t 109)),(1,1,(.t 114)),(2,1,(.t 116))],.mkl (some 118) 3 [.t 117],.app 119 (T 28) 3 (.t 104) (.t 118),.m 13 119])
 (.skip)) <|
 .o [.m 67 15,.bi 68 .add 67 1,.m 15 68]) <|
 .n [.m 120 13,.call (some 121) false (F 256) [.t 120],.f 122 0 12,.store 1 (.t 122) (.t 121)] <|
 .seq (.n [.f 123 0 12,.l 124 123,.ls 125 124,.bi 126 .gtr 125 8192] <|
 .cond (.t 126)
 (.n [.build (some 127) [(.str []),.nils] [],.store 2 (.t 6) (.t 127),.mov (some 7) (.i 3)] <|
 .ret)
 (.skip)) <|
 .n [.load (some 128) false 2 true (.t 12),.store 2 (.t 6) (.t 128),.mov (some 7) (.i 0)] <|
 .ret
abbrev bJ5 (P:Program) (F T:Nat→Nat):Prop:=Fn P (F 278) 129 [(6,(some (2,true))),(7,none)] (c278 F T)
def c279 (F T:Nat→Nat):C :=
 .n [.box 2 (T 27) (.t 0),.box 3 (T 27) (.t 1),.mov (some 4) (.k (.bool false))] <|
 .seq (.seq (.ops false [⟨none,[.f 6 0 2,.l 7 6,.f 8 0 3,.l 9 8,.b 10 .neq 7 9,.m 11 10]⟩,
 ⟨some (11,false),[.f 12 1 2,.l 13 12,.ll 14 13,.f 15 1 3,.l 16 15,.ll 17 16,.b 18 .neq 14 17]⟩,
 ⟨none,[.pt 19 11 18]⟩]) <|
 .cond (.t 19)
 (.n [.mov (some 4) (.k (.bool false))] <|
 .ret)
 (.skip)) <|
 .seq (.n [.mov (some 5) (.i 0)] <|
 .block 0 <|
 .loop <|
 .seq (.n [.m 20 5,.f 21 1 2,.l 22 21,.ll 23 22,.b 24 .lss 20 23] <|
 .cond (.t 24)
 (.skip)
 (.exit 0)) <|
 .seq (.block 1 <|
 .seq (.p [.f 27 1 2,.l 28 27,.m 29 5,.ia 30 1 28 29,.l 31 30,.f 32 1 3,.l 33 32,.m 34 5,.ia 35 1 33 34,.l 36 35,.b 37 .neq 31 36]) <|
 .cond (.t 37)
 (.n [.mov (some 4) (.k (.bool false))] <|
 .ret)
 (.skip)) <|
 .o [.m 25 5,.bi 26 .add 25 1,.m 5 26]) <|
 .n [.mov (some 4) (.k (.bool true))] <|
 .ret
abbrev bHn (P:Program) (F T:Nat→Nat):Prop:=Fn P (F 279) 38 [(4,none)] (c279 F T)
def c286 (F T:Nat→Nat):C :=
 .n [.mov (some 4) (.k .nils)] <|
 .n [.m 8 0,.app 9 (T 28) 3 (.k .nils) (.t 8),.m 5 9] <|
 .seq (.n [.mov (some 6) (.i 1)] <|
 .block 0 <|
 .loop <|
 .seq (.n [.m 10 6,.m 11 1,.ll 12 11,.b 13 .lss 10 12] <|
 .cond (.t 13)
 (.skip)
 (.exit 0)) <|
 .seq (.block 1 <|
 .seq (.n [.m 16 0,.m 17 1,.m 18 6,.ia 19 3 17 18,.load (some 20) false 3 true (.t 19),.c 21 (F 290) [.t 16,.t 20],.bi 22 .geq 21 0] <|
 .cond (.t 22)
 (.exit 1)
 (.skip)) <|
 .n [.m 23 5,.m 24 1,.m 25 6,.bi 26 .sub 25 1,.ia 27 3 24 26,.load (some 28) false 3 true (.t 27),.call (some 29) false (F 290) [.t 23,.t 28],.bi 30 .add 29 1,.m 7 30] <|
 .p [.m 31 5,.m 32 7,.slc (some 33) 3 (.t 31) none (some (.t 32)),.app 34 (T 28) 3 (.k .nils) (.t 33),.m 35 1,.m 36 6,.ia 37 3 35 36,.load (some 38) true 3 true (.t 37),.mkl (some 39) 3 [.t 38],.app 40 (T 28) 3 (.t 34) (.t 39),.m 41 5,.m 42 7,.slc (some 43) 3 (.t 41) (some (.t 42)) none,.app 44 (T 28) 3 (.t 40) (.t 43),.m 5 44]) <|
 .o [.m 14 6,.bi 15 .add 14 1,.m 6 15]) <|
 .n [.m 45 5,.m 4 45] <|
 .ret
abbrev bG0 (P:Program) (F T:Nat→Nat):Prop:=Fn P (F 286) 46 [(4,none)] (c286 F T)
def c287 (F T:Nat→Nat):C :=
 .n [.box 3 (T 28) (.t 1),.alloc 4 (T 33) [(.bool false),(.str [])]] <|
 .seq (.n [.m 6 0,.load (some 7) false 3 true (.t 3),.c 8 (F 290) [.t 6,.t 7],.m 5 8] <|
 .n [.m 9 5,.bi 10 .geq 9 0] <|
 .cond (.t 10)
 (.n [.m 11 0,.m 12 5,.ia 13 3 11 12,.f 14 2 13,.l 15 14,.build (some 16) [(.bool false),(.str [])] [(0,1,(.k (.bool true))),(1,1,(.t 15))],.store 2 (.t 4) (.t 16)] <|
 .ret)
 (.skip)) <|
 .n [.build (some 17) [(.bool false),(.str [])] [],.store 2 (.t 4) (.t 17)] <|
 .ret
abbrev bIa (P:Program) (F T:Nat→Nat):Prop:=Fn P (F 287) 18 [(4,(some (2,true)))] (c287 F T)
def c288 (F T:Nat→Nat):C :=
 .n [.box 3 (T 33) (.t 0),.box 4 (T 33) (.t 1),.box 5 (T 33) (.t 2),.alloc 6 (T 33) [(.bool false),(.str [])],.mov (some 7) (.k (.bool false))] <|
 .seq (.block 0 <|
 .seq (.n [.load (some 9) false 2 true (.t 4),.load (some 10) false 2 true (.t 5),.eqA (some 11) false [2,1] (.t 9) (.t 10),.m 8 11] <|
 .cond (.t 8)
 (.skip)
 (.o [.load (some 12) false 2 true (.t 5),.load (some 13) false 2 true (.t 3),.eqA (some 14) false [2,1] (.t 12) (.t 13),.m 8 14])) <|
 .cond (.t 8)
 (.n [.load (some 15) false 2 true (.t 4),.store 2 (.t 6) (.t 15),.mov (some 7) (.k (.bool false))] <|
 .ret)
 (.n [.load (some 17) false 2 true (.t 4),.load (some 18) false 2 true (.t 3),.eqA (some 19) false [2,1] (.t 17) (.t 18),.m 16 19] <|
 .cond (.t 16)
 (.n [.load (some 20) false 2 true (.t 5),.store 2 (.t 6) (.t 20),.mov (some 7) (.k (.bool false))] <|
 .ret)
 (.n [.f 22 0 4,.l 23 22,.m 21 23] <|
 .cond (.t 21)
 (.n [.load (some 24) false 2 true (.t 4),.store 2 (.t 6) (.t 24),.mov (some 7) (.k (.bool true))] <|
 .ret)
 (.skip)))) <|
 .n [.load (some 25) false 2 true (.t 5),.store 2 (.t 6) (.t 25),.mov (some 7) (.k (.bool true))] <|
 .ret
abbrev bGd (P:Program) (F T:Nat→Nat):Prop:=Fn P (F 288) 26 [(6,(some (2,true))),(7,none)] (c288 F T)
def c290 (F T:Nat→Nat):C :=
 .n [.box 3 (T 28) (.t 1),.mov (some 4) (.i 0)] <|
 .seq (.n [.mov (some 5) (.i 0)] <|
 .block 0 <|
 .loop <|
 .seq (.n [.m 6 5,.m 7 0,.ll 8 7,.b 9 .lss 6 8] <|
 .cond (.t 9)
 (.skip)
 (.exit 0)) <|
 .seq (.block 1 <|
 .seq (.ops true [⟨none,[.m 12 0,.m 13 5,.ia 14 3 12 13,.f 15 0 14,.l 16 15,.f 17 0 3,.l 18 17,.b 19 .eql 16 18,.m 20 19]⟩,
 ⟨some (20,true),[.m 21 0,.m 22 5,.ia 23 3 21 22,.f 24 1 23,.l 25 24,.f 26 1 3,.l 27 26,.b 28 .eql 25 27]⟩,
 ⟨none,[.pf 29 20 28]⟩]) <|
 .cond (.t 29)
 (.n [.m 30 5,.m 4 30] <|
 .ret)
 (.skip)) <|
 .o [.m 10 5,.bi 11 .add 10 1,.m 5 11]) <|
 .n [.mov (some 4) (.k (.int .i64 (-1)))] <|
 .ret
abbrev bBg (P:Program) (F T:Nat→Nat):Prop:=Fn P (F 290) 31 [(4,none)] (c290 F T)
end Go.Ab
namespace Go.Ab
variable {P:Program} {F T:Nat→Nat}
open Go.Lib
theorem t272 (hf:bCx P F T) (h159:aNw P (F 159)) (s:List UInt8) (hs:s.length≤8192):PTr P (F 272) [.str s] (.tup [.lst 3 ((aAf s).map Un.v),.int .i64 0]):=by
 have h1:=h159 s hs
 have hok:=aJ4 s
 have hpr:=aLw s
 have hcnt:=aO5 s
 have hul:=aBr s
 have hun:aAf s=⟨[],0,aHz s⟩::uGo s [] (aEh s):=rfl
 have hlead:aHz s=s.take (nxF s (aEh s)):=by
  unfold aHz nxF
  cases aEh s with
  | nil=>simp
  | cons x r=>rfl
 refine ptrC [] hf (by simp) (by simp [V.imm,V.imms,aBt]) ?_
 simp only [c272,push_cast,seval,-Nat.reducePow]
 refine aAb h1 (by simp only [push_cast,seval,-Nat.reducePow]) (by simp only [push_cast,seval,-Nat.reducePow,aEe]) ?_
 obtain ⟨l,hl⟩:∃ l,l=aEh s:=⟨_,rfl⟩
 rw [← hl] at hok hpr hcnt hun hlead ⊢
 have hlen:=aCx l
 simp only [push_cast,seval,-Nat.reducePow,hlen]
 refine aAs (fun s1=>s1.env 0=.str s∧s1.env 4=.lst 5 (secV l)∧s1.env 6=.int .i64 (nxF s l)) ?_ ?_
 ·cases l with
  | nil=>simp only [push_cast,seval,-Nat.reducePow,nxF,hlen,List.length_nil]
  | cons x r =>
    have h0:(0:Int)<(r.length:Int)+1:=by omega
    have hg:(secV (x::r)).getD 0 .junk=.agg [.int .i64 x.lev,.str x.title,.int .i64 x.fr,.int .i64 x.bd,.int .i64 x.to]:=rfl
    simp only [push_cast,seval,-Nat.reducePow,h0,hlen,nxF,hg]
    omega
 rintro s1 ⟨j0,j4,j6⟩
 have hnx:=bFy hok
 simp only [push_cast,seval,-Nat.reducePow,j0,j4,j6]
 refine ⟨hnx,?_⟩
 refine aAe (fun m s1=>∃ d r out id,l=d++r∧m=r.length∧out++uGo s d r=aAf s∧s1.env 0=.str s∧s1.env 4=.lst 5 (secV l)∧s1.env 8=.int .i64 d.length∧s1.env 7=.own id 3 0 out.length∧s1.L id=some (.vec (T 28) 3 (out.map Un.v))∧id<s1.nx) l.length ⟨[],l,[⟨[],0,aHz s⟩],s1.nx+33,?_⟩ fun m s1 hJ=>?_
 ·simp only [push_cast,seval,-Nat.reducePow]
  exact ⟨hun.symm,j0,j4,by rw [← hlead]; rfl,by omega⟩
 ·obtain ⟨d,r,out,id,rfl,rfl,ho,j0,j4,j8,j7,jL,hid⟩:=hJ
  cases r with
  | nil =>
    have h':¬ ((d.length:Nat):Int)<((d++[]).length:Nat):=by simp
    rw [uGo,List.append_nil] at ho
    subst ho
    have hlu:=aC3 (aAf s)
    have hlend:(secV d).length=d.length:=aCx d
    simp only [push_cast,seval,-Nat.reducePow,j0,j4,j8,j7,hlen,hlend]
    have hv:view s1.L 2 (.own id 3 0 (aAf s).length)=.lst 3 ((aAf s).map Un.v):=by
     have:=aDa (n:=1) (sz:=3) jL (aBt _)
     rwa [aC3] at this
    simp only [view] at hv ⊢
    simp only [List.map_cons,List.map_nil,hv,view]
  | cons x r =>
    have h':((d.length:Nat):Int)<((d++x::r).length:Nat):=by simp; omega
    have hdl:(d++x::r).length=d.length+(r.length+1):=by simp
    simp only [push_cast,seval,-Nat.reducePow,j0,j4,j8,j7,h',hlen]
    refine aAs (fun s2=>s2.env 0=.str s∧s2.env 4=.lst 5 (secV (d++x::r))∧s2.env 8=.int .i64 d.length∧s2.env 7=.own id 3 0 out.length∧s2.L id=some (.vec (T 28) 3 (out.map Un.v))∧id<s2.nx∧s2.env 9=.int .i64 (cntT d x.title)∧s2.env 10=.int .i64 s.length) ?_ ?_
    ·simp only [push_cast,seval,-Nat.reducePow]
     refine aAe (fun m s2=>∃ k,k≤d.length∧m=d.length-k∧s2.env 0=.str s∧s2.env 4=.lst 5 (secV (d++x::r))∧s2.env 8=.int .i64 d.length∧s2.env 7=.own id 3 0 out.length∧s2.L id=some (.vec (T 28) 3 (out.map Un.v))∧id<s2.nx∧s2.env 9=.int .i64 (cntT (d.take k) x.title)∧s2.env 10=.int .i64 s.length∧s2.env 11=.int .i64 k) d.length ⟨0,?_⟩ fun m s2 hJ=>?_
     ·simp only [push_cast,seval,-Nat.reducePow,j0,j4,j8,j7]
      exact ⟨by omega,jL,by omega,rfl⟩
     ·obtain ⟨k,hk,rfl,i0,i4,i8,i7,iL,iid,i9,i10,i11⟩:=hJ
      by_cases h:k<d.length
      ·have h1:((k:Nat):Int)<(d.length:Nat):=by omega
       have hgk:(secV (d++x::r)).getD k .junk=.agg [.int .i64 d[k].lev,.str d[k].title,.int .i64 d[k].fr,.int .i64 d[k].bd,.int .i64 d[k].to]:=by
        simp [secV,List.getD,List.getElem?_append_left,h,Sec.v]
       have htk:d.take (k+1)=d.take k++[d[k]]:=by rw [List.take_add_one]; simp [h]
       have hcl:cntT (d.take k) x.title≤d.length:=by
        unfold cntT
        exact Nat.le_trans (List.length_filter_le _ _) (by rw [List.length_take]; omega)
       simp only [push_cast,seval,-Nat.reducePow,i0,i4,i8,i7,i9,i10,i11,h1,hlen,hgk,aH9,Sec.v]
       refine ⟨by omega,aAh (fun e=>?_) (fun e=>?_)⟩
       ·have hn:cntT (d.take (k+1)) x.title=cntT (d.take k) x.title+1:=by rw [htk,aI5,if_pos e]
        simp only [push_cast,seval,-Nat.reducePow,i0,i4,i8,i7,i9,i10,i11]
        exact ⟨by omega,by omega,d.length-(k+1),by omega,k+1,by omega,rfl,iL,by omega,by rw [hn]; simp,by simp⟩
       ·have hn:cntT (d.take (k+1)) x.title=cntT (d.take k) x.title:=by rw [htk,aI5,if_neg e]; rfl
        simp only [push_cast,seval,-Nat.reducePow,i0,i4,i8,i7,i9,i10,i11]
        exact ⟨by omega,d.length-(k+1),by omega,k+1,by omega,rfl,iL,by omega,by rw [hn],by simp⟩
      ·have h1:¬ ((k:Nat):Int)<(d.length:Nat):=by omega
       obtain rfl:k=d.length:=by omega
       rw [List.take_length] at i9
       simp only [push_cast,seval,-Nat.reducePow,i0,i4,i8,i7,i9,i10,i11,h1]
       exact ⟨iL,by omega⟩
    rintro s2 ⟨i0,i4,i8,i7,iL,iid,i9,i10⟩
    have hx:=hok x (by simp)
    have x1:=hx.bd
    have x2:=hx.le
    have x3:=hx.to
    have hol2:out.length≤8193:=by have:=congrArg List.length ho; rw [List.length_append] at this; omega
    rw [uGo] at ho
    have e1:(((d.length:Nat):Int)+1).toNat=d.length+1:=by omega
    have hnle:x.fr≤nxF s r∧nxF s r≤s.length:=by
     cases r with
     | nil=>simp only [nxF]; omega
     | cons y r2 =>
       have y1:=(List.pairwise_cons.1 (List.pairwise_append.1 hpr).2.1).1 y (by simp)
       have y2:=hok y (by simp)
       have:=y2.bd
       have:=y2.le
       have:=y2.to
       simp only [nxF]
       omega
    simp only [push_cast,seval,-Nat.reducePow]
    refine aAs (fun s3=>s3.env 0=.str s∧s3.env 4=.lst 5 (secV (d++x::r))∧s3.env 8=.int .i64 d.length∧s3.env 7=.own id 3 0 out.length∧s3.L id=some (.vec (T 28) 3 (out.map Un.v))∧id<s3.nx∧s3.env 9=.int .i64 (cntT d x.title)∧s3.env 10=.int .i64 (nxF s r)) ?_ ?_
    ·cases r with
     | nil =>
       have q:¬ ((d.length:Nat):Int)+1<((d++[x]).length:Nat):=by simp
       simp only [push_cast,seval,-Nat.reducePow,i0,i4,i8,i7,i9,i10,hlen,q,nxF]
       exact ⟨by omega,iL,by omega⟩
     | cons y r2 =>
       have q:((d.length:Nat):Int)+1<((d++x::y::r2).length:Nat):=by simp; omega
       simp only [push_cast,seval,-Nat.reducePow,i0,i4,i8,i7,i9,i10,hlen,q,nxF,e1,aT6,Sec.v]
       exact ⟨by omega,by omega,by omega,by omega,iL,by omega⟩
    rintro s3 ⟨k0,k4,k8,k7,kL,kid,k9,k10⟩
    have hlo:=aC3 out
    simp only [push_cast,seval,-Nat.reducePow,k0,k4,k8,k7,k9,k10,hlen,aH9,Sec.v,kL,hlo]
    refine ⟨by omega,by omega,by omega,by omega,r.length,by omega,d++[x],r,out++[⟨x.title,cntT d x.title,(s.take (nxF s r)).drop x.fr⟩],s3.nx+88,by simp,rfl,by rw [← ho]; simp,by simp,by simp,?_,by omega⟩
    rw [aAd,List.map_append,List.take_of_length_le (by rw [hlo]; exact Nat.le_refl _)]
    rfl
theorem bEp {f:Nat} {args:List V} {r:V} {sz:Nat} {es:List V} (i:Nat) (hi:args[i]?=some (.lst sz es)) (h:es.length<2^63→PTr P f args r):PTr P f args r:=by
 intro D w vs hD hg hn hr
 have h0:=hr i _ hi
 have hl:es.length<2^63:=by
  revert h0
  generalize vs.getD i undef=v
  intro h0
  cases h0
  omega
 exact h hl D w vs hD hg hn hr
end Go.Ab
