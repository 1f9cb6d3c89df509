/- Lowered code of the functions, by program. No condition. -/
import Derived.Test.YtcmnepgnkcoiiaaGreatDoorAbZ1
set_option linter.unusedVariables false
namespace Go.Ab
def c176 (F T:Nat→Nat):C :=
 .n [.mov (some 0) (.k (.bool false))] <|
 .n [.build (some 3) [(.int .i64 0),(.str [])] [(0,1,(.i 2)),(1,1,(.s [65,110,110]))],.alloc 1 (T 17) [(.int .i64 0),(.str [])],.store 2 (.t 1) (.t 3)] <|
 .n [.build (some 4) [(.int .i64 0),(.int .i64 0),(.str [])] [(0,1,(.i 1))],.build (some 5) [(.bool false),(.int .i64 0),(.str []),(.int .i64 0),(.int .i64 0),(.str [])] [(0,1,(.k (.bool true))),(1,1,(.i 1)),(2,1,(.s [97,108,108])),(3,3,(.t 4))],.load (some 6) false 2 true (.t 1),.build (some 7) [(.int .i64 0),(.int .i64 0),(.str [])] [(0,1,(.i 3)),(1,2,(.t 6))],.build (some 8) [(.bool false),(.int .i64 0),(.str []),(.int .i64 0),(.int .i64 0),(.str [])] [(1,1,(.i 1)),(2,1,(.s [97,108,108])),(3,3,(.t 7))],.mkl (some 9) 6 [.t 5,.t 8],.build (some 10) [.nils,.nils,.nils] [(1,1,(.t 9))],.alloc 2 (T 16) [.nils,.nils,.nils],.store 3 (.t 2) (.t 10)] <|
 .seq (.ops false [⟨none,[.load (some 11) false 3 true (.t 2),.mkl (some 12) 1 [.s [97,108,108]],.build (some 13) [(.int .i64 0),(.str [])] [(1,1,(.s [65]))],.c 14 (F 178) [.t 11,.t 12,.i 1,.t 13],.m 15 14]⟩,
 ⟨some (15,true),[.load (some 16) false 3 true (.t 2),.mkl (some 17) 1 [.s [97,108,108]],.load (some 18) false 2 true (.t 1),.c 19 (F 178) [.t 16,.t 17,.i 1,.t 18],.un (some 20) .not (.t 19)]⟩,
 ⟨none,[.pf 21 15 20,.m 22 21]⟩,
 ⟨some (22,true),[.load (some 23) false 3 true (.t 2),.load (some 24) false 2 true (.t 1),.c 25 (F 179) [.t 23,(.k .nils),.t 24,.s [],.s [120]],.bi 26 .eql 25 1]⟩,
 ⟨none,[.pf 27 22 26,.m 28 27]⟩,
 ⟨some (28,true),[.load (some 29) false 3 true (.t 2),.c 30 (F 180) [.t 29,.s []],.ll 31 30,.bi 32 .eql 31 1]⟩,
 ⟨none,[.pf 33 28 32,.m 0 33]⟩]) <|
 .ret
abbrev bIy (P:Program) (F T:Nat→Nat):Prop:=Fn P (F 176) 34 [(0,none)] (c176 F T)
def c178 (F T:Nat→Nat):C :=
 .n [.box 4 (T 16) (.t 0),.box 7 (T 17) (.t 3),.mov (some 8) (.k (.bool false))] <|
 .seq (.seq (.ops false [⟨none,[.load (some 15) false 2 true (.t 7),.c 16 (F 185) [.t 15],.un (some 17) .not (.t 16),.m 18 17]⟩,
 ⟨some (18,false),[.m 19 2,.bi 20 .lss 19 1]⟩,
 ⟨none,[.pt 21 18 20,.m 22 21]⟩,
 ⟨some (22,false),[.m 23 2,.bi 24 .gtr 23 5]⟩,
 ⟨none,[.pt 25 22 24]⟩]) <|
 .cond (.t 25)
 (.n [.mov (some 8) (.k (.bool false))] <|
 .ret)
 (.skip)) <|
 .seq (.n [.load (some 26) false 2 true (.t 7),.c 27 (F 181) [.t 26],.ll 28 27,.mov (some 29) (.i 0)] <|
 .block 0 <|
 .loop <|
 .n [.b 30 .lss 29 28] <|
 .seq (.cond (.t 30)
 (.skip)
 (.exit 0)) <|
 .seq (.block 1 <|
 .n [.ia 31 3 27 29,.load (some 32) false 3 true (.t 31),.alloc 10 (T 18) [(.int .i64 0),(.int .i64 0),(.str [])],.store 3 (.t 10) (.t 32)] <|
 .n [.mov (some 11) (.k (.bool false)),.mov (some 12) (.k (.bool true))] <|
 .seq (.n [.f 33 1 4,.l 34 33,.ll 35 34,.mov (some 36) (.i 0)] <|
 .block 2 <|
 .loop <|
 .n [.b 37 .lss 36 35] <|
 .seq (.cond (.t 37)
 (.skip)
 (.exit 2)) <|
 .seq (.block 3 <|
 .n [.ia 38 6 34 36,.load (some 39) false 6 true (.t 38),.alloc 14 (T 19) [(.bool false),(.int .i64 0),(.str []),(.int .i64 0),(.int .i64 0),(.str [])],.store 6 (.t 14) (.t 39)] <|
 .seq (.ops false [⟨none,[.f 40 1 14,.l 41 40,.m 42 2,.b 43 .eql 41 42,.m 44 43]⟩,
 ⟨some (44,true),[.m 45 1,.f 46 2 14,.l 47 46,.c 48 (F 220) [.t 45,.t 47]]⟩,
 ⟨none,[.pf 49 44 48,.m 50 49]⟩,
 ⟨some (50,true),[.f 51 3 14,.load (some 52) false 3 true (.t 51),.load (some 53) false 3 true (.t 10),.c 54 (F 182) [.t 52,.t 53]]⟩,
 ⟨none,[.pf 55 50 54]⟩]) <|
 .cond (.t 55)
 (.ops true [⟨none,[.m 56 12,.m 57 56]⟩,
 ⟨some (57,true),[.f 58 0 14,.l 59 58]⟩,
 ⟨none,[.pf 60 57 59,.mov (some 11) (.k (.bool true)),.m 12 60]⟩])
 (.skip)) <|
 .o [.bi 61 .add 36 1,.m 36 61]) <|
 .n [.m 62 11] <|
 .cond (.t 62)
 (.n [.m 63 12,.m 8 63] <|
 .ret)
 (.skip)) <|
 .o [.bi 64 .add 29 1,.m 29 64]) <|
 .n [.mov (some 8) (.k (.bool false))] <|
 .ret
abbrev bFr (P:Program) (F T:Nat→Nat):Prop:=Fn P (F 178) 65 [(8,none)] (c178 F T)
def c179 (F T:Nat→Nat):C :=
 .n [.box 5 (T 16) (.t 0),.box 7 (T 17) (.t 2),.mov (some 10) (.i 0)] <|
 .n [.mov (some 11) (.i 1)] <|
 .seq (.n [.f 14 2 5,.l 15 14,.ll 16 15,.mov (some 17) (.i 0)] <|
 .block 0 <|
 .loop <|
 .n [.b 18 .lss 17 16] <|
 .seq (.cond (.t 18)
 (.skip)
 (.exit 0)) <|
 .seq (.block 1 <|
 .n [.ia 19 5 15 17,.load (some 20) false 5 true (.t 19),.alloc 13 (T 20) [(.bool false),(.str []),(.int .i64 0),(.str []),(.str [])],.store 5 (.t 13) (.t 20)] <|
 .seq (.seq (.ops false [⟨none,[.f 21 2 13,.load (some 22) false 2 true (.t 21),.load (some 23) false 2 true (.t 7),.eqA (some 24) true [0,1] (.t 22) (.t 23),.m 25 24]⟩,
 ⟨some (25,false),[.m 26 1,.f 27 1 13,.l 28 27,.c 29 (F 220) [.t 26,.t 28]]⟩,
 ⟨none,[.pt 30 25 29,.m 31 30]⟩,
 ⟨some (31,false),[.load (some 32) false 5 true (.t 13),.m 33 3,.m 34 4,.c 35 (F 184) [.t 32,.t 33,.t 34],.un (some 36) .not (.t 35)]⟩,
 ⟨none,[.pt 37 31 36]⟩]) <|
 .cond (.t 37)
 (.exit 1)
 (.skip)) <|
 .seq (.n [.f 38 0 13,.l 39 38] <|
 .cond (.t 39)
 (.n [.mov (some 10) (.i 3)] <|
 .ret)
 (.skip)) <|
 .o [.mov (some 11) (.i 2)]) <|
 .o [.bi 40 .add 17 1,.m 17 40]) <|
 .n [.m 41 11,.m 10 41] <|
 .ret
abbrev aZj (P:Program) (F T:Nat→Nat):Prop:=Fn P (F 179) 42 [(10,none)] (c179 F T)
def c182 (F T:Nat→Nat):C :=
 .n [.box 2 (T 18) (.t 0),.box 3 (T 18) (.t 1),.mov (some 4) (.k (.bool false))] <|
 .seq (.n [.f 5 0 2,.l 6 5,.f 7 0 3,.l 8 7,.b 9 .neq 6 8] <|
 .cond (.t 9)
 (.n [.mov (some 4) (.k (.bool false))] <|
 .ret)
 (.skip)) <|
 .seq (.n [.f 10 0 2,.l 11 10] <|
 .block 0 <|
 .n [.bi 13 .eql 11 3,.m 12 13] <|
 .cond (.t 12)
 (.n [.f 14 1 2,.load (some 15) false 2 true (.t 14),.f 16 1 3,.load (some 17) false 2 true (.t 16),.eqA (some 18) false [0,1] (.t 15) (.t 17),.m 4 18] <|
 .ret)
 (.n [.bi 20 .eql 11 2,.m 19 20] <|
 .cond (.t 19)
 (.n [.f 21 1 2,.f 22 0 21,.l 23 22,.f 24 1 3,.f 25 0 24,.l 26 25,.b 27 .eql 23 26,.m 4 27] <|
 .ret)
 (.skip))) <|
 .n [.mov (some 4) (.k (.bool true))] <|
 .ret
abbrev bFy (P:Program) (F T:Nat→Nat):Prop:=Fn P (F 182) 28 [(4,none)] (c182 F T)
def c183 (F T:Nat→Nat):C :=
 .n [.mov (some 4) (.s []),.mov (some 5) (.k (.bool false))] <|
 .n [.m 13 0,.c 14 (F 124) [.t 13],.m 12 14,.x 15 0 12,.x 16 1 12,.m 6 15,.m 7 16] <|
 .seq (.n [.m 17 7,.bi 18 .neq 17 0] <|
 .cond (.t 18)
 (.n [.mov (some 4) (.s []),.mov (some 5) (.k (.bool false))] <|
 .ret)
 (.skip)) <|
 .n [.m 20 6,.m 21 1,.c 22 (F 128) [.t 20,.t 21],.m 19 22,.x 23 0 19,.x 24 1 19,.m 8 23,.m 9 24] <|
 .seq (.n [.m 25 9,.un (some 26) .not (.t 25)] <|
 .cond (.t 26)
 (.n [.mov (some 4) (.s []),.mov (some 5) (.k (.bool false))] <|
 .ret)
 (.skip)) <|
 .n [.m 28 0,.m 29 8,.c 30 (F 132) [.t 28,.t 29],.m 27 30,.x 31 0 27,.x 32 1 27,.m 10 31,.m 11 32] <|
 .n [.m 33 10,.m 4 33,.mov (some 5) (.k (.bool true))] <|
 .ret
abbrev bD5 (P:Program) (F T:Nat→Nat):Prop:=Fn P (F 183) 34 [(4,none),(5,none)] (c183 F T)
def c184 (F T:Nat→Nat):C :=
 .n [.box 3 (T 20) (.t 0),.mov (some 6) (.k (.bool false))] <|
 .seq (.n [.f 11 4 3,.l 12 11,.bin (some 13) .eql (.t 12) (.s [])] <|
 .cond (.t 13)
 (.n [.m 14 1,.m 15 2,.b 16 .neq 14 15,.m 6 16] <|
 .ret)
 (.skip)) <|
 .n [.m 18 1,.f 19 4 3,.l 20 19,.c 21 (F 183) [.t 18,.t 20],.m 17 21,.x 22 0 17,.x 23 1 17,.m 7 22,.m 8 23] <|
 .n [.m 25 2,.f 26 4 3,.l 27 26,.c 28 (F 183) [.t 25,.t 27],.m 24 28,.x 29 0 24,.x 30 1 24,.m 9 29,.m 10 30] <|
 .seq (.ops false [⟨none,[.m 31 8,.m 32 10,.eqB (some 33) true (.t 31) (.t 32),.m 34 33]⟩,
 ⟨some (34,false),[.m 35 7,.m 36 9,.b 37 .neq 35 36]⟩,
 ⟨none,[.pt 38 34 37,.m 6 38]⟩]) <|
 .ret
abbrev bE8 (P:Program) (F T:Nat→Nat):Prop:=Fn P (F 184) 39 [(6,none)] (c184 F T)
def c185 (F T:Nat→Nat):C :=
 .n [.box 1 (T 17) (.t 0),.mov (some 2) (.k (.bool false))] <|
 .n [.f 9 1 1,.l 10 9,.m 3 10] <|
 .seq (.seq (.ops false [⟨none,[.f 11 0 1,.l 12 11,.bi 13 .lss 12 0,.m 14 13]⟩,
 ⟨some (14,false),[.f 15 0 1,.l 16 15,.bi 17 .geq 16 6]⟩,
 ⟨none,[.pt 18 14 17,.m 19 18]⟩,
 ⟨some (19,false),[.m 20 3,.ls 21 20,.bi 22 .lss 21 1]⟩,
 ⟨none,[.pt 23 19 22,.m 24 23]⟩,
 ⟨some (24,false),[.m 25 3,.ls 26 25,.bi 27 .gtr 26 100]⟩,
 ⟨none,[.pt 28 24 27,.m 29 28]⟩,
 ⟨some (29,false),[.m 30 3,.c 31 (F 187) [.t 30],.un (some 32) .not (.t 31)]⟩,
 ⟨none,[.pt 33 29 32]⟩]) <|
 .cond (.t 33)
 (.n [.mov (some 2) (.k (.bool false))] <|
 .ret)
 (.skip)) <|
 .seq (.n [.m 34 3,.c 35 (F 171) [.t 34,.s [47]],.ll 36 35,.mov (some 37) (.i 0)] <|
 .block 0 <|
 .loop <|
 .n [.b 38 .lss 37 36] <|
 .seq (.cond (.t 38)
 (.skip)
 (.exit 0)) <|
 .seq (.block 1 <|
 .n [.ia 39 1 35 37,.l 40 39,.m 5 40] <|
 .seq (.ops false [⟨none,[.m 41 5,.bin (some 42) .eql (.t 41) (.s []),.m 43 42]⟩,
 ⟨some (43,false),[.m 44 5,.idx (some 45) (.t 44) (.i 0),.bin (some 46) .eql (.t 45) (.k (.int .u8 32))]⟩,
 ⟨none,[.pt 47 43 46,.m 48 47]⟩,
 ⟨some (48,false),[.m 49 5,.m 50 5,.ls 51 50,.bi 52 .sub 51 1,.ix 53 49 52,.bin (some 54) .eql (.t 53) (.k (.int .u8 32))]⟩,
 ⟨none,[.pt 55 48 54]⟩]) <|
 .cond (.t 55)
 (.n [.mov (some 2) (.k (.bool false))] <|
 .ret)
 (.skip)) <|
 .o [.bi 56 .add 37 1,.m 37 56]) <|
 .seq (.seq (.ops false [⟨none,[.m 57 3,.idx (some 58) (.t 57) (.i 0),.bin (some 59) .eql (.t 58) (.k (.int .u8 58)),.m 60 59]⟩,
 ⟨some (60,false),[.m 61 3,.idx (some 62) (.t 61) (.i 0),.bin (some 63) .geq (.t 62) (.k (.int .u8 97)),.m 64 63]⟩,
 ⟨some (64,true),[.m 65 3,.idx (some 66) (.t 65) (.i 0),.bin (some 67) .leq (.t 66) (.k (.int .u8 122))]⟩,
 ⟨some (60,false),[.pf 68 64 67]⟩,
 ⟨none,[.pt 69 60 68]⟩]) <|
 .cond (.t 69)
 (.n [.mov (some 2) (.k (.bool false))] <|
 .ret)
 (.skip)) <|
 .n [.m 71 3,.c 72 (F 188) [.t 71],.m 70 72,.x 73 0 70,.x 74 1 70,.x 75 2 70,.m 6 73,.m 7 74,.m 8 75] <|
 .seq (.ops false [⟨none,[.f 76 0 1,.l 77 76,.bi 78 .neq 77 0,.m 79 78]⟩,
 ⟨some (79,false),[.m 80 8,.un (some 81) .not (.t 80)]⟩,
 ⟨none,[.pt 82 79 81,.m 2 82]⟩]) <|
 .ret
abbrev bD2 (P:Program) (F T:Nat→Nat):Prop:=Fn P (F 185) 83 [(2,none)] (c185 F T)
def c186 (F T:Nat→Nat):C :=
 .n [.box 1 (T 17) (.t 0),.mov (some 2) (.k .nils)] <|
 .seq (.n [.load (some 5) false 2 true (.t 1),.c 6 (F 185) [.t 5],.un (some 7) .not (.t 6)] <|
 .cond (.t 7)
 (.n [.mov (some 2) (.k .nils)] <|
 .ret)
 (.skip)) <|
 .seq (.gha (.own 3 (T 17) 2) <| .o [.mov (some 3) (.k .nils)]) <|
 .seq (.n [.mov (some 4) (.i 0)] <|
 .block 0 <|
 .loop <|
 .seq (.n [.m 8 4,.f 9 1 1,.l 10 9,.ls 11 10,.b 12 .lss 8 11] <|
 .cond (.t 12)
 (.skip)
 (.exit 0)) <|
 .seq (.block 1 <|
 .n [.f 15 1 1,.l 16 15,.m 17 4,.ix 18 16 17,.bin (some 19) .eql (.t 18) (.k (.int .u8 47))] <|
 .cond (.t 19)
 (.p [.m 20 3,.f 21 0 1,.l 22 21,.f 23 1 1,.l 24 23,.m 25 4,.slcS (some 26) (.t 24) none (some (.t 25)),.build (some 27) [(.int .i64 0),(.str [])] [(0,1,(.t 22)),(1,1,(.t 26))],.mkl (some 28) 2 [.t 27],.app 29 (T 17) 2 (.t 20) (.t 28),.m 3 29])
 (.skip)) <|
 .o [.m 13 4,.bi 14 .add 13 1,.m 4 14]) <|
 .n [.m 30 3,.m 2 30] <|
 .ret
abbrev bAj (P:Program) (F T:Nat→Nat):Prop:=Fn P (F 186) 31 [(2,none)] (c186 F T)
def c187 (F T:Nat→Nat):C :=
 .n [.mov (some 2) (.k (.bool false))] <|
 .seq (.n [.mov (some 3) (.i 0)] <|
 .block 0 <|
 .loop <|
 .seq (.n [.m 5 3,.m 6 0,.ls 7 6,.b 8 .lss 5 7] <|
 .cond (.t 8)
 (.skip)
 (.exit 0)) <|
 .seq (.block 1 <|
 .n [.m 11 0,.m 12 3,.ix 13 11 12,.m 4 13] <|
 .seq (.ops false [⟨none,[.m 14 4,.bin (some 15) .lss (.t 14) (.k (.int .u8 32)),.m 16 15]⟩,
 ⟨some (16,false),[.m 17 4,.bin (some 18) .eql (.t 17) (.k (.int .u8 127))]⟩,
 ⟨none,[.pt 19 16 18,.m 20 19]⟩,
 ⟨some (20,false),[.m 21 4,.c 22 (F 120) [.s [60,62,91,93,123,125,124,35,95],.t 21],.bi 23 .geq 22 0]⟩,
 ⟨none,[.pt 24 20 23,.m 25 24]⟩,
 ⟨some (25,false),[.m 26 4,.bin (some 27) .eql (.t 26) (.k (.int .u8 32)),.m 28 27]⟩,
 ⟨some (28,true),[.m 29 3,.bi 30 .gtr 29 0]⟩,
 ⟨some (25,false),[.pf 31 28 30,.m 32 31]⟩,
 ⟨some (32,true),[.m 33 0,.m 34 3,.bi 35 .sub 34 1,.ix 36 33 35,.bin (some 37) .eql (.t 36) (.k (.int .u8 32))]⟩,
 ⟨some (25,false),[.pf 38 32 37]⟩,
 ⟨none,[.pt 39 25 38]⟩]) <|
 .cond (.t 39)
 (.n [.mov (some 2) (.k (.bool false))] <|
 .ret)
 (.skip)) <|
 .o [.m 9 3,.bi 10 .add 9 1,.m 3 10]) <|
 .n [.mov (some 2) (.k (.bool true))] <|
 .ret
abbrev bC0 (P:Program) (F T:Nat→Nat):Prop:=Fn P (F 187) 40 [(2,none)] (c187 F T)
def c188 (F T:Nat→Nat):C :=
 .n [.mov (some 2) (.i 0),.mov (some 3) (.s []),.mov (some 4) (.k (.bool false))] <|
 .n [.m 12 0,.c 13 (F 172) [.t 12,.s [58]],.m 11 13,.x 14 0 11,.x 15 1 11,.x 16 2 11,.m 5 14,.m 6 15,.m 7 16] <|
 .seq (.n [.m 17 7,.un (some 18) .not (.t 17)] <|
 .cond (.t 18)
 (.n [.mov (some 2) (.i 0),.mov (some 3) (.s []),.mov (some 4) (.k (.bool false))] <|
 .ret)
 (.skip)) <|
 .n [.m 19 5,.c 20 (F 173) [.t 19,.s [32]],.c 21 (F 189) [.t 20],.m 8 21] <|
 .seq (.n [.c 22 (F 190) [],.mov (some 23) (.i 0)] <|
 .block 0 <|
 .loop <|
 .n [.bi 24 .lss 23 6] <|
 .seq (.cond (.t 24)
 (.skip)
 (.exit 0)) <|
 .seq (.block 1 <|
 .n [.m 25 23,.idxA (some 26) 6 1 false (.t 22) (.t 23),.m 9 25,.m 10 26] <|
 .seq (.ops false [⟨none,[.m 27 9,.bi 28 .neq 27 0,.m 29 28]⟩,
 ⟨some (29,true),[.m 30 8,.m 31 10,.c 32 (F 189) [.t 31],.b 33 .eql 30 32]⟩,
 ⟨none,[.pf 34 29 33]⟩]) <|
 .cond (.t 34)
 (.n [.m 35 9,.m 36 6,.m 2 35,.m 3 36,.mov (some 4) (.k (.bool true))] <|
 .ret)
 (.skip)) <|
 .o [.bi 37 .add 23 1,.m 23 37]) <|
 .n [.mov (some 2) (.i 0),.mov (some 3) (.s []),.mov (some 4) (.k (.bool false))] <|
 .ret
abbrev bAi (P:Program) (F T:Nat→Nat):Prop:=Fn P (F 188) 38 [(2,none),(3,none),(4,none)] (c188 F T)
def c189 (F T:Nat→Nat):C :=
 .n [.mov (some 2) (.s [])] <|
 .n [.m 6 0,.s2b 7 (T 3) (.t 6),.m 3 7] <|
 .seq (.n [.m 8 3,.ll 9 8,.mov (some 10) (.i 0)] <|
 .block 0 <|
 .loop <|
 .n [.b 11 .lss 10 9] <|
 .seq (.cond (.t 11)
 (.skip)
 (.exit 0)) <|
 .seq (.block 1 <|
 .n [.m 12 10,.ia 13 1 8 10,.l 14 13,.m 4 12,.m 5 14] <|
 .seq (.ops false [⟨none,[.m 15 5,.bin (some 16) .geq (.t 15) (.k (.int .u8 65)),.m 17 16]⟩,
 ⟨some (17,true),[.m 18 5,.bin (some 19) .leq (.t 18) (.k (.int .u8 90))]⟩,
 ⟨none,[.pf 20 17 19]⟩]) <|
 .cond (.t 20)
 (.o [.m 21 3,.m 22 4,.m 23 5,.bin (some 24) .add (.t 23) (.k (.int .u8 32)),.ia 25 1 21 22,.store 1 (.t 25) (.t 24)])
 (.skip)) <|
 .o [.bi 26 .add 10 1,.m 10 26]) <|
 .n [.m 27 3,.b2s (some 28) (.t 27),.m 2 28] <|
 .ret
abbrev aZc (P:Program) (F T:Nat→Nat):Prop:=Fn P (F 189) 29 [(2,none)] (c189 F T)
def c190 (F T:Nat→Nat):C :=
 .n [.alloc 0 (T 25) [(.str []),(.str []),(.str []),(.str []),(.str []),(.str [])]] <|
 .n [.build (some 1) [(.str []),(.str []),(.str []),(.str []),(.str []),(.str [])] [(0,1,(.s [])),(1,1,(.s [84,97,108,107])),(2,1,(.s [85,115,101,114])),(3,1,(.s [84,101,109,112,108,97,116,101])),(4,1,(.s [67,97,116,101,103,111,114,121])),(5,1,(.s [80,114,111,106,101,99,116]))],.store 6 (.t 0) (.t 1)] <|
 .ret
abbrev aXe (P:Program) (F T:Nat→Nat):Prop:=Fn P (F 190) 2 [(0,(some (6,true)))] (c190 F T)
def c191 (F T:Nat→Nat):C :=
 .n [.mov (some 2) (.k (.bool false))] <|
 .seq (.seq (.ops false [⟨none,[.m 5 0,.ls 6 5,.bi 7 .lss 6 1,.m 8 7]⟩,
 ⟨some (8,false),[.m 9 0,.ls 10 9,.bi 11 .gtr 10 30]⟩,
 ⟨none,[.pt 12 8 11,.m 13 12]⟩,
 ⟨some (13,false),[.m 14 0,.idx (some 15) (.t 14) (.i 0),.bin (some 16) .lss (.t 15) (.k (.int .u8 97))]⟩,
 ⟨none,[.pt 17 13 16,.m 18 17]⟩,
 ⟨some (18,false),[.m 19 0,.idx (some 20) (.t 19) (.i 0),.bin (some 21) .gtr (.t 20) (.k (.int .u8 122))]⟩,
 ⟨none,[.pt 22 18 21]⟩]) <|
 .cond (.t 22)
 (.n [.mov (some 2) (.k (.bool false))] <|
 .ret)
 (.skip)) <|
 .seq (.n [.m 23 0,.ls 24 23,.mov (some 25) (.i 0)] <|
 .block 0 <|
 .loop <|
 .n [.b 26 .lss 25 24] <|
 .seq (.cond (.t 26)
 (.skip)
 (.exit 0)) <|
 .seq (.block 1 <|
 .n [.m 27 25,.m 3 27] <|
 .seqc (.o [.m 28 0,.m 29 3,.ix 30 28 29,.m 4 30]) <|
 .seq (.ops false [⟨none,[.m 31 4,.bin (some 32) .lss (.t 31) (.k (.int .u8 97)),.m 33 32]⟩,
 ⟨some (33,false),[.m 34 4,.bin (some 35) .gtr (.t 34) (.k (.int .u8 122))]⟩,
 ⟨none,[.pt 36 33 35,.m 37 36]⟩,
 ⟨some (37,true),[.m 38 4,.bin (some 39) .lss (.t 38) (.k (.int .u8 48)),.m 40 39]⟩,
 ⟨some (40,false),[.m 41 4,.bin (some 42) .gtr (.t 41) (.k (.int .u8 57))]⟩,
 ⟨some (37,true),[.pt 43 40 42]⟩,
 ⟨none,[.pf 44 37 43,.m 45 44]⟩,
 ⟨some (45,true),[.m 46 4,.bin (some 47) .neq (.t 46) (.k (.int .u8 45))]⟩,
 ⟨none,[.pf 48 45 47,.m 49 48]⟩,
 ⟨some (49,true),[.m 50 4,.bin (some 51) .neq (.t 50) (.k (.int .u8 95))]⟩,
 ⟨none,[.pf 52 49 51]⟩]) <|
 .cond (.t 52)
 (.n [.mov (some 2) (.k (.bool false))] <|
 .ret)
 (.skip)) <|
 .o [.bi 53 .add 25 1,.m 25 53]) <|
 .n [.mov (some 2) (.k (.bool true))] <|
 .ret
abbrev aZ1 (P:Program) (F T:Nat→Nat):Prop:=Fn P (F 191) 54 [(2,none)] (c191 F T)
def c193 (F T:Nat→Nat):C :=
 .n [.mov (some 4) (.k (.bool false))] <|
 .seq (.n [.mov (some 5) (.i 0)] <|
 .block 0 <|
 .loop <|
 .seq (.n [.m 6 5,.m 7 0,.ll 8 7,.b 9 .lss 6 8] <|
 .cond (.t 9)
 (.skip)
 (.exit 0)) <|
 .seq (.block 1 <|
 .n [.m 12 0,.m 13 5,.ia 14 1 12 13,.l 15 14,.m 16 1,.b 17 .eql 15 16] <|
 .cond (.t 17)
 (.n [.mov (some 4) (.k (.bool true))] <|
 .ret)
 (.skip)) <|
 .o [.m 10 5,.bi 11 .add 10 1,.m 5 11]) <|
 .n [.mov (some 4) (.k (.bool false))] <|
 .ret
abbrev bIg (P:Program) (F T:Nat→Nat):Prop:=Fn P (F 193) 18 [(4,none)] (c193 F T)
def c196 (F T:Nat→Nat):C :=
 .n [.mov (some 4) (.s []),.mov (some 5) (.k (.bool false))] <|
 .n [.m 11 0,.c 12 (F 159) [.t 11],.m 10 12,.x 13 0 10,.x 14 1 10,.m 6 13,.m 7 14] <|
 .seq (.n [.m 15 7,.bi 16 .neq 15 0] <|
 .cond (.t 16)
 (.n [.mov (some 4) (.s []),.mov (some 5) (.k (.bool false))] <|
 .ret)
 (.skip)) <|
 .n [.m 18 6,.m 19 1,.c 20 (F 129) [.t 18,.t 19],.m 17 20,.x 21 0 17,.x 22 1 17,.m 8 21,.m 9 22] <|
 .seq (.n [.m 23 9,.un (some 24) .not (.t 23)] <|
 .cond (.t 24)
 (.n [.mov (some 4) (.s []),.mov (some 5) (.k (.bool false))] <|
 .ret)
 (.skip)) <|
 .seq (.p [.m 25 0,.m 26 6,.m 27 8,.ia 28 5 26 27,.f 29 2 28,.l 30 29,.m 31 6,.m 32 8,.ia 33 5 31 32,.f 34 4 33,.l 35 34,.slcS (some 36) (.t 25) (some (.t 30)) (some (.t 35)),.m 4 36,.mov (some 5) (.k (.bool true))]) <|
 .ret
abbrev bHo (P:Program) (F T:Nat→Nat):Prop:=Fn P (F 196) 37 [(4,none),(5,none)] (c196 F T)
def c197 (F T:Nat→Nat):C :=
 .n [.box 4 (T 20) (.t 0),.mov (some 8) (.k (.bool false))] <|
 .seq (.n [.m 13 1,.f 14 1 4,.l 15 14,.c 16 (F 193) [.t 13,.t 15]] <|
 .cond (.t 16)
 (.n [.mov (some 8) (.k (.bool false))] <|
 .ret)
 (.skip)) <|
 .seq (.n [.f 17 4 4,.l 18 17,.bin (some 19) .eql (.t 18) (.s [])] <|
 .cond (.t 19)
 (.n [.m 20 2,.m 21 3,.b 22 .neq 20 21,.m 8 22] <|
 .ret)
 (.skip)) <|
 .n [.m 24 2,.f 25 4 4,.l 26 25,.c 27 (F 196) [.t 24,.t 26],.m 23 27,.x 28 0 23,.x 29 1 23,.m 9 28,.m 10 29] <|
 .n [.m 31 3,.f 32 4 4,.l 33 32,.c 34 (F 196) [.t 31,.t 33],.m 30 34,.x 35 0 30,.x 36 1 30,.m 11 35,.m 12 36] <|
 .seq (.ops false [⟨none,[.m 37 10,.m 38 12,.eqB (some 39) true (.t 37) (.t 38),.m 40 39]⟩,
 ⟨some (40,false),[.m 41 9,.m 42 11,.b 43 .neq 41 42]⟩,
 ⟨none,[.pt 44 40 43,.m 8 44]⟩]) <|
 .ret
abbrev bIz (P:Program) (F T:Nat→Nat):Prop:=Fn P (F 197) 45 [(8,none)] (c197 F T)
def c198 (F T:Nat→Nat):C :=
 .n [.box 5 (T 16) (.t 0),.box 7 (T 17) (.t 2),.mov (some 10) (.i 0)] <|
 .n [.mov (some 11) (.i 1)] <|
 .seq (.n [.mov (some 12) (.i 0)] <|
 .block 0 <|
 .loop <|
 .seq (.n [.m 14 12,.f 15 2 5,.l 16 15,.ll 17 16,.b 18 .lss 14 17] <|
 .cond (.t 18)
 (.skip)
 (.exit 0)) <|
 .seq (.block 1 <|
 .n [.f 21 2 5,.l 22 21,.m 23 12,.ia 24 5 22 23,.load (some 25) false 5 true (.t 24),.alloc 13 (T 20) [(.bool false),(.str []),(.int .i64 0),(.str []),(.str [])],.store 5 (.t 13) (.t 25)] <|
 .seq (.seq (.ops false [⟨none,[.f 26 2 13,.load (some 27) false 2 true (.t 26),.load (some 28) false 2 true (.t 7),.eqA (some 29) true [0,1] (.t 27) (.t 28),.m 30 29]⟩,
 ⟨some (30,false),[.load (some 31) false 5 true (.t 13),.m 32 1,.m 33 3,.m 34 4,.c 35 (F 197) [.t 31,.t 32,.t 33,.t 34],.un (some 36) .not (.t 35)]⟩,
 ⟨none,[.pt 37 30 36]⟩]) <|
 .cond (.t 37)
 (.exit 1)
 (.skip)) <|
 .seq (.n [.f 38 0 13,.l 39 38] <|
 .cond (.t 39)
 (.n [.mov (some 10) (.i 3)] <|
 .ret)
 (.skip)) <|
 .o [.mov (some 11) (.i 2)]) <|
 .o [.m 19 12,.bi 20 .add 19 1,.m 12 20]) <|
 .n [.m 40 11,.m 10 40] <|
 .ret
abbrev bH4 (P:Program) (F T:Nat→Nat):Prop:=Fn P (F 198) 41 [(10,none)] (c198 F T)
def c220 (F T:Nat→Nat):C :=
 .n [.mov (some 4) (.k (.bool false))] <|
 .n [.m 5 0,.m 6 1,.c 7 (F 222) [.t 5,.t 6],.bi 8 .geq 7 0,.m 4 8] <|
 .ret
abbrev bAg (P:Program) (F T:Nat→Nat):Prop:=Fn P (F 220) 9 [(4,none)] (c220 F T)
def c222 (F T:Nat→Nat):C :=
 .n [.mov (some 4) (.i 0)] <|
 .seq (.n [.m 6 0,.ll 7 6,.mov (some 8) (.i 0)] <|
 .block 0 <|
 .loop <|
 .n [.b 9 .lss 8 7] <|
 .seq (.cond (.t 9)
 (.skip)
 (.exit 0)) <|
 .seq (.block 1 <|
 .n [.m 10 8,.m 5 10] <|
 .n [.m 11 1,.m 12 0,.m 13 5,.ia 14 1 12 13,.l 15 14,.b 16 .eql 11 15] <|
 .cond (.t 16)
 (.n [.m 17 5,.m 4 17] <|
 .ret)
 (.skip)) <|
 .o [.bi 18 .add 8 1,.m 8 18]) <|
 .n [.mov (some 4) (.k (.int .i64 (-1)))] <|
 .ret
abbrev aZk (P:Program) (F T:Nat→Nat):Prop:=Fn P (F 222) 19 [(4,none)] (c222 F T)
def c227 (F T:Nat→Nat):C :=
 .n [.mov (some 2) (.i 0)] <|
 .seq (.cond (.k (.bool false))
 (.n [.m 3 0,.cvt (some 4) .u32 (.t 3),.c 5 (F 239) [.t 4],.m 2 5] <|
 .ret)
 (.skip)) <|
 .n [.m 6 0,.c 7 (F 240) [.t 6],.m 2 7] <|
 .ret
abbrev aXb (P:Program) (F T:Nat→Nat):Prop:=Fn P (F 227) 8 [(2,none)] (c227 F T)
def c229 (F T:Nat→Nat):C :=
 .n [.m 4 0,.ll 5 4,.bi 6 .sub 5 1,.mov (some 2) (.i 0),.m 3 6] <|
 .block 0 <|
 .loop <|
 .seq (.n [.m 7 2,.m 8 3,.b 9 .lss 7 8] <|
 .cond (.t 9)
 (.skip)
 (.exit 0)) <|
 .seq (.block 1 <|
 .p [.m 14 0,.m 15 2,.m 16 0,.m 17 3,.m 18 0,.m 19 3,.ia 20 2 18 19,.load (some 21) false 2 true (.t 20),.m 22 0,.m 23 2,.ia 24 2 22 23,.load (some 25) false 2 true (.t 24),.ia 26 2 14 15,.store 2 (.t 26) (.t 21),.ia 27 2 16 17,.store 2 (.t 27) (.t 25)]) <|
 .o [.m 10 2,.bi 11 .add 10 1,.m 12 3,.bi 13 .sub 12 1,.m 2 11,.m 3 13]
abbrev bCt (P:Program) (F T:Nat→Nat):Prop:=Fn P (F 229) 28 [] (c229 F T)
def c230 (F T:Nat→Nat):C :=
 .n [.m 8 1,.bi 9 .add 8 1,.m 6 9] <|
 .block 0 <|
 .loop <|
 .seq (.n [.m 10 6,.m 11 2,.b 12 .lss 10 11] <|
 .cond (.t 12)
 (.skip)
 (.exit 0)) <|
 .seq (.block 1 <|
 .n [.m 15 6,.m 7 15] <|
 .block 2 <|
 .loop <|
 .seq (.seq (.ops true [⟨none,[.m 16 7,.m 17 1,.b 18 .gtr 16 17,.m 19 18]⟩,
 ⟨some (19,true),[.m 20 0,.m 21 7,.ia 22 1 20 21,.l 23 22,.m 24 0,.m 25 7,.bi 26 .sub 25 1,.ia 27 1 24 26,.l 28 27,.c 29 (F 236) [.t 23,.t 28]]⟩,
 ⟨none,[.pf 30 19 29]⟩]) <|
 .cond (.t 30)
 (.skip)
 (.exit 2)) <|
 .seq (.block 3 <|
 .p [.m 33 0,.m 34 7,.m 35 0,.m 36 7,.bi 37 .sub 36 1,.m 38 0,.m 39 7,.bi 40 .sub 39 1,.ia 41 1 38 40,.l 42 41,.m 43 0,.m 44 7,.ia 45 1 43 44,.l 46 45,.ia 47 1 33 34,.store 1 (.t 47) (.t 42),.ia 48 1 35 37,.store 1 (.t 48) (.t 46)]) <|
 .o [.m 31 7,.bi 32 .sub 31 1,.m 7 32]) <|
 .o [.m 13 6,.bi 14 .add 13 1,.m 6 14]
abbrev aUb (P:Program) (F T:Nat→Nat):Prop:=Fn P (F 230) 49 [] (c230 F T)
def c240 (F T:Nat→Nat):C :=
 .n [.mov (some 2) (.i 0)] <|
 .seq (.n [.m 3 0,.bin (some 4) .geq (.t 3) (.k (.int .u64 4294967296))] <|
 .cond (.t 4)
 (.n [.m 5 0,.bin (some 6) .shr (.t 5) (.k (.int .u64 32)),.m 0 6] <|
 .o [.mov (some 2) (.i 32)])
 (.skip)) <|
 .seq (.n [.m 7 0,.bin (some 8) .geq (.t 7) (.k (.int .u64 65536))] <|
 .cond (.t 8)
 (.n [.m 9 0,.bin (some 10) .shr (.t 9) (.k (.int .u64 16)),.m 0 10] <|
 .o [.m 11 2,.bi 12 .add 11 16,.m 2 12])
 (.skip)) <|
 .seq (.n [.m 13 0,.bin (some 14) .geq (.t 13) (.k (.int .u64 256))] <|
 .cond (.t 14)
 (.n [.m 15 0,.bin (some 16) .shr (.t 15) (.k (.int .u64 8)),.m 0 16] <|
 .o [.m 17 2,.bi 18 .add 17 8,.m 2 18])
 (.skip)) <|
 .n [.m 19 2,.m 20 0,.cvt (some 21) .u8 (.t 20),.idx (some 22) (.s [0,1,2,2,3,3,3,3,4,4,4,4,4,4,4,4,5,5,5,5,5,5,5,5,5,5,5,5,5,5,5,5,6,6,6,6,6,6,6,6,6,6,6,6,6,6,6,6,6,6,6,6,6,6,6,6,6,6,6,6,6,6,6,6,7,7,7,7,7,7,7,7,7,7,7,7,7,7,7,7,7,7,7,7,7,7,7,7,7,7,7,7,7,7,7,7,7,7,7,7,7,7,7,7,7,7,7,7,7,7,7,7,7,7,7,7,7,7,7,7,7,7,7,7,7,7,7,7,8,8,8,8,8,8,8,8,8,8,8,8,8,8,8,8,8,8,8,8,8,8,8,8,8,8,8,8,8,8,8,8,8,8,8,8,8,8,8,8,8,8,8,8,8,8,8,8,8,8,8,8,8,8,8,8,8,8,8,8,8,8,8,8,8,8,8,8,8,8,8,8,8,8,8,8,8,8,8,8,8,8,8,8,8,8,8,8,8,8,8,8,8,8,8,8,8,8,8,8,8,8,8,8,8,8,8,8,8,8,8,8,8,8,8,8,8,8,8,8,8,8,8,8,8,8,8,8]) (.t 21),.cvt (some 23) .i64 (.t 22),.b 24 .add 19 23,.m 2 24] <|
 .ret
abbrev aU9 (P:Program) (F T:Nat→Nat):Prop:=Fn P (F 240) 25 [(2,none)] (c240 F T)
end Go.Ab
