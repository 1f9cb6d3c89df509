/- Lowered code of the functions, by program. No condition. -/
import Derived.Test.YtcmnepgnkcoiiaaGreatDoorAbG12
set_option linter.unusedVariables false
namespace Go.Ab
def c207 (F T:Nat→Nat):C :=
 .n [.alloc 2 (T 16) [.nils,.nils,.nils]] <|
 .seq (.gha .fz <| .o [.alloc 3 (T 16) [.nils,.nils,.nils]]) <|
 .n [.mkl (some 15) 1 [.s [115,116,97,102,102],.s [109,111,100,115],.s [103,111,108,100]],.m 4 15] <|
 .n [.m 16 0,.e 17 138 (F 46) [.t 16,.i 4],.m 5 17] <|
 .seqc (.n [.mov (some 6) (.i 0)] <|
 .block 0 <|
 .loop <|
 .seq (.n [.m 18 6,.m 19 5,.b 20 .lss 18 19] <|
 .cond (.t 20)
 (.skip)
 (.exit 0)) <|
 .seq (.block 1 <|
 .seq (.gha .fz <| .o [.m 23 4,.m 24 6,.ia 25 1 23 24,.l 26 25,.build (some 27) [(.str []),.nils] [(0,1,(.t 26))],.alloc 7 (T 22) [(.str []),.nils],.store 2 (.t 7) (.t 27)]) <|
 .seqc (.n [.mov (some 8) (.i 0)] <|
 .block 2 <|
 .loop <|
 .seq (.n [.m 28 8,.m 29 0,.e 30 138 (F 46) [.t 29,.i 3],.b 31 .lss 28 30] <|
 .cond (.t 31)
 (.skip)
 (.exit 2)) <|
 .seq (.block 3 <|
 .n [.m 34 0,.e 35 138 (F 221) [.t 34],.m 9 35] <|
 .seqc (.n [.m 36 0,.e 37 138 (F 46) [.t 36,.i 3],.bi 38 .eql 37 0] <|
 .cond (.t 38)
 (.o [.m 39 4,.m 40 0,.m 41 5,.e 42 138 (F 46) [.t 40,.t 41],.ia 43 1 39 42,.l 44 43,.bin (some 45) .add (.s [64]) (.t 44),.m 9 45])
 (.skip)) <|
 .seqc (.n [.m 46 0,.e 47 138 (F 46) [.t 46,.i 9],.bi 48 .eql 47 0] <|
 .cond (.t 48)
 (.o [.mov (some 9) (.s [64,117,115,101,114,115])])
 (.skip)) <|
 .gha .fz <| .o [.f 49 1 7,.l 50 49,.appl 51 (T 21) 1 (.t 50),.m 52 9,.mkl (some 53) 1 [.t 52],.app 54 (T 21) 1 (.t 51) (.t 53),.f 55 1 7,.store 1 (.t 55) (.t 54)]) <|
 .o [.m 32 8,.bi 33 .add 32 1,.m 8 33]) <|
 .gha .fz <| .p [.f 56 0 3,.l 57 56,.appl 58 (T 22) 2 (.t 57),.load (some 59) false 2 true (.t 7),.mkl (some 60) 2 [.t 59],.app 61 (T 22) 2 (.t 58) (.t 60),.f 62 0 3,.store 1 (.t 62) (.t 61)]) <|
 .o [.m 21 6,.bi 22 .add 21 1,.m 6 22]) <|
 .seq (.gha (.frz 10) <| .o [.mkv 63 (T 21) 1 [.s [97,108,108],.s [117,115,101,114,115]],.m 64 4,.m 65 5,.slc (some 66) 1 (.t 64) none (some (.t 65)),.app 67 (T 21) 1 (.t 63) (.t 66),.m 10 67]) <|
 .n [.build (some 68) [(.int .i64 0),(.int .i64 0),(.str [])] [(0,1,(.i 1))],.build (some 69) [(.bool false),(.int .i64 0),(.str []),(.int .i64 0),(.int .i64 0),(.str [])] [(0,1,(.k (.bool true))),(1,1,(.i 1)),(2,1,(.s [97,108,108])),(3,3,(.t 68))],.mkl (some 70) 6 [.t 69],.f 71 1 3,.store 1 (.t 71) (.t 70)] <|
 .seqc (.n [.mov (some 11) (.i 0)] <|
 .block 4 <|
 .loop <|
 .seq (.n [.m 72 11,.m 73 0,.e 74 138 (F 46) [.t 73,.i 7],.b 75 .lss 72 74] <|
 .cond (.t 75)
 (.skip)
 (.exit 4)) <|
 .seq (.block 5 <|
 .n [.m 78 0,.e 79 138 (F 46) [.t 78,.i 3],.bi 80 .gtr 79 0,.m 81 0,.e 82 138 (F 46) [.t 81,.i 5],.bin (some 83) .add (.i 1) (.t 82),.m 84 0,.m 85 10,.e 86 138 (F 47) [.t 84,.t 85],.build (some 87) [(.bool false),(.int .i64 0),(.str []),(.int .i64 0),(.int .i64 0),(.str [])] [(0,1,(.t 80)),(1,1,(.t 83)),(2,1,(.t 86))],.alloc 12 (T 19) [(.bool false),(.int .i64 0),(.str []),(.int .i64 0),(.int .i64 0),(.str [])],.store 6 (.t 12) (.t 87)] <|
 .seqc (.n [.m 88 0,.e 89 138 (F 46) [.t 88,.i 3]] <|
 .block 6 <|
 .n [.bi 95 .eql 89 0,.m 94 95] <|
 .cond (.t 94)
 (.o [.build (some 96) [(.int .i64 0),(.int .i64 0),(.str [])] [(0,1,(.i 1))],.f 97 3 12,.store 3 (.t 97) (.t 96)])
 (.n [.bi 99 .eql 89 1,.m 98 99] <|
 .cond (.t 98)
 (.o [.m 100 0,.e 101 138 (F 46) [.t 100,.i 6],.build (some 102) [(.int .i64 0),(.str [])] [(0,1,(.t 101))],.build (some 103) [(.int .i64 0),(.int .i64 0),(.str [])] [(0,1,(.i 2)),(1,2,(.t 102))],.f 104 3 12,.store 3 (.t 104) (.t 103)])
 (.o [.m 90 0,.e 91 138 (F 213) [.t 90],.build (some 92) [(.int .i64 0),(.int .i64 0),(.str [])] [(0,1,(.i 3)),(1,2,(.t 91))],.f 93 3 12,.store 3 (.t 93) (.t 92)]))) <|
 .gha .fz <| .p [.f 105 1 3,.l 106 105,.appl 107 (T 19) 6 (.t 106),.load (some 108) false 6 true (.t 12),.mkl (some 109) 6 [.t 108],.app 110 (T 19) 6 (.t 107) (.t 109),.f 111 1 3,.store 1 (.t 111) (.t 110)]) <|
 .o [.m 76 11,.bi 77 .add 76 1,.m 11 77]) <|
 .seqc (.n [.mov (some 13) (.i 0)] <|
 .block 7 <|
 .loop <|
 .seq (.n [.m 112 13,.m 113 0,.e 114 138 (F 46) [.t 113,.i 4],.b 115 .lss 112 114] <|
 .cond (.t 115)
 (.skip)
 (.exit 7)) <|
 .seq (.block 8 <|
 .n [.m 118 0,.e 119 138 (F 46) [.t 118,.i 3],.bi 120 .eql 119 0,.m 121 0,.m 122 10,.e 123 138 (F 47) [.t 121,.t 122],.m 124 0,.e 125 138 (F 213) [.t 124],.m 126 0,.mkl (some 127) 1 [.s [],.s [115],.s [116],.s [97,32,98]],.e 128 138 (F 47) [.t 126,.t 127],.build (some 129) [(.bool false),(.str []),(.int .i64 0),(.str []),(.str [])] [(0,1,(.t 120)),(1,1,(.t 123)),(2,2,(.t 125)),(4,1,(.t 128))],.alloc 14 (T 20) [(.bool false),(.str []),(.int .i64 0),(.str []),(.str [])],.store 5 (.t 14) (.t 129)] <|
 .gha .fz <| .p [.f 130 2 3,.l 131 130,.appl 132 (T 20) 5 (.t 131),.load (some 133) false 5 true (.t 14),.mkl (some 134) 5 [.t 133],.app 135 (T 20) 5 (.t 132) (.t 134),.f 136 2 3,.store 1 (.t 136) (.t 135)]) <|
 .o [.m 116 13,.bi 117 .add 116 1,.m 13 117]) <|
 .n [.load (some 137) false 3 true (.t 3),.store 3 (.t 2) (.t 137)] <|
 .ret
abbrev bHg (P:Program) (F T:Nat→Nat):Prop:=Fn P (F 207) 138 [(2,(some (3,true)))] (c207 F T)
def c208 (F T:Nat→Nat):C :=
 .n [.mov (some 2) (.s [])] <|
 .n [.m 3 0,.mkl (some 4) 1 [.s [97,110,110],.s [98,111,98],.s [],.s [122,111,101]],.e 5 6 (F 47) [.t 3,.t 4],.m 2 5] <|
 .ret
abbrev bEm (P:Program) (F T:Nat→Nat):Prop:=Fn P (F 208) 6 [(2,none)] (c208 F T)
def c213 (F T:Nat→Nat):C :=
 .n [.alloc 2 (T 17) [(.int .i64 0),(.str [])]] <|
 .n [.m 3 0,.e 4 9 (F 46) [.t 3,.i 6],.m 5 0,.mkl (some 6) 1 [.s [65],.s [66],.s [65,47,66],.s [67],.s [84],.s [85,47,120],.s [65,47,66,47,99],.s [76,111,110,103,32,110,97,109,101],.s [49],.s [88]],.e 7 9 (F 47) [.t 5,.t 6],.build (some 8) [(.int .i64 0),(.str [])] [(0,1,(.t 4)),(1,1,(.t 7))],.store 2 (.t 2) (.t 8)] <|
 .ret
abbrev bGg (P:Program) (F T:Nat→Nat):Prop:=Fn P (F 213) 9 [(2,(some (2,true)))] (c213 F T)
def c221 (F T:Nat→Nat):C :=
 .n [.mov (some 2) (.s [])] <|
 .n [.m 3 0,.mkl (some 4) 1 [.s [97,110,110],.s [98,111,98],.s [115,116,97,102,102],.s [109,111,100,115],.s [122,111,101]],.e 5 6 (F 47) [.t 3,.t 4],.m 2 5] <|
 .ret
abbrev bE8 (P:Program) (F T:Nat→Nat):Prop:=Fn P (F 221) 6 [(2,none)] (c221 F T)
def c217 (F T:Nat→Nat):C :=
 .n [.mov (some 2) (.k (.bool false))] <|
 .seq (.seq (.ops false [⟨none,[.m 5 0,.ls 6 5,.bi 7 .lss 6 1,.m 8 7]⟩,
 ⟨some (8,false),[.m 9 0,.ls 10 9,.bi 11 .gtr 10 30]⟩,
 ⟨none,[.pt 12 8 11,.m 13 12]⟩,
 ⟨some (13,false),[.m 14 0,.idx (some 15) (.t 14) (.i 0),.bin (some 16) .lss (.t 15) (.k (.int .u8 97))]⟩,
 ⟨none,[.pt 17 13 16,.m 18 17]⟩,
 ⟨some (18,false),[.m 19 0,.idx (some 20) (.t 19) (.i 0),.bin (some 21) .gtr (.t 20) (.k (.int .u8 122))]⟩,
 ⟨none,[.pt 22 18 21]⟩]) <|
 .cond (.t 22)
 (.n [.mov (some 2) (.k (.bool false))] <|
 .ret)
 (.skip)) <|
 .seq (.n [.mov (some 3) (.i 0)] <|
 .block 0 <|
 .loop <|
 .seq (.n [.m 23 3,.m 24 0,.ls 25 24,.b 26 .lss 23 25] <|
 .cond (.t 26)
 (.skip)
 (.exit 0)) <|
 .seq (.block 1 <|
 .n [.m 29 0,.m 30 3,.ix 31 29 30,.m 4 31] <|
 .seq (.ops false [⟨none,[.m 32 4,.bin (some 33) .lss (.t 32) (.k (.int .u8 97)),.m 34 33]⟩,
 ⟨some (34,false),[.m 35 4,.bin (some 36) .gtr (.t 35) (.k (.int .u8 122))]⟩,
 ⟨none,[.pt 37 34 36,.m 38 37]⟩,
 ⟨some (38,true),[.m 39 4,.bin (some 40) .lss (.t 39) (.k (.int .u8 48)),.m 41 40]⟩,
 ⟨some (41,false),[.m 42 4,.bin (some 43) .gtr (.t 42) (.k (.int .u8 57))]⟩,
 ⟨some (38,true),[.pt 44 41 43]⟩,
 ⟨none,[.pf 45 38 44,.m 46 45]⟩,
 ⟨some (46,true),[.m 47 4,.bin (some 48) .neq (.t 47) (.k (.int .u8 45))]⟩,
 ⟨none,[.pf 49 46 48,.m 50 49]⟩,
 ⟨some (50,true),[.m 51 4,.bin (some 52) .neq (.t 51) (.k (.int .u8 95))]⟩,
 ⟨none,[.pf 53 50 52]⟩]) <|
 .cond (.t 53)
 (.n [.mov (some 2) (.k (.bool false))] <|
 .ret)
 (.skip)) <|
 .o [.m 27 3,.bi 28 .add 27 1,.m 3 28]) <|
 .n [.mov (some 2) (.k (.bool true))] <|
 .ret
abbrev aWu (P:Program) (F T:Nat→Nat):Prop:=Fn P (F 217) 54 [(2,none)] (c217 F T)
def c218 (F T:Nat→Nat):C :=
 .n [.mov (some 4) (.k .nils)] <|
 .n [.mov (some 5) (.i 0)] <|
 .seq (.block 0 <|
 .loop <|
 .seq (.seq (.ops false [⟨none,[.m 6 5,.m 7 0,.ll 8 7,.b 9 .lss 6 8,.m 10 9]⟩,
 ⟨some (10,true),[.m 11 0,.m 12 5,.ia 13 1 11 12,.l 14 13,.m 15 1,.b 16 .lss 14 15]⟩,
 ⟨none,[.pf 17 10 16]⟩]) <|
 .cond (.t 17)
 (.skip)
 (.exit 0)) <|
 .block 1 <|
 .o [.m 18 5,.bi 19 .add 18 1,.m 5 19]) <|
 .seq (.seq (.ops false [⟨none,[.m 20 5,.m 21 0,.ll 22 21,.b 23 .lss 20 22,.m 24 23]⟩,
 ⟨some (24,true),[.m 25 0,.m 26 5,.ia 27 1 25 26,.l 28 27,.m 29 1,.b 30 .eql 28 29]⟩,
 ⟨none,[.pf 31 24 30]⟩]) <|
 .cond (.t 31)
 (.n [.m 32 0,.m 4 32] <|
 .ret)
 (.skip)) <|
 .seq (.p [.m 33 0,.m 34 5,.slc (some 35) 1 (.t 33) none (some (.t 34)),.app 36 (T 21) 1 (.k .nils) (.t 35),.m 37 1,.mkl (some 38) 1 [.t 37],.app 39 (T 21) 1 (.t 36) (.t 38),.m 40 0,.m 41 5,.slc (some 42) 1 (.t 40) (some (.t 41)) none,.app 43 (T 21) 1 (.t 39) (.t 42),.m 4 43]) <|
 .ret
abbrev bBx (P:Program) (F T:Nat→Nat):Prop:=Fn P (F 218) 44 [(4,none)] (c218 F T)
def c219 (F T:Nat→Nat):C :=
 .n [.box 3 (T 22) (.t 0),.mov (some 6) (.k (.bool false))] <|
 .seq (.n [.mov (some 7) (.i 0)] <|
 .block 0 <|
 .loop <|
 .seq (.n [.m 9 7,.f 10 1 3,.l 11 10,.ll 12 11,.b 13 .lss 9 12] <|
 .cond (.t 13)
 (.skip)
 (.exit 0)) <|
 .seq (.block 1 <|
 .n [.f 16 1 3,.l 17 16,.m 18 7,.ia 19 1 17 18,.l 20 19,.m 8 20] <|
 .seq (.ops false [⟨none,[.m 21 1,.c 22 (F 217) [.t 21],.m 23 22]⟩,
 ⟨some (23,true),[.m 24 8,.m 25 1,.b 26 .eql 24 25]⟩,
 ⟨none,[.pf 27 23 26,.m 28 27]⟩,
 ⟨some (28,false),[.m 29 8,.ls 30 29,.bi 31 .gtr 30 0,.m 32 31]⟩,
 ⟨some (32,true),[.m 33 8,.idx (some 34) (.t 33) (.i 0),.bin (some 35) .eql (.t 34) (.k (.int .u8 64))]⟩,
 ⟨some (28,false),[.pf 36 32 35,.m 37 36]⟩,
 ⟨some (37,true),[.m 38 2,.m 39 8,.slcS (some 40) (.t 39) (some (.i 1)) none,.c 41 (F 193) [.t 38,.t 40]]⟩,
 ⟨some (28,false),[.pf 42 37 41]⟩,
 ⟨none,[.pt 43 28 42]⟩]) <|
 .cond (.t 43)
 (.n [.mov (some 6) (.k (.bool true))] <|
 .ret)
 (.skip)) <|
 .o [.m 14 7,.bi 15 .add 14 1,.m 7 15]) <|
 .n [.mov (some 6) (.k (.bool false))] <|
 .ret
abbrev bAy (P:Program) (F T:Nat→Nat):Prop:=Fn P (F 219) 44 [(6,none)] (c219 F T)
def c209 (F T:Nat→Nat):C :=
 .n [.box 2 (T 16) (.t 0),.mov (some 4) (.k .nils)] <|
 .n [.mkl (some 8) 1 [.s [97,108,108]],.m 5 8] <|
 .seqc (.n [.m 9 1,.c 10 (F 217) [.t 9]] <|
 .cond (.t 10)
 (.o [.m 11 5,.c 12 (F 218) [.t 11,.s [117,115,101,114,115]],.m 5 12])
 (.skip)) <|
 .seq (.n [.mov (some 6) (.k (.int .i64 (-1)))] <|
 .block 0 <|
 .loop <|
 .seq (.n [.m 13 6,.m 14 5,.ll 15 14,.b 16 .lss 13 15] <|
 .cond (.t 16)
 (.skip)
 (.exit 0)) <|
 .block 1 <|
 .n [.m 17 5,.ll 18 17,.m 6 18] <|
 .n [.mov (some 7) (.i 0)] <|
 .block 2 <|
 .loop <|
 .seq (.n [.m 19 7,.f 20 0 2,.l 21 20,.ll 22 21,.b 23 .lss 19 22] <|
 .cond (.t 23)
 (.skip)
 (.exit 2)) <|
 .seq (.block 3 <|
 .n [.f 26 0 2,.l 27 26,.m 28 7,.ia 29 2 27 28,.load (some 30) false 2 true (.t 29),.m 31 1,.m 32 5,.c 33 (F 219) [.t 30,.t 31,.t 32]] <|
 .cond (.t 33)
 (.o [.m 34 5,.f 35 0 2,.l 36 35,.m 37 7,.ia 38 2 36 37,.f 39 0 38,.l 40 39,.c 41 (F 218) [.t 34,.t 40],.m 5 41])
 (.skip)) <|
 .o [.m 24 7,.bi 25 .add 24 1,.m 7 25]) <|
 .n [.m 42 5,.m 4 42] <|
 .ret
abbrev bGj (P:Program) (F T:Nat→Nat):Prop:=Fn P (F 209) 43 [(4,none)] (c209 F T)
end Go.Ab
