/- Lowered code of the functions, by program. No condition. -/
import Derived.Test.YtcmnepgnkcoiiaaGreatDoorAbG12
set_option linter.unusedVariables false
namespace Go.Ab
def c207 (F T:Nat→Nat):C :=
 .n [.alloc 2 (T 16) [.nils,.nils,.nils]] <|
 .seq (.gha .fz <| .o [.alloc 3 (T 16) [.nils,.nils,.nils]]) <|
 .n [.mkl (some 15) 1 [.s [115,116,97,102,102],.s [109,111,100,115],.s [103,111,108,100]],.m 4 15] <|
 .n [.m 16 0,.e 17 138 (F 46) [.t 16,.i 4],.m 5 17] <|
 .seqc (.n [.mov (some 6) (.i 0)] <|
 .block 0 <|
 .loop <|
 .seq (.n [.m 18 6,.m 19 5,.b 20 .lss 18 19] <|
 .cond (.t 20)
 (.skip)
 (.exit 0)) <|
 .seq (.block 1 <|
 .seq (.gha .fz <| .o [.m 23 4,.m 24 6,.ia 25 1 23 24,.l 26 25,.build (some 27) [(.str []),.nils] [(0,1,(.t 26))],.alloc 7 (T 22) [(.str []),.nils],.store 2 (.t 7) (.t 27)]) <|
 .seqc (.n [.mov (some 8) (.i 0)] <|
 .block 2 <|
 .loop <|
 .seq (.n [.m 28 8,.m 29 0,.e 30 138 (F 46) [.t 29,.i 3],.b 31 .lss 28 30] <|
 .cond (.t 31)
 (.skip)
 (.exit 2)) <|
 .seq (.block 3 <|
 .n [.m 34 0,.e 35 138 (F 221) [.t 34],.m 9 35] <|
 .seqc (.n [.m 36 0,.e 37 138 (F 46) [.t 36,.i 3],.bi 38 .eql 37 0] <|
 .cond (.t 38)
 (.o [.m 39 4,.m 40 0,.m 41 5,.e 42 138 (F 46) [.t 40,.t 41],.ia 43 1 39 42,.l 44 43,.bin (some 45) .add (.s [64]) (.t 44),.m 9 45])
 (.skip)) <|
 .seqc (.n [.m 46 0,.e 47 138 (F 46) [.t 46,.i 9],.bi 48 .eql 47 0] <|
 .cond (.t 48)
 (.o [.mov (some 9) (.s [64,117,115,101,114,115])])
 (.skip)) <|
 .gha .fz <| .o [.f 49 1 7,.l 50 49,.appl 51 (T 21) 1 (.t 50),.m 52 9,.mkl (some 53) 1 [.t 52],.app 54 (T 21) 1 (.t 51) (.t 53),.f 55 1 7,.store 1 (.t 55) (.t 54)]) <|
 .o [.m 32 8,.bi 33 .add 32 1,.m 8 33]) <|
 .gha .fz <| .p [.f 56 0 3,.l 57 56,.appl 58 (T 22) 2 (.t 57),.load (some 59) false 2 true (.t 7),.mkl (some 60) 2 [.t 59],.app 61 (T 22) 2 (.t 58) (.t 60),.f 62 0 3,.store 1 (.t 62) (.t 61)]) <|
 .o [.m 21 6,.bi 22 .add 21 1,.m 6 22]) <|
 .seq (.gha (.frz 10) <| .o [.mkv 63 (T 21) 1 [.s [97,108,108],.s [117,115,101,114,115]],.m 64 4,.m 65 5,.slc (some 66) 1 (.t 64) none (some (.t 65)),.app 67 (T 21) 1 (.t 63) (.t 66),.m 10 67]) <|
 .n [.build (some 68) [(.int .i64 0),(.int .i64 0),(.str [])] [(0,1,(.i 1))],.build (some 69) [(.bool false),(.int .i64 0),(.str []),(.int .i64 0),(.int .i64 0),(.str [])] [(0,1,(.k (.bool true))),(1,1,(.i 1)),(2,1,(.s [97,108,108])),(3,3,(.t 68))],.mkl (some 70) 6 [.t 69],.f 71 1 3,.store 1 (.t 71) (.t 70)] <|
 .seqc (.n [.mov (some 11) (.i 0)] <|
 .block 4 <|
 .loop <|
 .seq (.n [.m 72 11,.m 73 0,.e 74 138 (F 46) [.t 73,.i 7],.b 75 .lss 72 74] <|
 .cond (.t 75)
 (.skip)
 (.exit 4)) <|
 .seq (.block 5 <|
 .n [.m 78 0,.e 79 138 (F 46) [.t 78,.i 3],.bi 80 .gtr 79 0,.m 81 0,.e 82 138 (F 46) [.t 81,.i 5],.bin (some 83) .add (.i 1) (.t 82),.m 84 0,.m 85 10,.e 86 138 (F 47) [.t 84,.t 85],.build (some 87) [(.bool false),(.int .i64 0),(.str []),(.int .i64 0),(.int .i64 0),(.str [])] [(0,1,(.t 80)),(1,1,(.t 83)),(2,1,(.t 86))],.alloc 12 (T 19) [(.bool false),(.int .i64 0),(.str []),(.int .i64 0),(.int .i64 0),(.str [])],.store 6 (.t 12) (.t 87)] <|
 .seqc (.n [.m 88 0,.e 89 138 (F 46) [.t 88,.i 3]] <|
 .block 6 <|
 .n [.bi 95 .eql 89 0,.m 94 95] <|
 .cond (.t 94)
 (.o [.build (some 96) [(.int .i64 0),(.int .i64 0),(.str [])] [(0,1,(.i 1))],.f 97 3 12,.store 3 (.t 97) (.t 96)])
 (.n [.bi 99 .eql 89 1,.m 98 99] <|
 .cond (.t 98)
 (.o [.m 100 0,.e 101 138 (F 46) [.t 100,.i 6],.build (some 102) [(.int .i64 0),(.str [])] [(0,1,(.t 101))],.build (some 103) [(.int .i64 0),(.int .i64 0),(.str [])] [(0,1,(.i 2)),(1,2,(.t 102))],.f 104 3 12,.store 3 (.t 104) (.t 103)])
 (.o [.m 90 0,.e 91 138 (F 213) [.t 90],.build (some 92) [(.int .i64 0),(.int .i64 0),(.str [])] [(0,1,(.i 3)),(1,2,(.t 91))],.f 93 3 12,.store 3 (.t 93) (.t 92)]))) <|
 .gha .fz <| .p [.f 105 1 3,.l 106 105,.appl 107 (T 19) 6 (.t 106),.load (some 108) false 6 true (.t 12),.mkl (some 109) 6 [.t 108],.app 110 (T 19) 6 (.t 107) (.t 109),.f 111 1 3,.store 1 (.t 111) (.t 110)]) <|
 .o [.m 76 11,.bi 77 .add 76 1,.m 11 77]) <|
 .seqc (.n [.mov (some 13) (.i 0)] <|
 .block 7 <|
 .loop <|
 .seq (.n [.m 112 13,.m 113 0,.e 114 138 (F 46) [.t 113,.i 4],.b 115 .lss 112 114] <|
 .cond (.t 115)
 (.skip)
 (.exit 7)) <|
 .seq (.block 8 <|
 .n [.m 118 0,.e 119 138 (F 46) [.t 118,.i 3],.bi 120 .eql 119 0,.m 121 0,.m 122 10,.e 123 138 (F 47) [.t 121,.t 122],.m 124 0,.e 125 138 (F 213) [.t 124],.m 126 0,.mkl (some 127) 1 [.s [],.s [115],.s [116],.s [97,32,98]],.e 128 138 (F 47) [.t 126,.t 127],.build (some 129) [(.bool false),(.str []),(.int .i64 0),(.str []),(.str [])] [(0,1,(.t 120)),(1,1,(.t 123)),(2,2,(.t 125)),(4,1,(.t 128))],.alloc 14 (T 20) [(.bool false),(.str []),(.int .i64 0),(.str []),(.str [])],.store 5 (.t 14) (.t 129)] <|
 .gha .fz <| .p [.f 130 2 3,.l 131 130,.appl 132 (T 20) 5 (.t 131),.load (some 133) false 5 true (.t 14),.mkl (some 134) 5 [.t 133],.app 135 (T 20) 5 (.t 132) (.t 134),.f 136 2 3,.store 1 (.t 136) (.t 135)]) <|
 .o [.m 116 13,.bi 117 .add 116 1,.m 13 117]) <|
 .n [.load (some 137) false 3 true (.t 3),.store 3 (.t 2) (.t 137)] <|
 .ret
abbrev bIn (P:Program) (F T:Nat→Nat):Prop:=Fn P (F 207) 138 [(2,(some (3,true)))] (c207 F T)
def c208 (F T:Nat→Nat):C :=
 .n [.mov (some 2) (.s [])] <|
 .n [.m 3 0,.mkl (some 4) 1 [.s [97,110,110],.s [98,111,98],.s [],.s [122,111,101]],.e 5 6 (F 47) [.t 3,.t 4],.m 2 5] <|
 .ret
abbrev bGy (P:Program) (F T:Nat→Nat):Prop:=Fn P (F 208) 6 [(2,none)] (c208 F T)
def c213 (F T:Nat→Nat):C :=
 .n [.alloc 2 (T 17) [(.int .i64 0),(.str [])]] <|
 .n [.m 3 0,.e 4 9 (F 46) [.t 3,.i 6],.m 5 0,.mkl (some 6) 1 [.s [65],.s [66],.s [65,47,66],.s [67],.s [84],.s [85,47,120],.s [65,47,66,47,99],.s [76,111,110,103,32,110,97,109,101],.s [49],.s [88]],.e 7 9 (F 47) [.t 5,.t 6],.build (some 8) [(.int .i64 0),(.str [])] [(0,1,(.t 4)),(1,1,(.t 7))],.store 2 (.t 2) (.t 8)] <|
 .ret
abbrev bD8 (P:Program) (F T:Nat→Nat):Prop:=Fn P (F 213) 9 [(2,(some (2,true)))] (c213 F T)
def c221 (F T:Nat→Nat):C :=
 .n [.mov (some 2) (.s [])] <|
 .n [.m 3 0,.mkl (some 4) 1 [.s [97,110,110],.s [98,111,98],.s [115,116,97,102,102],.s [109,111,100,115],.s [122,111,101]],.e 5 6 (F 47) [.t 3,.t 4],.m 2 5] <|
 .ret
abbrev bIb (P:Program) (F T:Nat→Nat):Prop:=Fn P (F 221) 6 [(2,none)] (c221 F T)
end Go.Ab
